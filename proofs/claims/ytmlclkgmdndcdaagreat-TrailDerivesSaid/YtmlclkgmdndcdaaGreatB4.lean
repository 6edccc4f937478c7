/- Part 4 of the means of the proof: a verified abstract evaluator, the prepared functions, and contracts of functions. It states nothing of the claim by itself. -/
import Derived.Test.YtmlclkgmdndcdaaGreatB3
set_option linter.unusedSimpArgs false
set_option linter.unusedVariables false
namespace Go.Proofs
open Go Go.Abs M3
set_option linter.unusedVariables false
set_option linter.unusedSimpArgs false
theorem Xy {a b c : Int} {p q : List UInt8} (hp : p.length <= 1000000) (hq : q.length <= 1000000) {a' b' c' : Int} {p' q' : List UInt8} (hp' : p'.length <= 1000000) (hq' : q'.length <= 1000000) : Ok Tryz.prog 129 [.agg [.int .i64 a, .int .i64 b, .int .i64 c, .str p, .str q], .agg [.int .i64 a', .int .i64 b', .int .i64 c', .str p', .str q']] (.int .i64 (QmB a b c p q a' b' c' p' q')) := by
 refine Ok.ofT ZX Tryz.func129 QrP (Nat.le_of_ble_eq_true rfl) ?_
 show TW _ _ tf129.body _ _
 refine Qe fun K hK => Zw rfl rfl rfl (Zw rfl rfl rfl (Qa rfl ?_))
 refine hK _ _ (Qb (kp2 rfl rfl) ?_)
 refine QG ?_ -- 0
 refine Qe fun K hK => QD (cs := [_, _, _, _, _]) rfl rfl rfl rfl (QC (Zg (by omega) (by omega)) rfl rfl (.inr rfl) (Yb rfl (Qa rfl ?_)))
 refine Qy (g := 11) rfl (fun h1 => ?_) (fun h1 => ?_)
 ·try rw [h1]
  try simp only [qa, qb, qc, qd, qe] at h1
  refine Qo rfl (Qo rfl (Qo rfl (Qk rfl rfl ?_)))
  refine hK _ _ (Qb (kp3 rfl rfl rfl) ?_)
  refine Zp rfl (Qe fun K hK => Qa rfl ?_)
  refine hK _ _ (Qb (kp1 rfl) ?_)
  refine Qu (Qj (QA rfl ?_))
  simp [QmB, h1]
 ·try rw [h1]
  try simp only [qa, qb, qc, qd, qe] at h1
  refine Qg rfl (QD (cs := [_, _, _, _, _]) rfl rfl rfl rfl (Qg rfl (QC (Zg (by omega) (by omega)) rfl rfl (.inr rfl) (Qg rfl (Yb rfl (Qk rfl rfl ?_))))))
  refine hK _ _ (Qb (kp3 rfl rfl rfl) ?_)
  refine Qw rfl (fun h2 => ?_) (fun h2 => ?_)
  ·try rw [h2]
   try simp only [qa, qb, qc, qd, qe] at h2
   refine Qe fun K hK => Qa rfl ?_
   refine hK _ _ (Qb (kp1 rfl) ?_)
   refine Qu (Qj (QA rfl ?_))
   simp [QmB, h1, h2]
  ·try rw [h2]
   try simp only [qa, qb, qc, qd, qe] at h2
   refine Qv (Qd (kp2 rfl rfl) ?_)
   refine QG ?_ -- 1
   refine Qe fun K hK => Qh rfl rfl (Qz rfl rfl rfl (Qh rfl rfl (Qz rfl rfl rfl (QC (Zx) rfl rfl (.inr rfl) (Qa rfl ?_)))))
   refine hK _ _ (Qb (kp3 rfl rfl rfl) ?_)
   refine Qe fun K hK => Qa rfl (X5 rfl rfl ?_)
   refine hK _ _ (Qb (kp4 rfl rfl rfl rfl) ?_)
   refine Qw rfl (fun h3 => ?_) (fun h3 => ?_)
   ·try rw [h3]
    try simp only [qa, qb, qc, qd, qe] at h3
    refine Qe fun K hK => Qa rfl (Qa rfl ?_)
    refine hK _ _ (Qb (kp1 rfl) ?_)
    refine Qu (Qj (QA rfl ?_))
    simp [QmB, h1, h2, h3]
   ·try rw [h3]
    try simp only [qa, qb, qc, qd, qe] at h3
    refine Qv (Qd (kp2 rfl rfl) ?_)
    refine QG ?_ -- 2
    refine Qe fun K hK => Qh rfl rfl (Qz rfl rfl rfl (Qh rfl rfl (Qz rfl rfl rfl (QC (Zx) rfl rfl (.inr rfl) (Qa rfl ?_)))))
    refine hK _ _ (Qb (kp3 rfl rfl rfl) ?_)
    refine Qe fun K hK => Qa rfl (X5 rfl rfl ?_)
    refine hK _ _ (Qb (kp4 rfl rfl rfl rfl) ?_)
    refine Qw rfl (fun h4 => ?_) (fun h4 => ?_)
    ·try rw [h4]
     try simp only [qa, qb, qc, qd, qe] at h4
     refine Qe fun K hK => Qa rfl (Qa rfl ?_)
     refine hK _ _ (Qb (kp1 rfl) ?_)
     refine Qu (Qj (QA rfl ?_))
     simp [QmB, h1, h2, h3, h4]
    ·try rw [h4]
     try simp only [qa, qb, qc, qd, qe] at h4
     refine Qv (Qd (kp2 rfl rfl) ?_)
     refine QG ?_ -- 3
     refine Qe fun K hK => Qh rfl rfl (Qz rfl rfl rfl (Qh rfl rfl (Qz rfl rfl rfl (QC (Zx) rfl rfl (.inr rfl) (Qa rfl ?_)))))
     refine hK _ _ (Qb (kp3 rfl rfl rfl) ?_)
     refine Qe fun K hK => Qa rfl (X5 rfl rfl ?_)
     refine hK _ _ (Qb (kp4 rfl rfl rfl rfl) ?_)
     refine Qw rfl (fun h5 => ?_) (fun h5 => ?_)
     ·try rw [h5]
      try simp only [qa, qb, qc, qd, qe] at h5
      refine Qe fun K hK => Qa rfl (Qa rfl ?_)
      refine hK _ _ (Qb (kp1 rfl) ?_)
      refine Qu (Qj (QA rfl ?_))
      simp [QmB, h1, h2, h3, h4, h5]
     ·try rw [h5]
      try simp only [qa, qb, qc, qd, qe] at h5
      refine Qv (Qd (kp2 rfl rfl) (Qe fun K hK => Qh rfl rfl (Qz rfl rfl rfl (Qh rfl rfl (Qz rfl rfl rfl (QC (Qc7 (by omega) (by omega)) rfl rfl (.inr rfl) (Qa rfl ?_)))))))
      refine hK _ _ (Qb (kp1 rfl) ?_)
      refine Qu (QA rfl ?_)
      simp [QmB, h1, h2, h3, h4, h5]
theorem Yf {e a b c : Int} {p q : List UInt8} {f : Bool} (hp : p.length <= 1000000) (hq : q.length <= 1000000) : Ok Tryz.prog 127 [.agg [.int .i64 e, .int .i64 a, .int .i64 b, .int .i64 c, .str p, .str q, .bool f]] (.bool (Qen e a b c p q f)) := by
 refine Ok.ofT ZX Tryz.func127 QrN (Nat.le_of_ble_eq_true rfl) ?_
 show TW _ _ tf127.body _ _
 refine Qe fun K hK => Zw rfl rfl rfl (Qa rfl ?_)
 refine hK _ _ (Qb (kp1 rfl) ?_)
 refine QG ?_ -- 0
 refine Qe fun K hK => Qh rfl rfl (Qz rfl rfl rfl (Zy rfl rfl ?_))
 refine hK _ _ (Qb (kp2 rfl rfl) ?_)
 refine Qw rfl (fun h1 => ?_) (fun h1 => ?_)
 ·try rw [h1]
  try simp only [qa, qb, qc, qd, qe] at h1
  refine Qe fun K hK => Qh rfl rfl (QD (cs := [_, _, _, _, _]) rfl rfl rfl rfl (QC (Zg (by omega) (by omega)) rfl rfl (.inr rfl) (Qa rfl ?_)))
  refine Qy (g := 9) rfl (fun h2 => ?_) (fun h2 => ?_)
  ·try rw [h2]
   try simp only [qa, qb, qc, qd, qe] at h2
   refine Qg rfl (Qh rfl rfl (Qg rfl (Qh rfl rfl (Qg rfl (Qz rfl rfl rfl (Qg rfl (Qff rfl rfl (Qk rfl rfl (Qa rfl ?_)))))))))
   refine hK _ _ (Qb (kp1 rfl) ?_)
   refine Qu (Qj (Qq rfl ?_))
   simp_all [Qen]
  ·try rw [h2]
   try simp only [qa, qb, qc, qd, qe] at h2
   refine Qo rfl (Qo rfl (Qo rfl (Qo rfl (Qk rfl rfl (Qa rfl ?_)))))
   refine hK _ _ (Qb (kp1 rfl) ?_)
   refine Qu (Qj (Qq rfl ?_))
   simp_all [Qen]
 ·try rw [h1]
  try simp only [qa, qb, qc, qd, qe] at h1
  refine Qv (Qd (kp1 rfl) (Qe fun K hK => Qh rfl rfl (Qz rfl rfl rfl (Zy rfl rfl (Qa rfl ?_)))))
  refine Qy (g := 18) rfl (fun h3 => ?_) (fun h3 => ?_)
  ·try rw [h3]
   try simp only [qa, qb, qc, qd, qe] at h3
   refine Qo rfl (Qo rfl (Qo rfl (Qk rfl rfl (Qa rfl (Qg rfl (Qh rfl rfl (Qg rfl (QD (cs := [_, _, _, _, _]) rfl rfl rfl rfl (Qg rfl (QR rfl rfl (Qg rfl ?_)))))))))))
   refine Qke rfl rfl rfl (Qk rfl rfl (Qa rfl ?_))
   refine Qy (g := 29) rfl (fun h4 => ?_) (fun h4 => ?_)
   ·try rw [h4]
    try simp only [qa, qb, qc, qd, qe] at h4
    refine Qg rfl (Qh rfl rfl (Qg rfl (Qz rfl rfl rfl (Qg rfl (Yb rfl (Qk rfl rfl (Qa rfl ?_)))))))
    refine hK _ _ (Qb (kp1 rfl) ?_)
    refine Qu (Qq rfl ?_)
    simp_all [Qen]
   ·try rw [h4]
    try simp only [qa, qb, qc, qd, qe] at h4
    refine Qo rfl (Qo rfl (Qo rfl (Qk rfl rfl (Qa rfl ?_))))
    refine hK _ _ (Qb (kp1 rfl) ?_)
    refine Qu (Qq rfl ?_)
    simp_all [Qen]
  ·try rw [h3]
   try simp only [qa, qb, qc, qd, qe] at h3
   refine Qg rfl (Qh rfl rfl (Qg rfl (Qz rfl rfl rfl (Qg rfl (Zy rfl rfl (Qk rfl rfl (Qa rfl ?_)))))))
   refine Qy (g := 23) rfl (fun h5 => ?_) (fun h5 => ?_)
   ·try rw [h5]
    try simp only [qa, qb, qc, qd, qe] at h5
    refine Qg rfl (Qh rfl rfl (Qg rfl (QD (cs := [_, _, _, _, _]) rfl rfl rfl rfl (Qg rfl (QR rfl rfl (Qg rfl (Qke rfl rfl rfl (Qk rfl rfl (Qa rfl ?_)))))))))
    refine Qy (g := 29) rfl (fun h6 => ?_) (fun h6 => ?_)
    ·try rw [h6]
     try simp only [qa, qb, qc, qd, qe] at h6
     refine Qg rfl (Qh rfl rfl (Qg rfl (Qz rfl rfl rfl (Qg rfl (Yb rfl (Qk rfl rfl (Qa rfl ?_)))))))
     refine hK _ _ (Qb (kp1 rfl) ?_)
     refine Qu (Qq rfl ?_)
     simp_all [Qen]
    ·try rw [h6]
     try simp only [qa, qb, qc, qd, qe] at h6
     refine Qo rfl (Qo rfl (Qo rfl (Qk rfl rfl (Qa rfl ?_))))
     refine hK _ _ (Qb (kp1 rfl) ?_)
     refine Qu (Qq rfl ?_)
     simp_all [Qen]
   ·try rw [h5]
    try simp only [qa, qb, qc, qd, qe] at h5
    refine Qo rfl (Qo rfl (Qo rfl (Qo rfl (Qk rfl rfl (Qa rfl (Qo rfl (Qo rfl (Qo rfl (Qk rfl rfl (Qa rfl ?_))))))))))
    refine hK _ _ (Qb (kp1 rfl) ?_)
    refine Qu (Qq rfl ?_)
    simp_all [Qen]
theorem Zu {e a b c : Int} {p q : List UInt8} {f : Bool} (hp : p.length <= 1000000) (hq : q.length <= 1000000) {e' a' b' c' : Int} {p' q' : List UInt8} {f' : Bool} (hp' : p'.length <= 1000000) (hq' : q'.length <= 1000000) : Ok Tryz.prog 124 [.agg [.int .i64 e, .int .i64 a, .int .i64 b, .int .i64 c, .str p, .str q, .bool f], .agg [.int .i64 e', .int .i64 a', .int .i64 b', .int .i64 c', .str p', .str q', .bool f']] (.int .i64 (Qbs e a b c p q f e' a' b' c' p' q' f')) := by
 refine Ok.ofT ZX Tryz.func124 QrK (Nat.le_of_ble_eq_true rfl) ?_
 show TW _ _ tf124.body _ _
 refine Qe fun K hK => Zw rfl rfl rfl (Zw rfl rfl rfl (Qa rfl ?_))
 refine hK _ _ (Qb (kp2 rfl rfl) ?_)
 refine QG ?_ -- 0
 refine Qe fun K hK => QD (cs := [_, _, _, _, _, _, _]) rfl rfl rfl rfl (QC (Yf (by omega) (by omega)) rfl rfl (.inr rfl) (Yb rfl (Qa rfl ?_)))
 refine Qy (g := 9) rfl (fun h1 => ?_) (fun h1 => ?_)
 ·try rw [h1]
  try simp only [qa, qb, qc, qd, qe] at h1
  refine Qo rfl (Qo rfl (Qo rfl (Qk rfl rfl ?_)))
  refine hK _ _ (Qb (kp3 rfl rfl rfl) ?_)
  refine Zp rfl (Qe fun K hK => Qa rfl ?_)
  refine hK _ _ (Qb (kp1 rfl) ?_)
  refine Qu (Qj (QA rfl ?_))
  first | (simp [Qbs, h1]; done) | (simp_all [Qbs]; done)
 ·try rw [h1]
  try simp only [qa, qb, qc, qd, qe] at h1
  refine Qg rfl (QD (cs := [_, _, _, _, _, _, _]) rfl rfl rfl rfl (Qg rfl (QC (Yf (by omega) (by omega)) rfl rfl (.inr rfl) (Qg rfl (Yb rfl (Qk rfl rfl ?_))))))
  refine hK _ _ (Qb (kp3 rfl rfl rfl) ?_)
  refine Qw rfl (fun h2 => ?_) (fun h2 => ?_)
  ·try rw [h2]
   try simp only [qa, qb, qc, qd, qe] at h2
   refine Qe fun K hK => Qa rfl ?_
   refine hK _ _ (Qb (kp1 rfl) ?_)
   refine Qu (Qj (QA rfl ?_))
   first | (simp [Qbs, h1, h2]; done) | (simp_all [Qbs]; done)
  ·try rw [h2]
   try simp only [qa, qb, qc, qd, qe] at h2
   refine Qv (Qd (kp2 rfl rfl) ?_)
   refine QG ?_ -- 1
   refine Qe fun K hK => Qh rfl rfl (Qz rfl rfl rfl (Qh rfl rfl (Qz rfl rfl rfl ?_)))
   first | refine X5 rfl rfl ?_ | refine Qns rfl rfl ?_
   refine Qa rfl ?_
   refine Qy (g := 19) rfl (fun h3 => ?_) (fun h3 => ?_)
   ·try rw [h3]
    try simp only [qa, qb, qc, qd, qe] at h3
    refine Qo rfl (Qo rfl (Qo rfl (Qk rfl rfl ?_)))
    refine hK _ _ (Qb (kp3 rfl rfl rfl) ?_)
    refine Zp rfl (Qe fun K hK => Qh rfl rfl (Qz rfl rfl rfl (Qh rfl rfl (Qz rfl rfl rfl (QC (Zx) rfl rfl (.inr rfl) (Qa rfl ?_))))))
    refine hK _ _ (Qb (kp1 rfl) ?_)
    refine Qu (Qj (QA rfl ?_))
    first | (simp [Qbs, h1, h2, h3]; done) | (simp_all [Qbs]; done)
   ·try rw [h3]
    try simp only [qa, qb, qc, qd, qe] at h3
    refine Qg rfl (Qh rfl rfl (Qg rfl (Qz rfl rfl rfl (Qg rfl (X5 rfl rfl (Qk rfl rfl ?_))))))
    refine hK _ _ (Qb (kp3 rfl rfl rfl) ?_)
    refine Qw rfl (fun h4 => ?_) (fun h4 => ?_)
    ·try rw [h4]
     try simp only [qa, qb, qc, qd, qe] at h4
     refine Qe fun K hK => Qh rfl rfl (Qz rfl rfl rfl (Qh rfl rfl (Qz rfl rfl rfl (QC (Zx) rfl rfl (.inr rfl) (Qa rfl ?_)))))
     refine hK _ _ (Qb (kp1 rfl) ?_)
     refine Qu (Qj (QA rfl ?_))
     first | (simp [Qbs, h1, h2, h3, h4]; done) | (simp_all [Qbs]; done)
    ·try rw [h4]
     try simp only [qa, qb, qc, qd, qe] at h4
     refine Qv (Qd (kp2 rfl rfl) ?_)
     refine QG ?_ -- 2
     refine Qe fun K hK => Qh rfl rfl (QD (cs := [_, _, _, _, _]) rfl rfl rfl rfl (Qh rfl rfl (QD (cs := [_, _, _, _, _]) rfl rfl rfl rfl (QC (Xy (by omega) (by omega) (by omega) (by omega)) rfl rfl (.inr rfl) (Qa rfl ?_)))))
     refine hK _ _ (Qb (kp3 rfl rfl rfl) ?_)
     refine Qe fun K hK => Qa rfl (X5 rfl rfl ?_)
     refine hK _ _ (Qb (kp4 rfl rfl rfl rfl) ?_)
     refine Qw rfl (fun h5 => ?_) (fun h5 => ?_)
     ·try rw [h5]
      try simp only [qa, qb, qc, qd, qe] at h5
      refine Qe fun K hK => Qa rfl (Qa rfl ?_)
      refine hK _ _ (Qb (kp1 rfl) ?_)
      refine Qu (Qj (QA rfl ?_))
      first | (simp [Qbs, h1, h2, h3, h4, h5]; done) | (simp_all [Qbs]; done)
     ·try rw [h5]
      try simp only [qa, qb, qc, qd, qe] at h5
      refine Qv (Qd (kp2 rfl rfl) ?_)
      refine QG ?_ -- 3
      refine QE (Qe fun K hK => Qh rfl rfl (Qz rfl rfl rfl (Qh rfl rfl (Qz rfl rfl rfl (Qq1 rfl rfl (Qa rfl ?_))))))
      refine hK _ _ (Qb (kp2 rfl rfl) ?_)
      refine Qw rfl (fun h6 => ?_) (fun h6 => ?_)
      ·try rw [h6]
       try simp only [qa, qb, qc, qd, qe] at h6
       refine Qe fun K hK => Qa rfl ?_
       refine hK _ _ (Qb (kp1 rfl) ?_)
       refine Qu (Qt (Qj (QA rfl ?_)))
       first | (simp [Qbs, h1, h2, h3, h4, h5, h6]; done) | (simp_all [Qbs]; done)
      ·try rw [h6]
       try simp only [qa, qb, qc, qd, qe] at h6
       refine Qe fun K hK => Qh rfl rfl (Qz rfl rfl rfl (Qa rfl ?_))
       refine hK _ _ (Qb (kp1 rfl) ?_)
       refine Qw rfl (fun h7 => ?_) (fun h7 => ?_)
       ·try rw [h7]
        try simp only [qa, qb, qc, qd, qe] at h7
        refine Qe fun K hK => Qa rfl ?_
        refine hK _ _ (Qb (kp1 rfl) ?_)
        refine Qu (Qt (Qj (QA rfl ?_)))
        first | (simp [Qbs, h1, h2, h3, h4, h5, h6, h7]; done) | (simp_all [Qbs]; done)
       ·try rw [h7]
        try simp only [qa, qb, qc, qd, qe] at h7
        refine Qv (Qi (Qd (Q2) (Qe fun K hK => Qa rfl ?_)))
        refine hK _ _ (Qb (kp1 rfl) ?_)
        refine Qu (QA rfl ?_)
        first | (simp [Qbs, h1, h2, h3, h4, h5, h6, h7]; done) | (simp_all [Qbs]; done)
theorem X0 {e a b c : Int} {p q : List UInt8} {f : Bool} (hp : p.length <= 1000000) (hq : q.length <= 1000000) {a' b' c' : Int} {p' q' : List UInt8} (hp' : p'.length <= 1000000) (hq' : q'.length <= 1000000) : Ok Tryz.prog 130 [.agg [.int .i64 e, .int .i64 a, .int .i64 b, .int .i64 c, .str p, .str q, .bool f], .agg [.int .i64 a', .int .i64 b', .int .i64 c', .str p', .str q']] (.bool (Qao e a b c p q f a' b' c' p' q')) := by
 refine Ok.ofT ZX Tryz.func130 QrQ (Nat.le_of_ble_eq_true rfl) ?_
 show TW _ _ tf130.body _ _
 refine Qe fun K hK => Zw rfl rfl rfl (Zw rfl rfl rfl (Qa rfl ?_))
 refine hK _ _ (Qb (kp2 rfl rfl) ?_)
 refine QG ?_ -- 0
 refine Qe fun K hK => QD (cs := [_, _, _, _, _, _, _]) rfl rfl rfl rfl (QC (Yf (by omega) (by omega)) rfl rfl (.inr rfl) (Yb rfl (Qa rfl ?_)))
 refine Qy (g := 9) rfl (fun h1 => ?_) (fun h1 => ?_)
 ·try rw [h1]
  try simp only [qa, qb, qc, qd, qe] at h1
  refine Qo rfl (Qo rfl (Qo rfl (Qk rfl rfl ?_)))
  refine hK _ _ (Qb (kp3 rfl rfl rfl) ?_)
  refine Zp rfl (Qe fun K hK => Qa rfl ?_)
  refine hK _ _ (Qb (kp1 rfl) ?_)
  refine Qu (Qj (Qq rfl ?_))
  first | (simp [Qao, h1]; done) | (simp_all [Qao]; done)
 ·try rw [h1]
  try simp only [qa, qb, qc, qd, qe] at h1
  refine Qg rfl (QD (cs := [_, _, _, _, _]) rfl rfl rfl rfl (Qg rfl (QC (Zg (by omega) (by omega)) rfl rfl (.inr rfl) (Qg rfl (Yb rfl (Qk rfl rfl ?_))))))
  refine hK _ _ (Qb (kp3 rfl rfl rfl) ?_)
  refine Qw rfl (fun h2 => ?_) (fun h2 => ?_)
  ·try rw [h2]
   try simp only [qa, qb, qc, qd, qe] at h2
   refine Qe fun K hK => Qa rfl ?_
   refine hK _ _ (Qb (kp1 rfl) ?_)
   refine Qu (Qj (Qq rfl ?_))
   first | (simp [Qao, h1, h2]; done) | (simp_all [Qao]; done)
  ·try rw [h2]
   try simp only [qa, qb, qc, qd, qe] at h2
   refine Qv (Qd (kp2 rfl rfl) ?_)
   refine QG ?_ -- 1
   refine Qe fun K hK => Qh rfl rfl (Qz rfl rfl rfl (X5 rfl rfl ?_))
   refine hK _ _ (Qb (kp3 rfl rfl rfl) ?_)
   refine Qw rfl (fun h3 => ?_) (fun h3 => ?_)
   ·try rw [h3]
    try simp only [qa, qb, qc, qd, qe] at h3
    refine Qe fun K hK => Qh rfl rfl (Qz rfl rfl rfl (Yj rfl rfl (Qa rfl ?_)))
    refine hK _ _ (Qb (kp1 rfl) ?_)
    refine Qu (Qj (Qq rfl ?_))
    first | (simp [Qao, h1, h2, h3]; done) | (simp_all [Qao]; done)
   ·try rw [h3]
    try simp only [qa, qb, qc, qd, qe] at h3
    refine Qv (Qd (kp2 rfl rfl) (Qe fun K hK => Qh rfl rfl (QD (cs := [_, _, _, _, _]) rfl rfl rfl rfl (QD (cs := [_, _, _, _, _]) rfl rfl rfl rfl (QC (Xy (by omega) (by omega) (by omega) (by omega)) rfl rfl (.inr rfl) (Qa rfl ?_))))))
    refine hK _ _ (Qb (kp2 rfl rfl) ?_)
    refine Qe fun K hK => Qa rfl (Yj rfl rfl (Qa rfl ?_))
    refine Qy (g := 26) rfl (fun h4 => ?_) (fun h4 => ?_)
    ·try rw [h4]
     try simp only [qa, qb, qc, qd, qe] at h4
     refine Qo rfl (Qo rfl (Qo rfl (ZB rfl (ZB rfl (ZB rfl (Qo rfl (Qk rfl rfl (Qa rfl ?_))))))))
     refine hK _ _ (Qb (kp1 rfl) ?_)
     refine Qu (Qq rfl ?_)
     first | (simp [Qao, h1, h2, h3, h4]; done) | (simp_all [Qao]; done)
    ·try rw [h4]
     try simp only [qa, qb, qc, qd, qe] at h4
     refine Qg rfl (Qa rfl (Qg rfl (Zy rfl rfl (Qg rfl (Qa rfl ?_)))))
     refine Qy (g := 29) rfl (fun h5 => ?_) (fun h5 => ?_)
     ·try rw [h5]
      try simp only [qa, qb, qc, qd, qe] at h5
      refine Qg rfl (Qh rfl rfl (Qg rfl (Qz rfl rfl rfl (Qg rfl (Yb rfl (Qg rfl (Qk rfl rfl (Qk rfl rfl (Qa rfl ?_)))))))))
      refine hK _ _ (Qb (kp1 rfl) ?_)
      refine Qu (Qq rfl ?_)
      first | (simp [Qao, h1, h2, h3, h4, h5]; done) | (simp_all [Qao]; done)
     ·try rw [h5]
      try simp only [qa, qb, qc, qd, qe] at h5
      refine Qo rfl (Qo rfl (Qo rfl (Qg rfl (Qk rfl rfl (Qk rfl rfl (Qa rfl ?_))))))
      refine hK _ _ (Qb (kp1 rfl) ?_)
      refine Qu (Qq rfl ?_)
      first | (simp [Qao, h1, h2, h3, h4, h5]; done) | (simp_all [Qao]; done)
theorem YF {e a b c : Int} {p q : List UInt8} {f : Bool} (hp : p.length <= 1000000) (hq : q.length <= 1000000) {e' a' b' c' : Int} {p' q' : List UInt8} {f' : Bool} (hp' : p'.length <= 1000000) (hq' : q'.length <= 1000000) : Ok Tryz.prog 123 [.agg [.int .i64 e, .int .i64 a, .int .i64 b, .int .i64 c, .str p, .str q, .bool f, .int .i64 e', .int .i64 a', .int .i64 b', .int .i64 c', .str p', .str q', .bool f']] (.bool (QhP e a b c p q f e' a' b' c' p' q' f')) := by
 refine Ok.ofT ZX Tryz.func123 QrJ (Nat.le_of_ble_eq_true rfl) ?_
 show TW _ _ tf123.body _ _
 refine Qe fun K hK => Zw rfl rfl rfl (Qa rfl ?_)
 refine hK _ _ (Qb (kp1 rfl) ?_)
 refine Qe fun K hK => Qh rfl rfl (QD (cs := [_, _, _, _, _, _, _]) rfl rfl rfl rfl (QC (Yf (by omega) (by omega)) rfl rfl (.inr rfl) (Qa rfl ?_)))
 refine Qy (g := 6) rfl (fun h1 => ?_) (fun h1 => ?_)
 ·try rw [h1]
  try simp only [qa, qb, qc, qd, qe] at h1
  refine Qg rfl (Qh rfl rfl (Qg rfl (QD (cs := [_, _, _, _, _, _, _]) rfl rfl rfl rfl (Qg rfl (QC (Yf (by omega) (by omega)) rfl rfl (.inr rfl) (Qk rfl rfl (Qa rfl ?_)))))))
  refine Qy (g := 11) rfl (fun h2 => ?_) (fun h2 => ?_)
  ·try rw [h2]
   try simp only [qa, qb, qc, qd, qe] at h2
   refine Qg rfl (Qh rfl rfl (Qg rfl (QD (cs := [_, _, _, _, _, _, _]) rfl rfl rfl rfl (Qg rfl (Qh rfl rfl (Qg rfl (QD (cs := [_, _, _, _, _, _, _]) rfl rfl rfl rfl (Qg rfl (QC (Zu (by omega) (by omega) (by omega) (by omega)) rfl rfl (.inr rfl) (Qg rfl (Yj rfl rfl ?_)))))))))))
   refine Qk rfl rfl (Qa rfl ?_)
   refine hK _ _ (Qb (kp1 rfl) ?_)
   refine Qu (Qq rfl ?_)
   first | (simp [QhP, h1, h2]; done) | (simp_all [QhP]; done)
  ·try rw [h2]
   try simp only [qa, qb, qc, qd, qe] at h2
   refine Qo rfl (Qo rfl (Qo rfl (Qo rfl (Qo rfl (Qo rfl (Qk rfl rfl (Qa rfl ?_)))))))
   refine hK _ _ (Qb (kp1 rfl) ?_)
   refine Qu (Qq rfl ?_)
   first | (simp [QhP, h1, h2]; done) | (simp_all [QhP]; done)
 ·try rw [h1]
  try simp only [qa, qb, qc, qd, qe] at h1
  refine Qo rfl (Qo rfl (Qo rfl (Qk rfl rfl (Qa rfl (Qo rfl (Qo rfl (Qo rfl (Qo rfl (Qo rfl (Qo rfl (Qk rfl rfl ?_)))))))))))
  refine Qa rfl ?_
  refine hK _ _ (Qb (kp1 rfl) ?_)
  refine Qu (Qq rfl ?_)
  first | (simp [QhP, h1]; done) | (simp_all [QhP]; done)
theorem QcR {e a b c : Int} {p q : List UInt8} {f : Bool} (hp : p.length <= 1000000) (hq : q.length <= 1000000) {e' a' b' c' : Int} {p' q' : List UInt8} {f' : Bool} (hp' : p'.length <= 1000000) (hq' : q'.length <= 1000000) {x y z : Int} {r s : List UInt8} (hr : r.length <= 1000000) (hs : s.length <= 1000000) : Ok Tryz.prog 126 [.agg [.int .i64 e, .int .i64 a, .int .i64 b, .int .i64 c, .str p, .str q, .bool f, .int .i64 e', .int .i64 a', .int .i64 b', .int .i64 c', .str p', .str q', .bool f'], .agg [.int .i64 x, .int .i64 y, .int .i64 z, .str r, .str s]] (.bool (QcY e a b c p q f e' a' b' c' p' q' f' x y z r s)) := by
 refine Ok.ofT ZX Tryz.func126 QrM (Nat.le_of_ble_eq_true rfl) ?_
 show TW _ _ tf126.body _ _
 refine Qe fun K hK => Zw rfl rfl rfl (Zw rfl rfl rfl (Qa rfl ?_))
 refine hK _ _ (Qb (kp2 rfl rfl) ?_)
 refine Qe fun K hK => QD (cs := [_, _, _, _, _, _, _, _, _, _, _, _, _, _]) rfl rfl rfl rfl (QC (YF (by omega) (by omega) (by omega) (by omega)) rfl rfl (.inr rfl) (Qa rfl ?_))
 refine Qy (g := 7) rfl (fun h1 => ?_) (fun h1 => ?_)
 ·try rw [h1]
  try simp only [qa, qb, qc, qd, qe] at h1
  refine Qg rfl (QD (cs := [_, _, _, _, _]) rfl rfl rfl rfl (Qg rfl (QC (Zg (by omega) (by omega)) rfl rfl (.inr rfl) (Qk rfl rfl (Qa rfl ?_)))))
  refine Qy (g := 11) rfl (fun h2 => ?_) (fun h2 => ?_)
  ·try rw [h2]
   try simp only [qa, qb, qc, qd, qe] at h2
   refine Qg rfl (Qh rfl rfl (Qg rfl (QD (cs := [_, _, _, _, _, _, _]) rfl rfl rfl rfl (Qg rfl (QD (cs := [_, _, _, _, _]) rfl rfl rfl rfl (Qg rfl (QC (X0 (by omega) (by omega) (by omega) (by omega)) rfl rfl (.inr rfl) (Qk rfl rfl (Qa rfl ?_)))))))))
   refine Qy (g := 17) rfl (fun h3 => ?_) (fun h3 => ?_)
   ·try rw [h3]
    try simp only [qa, qb, qc, qd, qe] at h3
    refine Qg rfl (Qh rfl rfl (Qg rfl (QD (cs := [_, _, _, _, _, _, _]) rfl rfl rfl rfl (Qg rfl (QD (cs := [_, _, _, _, _]) rfl rfl rfl rfl (Qg rfl (QC (X0 (by omega) (by omega) (by omega) (by omega)) rfl rfl (.inr rfl) (Qg rfl (Yb rfl (Qk rfl rfl (Qa rfl ?_)))))))))))
    refine hK _ _ (Qb (kp1 rfl) ?_)
    refine Qu (Qq rfl ?_)
    first | (simp [QcY, h1, h2, h3]; done) | (simp_all [QcY]; done)
   ·try rw [h3]
    try simp only [qa, qb, qc, qd, qe] at h3
    refine Qo rfl (Qo rfl (Qo rfl (Qo rfl (Qo rfl (Qk rfl rfl (Qa rfl ?_))))))
    refine hK _ _ (Qb (kp1 rfl) ?_)
    refine Qu (Qq rfl ?_)
    first | (simp [QcY, h1, h2, h3]; done) | (simp_all [QcY]; done)
  ·try rw [h2]
   try simp only [qa, qb, qc, qd, qe] at h2
   refine Qo rfl (Qo rfl (Qo rfl (Qo rfl (Qk rfl rfl (Qa rfl (Qo rfl (Qo rfl (Qo rfl (Qo rfl (Qo rfl (Qk rfl rfl ?_)))))))))))
   refine Qa rfl ?_
   refine hK _ _ (Qb (kp1 rfl) ?_)
   refine Qu (Qq rfl ?_)
   first | (simp [QcY, h1, h2]; done) | (simp_all [QcY]; done)
 ·try rw [h1]
  try simp only [qa, qb, qc, qd, qe] at h1
  refine Qo rfl (Qo rfl (Qk rfl rfl (Qa rfl (Qo rfl (Qo rfl (Qo rfl (Qo rfl (Qk rfl rfl (Qa rfl (Qo rfl (Qo rfl ?_)))))))))))
  refine Qo rfl (Qo rfl (Qo rfl (Qk rfl rfl (Qa rfl ?_))))
  refine hK _ _ (Qb (kp1 rfl) ?_)
  refine Qu (Qq rfl ?_)
  first | (simp [QcY, h1]; done) | (simp_all [QcY]; done)
end Go.Proofs
namespace M3
open Go Go.Abs
end M3
namespace M3
open Go Go.Abs
end M3
namespace M3
open Go Go.Abs
end M3
namespace M25
open Go Go.Abs M3
def QgP (a b c : Int) : Bool := decide (a = 0) && decide (b = 0) && decide (c = 0)
def X9 (a b c : Int) (p q : List UInt8) (part : Int) : Option (Int × Int × Int) :=
 if Qh8 a b c p q = false \/ part < 0 \/ 2 < part then none
 else
  let o := if part = 0 then (a + 1, 0, 0) else if part = 1 then (a, b + 1, 0) else (a, b, c + 1)
  if Qh8 o.1 o.2.1 o.2.2 [] [] = true then some o else none
def dOV (o : Option (Int × Int × Int)) : D := .tup [.agg [.int .i64 (o.getD (0, 0, 0)).1, .int .i64 (o.getD (0, 0, 0)).2.1, .int .i64 (o.getD (0, 0, 0)).2.2, .str [], .str []], .bool o.isSome]
def XG (a b c : Int) (p q : List UInt8) : Nat -> Option (Int × Int × Int)
 | 0 => none
 | n + 1 => if (X9 a b c p q n).isSome = true then X9 a b c p q n else XG a b c p q n
def QiK (a b c : Int) (p q : List UInt8) : Option (Int × Int × Int) :=
 if Qh8 a b c p q = false then none else if p ≠ [] then some (a, b, c) else XG a b c p q 3
theorem Qcx {a b c : Int} {p q : List UInt8} (h : Qh8 a b c p q = true) : (0 <= a /\ a <= 9999) /\ (0 <= b /\ b <= 9999) /\ (0 <= c /\ c <= 9999) := by
 simp only [Qh8, mFits, Bool.and_eq_true, decide_eq_true_eq] at h
 omega
theorem Qjt {a b c : Int} {p q : List UInt8} {m : Nat} (hm : 0 < m) (h : (X9 a b c p q ((m : Int) - 1)).isSome = false) : XG a b c p q m = XG a b c p q (m - 1) := by
 obtain ⟨n, rfl⟩ : ∃ n, m = n + 1 := ⟨m - 1, by omega⟩
 rw [show ((n + 1 : Nat) : Int) - 1 = (n : Int) by omega] at h
 rw [XG, if_neg (by rw [h]; simp)]; rfl
theorem Qii {a b c : Int} {p q : List UInt8} {m : Nat} (hm : 0 < m) (h : (X9 a b c p q ((m : Int) - 1)).isSome = true) : XG a b c p q m = X9 a b c p q ((m : Int) - 1) := by
 obtain ⟨n, rfl⟩ : ∃ n, m = n + 1 := ⟨m - 1, by omega⟩
 rw [show ((n + 1 : Nat) : Int) - 1 = (n : Int) by omega] at h ⊢
 rw [XG, if_pos h]
def dCu (x : Cu) : List D := [.int .i64 x.e, .int .i64 x.a, .int .i64 x.b, .int .i64 x.c, .str x.p, .str x.q, .bool x.f]
def QeN (s : Cu × Cu) : List D := dCu s.1 ++ dCu s.2
def ZF (l : List (Cu × Cu)) : D := .sl (l.map QeN)
def Qhj (s : List (Cu × Cu) × List (Cu × Cu)) : D := .agg [ZF s.1, ZF s.2]
def QcV : Cu := ⟨-1, 0, 0, 0, [], [], false⟩
def Qgm : Cu := ⟨1, 0, 0, 0, [], [], false⟩
def QfT (a b c : Int) : Cu := if QgP a b c = true then QcV else ⟨0, a, b, c, [], [], false⟩
def QdI (a b c : Int) : Cu := match QiK a b c [] [] with
 | none => Qgm
 | some o => ⟨0, o.1, o.2.1, o.2.2, [], [], false⟩
def Xg (a b c : Int) (p q : List UInt8) : List (Cu × Cu) × List (Cu × Cu) :=
 if Qh8 a b c p q = false then ([], []) else if p ≠ [] then ([], [(⟨0, a, b, c, p, [], false⟩, ⟨0, a, b, c, p, [], true⟩)]) else ([(QfT a b c, QdI a b c)], [])
def QgS (e a b c : Int) (p q : List UInt8) (f : Bool) : Bool := !decide (e = 0) || (!f && decide (p = []) && !QgP a b c)
def Cu.sm (x : Cu) : Prop := x.p.length <= 1000000 /\ x.q.length <= 1000000
def Sm (l : List (Cu × Cu)) : Prop := l.length <= 1000000 /\ ∀ s ∈ l, Cu.sm s.1 /\ Cu.sm s.2
theorem Sm.at {l : List (Cu × Cu)} (h : Sm l) {i : Nat} (hi : i < l.length) : (l[i].1.p.length <= 1000000 /\ l[i].1.q.length <= 1000000) /\ (l[i].2.p.length <= 1000000 /\ l[i].2.q.length <= 1000000) := h.2 _ (List.getElem_mem hi)
def QdN (s : Cu × Cu) : Bool := QhP s.1.e s.1.a s.1.b s.1.c s.1.p s.1.q s.1.f s.2.e s.2.a s.2.b s.2.c s.2.p s.2.q s.2.f
def Qbt (x y : Cu) : Int := Qbs x.e x.a x.b x.c x.p x.q x.f y.e y.a y.b y.c y.p y.q y.f
def Qp2 (l : List (Cu × Cu)) (i : Nat) : Bool := match l[i]? with
 | none => true
 | some s => QdN s && (decide (i = 0) || match l[i - 1]? with | none => true | some r => decide (Qbt r.2 s.1 < 0))
theorem QmP {l : List (Cu × Cu)} {i : Nat} (h : i < l.length) : Qp2 l i = (QdN l[i] && (decide (i = 0) || decide (Qbt (l[i - 1]'(by omega)).2 l[i].1 < 0))) := by
 unfold Qp2
 rw [List.getElem?_eq_getElem h, List.getElem?_eq_getElem (show i - 1 < l.length by omega)]
theorem QoU {l : List (Cu × Cu)} {i : Nat} (h : i < l.length) (h1 : QdN l[i] = true) (h2 : i = 0 \/ Qbt (l[i - 1]'(by omega)).2 l[i].1 < 0) : Qp2 l i = true := by
 rw [QmP h, h1]; simpa using h2
theorem QgY {l : List (Cu × Cu)} {i : Nat} (h : i < l.length) (h1 : QdN l[i] = false \/ (i ≠ 0 /\ 0 <= Qbt (l[i - 1]'(by omega)).2 l[i].1)) : Qp2 l i = false := by
 rw [QmP h]
 rcases h1 with h1 | ⟨h1, h2⟩
 ·rw [h1]; rfl
 ·simp only [Bool.and_eq_false_iff, Bool.or_eq_false_iff, decide_eq_false_iff_not]
  exact .inr ⟨h1, by omega⟩
def Qeo (l : List (Cu × Cu)) : Bool := (List.range l.length).all (Qp2 l)
theorem Qby {n i : Nat} {p : Nat -> Bool} (h : i < n) (hp : p i = false) : (List.range n).all p = false := by
 rw [Bool.eq_false_iff]; intro ha
 rw [List.all_eq_true] at ha
 rw [ha i (List.mem_range.2 h)] at hp; cases hp
theorem QhU {i : Nat} {p : Nat -> Bool} (h : (List.range i).all p = true) (hp : p i = true) : (List.range (i + 1)).all p = true := by
 rw [List.range_succ, List.all_append, h]; simp [hp]
theorem Qe9 {i : Nat} {p : Nat -> Bool} {n : Nat} (h : (List.range i).all p = true) (hn : n <= i) : (List.range n).all p = true := by
 rw [List.all_eq_true] at h ⊢
 exact fun x hx => h x (List.mem_range.2 (Nat.lt_of_lt_of_le (List.mem_range.1 hx) hn))
def QhL (s : Cu × Cu) (a b c : Int) (p q : List UInt8) : Bool := QcY s.1.e s.1.a s.1.b s.1.c s.1.p s.1.q s.1.f s.2.e s.2.a s.2.b s.2.c s.2.p s.2.q s.2.f a b c p q
def QhK (l : List (Cu × Cu)) (a b c : Int) (p q : List UInt8) : Bool := Qeo l && l.any fun s => QhL s a b c p q
theorem Qhv {l : List (Cu × Cu)} {a b c : Int} {p q : List UInt8} {i : Nat} (hi : l.length <= i) (h : (l.take i).any (fun s => QhL s a b c p q) = false) : QhK l a b c p q = false := by
 rw [List.take_of_length_le hi] at h; rw [QhK, h, Bool.and_false]
theorem Qhw {l : List (Cu × Cu)} {a b c : Int} {p q : List UInt8} (h : Qeo l = false) : QhK l a b c p q = false := by rw [QhK, h]; rfl
theorem Qhx {l : List (Cu × Cu)} {a b c : Int} {p q : List UInt8} {i : Nat} (h : Qeo l = true) (hi : i < l.length) (hp : QhL l[i] a b c p q = true) : QhK l a b c p q = true := by
 rw [QhK, h, Bool.true_and]; exact List.any_eq_true.2 ⟨_, List.getElem_mem hi, hp⟩
def inC (x y : Cu) (s : Cu × Cu) : Bool := decide (Qbt s.1 x <= 0) && decide (Qbt y s.2 <= 0)
theorem Qqv {x y : Cu} {s : Cu × Cu} (h1 : Qbt s.1 x <= 0) (h2 : Qbt y s.2 <= 0) : inC x y s = true := by simp [inC, h1, h2]
theorem Qqu {x y : Cu} {s : Cu × Cu} (h : ¬ Qbt s.1 x <= 0 \/ ¬ Qbt y s.2 <= 0) : inC x y s = false := by
 simp only [inC, Bool.and_eq_false_iff, decide_eq_false_iff_not]; exact h
def mIn (l : List (Cu × Cu)) (x y : Cu) : Bool := l.any (inC x y)
theorem Qha {α : Type} {s : List α} {p : α -> Bool} {i : Nat} (h : i < s.length) (hp : p s[i] = true) : s.any p = true := List.any_eq_true.2 ⟨_, List.getElem_mem h, hp⟩
theorem QlQ {α : Type} {s : List α} {p : α -> Bool} {i : Nat} (hi : s.length <= i) (h : (s.take i).any p = false) : s.any p = false := by rwa [List.take_of_length_le hi] at h
theorem Qgu {α : Type} {s : List α} {p : α -> Bool} {i : Nat} (h : i < s.length) (ha : (s.take i).any p = false) (hp : p s[i] = false) : (s.take (i + 1)).any p = false := by
 rw [List.take_succ_eq_append_getElem h, List.any_append, ha]; simp [hp]
def QbH (x : Cu) : Bool := QgS x.e x.a x.b x.c x.p x.q x.f
def QfV (s : List (Cu × Cu) × List (Cu × Cu)) : Bool := Qeo s.1 && Qeo s.2 && s.1.all fun x => QbH x.1 && QbH x.2
def Qlt (s : List (Cu × Cu) × List (Cu × Cu)) (a b c : Int) (p q : List UInt8) : Bool :=
 QfV s && Qh8 a b c p q && (if p = [] then QhK s.1 a b c p q else QhK s.2 a b c p q)
theorem QaO {s : List (Cu × Cu) × List (Cu × Cu)} (h : Qeo s.1 = false \/ Qeo s.2 = false) : QfV s = false := by
 rw [QfV]; rcases h with h | h <;> simp [h]
theorem QaN {s : List (Cu × Cu) × List (Cu × Cu)} {i : Nat} (hi : i < s.1.length) (h : QbH s.1[i].1 = false \/ QbH s.1[i].2 = false) : QfV s = false := by
 have : (s.1.all fun x => QbH x.1 && QbH x.2) = false := XO hi (by rcases h with h | h <;> simp [h])
 rw [QfV, this, Bool.and_false]
theorem QdP {s : List (Cu × Cu) × List (Cu × Cu)} {i : Nat} (h1 : Qeo s.1 = true) (h2 : Qeo s.2 = true) (hi : s.1.length <= i) (h : (s.1.take i).all (fun x => QbH x.1 && QbH x.2) = true) : QfV s = true := by
 rw [List.take_of_length_le hi] at h
 rw [QfV, h1, h2, h]; rfl
def Qhi (l : List Cu) : D := .sl (l.map dCu)
theorem Qi2 {l : List Cu} : ∀ r ∈ l.map dCu, r.length = 7 := fun r hr => by obtain ⟨x, _, rfl⟩ := List.mem_map.1 hr; rfl
theorem Qok {l : List Cu} {a b : Nat} : ∀ r ∈ ((l.map dCu).take a).drop b, r.length = 7 := fun r hr => Qi2 r (List.mem_of_mem_take (List.mem_of_mem_drop hr))
def Qcf : List Cu -> Cu -> List Cu
 | [], c => [c]
 | x :: r, c => if Qbt x c < 0 then x :: Qcf r c else if Qbt x c = 0 then x :: r else c :: x :: r
theorem QmH {l : List Cu} {c : Cu} {k : Nat} (hk : k < l.length) (h : Qbt l[k] c < 0) (hi : Qcf l c = l.take k ++ Qcf (l.drop k) c) : Qcf l c = l.take (k + 1) ++ Qcf (l.drop (k + 1)) c := by
 rw [hi, List.drop_eq_getElem_cons hk, Qcf, if_pos h, List.take_succ_eq_append_getElem hk, List.append_assoc]; rfl
theorem QmG {l : List Cu} {c : Cu} {k : Nat} (hk : k < l.length) (h : Qbt l[k] c = 0) (hi : Qcf l c = l.take k ++ Qcf (l.drop k) c) : Qcf l c = l := by
 rw [hi, List.drop_eq_getElem_cons hk, Qcf, if_neg (by omega), if_pos h, <- List.drop_eq_getElem_cons hk, List.take_append_drop]
theorem QkK {l : List Cu} {c : Cu} {k : Nat} (h : l.length <= k \/ ∃ hk : k < l.length, ¬ Qbt l[k] c < 0 /\ Qbt l[k] c ≠ 0) (hi : Qcf l c = l.take k ++ Qcf (l.drop k) c) : Qcf l c = l.take k ++ c :: l.drop k := by
 rw [hi]
 rcases h with h | ⟨hk, h1, h2⟩
 ·rw [List.drop_eq_nil_of_le h, Qcf]
 ·rw [List.drop_eq_getElem_cons hk, Qcf, if_neg h1, if_neg h2]
theorem Qe4 : ∀ (l : List Cu) (c : Cu), (Qcf l c).length <= l.length + 1
 | [], c => by simp [Qcf]
 | x :: r, c => by
  have := Qe4 r c
  simp only [Qcf]
  (repeat' split) <;> simp <;> omega
theorem QhN : ∀ {l : List Cu} {c : Cu}, (∀ x ∈ l, Cu.sm x) -> Cu.sm c -> ∀ x ∈ Qcf l c, Cu.sm x
 | [], c, _, hc, x, hx => by simp [Qcf] at hx; exact hx ▸ hc
 | y :: r, c, hl, hc, x, hx => by
  simp only [Qcf] at hx
  split at hx
  ·rcases List.mem_cons.1 hx with rfl | hx
   ·exact hl _ (by simp)
   ·exact QhN (fun z hz => hl z (by simp [hz])) hc x hx
  ·split at hx
   ·exact hl x hx
   ·rcases List.mem_cons.1 hx with rfl | hx
    ·exact hc
    ·exact hl x hx
def YW (l : List (Cu × Cu)) : List Cu := l.foldl (fun out s => Qcf (Qcf out s.1) s.2) [QcV, Qgm]
theorem Qn4 {l : List (Cu × Cu)} {i : Nat} (h : i < l.length) : YW (l.take (i + 1)) = Qcf (Qcf (YW (l.take i)) l[i].1) l[i].2 := by
 rw [List.take_succ_eq_append_getElem h, YW, List.foldl_append]; rfl
theorem QgN : ∀ (l : List (Cu × Cu)) (out : List Cu), (l.foldl (fun out s => Qcf (Qcf out s.1) s.2) out).length <= out.length + 2 * l.length
 | [], out => by simp
 | s :: l, out => by
  have h1 := Qe4 out s.1
  have h2 := Qe4 (Qcf out s.1) s.2
  have := QgN l (Qcf (Qcf out s.1) s.2)
  simp only [List.foldl_cons, List.length_cons]; omega
theorem Qcc (l : List (Cu × Cu)) : (YW l).length <= 2 + 2 * l.length := QgN l _
theorem QiG : ∀ {l : List (Cu × Cu)} {out : List Cu}, (∀ s ∈ l, Cu.sm s.1 /\ Cu.sm s.2) -> (∀ x ∈ out, Cu.sm x) -> ∀ x ∈ l.foldl (fun out s => Qcf (Qcf out s.1) s.2) out, Cu.sm x
 | [], _, _, h => h
 | s :: l, out, hl, h => by
  rw [List.foldl_cons]
  exact QiG (fun t ht => hl t (by simp [ht])) (QhN (QhN h (hl s (by simp)).1) (hl s (by simp)).2)
theorem QkG {l : List (Cu × Cu)} (hl : ∀ s ∈ l, Cu.sm s.1 /\ Cu.sm s.2) : ∀ x ∈ YW l, Cu.sm x := QiG hl (by
 intro x hx
 simp only [List.mem_cons, List.not_mem_nil, or_false] at hx
 rcases hx with rfl | rfl <;> exact ⟨Nat.zero_le _, Nat.zero_le _⟩)
theorem Qe3 {l : List (Cu × Cu)} (hl : Sm l) (i : Nat) : (YW (l.take i)).length <= 2000002 /\ ∀ x ∈ YW (l.take i), Cu.sm x := by
 refine ⟨?_, QkG fun s hs => hl.2 s (List.mem_of_mem_take hs)⟩
 have := Qcc (l.take i)
 have h2 : (l.take i).length <= l.length := List.length_take_le' ..
 have := hl.1
 omega
def Qce (l : List (Cu × Cu)) (x y : Cu) : List (Cu × Cu) := match l.getLast? with
 | some s => if Qbt s.2 x = 0 then l.dropLast ++ [(s.1, y)] else l ++ [(x, y)]
 | none => l ++ [(x, y)]
theorem QiH {l : List (Cu × Cu)} {x y : Cu} {i : Nat} (hi : i + 1 = l.length) (h : Qbt (l[i]'(by omega)).2 x = 0) : Qce l x y = l.set i ((l[i]'(by omega)).1, y) := by
 have hg : l.getLast? = some (l[i]'(by omega)) := by
  rw [List.getLast?_eq_getElem?, show l.length - 1 = i by omega, List.getElem?_eq_getElem]
 rw [Qce, hg]
 simp only [h, if_true]
 rw [List.dropLast_eq_take, show l.length - 1 = i by omega, List.set_eq_take_append_cons_drop, if_pos (by omega), List.drop_eq_nil_of_le (by omega)]
theorem QdK {l : List (Cu × Cu)} {x y : Cu} (h : l = [] \/ ∃ i, ∃ hi : i + 1 = l.length, Qbt (l[i]'(by omega)).2 x ≠ 0) : Qce l x y = l ++ [(x, y)] := by
 rcases h with rfl | ⟨i, hi, h⟩
 ·rfl
 ·have hg : l.getLast? = some (l[i]'(by omega)) := by
   rw [List.getLast?_eq_getElem?, show l.length - 1 = i by omega, List.getElem?_eq_getElem]
  rw [Qce, hg]
  simp only [if_neg h]
theorem QiI (l : List (Cu × Cu)) (x y : Cu) : (Qce l x y).length <= l.length + 1 := by
 unfold Qce
 split
 ·split
  ·simp
  ·simp
 ·simp
theorem QkH {l : List (Cu × Cu)} {x y : Cu} (hl : ∀ s ∈ l, Cu.sm s.1 /\ Cu.sm s.2) (hx : Cu.sm x) (hy : Cu.sm y) : ∀ s ∈ Qce l x y, Cu.sm s.1 /\ Cu.sm s.2 := by
 intro s hs
 unfold Qce at hs
 split at hs
 ·rename_i t ht
  have ht' := List.mem_of_getLast? ht
  split at hs
  ·rcases List.mem_append.1 hs with hs | hs
   ·exact hl s (List.dropLast_subset _ hs)
   ·simp at hs; subst hs; exact ⟨(hl t ht').1, hy⟩
  ·rcases List.mem_append.1 hs with hs | hs
   ·exact hl s hs
   ·simp at hs; subst hs; exact ⟨hx, hy⟩
 ·rcases List.mem_append.1 hs with hs | hs
  ·exact hl s hs
  ·simp at hs; subst hs; exact ⟨hx, hy⟩
theorem Qkz {α β : Type} {l : List α} {f : α -> β} {i : Nat} (h : i + 1 < l.length) : (l.map f)[((i : Int) + 1).toNat]? = some (f l[i + 1]) := by
 rw [show ((i : Int) + 1).toNat = i + 1 by omega, List.getElem?_map, List.getElem?_eq_getElem h]; rfl
def Qcd (f : Cu -> Cu -> Bool) : List Cu -> List (Cu × Cu) -> List (Cu × Cu)
 | x :: y :: r, out => Qcd f (y :: r) (if f x y = true then Qce out x y else out)
 | _, out => out
def QjK (l : List (Cu × Cu)) : List (Cu × Cu) := if l.all QdN = true then Qcd (mIn l) (YW l) [] else []
theorem QgO {f : Cu -> Cu -> Bool} {c : List Cu} {out : List (Cu × Cu)} {i : Nat} (h : i + 1 < c.length) : Qcd f (c.drop i) out = Qcd f (c.drop (i + 1)) (if f c[i] c[i + 1] = true then Qce out c[i] c[i + 1] else out) := by
 rw [List.drop_eq_getElem_cons (show i < c.length by omega), List.drop_eq_getElem_cons h, Qcd]
theorem QmC {f : Cu -> Cu -> Bool} {c : List Cu} {out : List (Cu × Cu)} {i : Nat} (h : c.length <= i + 1) : Qcd f (c.drop i) out = out := by
 have : (c.drop i).length <= 1 := by simp; omega
 match hd : c.drop i with
 | [] => rfl
 | [x] => rfl
 | x :: y :: r => rw [hd] at this; simp at this
def FillI (f : Cu -> Cu -> Bool) (c : List Cu) (i : Nat) (out : List (Cu × Cu)) : Prop :=
 out.length <= i /\ (∀ s ∈ out, Cu.sm s.1 /\ Cu.sm s.2) /\ Qcd f c [] = Qcd f (c.drop i) out
theorem FillI.zero {f : Cu -> Cu -> Bool} {c : List Cu} : FillI f c 0 [] := ⟨Nat.zero_le _, by simp, by simp⟩
theorem FillI.take {f : Cu -> Cu -> Bool} {c : List Cu} {i : Nat} {out : List (Cu × Cu)} (h : FillI f c i out) (hc : ∀ x ∈ c, Cu.sm x) (hi : i + 1 < c.length) (ht : f c[i] c[i + 1] = true) : FillI f c (i + 1) (Qce out c[i] c[i + 1]) := by
 obtain ⟨h1, h2, h3⟩ := h
 refine ⟨Nat.le_trans (QiI ..) (by omega), QkH h2 (hc _ (List.getElem_mem _)) (hc _ (List.getElem_mem _)), ?_⟩
 rw [h3, QgO hi, if_pos ht]
theorem FillI.skip {f : Cu -> Cu -> Bool} {c : List Cu} {i : Nat} {out : List (Cu × Cu)} (h : FillI f c i out) (hi : i + 1 < c.length) (ht : f c[i] c[i + 1] = false) : FillI f c (i + 1) out := by
 obtain ⟨h1, h2, h3⟩ := h
 exact ⟨by omega, h2, by rw [h3, QgO hi, if_neg (by rw [ht]; simp)]⟩
theorem FillI.done {f : Cu -> Cu -> Bool} {c : List Cu} {i : Nat} {out : List (Cu × Cu)} (h : FillI f c i out) (hi : c.length <= i + 1) : Qcd f c [] = out := by rw [h.2.2, QmC hi]
theorem Qnm {i : Nat} : ((i : Int) + 1).toNat = i + 1 := by omega
theorem Yx {l : List (Cu × Cu)} (hl : Sm l) : ∀ x ∈ YW l, Cu.sm x := QkG hl.2
def QoS (a b : List (Cu × Cu)) : List (Cu × Cu) := if Qeo a = true /\ Qeo b = true then QjK (a ++ b) else []
def QjL (a : List (Cu × Cu)) : List (Cu × Cu) := if Qeo a = true then Qcd (fun x y => !mIn a x y) (YW a) [] else []
theorem QoW {l : List (Cu × Cu)} : ∀ r ∈ l.map QeN, r.length = 14 := fun r hr => by obtain ⟨x, _, rfl⟩ := List.mem_map.1 hr; rfl
theorem Sm.app {a b : List (Cu × Cu)} (ha : Sm a) (hb : Sm b) (h : a.length + b.length <= 1000000) : Sm (a ++ b) := by
 refine ⟨by simp; omega, fun s hs => ?_⟩
 rcases List.mem_append.1 hs with hs | hs
 ·exact ha.2 s hs
 ·exact hb.2 s hs
theorem Qrd {H : List (Nat × Box)} {S : Nat -> Bool} {k n : Nat} {b : Box} (hS : S k = true) (hb : lk H k = some b) (hp : b.pr = true) (hn : n = b.rows.length) : (D.osl k n).fz H S = .sl b.rows := by
 simp only [D.fz, D.fzS, hS, hb, if_true, hp, hn, and_self]
abbrev Qfi := List (Cu × Cu) × List (Cu × Cu)
def QoT (a b : Qfi) : Qfi := if QfV a = true /\ QfV b = true then (QoS a.1 b.1, QoS a.2 b.2) else ([], [])
def QhM (a : Qfi) : Qfi := if QfV a = true then (QjL a.1, QjL a.2) else ([], [])
def mPl (v n : Int) : Int := if n < 1 then 0 else QfX v n
theorem QgR {v n : Int} : 0 <= mPl v n := by
 unfold mPl; split
 ·omega
 ·exact Qof (by omega)
theorem QiL {v n : Int} (h : 1 <= n) : mPl v n < n := by
 rw [mPl, if_neg (by omega)]; exact Qoe (by omega)
def Qnp (l : List Int) (i : Int) : Int := if i < 0 \/ (l.length : Int) <= i then i.tmod 3 else l.getD i.toNat 0
theorem QmA {l : List Int} {i : Int} (h0 : 0 <= i) (h : i < l.length) : Qnp l i = l[i.toNat]'(by omega) := by
 rw [Qnp, if_neg (by omega), List.getD_eq_getElem?_getD, List.getElem?_eq_getElem (by omega)]; rfl
def I64 (x : Int) : Prop := -9223372036854775808 <= x /\ x <= 9223372036854775807
theorem Qn3 {l : List Int} {i : Int} (hl : ∀ x ∈ l, I64 x) (hi : I64 i) : I64 (Qnp l i) := by
 by_cases h : i < 0 \/ (l.length : Int) <= i
 ·rw [Qnp, if_pos h]
  have h1 := Int.tmod_lt_of_pos i (show (0 : Int) < 3 by omega)
  have h2 := Int.lt_tmod_of_pos i (show (0 : Int) < 3 by omega)
  exact ⟨by omega, by omega⟩
 ·rw [QmA (by omega) (by omega)]
  exact hl _ (List.getElem_mem _)
theorem Qgf (x : Int) : I64 (IntKind.i64.wrap x) := by
 unfold IntKind.wrap I64
 simp only [IntKind.bits, IntKind.signed, Bool.true_and]
 split
 ·rename_i h
  have := of_decide_eq_true h
  omega
 ·rename_i h
  have : ¬ (x % 2 ^ 64 >= 2 ^ (64 - 1)) := fun hh => h (decide_eq_true hh)
  omega
theorem Qem {α : Type} {k : Nat} {v : α} {l : List (Nat × α)} : lk ((k, v) :: l) k = some v := by rw [Qm, if_pos rfl]
theorem Qe2 {α : Type} {k : Nat} {v : α} {l : List (Nat × α)} : (lk ((k, v) :: l) k).isSome = true := by rw [Qem]; rfl
def gB (L : List Int) (I : Int) (et : Nat) : Box := ⟨[[ZH L, .int .i64 I]], 2, et, true⟩
def nxI (I : Int) : Int := IntKind.i64.wrap (I + 1)
def nx (L : List Int) (I n : Int) : Int := mPl (Qnp L (IntKind.i64.wrap (nxI I - 1))) n
def QaF (h m : Int) : Int := if Qar .and .i64 h m = h then 2 else if Qar .and .i64 h m = 0 then 0 else 1
def Qde (h m : Int) : Int := if Qar .andNot .i64 h m = 0 then 2 else if Qar .and .i64 h m = 0 then 0 else 1
theorem QhS {i : Nat} (h : i <= 62) : 1 <= (2 : Int) ^ i /\ (2 : Int) ^ i <= 4611686018427387904 := by
 have h1 : (2 : Nat) ^ i <= 2 ^ 62 := Nat.pow_le_pow_right (by omega) h
 have h2 : 1 <= (2 : Nat) ^ i := Nat.one_le_two_pow
 have h3 : ((2 ^ i : Nat) : Int) = (2 : Int) ^ i := by simp
 rw [<- h3]
 have h4 : (2 : Nat) ^ 62 = 4611686018427387904 := by decide
 omega
structure Vr where
 a : Int
 b : Int
 c : Int
 p : List UInt8
 q : List UInt8
def dVr (v : Vr) : List D := [.int .i64 v.a, .int .i64 v.b, .int .i64 v.c, .str v.p, .str v.q]
def Vr.sm (v : Vr) : Prop := v.p.length <= 100 /\ v.q.length <= 100
def versions : List Vr := [⟨1, 0, 0, [], []⟩, ⟨1, 2, 0, [], []⟩, ⟨2, 0, 0, [97, 46, 49], []⟩, ⟨2, 0, 0, [], []⟩]
theorem Qka : ∀ v ∈ versions, v.sm := by
 intro v hv
 simp only [versions, List.mem_cons, List.not_mem_nil, or_false] at hv
 rcases hv with rfl | rfl | rfl | rfl <;> exact ⟨by decide, by decide⟩
theorem QdS {i : Nat} : ((i : Int) - 1).toNat = i - 1 := by omega
end M25
namespace Go.Proofs
open Go Go.Abs M3 M25
set_option linter.unusedVariables false
set_option linter.unusedSimpArgs false
theorem Qai {a b c : Int} {p q : List UInt8} : Ok Tryz.prog 92 [.agg [.int .i64 a, .int .i64 b, .int .i64 c, .str p, .str q]] (.agg [.int .i64 a, .int .i64 b, .int .i64 c, .str p, .str []]) := by
 refine Ok.ofT ZX Tryz.func92 Qs4 (Nat.le_of_ble_eq_true rfl) ?_
 show TW _ _ tf92.body _ _
 refine Qe fun K hK => Zw rfl rfl rfl (ZC rfl ?_)
 refine hK _ _ (Qb (kp2 rfl rfl) ?_)
 refine Qe fun K hK => Qh rfl rfl (Q5 rfl rfl rfl rfl rfl rfl rfl rfl ?_)
 refine hK _ _ (Qb (kp2 rfl rfl) ?_)
 refine Qe fun K hK => QD (cs := [_, _, _, _, _]) rfl rfl rfl rfl (Q5 rfl rfl rfl rfl rfl rfl rfl rfl ?_)
 refine hK _ _ (Qb (kp1 rfl) ?_)
 refine Qu (ZE (cs := [_, _, _, _, _]) rfl rfl rfl rfl ?_)
 exact rfl
theorem YZ  : Ok Tryz.prog 94 [] (.agg [.int .i64 (-1), .int .i64 0, .int .i64 0, .int .i64 0, .str [], .str [], .bool false]) := by
 refine Ok.ofT ZX Tryz.func94 Qs6 (Nat.le_of_ble_eq_true rfl) ?_
 show TW _ _ tf94.body _ _
 refine Qe fun K hK => ZC rfl ?_
 refine hK _ _ (Qb (kp1 rfl) ?_)
 refine Qe fun K hK => QR rfl rfl (Q5 rfl rfl rfl rfl rfl rfl rfl rfl ?_)
 refine hK _ _ (Qb (kp1 rfl) ?_)
 refine Qu (ZE (cs := [_, _, _, _, _, _, _]) rfl rfl rfl rfl ?_)
 exact rfl
theorem Xb  : Ok Tryz.prog 96 [] (.agg [.int .i64 1, .int .i64 0, .int .i64 0, .int .i64 0, .str [], .str [], .bool false]) := by
 refine Ok.ofT ZX Tryz.func96 Qs8 (Nat.le_of_ble_eq_true rfl) ?_
 show TW _ _ tf96.body _ _
 refine Qe fun K hK => ZC rfl ?_
 refine hK _ _ (Qb (kp1 rfl) ?_)
 refine Qe fun K hK => QR rfl rfl (Q5 rfl rfl rfl rfl rfl rfl rfl rfl ?_)
 refine hK _ _ (Qb (kp1 rfl) ?_)
 refine Qu (ZE (cs := [_, _, _, _, _, _, _]) rfl rfl rfl rfl ?_)
 exact rfl
theorem YN {a b c : Int} {p q : List UInt8} : Ok Tryz.prog 69 [.agg [.int .i64 a, .int .i64 b, .int .i64 c, .str p, .str q]] (.agg [.int .i64 0, .int .i64 a, .int .i64 b, .int .i64 c, .str p, .str [], .bool false]) := by
 refine Ok.ofT ZX Tryz.func69 QsK (Nat.le_of_ble_eq_true rfl) ?_
 show TW _ _ tf69.body _ _
 refine Qe fun K hK => Zw rfl rfl rfl (ZC rfl ?_)
 refine hK _ _ (Qb (kp2 rfl rfl) ?_)
 refine Qe fun K hK => QD (cs := [_, _, _, _, _]) rfl rfl rfl rfl (QC (Qai) rfl rfl (.inl rfl) (QR rfl rfl (Q5 rfl rfl rfl rfl rfl rfl rfl rfl ?_)))
 refine hK _ _ (Qb (kp1 rfl) ?_)
 refine Qu (ZE (cs := [_, _, _, _, _, _, _]) rfl rfl rfl rfl ?_)
 exact rfl
theorem QbX {a b c : Int} {p q : List UInt8} : Ok Tryz.prog 70 [.agg [.int .i64 a, .int .i64 b, .int .i64 c, .str p, .str q]] (.agg [.int .i64 0, .int .i64 a, .int .i64 b, .int .i64 c, .str p, .str [], .bool true]) := by
 refine Ok.ofT ZX Tryz.func70 QsL (Nat.le_of_ble_eq_true rfl) ?_
 show TW _ _ tf70.body _ _
 refine Qe fun K hK => Zw rfl rfl rfl (ZC rfl ?_)
 refine hK _ _ (Qb (kp2 rfl rfl) ?_)
 refine Qe fun K hK => QD (cs := [_, _, _, _, _]) rfl rfl rfl rfl (QC (Qai) rfl rfl (.inl rfl) (QR rfl rfl (Q5 rfl rfl rfl rfl rfl rfl rfl rfl ?_)))
 refine hK _ _ (Qb (kp1 rfl) ?_)
 refine Qu (ZE (cs := [_, _, _, _, _, _, _]) rfl rfl rfl rfl ?_)
 exact rfl
theorem X2 {a b c : Int} {p q : List UInt8} : Ok Tryz.prog 93 [.agg [.int .i64 a, .int .i64 b, .int .i64 c, .str p, .str q]] (.bool (QgP a b c)) := by
 refine Ok.ofT ZX Tryz.func93 Qs5 (Nat.le_of_ble_eq_true rfl) ?_
 show TW _ _ tf93.body _ _
 refine Qe fun K hK => Zw rfl rfl rfl (Qa rfl ?_)
 refine hK _ _ (Qb (kp1 rfl) ?_)
 refine Qe fun K hK => Qh rfl rfl (Qz rfl rfl rfl (Zy rfl rfl (Qa rfl ?_)))
 refine Qy (g := 6) rfl (fun h1 => ?_) (fun h1 => ?_)
 ·try rw [h1]
  try simp only [qa, qb, qc, qd, qe] at h1
  refine Qg rfl (Qh rfl rfl (Qg rfl (Qz rfl rfl rfl (Qg rfl (Zy rfl rfl (Qk rfl rfl (Qa rfl ?_)))))))
  refine Qy (g := 11) rfl (fun h2 => ?_) (fun h2 => ?_)
  ·try rw [h2]
   try simp only [qa, qb, qc, qd, qe] at h2
   refine Qg rfl (Qh rfl rfl (Qg rfl (Qz rfl rfl rfl (Qg rfl (Zy rfl rfl (Qk rfl rfl (Qa rfl ?_)))))))
   refine hK _ _ (Qb (kp1 rfl) ?_)
   refine Qu (Qq rfl ?_)
   simp_all [QgP]
  ·try rw [h2]
   try simp only [qa, qb, qc, qd, qe] at h2
   refine Qo rfl (Qo rfl (Qo rfl (Qk rfl rfl (Qa rfl ?_))))
   refine hK _ _ (Qb (kp1 rfl) ?_)
   refine Qu (Qq rfl ?_)
   simp_all [QgP]
 ·try rw [h1]
  try simp only [qa, qb, qc, qd, qe] at h1
  refine Qo rfl (Qo rfl (Qo rfl (Qk rfl rfl (Qa rfl (Qo rfl (Qo rfl (Qo rfl (Qk rfl rfl (Qa rfl ?_)))))))))
  refine hK _ _ (Qb (kp1 rfl) ?_)
  refine Qu (Qq rfl ?_)
  simp_all [QgP]
end Go.Proofs
namespace Go.Proofs
open Go Go.Abs M3 M25
set_option linter.unusedVariables false
set_option linter.unusedSimpArgs false
theorem Qc5 {a b c : Int} {p q : List UInt8} (hp : p.length <= 1000000) (hq : q.length <= 1000000) {part : Int} : Ok Tryz.prog 109 [.agg [.int .i64 a, .int .i64 b, .int .i64 c, .str p, .str q], .int .i64 part] (dOV (X9 a b c p q part)) := by
 refine Ok.ofT ZX Tryz.func109 Qrv (Nat.le_of_ble_eq_true rfl) ?_
 show TW _ _ tf109.body _ _
 refine Qe fun K hK => Zw rfl rfl rfl (ZC rfl (Qa rfl ?_))
 refine hK _ _ (Qb (kp3 rfl rfl rfl) ?_)
 refine QG ?_ -- 0
 refine Qe fun K hK => QD (cs := [_, _, _, _, _]) rfl rfl rfl rfl (QC (Zg (by omega) (by omega)) rfl rfl (.inr rfl) (Yb rfl (Qa rfl ?_)))
 refine Qy (g := 10) rfl (fun h1 => ?_) (fun h1 => ?_)
 ·try rw [h1]
  try simp only [qa, qb, qc, qd, qe] at h1
  refine Qo rfl (Qo rfl (Qk rfl rfl (Qa rfl (Qo rfl (Qo rfl (Qk rfl rfl ?_))))))
  refine hK _ _ (Qb (kp4 rfl rfl rfl rfl) ?_)
  refine Zp rfl (Qe fun K hK => QR rfl rfl (Q5 rfl rfl rfl rfl rfl rfl rfl rfl (Qa rfl ?_)))
  refine hK _ _ (Qb (kp2 rfl rfl) ?_)
  refine Qu (Qj (Post.eq (XE (ds := [.int .i64 _, .int .i64 _, .int .i64 _, .str _, .str _]) (d' := .bool _) (cs := [_, _, _, _, _]) rfl rfl rfl rfl rfl ⟨rfl, rfl⟩) ?_))
  first | (simp [X9, dOV, h1]; done) | (simp_all [X9, dOV]; done)
 ·try rw [h1]
  try simp only [qa, qb, qc, qd, qe] at h1
  refine Qg rfl (Qa rfl (Qg rfl (Yj rfl rfl (Qk rfl rfl (Qa rfl ?_)))))
  refine Qy (g := 14) rfl (fun h2 => ?_) (fun h2 => ?_)
  ·try rw [h2]
   try simp only [qa, qb, qc, qd, qe] at h2
   refine Qo rfl (Qo rfl (Qk rfl rfl ?_))
   refine hK _ _ (Qb (kp4 rfl rfl rfl rfl) ?_)
   refine Zp rfl (Qe fun K hK => QR rfl rfl (Q5 rfl rfl rfl rfl rfl rfl rfl rfl (Qa rfl ?_)))
   refine hK _ _ (Qb (kp2 rfl rfl) ?_)
   refine Qu (Qj (Post.eq (XE (ds := [.int .i64 _, .int .i64 _, .int .i64 _, .str _, .str _]) (d' := .bool _) (cs := [_, _, _, _, _]) rfl rfl rfl rfl rfl ⟨rfl, rfl⟩) ?_))
   first | (simp [X9, dOV, h1, h2]; done) | (simp_all [X9, dOV]; done)
  ·try rw [h2]
   try simp only [qa, qb, qc, qd, qe] at h2
   refine Qg rfl (Qa rfl (Qg rfl (Qh6 rfl rfl (Qk rfl rfl ?_))))
   refine hK _ _ (Qb (kp4 rfl rfl rfl rfl) ?_)
   refine Qw rfl (fun h3 => ?_) (fun h3 => ?_)
   ·try rw [h3]
    try simp only [qa, qb, qc, qd, qe] at h3
    refine Qe fun K hK => QR rfl rfl (Q5 rfl rfl rfl rfl rfl rfl rfl rfl (Qa rfl ?_))
    refine hK _ _ (Qb (kp2 rfl rfl) ?_)
    refine Qu (Qj (Post.eq (XE (ds := [.int .i64 _, .int .i64 _, .int .i64 _, .str _, .str _]) (d' := .bool _) (cs := [_, _, _, _, _]) rfl rfl rfl rfl rfl ⟨rfl, rfl⟩) ?_))
    first | (simp [X9, dOV, h1, h2, h3]; done) | (simp_all [X9, dOV]; done)
   ·try rw [h3]
    try simp only [qa, qb, qc, qd, qe] at h3
    refine Qv (Qd (kp3 rfl rfl rfl) (Qe fun K hK => ZC rfl ?_))
    refine hK _ _ (Qb (kp4 rfl rfl rfl rfl) ?_)
    refine QG ?_ -- 1
    refine Qe fun K hK => Qa rfl ?_
    refine hK _ _ (Qb (kp4 rfl rfl rfl rfl) ?_)
    refine QE (Qe fun K hK => Zy rfl rfl (Qa rfl ?_))
    refine hK _ _ (Qb (kp5 rfl rfl rfl rfl rfl) ?_)
    refine Qw rfl (fun h4 => ?_) (fun h4 => ?_)
    ·try rw [h4]
     try simp only [qa, qb, qc, qd, qe] at h4
     refine QP fun K hK => Qh rfl rfl (Qz rfl rfl rfl (Q6 rfl rfl (Qs (by have := Qcx (by simpa using h1); omega) (by have := Qcx (by simpa using h1); omega)) (QR rfl rfl (Q5 rfl rfl rfl rfl rfl rfl rfl rfl (hK _ ?_)))))
     refine Qi (Qd (kp2 rfl rfl) ?_)
     refine QG ?_ -- 2
     refine Qe fun K hK => QD (cs := [_, _, _, _, _]) rfl rfl rfl rfl (QC (Zg (by simp) (by simp)) rfl rfl (.inr rfl) (Yb rfl ?_))
     refine hK _ _ (Qb (kp3 rfl rfl rfl) ?_)
     refine Qw rfl (fun h5 => ?_) (fun h5 => ?_)
     ·try rw [h5]
      try simp only [qa, qb, qc, qd, qe] at h5
      refine Qe fun K hK => QR rfl rfl (Q5 rfl rfl rfl rfl rfl rfl rfl rfl (Qa rfl ?_))
      refine hK _ _ (Qb (kp2 rfl rfl) ?_)
      refine Qu (Qj (Post.eq (XE (ds := [.int .i64 _, .int .i64 _, .int .i64 _, .str _, .str _]) (d' := .bool _) (cs := [_, _, _, _, _]) rfl rfl rfl rfl rfl ⟨rfl, rfl⟩) ?_))
      first | (simp [X9, dOV, h1, h2, h3, h4, h5]; done) | (simp_all [X9, dOV]; done)
     ·try rw [h5]
      try simp only [qa, qb, qc, qd, qe] at h5
      refine Qv (Qd (kp2 rfl rfl) (Qe fun K hK => QD (cs := [_, _, _, _, _]) rfl rfl rfl rfl (Q5 rfl rfl rfl rfl rfl rfl rfl rfl (Qa rfl ?_))))
      refine hK _ _ (Qb (kp2 rfl rfl) ?_)
      refine Qu (Post.eq (XE (ds := [.int .i64 _, .int .i64 _, .int .i64 _, .str _, .str _]) (d' := .bool _) (cs := [_, _, _, _, _]) rfl rfl rfl rfl rfl ⟨rfl, rfl⟩) ?_)
      first | (simp [X9, dOV, h1, h2, h3, h4, h5]; done) | (simp_all [X9, dOV]; done)
    ·try rw [h4]
     try simp only [qa, qb, qc, qd, qe] at h4
     refine Qe fun K hK => Zy rfl rfl (Qa rfl ?_)
     refine hK _ _ (Qb (kp4 rfl rfl rfl rfl) ?_)
     refine Qw rfl (fun h6 => ?_) (fun h6 => ?_)
     ·try rw [h6]
      try simp only [qa, qb, qc, qd, qe] at h6
      refine QP fun K hK => Qh rfl rfl (Qz rfl rfl rfl (Qh rfl rfl (Qz rfl rfl rfl (Q6 rfl rfl (Qs (by have := Qcx (by simpa using h1); omega) (by have := Qcx (by simpa using h1); omega)) (QR rfl rfl (Q5 rfl rfl rfl rfl rfl rfl rfl rfl (hK _ ?_)))))))
      refine Qi (Qd (kp2 rfl rfl) ?_)
      refine QG ?_ -- 2
      refine Qe fun K hK => QD (cs := [_, _, _, _, _]) rfl rfl rfl rfl (QC (Zg (by simp) (by simp)) rfl rfl (.inr rfl) (Yb rfl ?_))
      refine hK _ _ (Qb (kp3 rfl rfl rfl) ?_)
      refine Qw rfl (fun h7 => ?_) (fun h7 => ?_)
      ·try rw [h7]
       try simp only [qa, qb, qc, qd, qe] at h7
       refine Qe fun K hK => QR rfl rfl (Q5 rfl rfl rfl rfl rfl rfl rfl rfl (Qa rfl ?_))
       refine hK _ _ (Qb (kp2 rfl rfl) ?_)
       refine Qu (Qj (Post.eq (XE (ds := [.int .i64 _, .int .i64 _, .int .i64 _, .str _, .str _]) (d' := .bool _) (cs := [_, _, _, _, _]) rfl rfl rfl rfl rfl ⟨rfl, rfl⟩) ?_))
       first | (simp [X9, dOV, h1, h2, h3, h4, h6, h7]; done) | (simp_all [X9, dOV]; done)
      ·try rw [h7]
       try simp only [qa, qb, qc, qd, qe] at h7
       refine Qv (Qd (kp2 rfl rfl) (Qe fun K hK => QD (cs := [_, _, _, _, _]) rfl rfl rfl rfl (Q5 rfl rfl rfl rfl rfl rfl rfl rfl (Qa rfl ?_))))
       refine hK _ _ (Qb (kp2 rfl rfl) ?_)
       refine Qu (Post.eq (XE (ds := [.int .i64 _, .int .i64 _, .int .i64 _, .str _, .str _]) (d' := .bool _) (cs := [_, _, _, _, _]) rfl rfl rfl rfl rfl ⟨rfl, rfl⟩) ?_)
       first | (simp [X9, dOV, h1, h2, h3, h4, h6, h7]; done) | (simp_all [X9, dOV]; done)
     ·try rw [h6]
      try simp only [qa, qb, qc, qd, qe] at h6
      refine QP fun K hK => Qh rfl rfl (Qz rfl rfl rfl (Qh rfl rfl (Qz rfl rfl rfl (Qh rfl rfl (Qz rfl rfl rfl (Q6 rfl rfl (Qs (by have := Qcx (by simpa using h1); omega) (by have := Qcx (by simpa using h1); omega)) (QR rfl rfl (Q5 rfl rfl rfl rfl rfl rfl rfl rfl (hK _ ?_)))))))))
      refine Qi (Qd (kp2 rfl rfl) ?_)
      refine QG ?_ -- 2
      refine Qe fun K hK => QD (cs := [_, _, _, _, _]) rfl rfl rfl rfl (QC (Zg (by simp) (by simp)) rfl rfl (.inr rfl) (Yb rfl ?_))
      refine hK _ _ (Qb (kp3 rfl rfl rfl) ?_)
      refine Qw rfl (fun h8 => ?_) (fun h8 => ?_)
      ·try rw [h8]
       try simp only [qa, qb, qc, qd, qe] at h8
       refine Qe fun K hK => QR rfl rfl (Q5 rfl rfl rfl rfl rfl rfl rfl rfl (Qa rfl ?_))
       refine hK _ _ (Qb (kp2 rfl rfl) ?_)
       refine Qu (Qj (Post.eq (XE (ds := [.int .i64 _, .int .i64 _, .int .i64 _, .str _, .str _]) (d' := .bool _) (cs := [_, _, _, _, _]) rfl rfl rfl rfl rfl ⟨rfl, rfl⟩) ?_))
       first | (simp [X9, dOV, h1, h2, h3, h4, h6, h8]; done) | (simp_all [X9, dOV]; done)
      ·try rw [h8]
       try simp only [qa, qb, qc, qd, qe] at h8
       refine Qv (Qd (kp2 rfl rfl) (Qe fun K hK => QD (cs := [_, _, _, _, _]) rfl rfl rfl rfl (Q5 rfl rfl rfl rfl rfl rfl rfl rfl (Qa rfl ?_))))
       refine hK _ _ (Qb (kp2 rfl rfl) ?_)
       refine Qu (Post.eq (XE (ds := [.int .i64 _, .int .i64 _, .int .i64 _, .str _, .str _]) (d' := .bool _) (cs := [_, _, _, _, _]) rfl rfl rfl rfl rfl ⟨rfl, rfl⟩) ?_)
       first | (simp [X9, dOV, h1, h2, h3, h4, h6, h8]; done) | (simp_all [X9, dOV]; done)
theorem Qc6 {a b c : Int} {p q : List UInt8} (hp : p.length <= 1000000) (hq : q.length <= 1000000) : Ok Tryz.prog 95 [.agg [.int .i64 a, .int .i64 b, .int .i64 c, .str p, .str q]] (dOV (QiK a b c p q)) := by
 refine Ok.ofT ZX Tryz.func95 Qs7 (Nat.le_of_ble_eq_true rfl) ?_
 show TW _ _ tf95.body _ _
 refine Qe fun K hK => Zw rfl rfl rfl (ZC rfl (Qa rfl ?_))
 refine hK _ _ (Qb (kp2 rfl rfl) ?_)
 refine QG ?_ -- 0
 refine Qe fun K hK => QD (cs := [_, _, _, _, _]) rfl rfl rfl rfl (QC (Zg (by omega) (by omega)) rfl rfl (.inr rfl) (Yb rfl ?_))
 refine hK _ _ (Qb (kp3 rfl rfl rfl) ?_)
 refine Qw rfl (fun h1 => ?_) (fun h1 => ?_)
 ·try rw [h1]
  try simp only [qa, qb, qc, qd, qe] at h1
  refine Qe fun K hK => QR rfl rfl (Q5 rfl rfl rfl rfl rfl rfl rfl rfl (Qa rfl ?_))
  refine hK _ _ (Qb (kp2 rfl rfl) ?_)
  refine Qu (Qj (Post.eq (XE (ds := [.int .i64 _, .int .i64 _, .int .i64 _, .str _, .str _]) (d' := .bool _) (cs := [_, _, _, _, _]) rfl rfl rfl rfl rfl ⟨rfl, rfl⟩) ?_))
  simp [QiK, dOV, h1]
 ·try rw [h1]
  try simp only [qa, qb, qc, qd, qe] at h1
  refine Qv (Qd (kp2 rfl rfl) ?_)
  refine QG ?_ -- 1
  refine Qe fun K hK => Qh rfl rfl (Qz rfl rfl rfl (Qns rfl rfl ?_))
  refine hK _ _ (Qb (kp3 rfl rfl rfl) ?_)
  refine Qw rfl (fun h2 => ?_) (fun h2 => ?_)
  ·try rw [h2]
   try simp only [qa, qb, qc, qd, qe] at h2
   refine Qe fun K hK => Qh rfl rfl (Qz rfl rfl rfl (Qh rfl rfl (Qz rfl rfl rfl (Qh rfl rfl (Qz rfl rfl rfl (QR rfl rfl (Q5 rfl rfl rfl rfl rfl rfl rfl rfl (Qa rfl ?_))))))))
   refine hK _ _ (Qb (kp2 rfl rfl) ?_)
   refine Qu (Qj (Post.eq (XE (ds := [.int .i64 _, .int .i64 _, .int .i64 _, .str _, .str _]) (d' := .bool _) (cs := [_, _, _, _, _]) rfl rfl rfl rfl rfl ⟨rfl, rfl⟩) ?_))
   simp [QiK, dOV, h1, h2]
  ·try rw [h2]
   try simp only [qa, qb, qc, qd, qe] at h2
   refine Qv (Qd (kp2 rfl rfl) ?_)
   refine QG ?_ -- 2
   refine Qe fun K hK => Qa rfl ?_
   refine hK _ _ (Qb (kp3 rfl rfl rfl) ?_)
   refine QE ?_
   refine Zv (ι := Nat) (fun m => ⟨[(1, .ref 1 0 0), (2, .ref 2 0 0), (4, .int .i64 ((m : Int) - 1))], [(1, ⟨[[.int .i64 a, .int .i64 b, .int .i64 c, .str p, .str q]], 5, 68, true⟩), (2, ⟨[[.int .i64 0, .int .i64 0, .int .i64 0, .str [], .str []]], 5, 68, true⟩)]⟩) (fun m => m <= 3 /\ XG a b c p q 3 = XG a b c p q m) (fun m => m) 3 ?_ ?_ ?_
   ·exact Zc (l := [1, 2, 4]) (lH := [1, 2]) (kp3 rfl rfl rfl) (Qf rfl (Qf rfl Qr)) rfl rfl rfl
   ·exact ⟨by omega, rfl⟩
   intro m hI
   obtain ⟨hI1, hI2⟩ := hI
   try dsimp only
   refine QG ?_ -- 3
   refine Qe fun K hK => Qa rfl (Qfg rfl rfl ?_)
   refine hK _ _ (Qb (kp4 rfl rfl rfl rfl) ?_)
   refine Qw rfl (fun h3 => ?_) (fun h3 => ?_)
   ·try rw [h3]
    try simp only [qa, qb, qc, qd, qe] at h3
    rcases Nat.eq_zero_or_pos m with hm | hm <;> first | omega | skip
    refine Qv (Qd (kp3 rfl rfl rfl) ?_)
    refine QG ?_ -- 4
    refine QE (Qe fun K hK => QD (cs := [_, _, _, _, _]) rfl rfl rfl rfl (Qa rfl (QC (Qc5 (by omega) (by omega)) rfl rfl (.inl rfl) (Qa rfl (Q3 rfl rfl (Q3 rfl rfl (ZC rfl (Q5 rfl rfl rfl rfl rfl rfl rfl rfl (Qa rfl ?_)))))))))
    refine hK _ _ (Qb (kp5 rfl rfl rfl rfl rfl) ?_)
    refine Qe fun K hK => Qa rfl ?_
    refine hK _ _ (Qb (kp5 rfl rfl rfl rfl rfl) ?_)
    refine Qw rfl (fun h4 => ?_) (fun h4 => ?_)
    ·try rw [h4]
     try simp only [qa, qb, qc, qd, qe] at h4
     refine Qe fun K hK => QD (cs := [_, _, _, _, _]) rfl rfl rfl rfl (Q5 rfl rfl rfl rfl rfl rfl rfl rfl (Qa rfl ?_))
     refine hK _ _ (Qb (kp2 rfl rfl) ?_)
     refine Qu (Qt (Qj (Q4 (Qt (Qj (Post.eq (XE (ds := [.int .i64 _, .int .i64 _, .int .i64 _, .str _, .str _]) (d' := .bool _) (cs := [_, _, _, _, _]) rfl rfl rfl rfl rfl ⟨rfl, rfl⟩) ?_))))))
     subst h2
     simp [QiK, dOV, h1, hI2, Qii hm h4, h4]
    ·try rw [h4]
     try simp only [qa, qb, qc, qd, qe] at h4
     refine Qv (Qi (Qd (kp3 rfl rfl rfl) (QP fun K hK => Qa rfl (XW rfl rfl (by first | exact Qs (by omega) (by omega) | rfl) (Qa rfl (hK _ ?_))))))
     refine Ql (m - 1) ?_ ?_ ?_
     ·refine Zc (l := [1, 2, 4]) (lH := [1, 2]) (kp3 rfl rfl rfl) (Qf rfl (Qf rfl Qr)) ?_ rfl rfl; simp only [List.cons.injEq, Prod.mk.injEq, D.int.injEq, and_true, true_and]; omega
     ·exact ⟨by omega, by rw [hI2]; exact Qjt hm h4⟩
     ·show m - 1 < m; omega
   ·try rw [h3]
    try simp only [qa, qb, qc, qd, qe] at h3
    rcases Nat.eq_zero_or_pos m with hm | hm <;> first | omega | skip
    refine Zo (QN (QB (QI (Qd (kp1 rfl) (Qe fun K hK => QR rfl rfl (Q5 rfl rfl rfl rfl rfl rfl rfl rfl (Qa rfl ?_)))))))
    refine hK _ _ (Qb (kp2 rfl rfl) ?_)
    refine Qu (Post.eq (XE (ds := [.int .i64 _, .int .i64 _, .int .i64 _, .str _, .str _]) (d' := .bool _) (cs := [_, _, _, _, _]) rfl rfl rfl rfl rfl ⟨rfl, rfl⟩) ?_)
    subst h2
    subst hm
    have hb : XG a b c [] q 3 = none := hI2
    simp [QiK, dOV, h1, hb]
end Go.Proofs
namespace Go.Proofs
open Go Go.Abs M3 M25
set_option linter.unusedVariables false
set_option linter.unusedSimpArgs false
theorem X3 {e a b c : Int} {p q : List UInt8} {f : Bool} : Ok Tryz.prog 117 [.agg [.int .i64 e, .int .i64 a, .int .i64 b, .int .i64 c, .str p, .str q, .bool f]] (.bool (QgS e a b c p q f)) := by
 refine Ok.ofT ZX Tryz.func117 QrD (Nat.le_of_ble_eq_true rfl) ?_
 show TW _ _ tf117.body _ _
 refine Qe fun K hK => Zw rfl rfl rfl (Qa rfl ?_)
 refine hK _ _ (Qb (kp1 rfl) ?_)
 refine Qe fun K hK => Qh rfl rfl (Qz rfl rfl rfl (X5 rfl rfl (Qa rfl ?_)))
 refine Qy (g := 6) rfl (fun h1 => ?_) (fun h1 => ?_)
 ·try rw [h1]
  try simp only [qa, qb, qc, qd, qe] at h1
  refine Qo rfl (Qo rfl (Qo rfl (Qo rfl (ZB rfl (ZB rfl (ZB rfl (ZB rfl (Qo rfl (Qo rfl (ZB rfl (ZB rfl ?_)))))))))))
  refine ZB rfl (ZB rfl (Qo rfl (Qk rfl rfl (Qa rfl ?_))))
  refine hK _ _ (Qb (kp1 rfl) ?_)
  refine Qu (Qq rfl ?_)
  simp_all [QgS]
 ·try rw [h1]
  try simp only [qa, qb, qc, qd, qe] at h1
  refine Qg rfl (Qh rfl rfl (Qg rfl (Qz rfl rfl rfl (Qg rfl (Yb rfl (Qg rfl (Qa rfl ?_)))))))
  refine Qy (g := 10) rfl (fun h2 => ?_) (fun h2 => ?_)
  ·try rw [h2]
   try simp only [qa, qb, qc, qd, qe] at h2
   refine Qg rfl (Qh rfl rfl (Qg rfl (Qh rfl rfl (Qg rfl (Qz rfl rfl rfl (Qg rfl (Qff rfl rfl (Qg rfl (Qk rfl rfl (Qg rfl (Qa rfl ?_)))))))))))
   refine Qy (g := 16) rfl (fun h3 => ?_) (fun h3 => ?_)
   ·try rw [h3]
    try simp only [qa, qb, qc, qd, qe] at h3
    refine Qg rfl (Qh rfl rfl (Qg rfl (QD (cs := [_, _, _, _, _]) rfl rfl rfl rfl (Qg rfl (QC (X2) rfl rfl (.inr rfl) (Qg rfl (Yb rfl (Qg rfl (Qk rfl rfl (Qk rfl rfl (Qa rfl ?_)))))))))))
    refine hK _ _ (Qb (kp1 rfl) ?_)
    refine Qu (Qq rfl ?_)
    simp_all [QgS]
   ·try rw [h3]
    try simp only [qa, qb, qc, qd, qe] at h3
    refine Qo rfl (Qo rfl (Qo rfl (Qo rfl (Qg rfl (Qk rfl rfl (Qk rfl rfl (Qa rfl ?_)))))))
    refine hK _ _ (Qb (kp1 rfl) ?_)
    refine Qu (Qq rfl ?_)
    simp_all [QgS]
  ·try rw [h2]
   try simp only [qa, qb, qc, qd, qe] at h2
   refine Qo rfl (Qo rfl (Qo rfl (Qo rfl (Qg rfl (Qk rfl rfl (Qg rfl (Qa rfl (Qo rfl (Qo rfl (Qo rfl (Qo rfl ?_)))))))))))
   refine Qg rfl (Qk rfl rfl (Qk rfl rfl (Qa rfl ?_)))
   refine hK _ _ (Qb (kp1 rfl) ?_)
   refine Qu (Qq rfl ?_)
   simp_all [QgS]
theorem QcS {a b c : Int} {p q : List UInt8} : Ok Tryz.prog 71 [.agg [.int .i64 a, .int .i64 b, .int .i64 c, .str p, .str q]] (.agg (dCu (QfT a b c))) := by
 refine Ok.ofT ZX Tryz.func71 QsM (Nat.le_of_ble_eq_true rfl) ?_
 show TW _ _ tf71.body _ _
 refine Qe fun K hK => Zw rfl rfl rfl (ZC rfl ?_)
 refine hK _ _ (Qb (kp2 rfl rfl) ?_)
 refine QG ?_ -- 0
 refine Qe fun K hK => QD (cs := [_, _, _, _, _]) rfl rfl rfl rfl (QC (X2) rfl rfl (.inr rfl) ?_)
 refine hK _ _ (Qb (kp3 rfl rfl rfl) ?_)
 refine Qw rfl (fun h1 => ?_) (fun h1 => ?_)
 ·try rw [h1]
  try simp only [qa, qb, qc, qd, qe] at h1
  refine Qe fun K hK => QC (YZ) rfl rfl (.inl rfl) (Q5 rfl rfl rfl rfl rfl rfl rfl rfl ?_)
  refine hK _ _ (Qb (kp1 rfl) ?_)
  refine Qu (Qj (Post.eq (ZE (ds := [.int .i64 _, .int .i64 _, .int .i64 _, .int .i64 _, .str _, .str _, .bool _]) (cs := [_, _, _, _, _, _, _]) rfl rfl rfl rfl rfl) ?_))
  simp [QfT, dCu, QcV, h1]
 ·try rw [h1]
  try simp only [qa, qb, qc, qd, qe] at h1
  refine Qv (Qd (kp2 rfl rfl) (Qe fun K hK => Qh rfl rfl (Qz rfl rfl rfl (Qh rfl rfl (Qz rfl rfl rfl (Qh rfl rfl (Qz rfl rfl rfl (QR rfl rfl (QC (YN) rfl rfl (.inl rfl) (Q5 rfl rfl rfl rfl rfl rfl rfl rfl ?_))))))))))
  refine hK _ _ (Qb (kp1 rfl) ?_)
  refine Qu (Post.eq (ZE (ds := [.int .i64 _, .int .i64 _, .int .i64 _, .int .i64 _, .str _, .str _, .bool _]) (cs := [_, _, _, _, _, _, _]) rfl rfl rfl rfl rfl) ?_)
  simp [QfT, dCu, QcV, h1]
theorem QbY {a b c : Int} {p q : List UInt8} : Ok Tryz.prog 72 [.agg [.int .i64 a, .int .i64 b, .int .i64 c, .str p, .str q]] (.agg (dCu (QdI a b c))) := by
 refine Ok.ofT ZX Tryz.func72 QsN (Nat.le_of_ble_eq_true rfl) ?_
 show TW _ _ tf72.body _ _
 refine Qe fun K hK => Zw rfl rfl rfl (ZC rfl ?_)
 refine hK _ _ (Qb (kp2 rfl rfl) ?_)
 refine Qe fun K hK => Qh rfl rfl (Qz rfl rfl rfl (Qh rfl rfl (Qz rfl rfl rfl (Qh rfl rfl (Qz rfl rfl rfl (QR rfl rfl (QC (Qc6 (by simp) (by simp)) rfl rfl (.inl rfl) (Qa rfl (Q3 rfl rfl (Q3 rfl rfl ?_))))))))))
 refine ZC rfl (Q5 rfl rfl rfl rfl rfl rfl rfl rfl (Qa rfl ?_))
 refine hK _ _ (Qb (kp3 rfl rfl rfl) ?_)
 refine QG ?_ -- 0
 refine Qe fun K hK => Qa rfl (Yb rfl ?_)
 refine hK _ _ (Qb (kp3 rfl rfl rfl) ?_)
 refine Qw rfl (fun h1 => ?_) (fun h1 => ?_)
 ·try rw [h1]
  try simp only [qa, qb, qc, qd, qe] at h1
  refine Qe fun K hK => QC (Xb) rfl rfl (.inl rfl) (Q5 rfl rfl rfl rfl rfl rfl rfl rfl ?_)
  refine hK _ _ (Qb (kp1 rfl) ?_)
  refine Qu (Qj (Post.eq (ZE (ds := [.int .i64 _, .int .i64 _, .int .i64 _, .int .i64 _, .str _, .str _, .bool _]) (cs := [_, _, _, _, _, _, _]) rfl rfl rfl rfl rfl) ?_))
  cases hn : QiK a b c [] [] <;> simp [QdI, dCu, Qgm, hn] at *
 ·try rw [h1]
  try simp only [qa, qb, qc, qd, qe] at h1
  refine Qv (Qd (kp2 rfl rfl) (Qe fun K hK => QD (cs := [_, _, _, _, _]) rfl rfl rfl rfl (QC (YN) rfl rfl (.inl rfl) (Q5 rfl rfl rfl rfl rfl rfl rfl rfl ?_))))
  refine hK _ _ (Qb (kp1 rfl) ?_)
  refine Qu (Post.eq (ZE (ds := [.int .i64 _, .int .i64 _, .int .i64 _, .int .i64 _, .str _, .str _, .bool _]) (cs := [_, _, _, _, _, _, _]) rfl rfl rfl rfl rfl) ?_)
  cases hn : QiK a b c [] [] <;> simp [QdI, dCu, Qgm, hn] at *
theorem X4  : Ok Tryz.prog 112 [] (ZF [(QcV, Qgm)]) := by
 refine Ok.ofT ZX Tryz.func112 Qry (Nat.le_of_ble_eq_true rfl) ?_
 show TW _ _ tf112.body _ _
 refine Qe fun K hK => Qa rfl ?_
 refine hK _ _ (Qb (Q2) ?_)
 refine Qe fun K hK => QC (YZ) rfl rfl (.inl rfl) (QC (Xb) rfl rfl (.inl rfl) (QR rfl rfl (QH rfl rfl (Qa rfl ?_))))
 refine hK _ _ (Qb (kp1 rfl) ?_)
 refine Qu (Yq rfl ?_)
 rfl
theorem Z7  : Ok Tryz.prog 68 [] (Qhj ([], [])) := by
 refine Ok.ofT ZX Tryz.func68 QsJ (Nat.le_of_ble_eq_true rfl) ?_
 show TW _ _ tf68.body _ _
 refine Qe fun K hK => ZC rfl ?_
 refine hK _ _ (Qb (kp1 rfl) ?_)
 refine Qe fun K hK => QR rfl rfl (Q5 rfl rfl rfl rfl rfl rfl rfl rfl ?_)
 refine hK _ _ (Qb (kp1 rfl) ?_)
 refine Qu (Post.eq (ZE (ds := [.sl _, .sl _]) (cs := [_, _]) rfl rfl rfl rfl rfl) ?_)
 rfl
theorem Qdr  : Ok Tryz.prog 98 [] (Qhj ([(QcV, Qgm)], [(QcV, Qgm)])) := by
 refine Ok.ofT ZX Tryz.func98 Qta (Nat.le_of_ble_eq_true rfl) ?_
 show TW _ _ tf98.body _ _
 refine Qe fun K hK => ZC rfl ?_
 refine hK _ _ (Qb (kp1 rfl) ?_)
 refine Qe fun K hK => QC (X4) rfl rfl (.inl rfl) (QC (X4) rfl rfl (.inl rfl) (QR rfl rfl (Q5 rfl rfl rfl rfl rfl rfl rfl rfl ?_)))
 refine hK _ _ (Qb (kp1 rfl) ?_)
 refine Qu (Post.eq (ZE (ds := [.sl _, .sl _]) (cs := [_, _]) rfl rfl rfl rfl rfl) ?_)
 rfl
theorem X1 {a b c : Int} {p q : List UInt8} (hp : p.length <= 1000000) (hq : q.length <= 1000000) : Ok Tryz.prog 41 [.agg [.int .i64 a, .int .i64 b, .int .i64 c, .str p, .str q]] (Qhj (Xg a b c p q)) := by
 refine Ok.ofT ZX Tryz.func41 Qso (Nat.le_of_ble_eq_true rfl) ?_
 show TW _ _ tf41.body _ _
 refine Qe fun K hK => Zw rfl rfl rfl (ZC rfl ?_)
 refine hK _ _ (Qb (kp2 rfl rfl) ?_)
 refine QG ?_ -- 0
 refine Qe fun K hK => QD (cs := [_, _, _, _, _]) rfl rfl rfl rfl (QC (Zg (by omega) (by omega)) rfl rfl (.inr rfl) (Yb rfl ?_))
 refine hK _ _ (Qb (kp3 rfl rfl rfl) ?_)
 refine Qw rfl (fun h1 => ?_) (fun h1 => ?_)
 ·try rw [h1]
  try simp only [qa, qb, qc, qd, qe] at h1
  refine Qe fun K hK => QC (Z7) rfl rfl (.inl rfl) (Q5 rfl rfl rfl rfl rfl rfl rfl rfl ?_)
  refine hK _ _ (Qb (kp1 rfl) ?_)
  refine Qu (Qj (Post.eq (ZE (ds := [.sl _, .sl _]) (cs := [_, _]) rfl rfl rfl rfl rfl) ?_))
  simp [Xg, Qhj, ZF, QeN, dCu, h1]
 ·try rw [h1]
  try simp only [qa, qb, qc, qd, qe] at h1
  refine Qv (Qd (kp2 rfl rfl) ?_)
  refine QG ?_ -- 1
  refine Qe fun K hK => Qh rfl rfl (Qz rfl rfl rfl (Qns rfl rfl ?_))
  refine hK _ _ (Qb (kp3 rfl rfl rfl) ?_)
  refine Qw rfl (fun h2 => ?_) (fun h2 => ?_)
  ·try rw [h2]
   try simp only [qa, qb, qc, qd, qe] at h2
   refine Qe fun K hK => QO (ds0 := [6, 3, 2, 1, 0]) (cs := [_, _, _, _, _]) rfl rfl rfl rfl rfl rfl (QY (ds0 := [3, 2, 1, 0]) (YN) rfl rfl (.inl rfl) rfl rfl (QO (ds0 := [4, 3, 2, 1, 0]) (cs := [_, _, _, _, _]) rfl rfl rfl rfl rfl rfl (QY (ds0 := [3, 2, 1, 0]) (QbX) rfl rfl (.inl rfl) rfl rfl (QR rfl rfl (QH rfl rfl (QR rfl rfl (Xk (ds0 := []) rfl rfl rfl rfl rfl rfl rfl rfl rfl rfl ?_)))))))
   refine hK _ _ (Qb (kp1 rfl) ?_)
   refine Qu (Qj (Post.eq (ZE (ds := [.sl _, .sl _]) (cs := [_, _]) rfl rfl rfl rfl rfl) ?_))
   simp [Xg, Qhj, ZF, QeN, dCu, h1, h2]
  ·try rw [h2]
   try simp only [qa, qb, qc, qd, qe] at h2
   refine Qv (Qd (kp2 rfl rfl) (Qe fun K hK => QO (ds0 := [6, 3, 2, 1, 0]) (cs := [_, _, _, _, _]) rfl rfl rfl rfl rfl rfl (QY (ds0 := [3, 2, 1, 0]) (QcS) rfl rfl (.inl rfl) rfl rfl (QO (ds0 := [4, 3, 2, 1, 0]) (cs := [_, _, _, _, _]) rfl rfl rfl rfl rfl rfl (QY (ds0 := [3, 2, 1, 0]) (QbY) rfl rfl (.inl rfl) rfl rfl (QR rfl rfl (QH rfl rfl (QR rfl rfl (Xk (ds0 := []) rfl rfl rfl rfl rfl rfl rfl rfl rfl rfl ?_)))))))))
   refine hK _ _ (Qb (kp1 rfl) ?_)
   refine Qu (Post.eq (ZE (ds := [.sl _, .sl _]) (cs := [_, _]) rfl rfl rfl rfl rfl) ?_)
   subst h2
   simp [Xg, Qhj, ZF, QeN, dCu, h1]
end Go.Proofs
namespace Go.Proofs
open Go Go.Abs M3 M25
set_option linter.unusedVariables false
set_option linter.unusedSimpArgs false
theorem ZV {l : List (Cu × Cu)} (hl : Sm l) : Ok Tryz.prog 116 [ZF l] (.bool (Qeo l)) := by
 refine Ok.ofT ZX Tryz.func116 QrC (Nat.le_of_ble_eq_true rfl) ?_
 show TW _ _ tf116.body _ _
 have hn := hl.1
 refine Qe fun K hK => Qa rfl ?_
 refine hK _ _ (Qb (kp1 rfl) ?_)
 refine QG ?_ -- 0
 refine Qe fun K hK => Qa rfl ?_
 refine hK _ _ (Qb (kp2 rfl rfl) ?_)
 refine QE ?_
 refine Zv (ι := Nat) (fun i => ⟨[(0, ZF l), (3, .int .i64 i)], []⟩) (fun i => i <= l.length /\ (List.range i).all (Qp2 l) = true) (fun i => l.length - i) 0 ?_ ?_ ?_
 ·exact Zh (kp2 rfl rfl)
 ·exact ⟨Nat.zero_le _, rfl⟩
 intro i hI
 try dsimp only
 refine QG ?_ -- 1
 refine Qe fun K hK => Qa rfl (Qa rfl (QU rfl rfl (Yj rfl rfl ?_)))
 refine hK _ _ (Qb (kp3 rfl rfl rfl) ?_)
 refine Qw rfl (fun h1 => ?_) (fun h1 => ?_)
 ·try rw [h1]
  try simp only [qa, qb, qc, qd, qe, List.length_map] at h1
  refine Qv (Qd (kp2 rfl rfl) ?_)
  refine QG ?_ -- 2
  refine QE (Qe fun K hK => Qa rfl (Qa rfl (QJ rfl rfl rfl (by omega) (QS (by omega)) rfl (QO (ds0 := [20, 19, 18, 17, 16, 15, 14, 13, 12, 11, 10, 9, 8, 7, 6, 5, 4, 3, 2, 1, 0]) (cs := [_, _, _, _, _, _, _, _, _, _, _, _, _, _]) rfl rfl rfl rfl rfl rfl (QY (ds0 := [19, 18, 17, 16, 15, 14, 13, 12, 11, 10, 9, 8, 7, 6, 5, 4, 3, 2, 1, 0]) (YF (hl.at (i := i) (by omega)).1.1 (hl.at (i := i) (by omega)).1.2 (hl.at (i := i) (by omega)).2.1 (hl.at (i := i) (by omega)).2.2) rfl rfl (.inr rfl) rfl rfl (Yb rfl (Qa rfl ?_)))))))
  refine Qy (g := 16) rfl (fun h2 => ?_) (fun h2 => ?_)
  ·try rw [h2]
   try simp only [qa, qb, qc, qd, qe, List.length_map] at h2
   refine Qo rfl (Qo rfl (Qo rfl (ZB rfl (ZB rfl (ZB rfl (ZB rfl (ZB rfl (ZB rfl (ZB rfl (ZB rfl (ZB rfl ?_)))))))))))
   refine ZB rfl (ZB rfl (ZB rfl (ZB rfl (Qo rfl (Qk rfl rfl ?_)))))
   refine hK _ _ (Qb (kp3 rfl rfl rfl) ?_)
   refine Zp rfl (Qe fun K hK => Qa rfl ?_)
   refine hK _ _ (Qb (kp1 rfl) ?_)
   refine Qu (Qt (Qj (Q4 (Qt (Qj (Qq rfl ?_))))))
   first
    | exact (Qe9 hI.2 (by omega)).symm
    | exact (Qby (i := i) (by omega) (QgY (by omega) (.inl h2))).symm
    | (simp only [QdS] at *; exact (Qby (i := i) (by omega) (QgY (by omega) (.inr ⟨by omega, h4⟩))).symm)
  ·try rw [h2]
   try simp only [qa, qb, qc, qd, qe, List.length_map] at h2
   refine Qg rfl (Qa rfl (Qg rfl (Qh6 rfl rfl (Qg rfl (Qa rfl ?_)))))
   refine Qy (g := 19) rfl (fun h3 => ?_) (fun h3 => ?_)
   ·try rw [h3]
    try simp only [qa, qb, qc, qd, qe, List.length_map] at h3
    refine Qg rfl (Qa rfl (Qg rfl (Qa rfl (Qg rfl (XW rfl rfl (by first | exact Qs (by omega) (by omega) | rfl) (Qg rfl (QJ rfl rfl rfl (by omega) (ZM (by omega) (by omega)) rfl (Qg rfl (Q7 rfl rfl (Qg rfl (QO (ds0 := [3, 2, 1, 0]) (cs := [_, _, _, _, _, _, _]) rfl rfl rfl rfl rfl rfl ?_)))))))))))
    refine Qg rfl (Qa rfl (Qg rfl (Qa rfl (Qg rfl (QJ rfl rfl rfl (by omega) (QS (by omega)) rfl (Qg rfl (Q7 rfl rfl (Qg rfl (QO (ds0 := [3, 2, 1, 0]) (cs := [_, _, _, _, _, _, _]) rfl rfl rfl rfl rfl rfl (Qg rfl (QY (ds0 := [2, 1, 0]) (Zu (hl.at (i := ((i : Int) - 1).toNat) (by omega)).2.1 (hl.at (i := ((i : Int) - 1).toNat) (by omega)).2.2 (hl.at (i := i) (by omega)).1.1 (hl.at (i := i) (by omega)).1.2) rfl rfl (.inr rfl) rfl rfl ?_)))))))))))
    refine Qg rfl (Qfg rfl rfl (Qg rfl (Qk rfl rfl (Qk rfl rfl ?_))))
    refine hK _ _ (Qb (kp3 rfl rfl rfl) ?_)
    refine Qw rfl (fun h4 => ?_) (fun h4 => ?_)
    ·try rw [h4]
     try simp only [qa, qb, qc, qd, qe, List.length_map] at h4
     refine Qe fun K hK => Qa rfl ?_
     refine hK _ _ (Qb (kp1 rfl) ?_)
     refine Qu (Qt (Qj (Q4 (Qt (Qj (Qq rfl ?_))))))
     first
      | exact (Qe9 hI.2 (by omega)).symm
      | exact (Qby (i := i) (by omega) (QgY (by omega) (.inl h2))).symm
      | (simp only [QdS] at *; exact (Qby (i := i) (by omega) (QgY (by omega) (.inr ⟨by omega, h4⟩))).symm)
    ·try rw [h4]
     try simp only [qa, qb, qc, qd, qe, List.length_map] at h4
     refine Qv (Qi (Qd (kp2 rfl rfl) (QP fun K hK => Qa rfl (Q6 rfl rfl (by first | exact Qs (by omega) (by omega) | rfl) (Qa rfl (hK _ ?_))))))
     refine Ql (i + 1) ?_ ?_ ?_
     ·exact Zh (kp2 rfl rfl)
     ·exact ⟨by omega, QhU hI.2 (QoU (by omega) h2 (by first | exact .inl (by omega) | (simp only [QdS] at *; exact .inr (Int.not_le.1 h4))))⟩
     ·first | omega | (simp only; omega) | (dsimp only; omega)
   ·try rw [h3]
    try simp only [qa, qb, qc, qd, qe, List.length_map] at h3
    refine Qo rfl (Qo rfl (Qo rfl (Qo rfl (Qo rfl (Qo rfl (Qo rfl (Qo rfl (Qo rfl (Qo rfl (Qo rfl (Qo rfl ?_)))))))))))
    refine Qo rfl (Qg rfl (Qk rfl rfl (Qk rfl rfl ?_)))
    refine hK _ _ (Qb (kp3 rfl rfl rfl) ?_)
    refine ZY rfl (Qv (Qi (Qd (kp2 rfl rfl) (QP fun K hK => Qa rfl (Q6 rfl rfl (by first | exact Qs (by omega) (by omega) | rfl) (Qa rfl (hK _ ?_)))))))
    refine Ql (i + 1) ?_ ?_ ?_
    ·exact Zh (kp2 rfl rfl)
    ·exact ⟨by omega, QhU hI.2 (QoU (by omega) h2 (by first | exact .inl (by omega) | (simp only [QdS] at *; exact .inr (Int.not_le.1 h4))))⟩
    ·first | omega | (simp only; omega) | (dsimp only; omega)
 ·try rw [h1]
  try simp only [qa, qb, qc, qd, qe, List.length_map] at h1
  refine Zo (QN (QB (QI (Qd (Q2) (Qe fun K hK => Qa rfl ?_)))))
  refine hK _ _ (Qb (kp1 rfl) ?_)
  refine Qu (Qq rfl ?_)
  first
   | exact (Qe9 hI.2 (by omega)).symm
   | exact (Qby (i := i) (by omega) (QgY (by omega) (.inl h2))).symm
   | (simp only [QdS] at *; exact (Qby (i := i) (by omega) (QgY (by omega) (.inr ⟨by omega, h4⟩))).symm)
theorem QaY {l : List (Cu × Cu)} (hl : Sm l) {x y : Cu} (hx : Cu.sm x) (hy : Cu.sm y) : Ok Tryz.prog 120 [ZF l, .agg (dCu x), .agg (dCu y)] (.bool (mIn l x y)) := by
 refine Ok.ofT ZX Tryz.func120 QrG (Nat.le_of_ble_eq_true rfl) ?_
 show TW _ _ tf120.body _ _
 have hn := hl.1
 refine Qe fun K hK => Zw rfl rfl rfl (Zw rfl rfl rfl (Qa rfl ?_))
 refine hK _ _ (Qb (kp3 rfl rfl rfl) ?_)
 refine QG ?_ -- 0
 refine Qe fun K hK => Qa rfl ?_
 refine hK _ _ (Qb (kp4 rfl rfl rfl rfl) ?_)
 refine QE ?_
 refine Zv (ι := Nat) (fun i => ⟨[(0, ZF l), (4, .ref 4 0 0), (5, .ref 5 0 0), (7, .int .i64 i)], [(4, ⟨[dCu x], 7, 112, true⟩), (5, ⟨[dCu y], 7, 112, true⟩)]⟩) (fun i => i <= l.length /\ (l.take i).any (inC x y) = false) (fun i => l.length - i) 0 ?_ ?_ ?_
 ·exact Zc (l := [0, 4, 5, 7]) (lH := [4, 5]) (kp4 rfl rfl rfl rfl) (Qf rfl (Qf rfl Qr)) rfl rfl rfl
 ·exact ⟨Nat.zero_le _, by simp⟩
 intro i hI
 try dsimp only
 refine QG ?_ -- 1
 refine Qe fun K hK => Qa rfl (Qa rfl (QU rfl rfl (Yj rfl rfl ?_)))
 refine hK _ _ (Qb (kp5 rfl rfl rfl rfl rfl) ?_)
 refine Qw rfl (fun h1 => ?_) (fun h1 => ?_)
 ·try rw [h1]
  try simp only [qa, qb, qc, qd, qe, List.length_map] at h1
  refine Qv (Qd (kp4 rfl rfl rfl rfl) ?_)
  refine QG ?_ -- 2
  refine QE (Qe fun K hK => Qa rfl (Qa rfl (QJ rfl rfl rfl (by omega) (QS (by omega)) rfl (Q7 rfl rfl (QO (ds0 := [11, 10, 9, 8, 7, 6, 5, 4, 3, 2, 1, 0]) (cs := [_, _, _, _, _, _, _]) rfl rfl rfl rfl rfl rfl (QO (ds0 := [11, 10, 9, 8, 7, 6, 5, 4, 3, 2, 1, 0]) (cs := [_, _, _, _, _, _, _]) rfl rfl rfl rfl rfl rfl (QY (ds0 := [10, 9, 8, 7, 6, 5, 4, 3, 2, 1, 0]) (Zu (hl.at (i := i) (by omega)).1.1 (hl.at (i := i) (by omega)).1.2 hx.1 hx.2) rfl rfl (.inr rfl) rfl rfl (Qo9 rfl rfl (Qa rfl ?_)))))))))
  refine Qy (g := 22) rfl (fun h2 => ?_) (fun h2 => ?_)
  ·try rw [h2]
   try simp only [qa, qb, qc, qd, qe, List.length_map] at h2
   refine Qg rfl (QO (ds0 := [2, 1, 0]) (cs := [_, _, _, _, _, _, _]) rfl rfl rfl rfl rfl rfl (Qg rfl (Qa rfl (Qg rfl (Qa rfl (Qg rfl (QJ rfl rfl rfl (by omega) (QS (by omega)) rfl (Qg rfl (Q7 rfl rfl (Qg rfl (QO (ds0 := [2, 1, 0]) (cs := [_, _, _, _, _, _, _]) rfl rfl rfl rfl rfl rfl ?_)))))))))))
   refine Qg rfl (QY (ds0 := [1, 0]) (Zu hy.1 hy.2 (hl.at (i := i) (by omega)).2.1 (hl.at (i := i) (by omega)).2.2) rfl rfl (.inr rfl) rfl rfl (Qg rfl (Qo9 rfl rfl (Qk rfl rfl ?_))))
   refine hK _ _ (Qb (kp5 rfl rfl rfl rfl rfl) ?_)
   refine Qw rfl (fun h3 => ?_) (fun h3 => ?_)
   ·try rw [h3]
    try simp only [qa, qb, qc, qd, qe, List.length_map] at h3
    refine Qe fun K hK => Qa rfl ?_
    refine hK _ _ (Qb (kp1 rfl) ?_)
    refine Qu (Qt (Qj (Q4 (Qt (Qj (Qq rfl ?_))))))
    first
     | exact (QlQ (i := i) (by omega) hI.2).symm
     | exact (Qha (i := i) (by omega) (Qqv h2 h3)).symm
   ·try rw [h3]
    try simp only [qa, qb, qc, qd, qe, List.length_map] at h3
    refine Qv (Qi (Qd (kp4 rfl rfl rfl rfl) (QP fun K hK => Qa rfl (Q6 rfl rfl (by first | exact Qs (by omega) (by omega) | rfl) (Qa rfl (hK _ ?_))))))
    refine Ql (i + 1) ?_ ?_ ?_
    ·exact Zc (l := [0, 4, 5, 7]) (lH := [4, 5]) (kp4 rfl rfl rfl rfl) (Qf rfl (Qf rfl Qr)) rfl rfl rfl
    ·exact ⟨by omega, Qgu (by omega) hI.2 (Qqu (by first | exact .inl h2 | exact .inr h3))⟩
    ·first | omega | (simp only; omega) | (dsimp only; omega)
  ·try rw [h2]
   try simp only [qa, qb, qc, qd, qe, List.length_map] at h2
   refine Qo rfl (Qo rfl (Qo rfl (Qo rfl (Qo rfl (Qo rfl (Qo rfl (Qo rfl (Qk rfl rfl ?_))))))))
   refine hK _ _ (Qb (kp5 rfl rfl rfl rfl rfl) ?_)
   refine ZY rfl (Qv (Qi (Qd (kp4 rfl rfl rfl rfl) (QP fun K hK => Qa rfl (Q6 rfl rfl (by first | exact Qs (by omega) (by omega) | rfl) (Qa rfl (hK _ ?_)))))))
   refine Ql (i + 1) ?_ ?_ ?_
   ·exact Zc (l := [0, 4, 5, 7]) (lH := [4, 5]) (kp4 rfl rfl rfl rfl) (Qf rfl (Qf rfl Qr)) rfl rfl rfl
   ·exact ⟨by omega, Qgu (by omega) hI.2 (Qqu (by first | exact .inl h2 | exact .inr h3))⟩
   ·first | omega | (simp only; omega) | (dsimp only; omega)
 ·try rw [h1]
  try simp only [qa, qb, qc, qd, qe, List.length_map] at h1
  refine Zo (QN (QB (QI (Qd (Q2) (Qe fun K hK => Qa rfl ?_)))))
  refine hK _ _ (Qb (kp1 rfl) ?_)
  refine Qu (Qq rfl ?_)
  first
   | exact (QlQ (i := i) (by omega) hI.2).symm
   | exact (Qha (i := i) (by omega) (Qqv h2 h3)).symm
end Go.Proofs
namespace Go.Proofs
open Go Go.Abs M3 M25
set_option linter.unusedVariables false
set_option linter.unusedSimpArgs false
theorem Qax {l : List (Cu × Cu)} (hl : Sm l) {a b c : Int} {p q : List UInt8} (hp : p.length <= 1000000) (hq : q.length <= 1000000) : Ok Tryz.prog 122 [ZF l, .agg [.int .i64 a, .int .i64 b, .int .i64 c, .str p, .str q]] (.bool (QhK l a b c p q)) := by
 refine Ok.ofT ZX Tryz.func122 QrI (Nat.le_of_ble_eq_true rfl) ?_
 show TW _ _ tf122.body _ _
 have hn := hl.1
 refine Qe fun K hK => Zw rfl rfl rfl (Qa rfl ?_)
 refine hK _ _ (Qb (kp2 rfl rfl) ?_)
 refine QG ?_ -- 0
 refine Qe fun K hK => Qa rfl ?_
 refine hK _ _ (Qb (kp3 rfl rfl rfl) ?_)
 refine QE ?_
 refine Zv (ι := Nat) (fun i => ⟨[(0, ZF l), (3, .ref 3 0 0), (5, .int .i64 i)], [(3, ⟨[[.int .i64 a, .int .i64 b, .int .i64 c, .str p, .str q]], 5, 68, true⟩)]⟩) (fun i => i <= l.length /\ (l.take i).any (fun s => QhL s a b c p q) = false) (fun i => l.length - i) 0 ?_ ?_ ?_
 ·exact Zc (l := [0, 3, 5]) (lH := [3]) (kp3 rfl rfl rfl) (Qf rfl Qr) rfl rfl rfl
 ·exact ⟨Nat.zero_le _, by simp⟩
 intro i hI
 try dsimp only
 refine QG ?_ -- 1
 refine Qe fun K hK => Qa rfl (Qa rfl (QU rfl rfl (Yj rfl rfl (Qa rfl ?_))))
 refine Qy (g := 10) rfl (fun h1 => ?_) (fun h1 => ?_)
 ·try rw [h1]
  try simp only [qa, qb, qc, qd, qe, List.length_map] at h1
  refine Qg rfl (Qa rfl (Qg rfl (QC (ZV hl) rfl rfl (.inr rfl) (Qk rfl rfl ?_))))
  refine hK _ _ (Qb (kp4 rfl rfl rfl rfl) ?_)
  refine Qw rfl (fun h2 => ?_) (fun h2 => ?_)
  ·try rw [h2]
   try simp only [qa, qb, qc, qd, qe, List.length_map] at h2
   refine Qv (Qd (kp3 rfl rfl rfl) ?_)
   refine QG ?_ -- 2
   refine QE (Qe fun K hK => Qa rfl (Qa rfl (QJ rfl rfl rfl (by omega) (QS (by omega)) rfl (QO (ds0 := [0]) (cs := [_, _, _, _, _, _, _, _, _, _, _, _, _, _]) rfl rfl rfl rfl rfl rfl (QO (ds0 := [0]) (cs := [_, _, _, _, _]) rfl rfl rfl rfl rfl rfl (QY (ds0 := []) (QcR (hl.at (i := i) (by omega)).1.1 (hl.at (i := i) (by omega)).1.2 (hl.at (i := i) (by omega)).2.1 (hl.at (i := i) (by omega)).2.2 hp hq) rfl rfl (.inr rfl) rfl rfl ?_))))))
   refine hK _ _ (Qb (kp4 rfl rfl rfl rfl) ?_)
   refine Qw rfl (fun h3 => ?_) (fun h3 => ?_)
   ·try rw [h3]
    try simp only [qa, qb, qc, qd, qe, List.length_map] at h3
    refine Qe fun K hK => Qa rfl ?_
    refine hK _ _ (Qb (kp1 rfl) ?_)
    refine Qu (Qt (Qj (Q4 (Qt (Qj (Qq rfl ?_))))))
    first
     | exact (Qhv (i := i) (by omega) hI.2).symm
     | exact (Qhw h2).symm
     | exact (Qhx h2 (i := i) (by omega) h3).symm
   ·try rw [h3]
    try simp only [qa, qb, qc, qd, qe, List.length_map] at h3
    refine Qv (Qi (Qd (kp3 rfl rfl rfl) (QP fun K hK => Qa rfl (Q6 rfl rfl (by first | exact Qs (by omega) (by omega) | rfl) (Qa rfl (hK _ ?_))))))
    refine Ql (i + 1) ?_ ?_ ?_
    ·exact Zc (l := [0, 3, 5]) (lH := [3]) (kp3 rfl rfl rfl) (Qf rfl Qr) rfl rfl rfl
    ·exact ⟨by omega, Qgu (by omega) hI.2 h3⟩
    ·first | omega | (simp only; omega) | (dsimp only; omega)
  ·try rw [h2]
   try simp only [qa, qb, qc, qd, qe, List.length_map] at h2
   refine Zo (QN (QB (QI (Qd (Q2) (Qe fun K hK => Qa rfl ?_)))))
   refine hK _ _ (Qb (kp1 rfl) ?_)
   refine Qu (Qq rfl ?_)
   first
    | exact (Qhv (i := i) (by omega) hI.2).symm
    | exact (Qhw h2).symm
    | exact (Qhx h2 (i := i) (by omega) h3).symm
 ·try rw [h1]
  try simp only [qa, qb, qc, qd, qe, List.length_map] at h1
  refine Qo rfl (Qo rfl (Qk rfl rfl ?_))
  refine hK _ _ (Qb (kp4 rfl rfl rfl rfl) ?_)
  refine ZY rfl (Zo (QN (QB (QI (Qd (Q2) (Qe fun K hK => Qa rfl ?_))))))
  refine hK _ _ (Qb (kp1 rfl) ?_)
  refine Qu (Qq rfl ?_)
  first
   | exact (Qhv (i := i) (by omega) hI.2).symm
   | exact (Qhw h2).symm
   | exact (Qhx h2 (i := i) (by omega) h3).symm
theorem YI {s : List (Cu × Cu) × List (Cu × Cu)} (h1s : Sm s.1) (h2s : Sm s.2) : Ok Tryz.prog 110 [Qhj s] (.bool (QfV s)) := by
 refine Ok.ofT ZX Tryz.func110 Qrw (Nat.le_of_ble_eq_true rfl) ?_
 show TW _ _ tf110.body _ _
 have hn := h1s.1
 refine Qe fun K hK => Zw rfl rfl rfl (Qa rfl ?_)
 refine hK _ _ (Qb (kp1 rfl) ?_)
 refine QG ?_ -- 0
 refine Qe fun K hK => Qh rfl rfl (Qz rfl rfl rfl (QC (ZV h1s) rfl rfl (.inr rfl) (Yb rfl (Qa rfl ?_))))
 refine Qy (g := 8) rfl (fun h1 => ?_) (fun h1 => ?_)
 ·try rw [h1]
  try simp only [qa, qb, qc, qd, qe, List.length_map] at h1
  refine Qo rfl (Qo rfl (Qo rfl (Qo rfl (Qk rfl rfl ?_))))
  refine hK _ _ (Qb (kp2 rfl rfl) ?_)
  refine Zp rfl (Qe fun K hK => Qa rfl ?_)
  refine hK _ _ (Qb (kp1 rfl) ?_)
  refine Qu (Qj (Qq rfl ?_))
  first
   | exact (QdP (i := i) h1 h2 (by omega) hI.2).symm
   | exact (QaN (i := i) (by omega) (.inl h4)).symm
   | exact (QaN (i := i) (by omega) (.inr h5)).symm
   | exact (QaO (.inl h1)).symm
   | exact (QaO (.inr h2)).symm
 ·try rw [h1]
  try simp only [qa, qb, qc, qd, qe, List.length_map] at h1
  refine Qg rfl (Qh rfl rfl (Qg rfl (Qz rfl rfl rfl (Qg rfl (QC (ZV h2s) rfl rfl (.inr rfl) (Qg rfl (Yb rfl (Qk rfl rfl ?_))))))))
  refine hK _ _ (Qb (kp2 rfl rfl) ?_)
  refine Qw rfl (fun h2 => ?_) (fun h2 => ?_)
  ·try rw [h2]
   try simp only [qa, qb, qc, qd, qe, List.length_map] at h2
   refine Qe fun K hK => Qa rfl ?_
   refine hK _ _ (Qb (kp1 rfl) ?_)
   refine Qu (Qj (Qq rfl ?_))
   first
    | exact (QdP (i := i) h1 h2 (by omega) hI.2).symm
    | exact (QaN (i := i) (by omega) (.inl h4)).symm
    | exact (QaN (i := i) (by omega) (.inr h5)).symm
    | exact (QaO (.inl h1)).symm
    | exact (QaO (.inr h2)).symm
  ·try rw [h2]
   try simp only [qa, qb, qc, qd, qe, List.length_map] at h2
   refine Qv (Qd (kp1 rfl) ?_)
   refine QG ?_ -- 1
   refine Qe fun K hK => Qa rfl ?_
   refine hK _ _ (Qb (kp2 rfl rfl) ?_)
   refine QE ?_
   refine Zv (ι := Nat) (fun i => ⟨[(1, .ref 1 0 0), (3, .int .i64 i)], [(1, ⟨[[ZF s.1, ZF s.2]], 2, 78, true⟩)]⟩) (fun i => i <= s.1.length /\ (s.1.take i).all (fun x => QbH x.1 && QbH x.2) = true) (fun i => s.1.length - i) 0 ?_ ?_ ?_
   ·exact Zc (l := [1, 3]) (lH := [1]) (kp2 rfl rfl) (Qf rfl Qr) rfl rfl rfl
   ·exact ⟨Nat.zero_le _, by simp⟩
   intro i hI
   try dsimp only
   refine QG ?_ -- 2
   refine Qe fun K hK => Qa rfl (Qh rfl rfl (Qz rfl rfl rfl (QU rfl rfl (Yj rfl rfl ?_))))
   refine hK _ _ (Qb (kp3 rfl rfl rfl) ?_)
   refine Qw rfl (fun h3 => ?_) (fun h3 => ?_)
   ·try rw [h3]
    try simp only [qa, qb, qc, qd, qe, List.length_map] at h3
    refine Qv (Qd (kp2 rfl rfl) ?_)
    refine QG ?_ -- 3
    refine QE (Qe fun K hK => Qh rfl rfl (Qz rfl rfl rfl (Qa rfl (QJ rfl rfl rfl (by omega) (QS (by omega)) rfl (Q7 rfl rfl (QD (cs := [_, _, _, _, _, _, _]) rfl rfl rfl rfl (QC (X3) rfl rfl (.inr rfl) (Yb rfl (Qa rfl ?_)))))))))
    refine Qy (g := 29) rfl (fun h4 => ?_) (fun h4 => ?_)
    ·try rw [h4]
     try simp only [qa, qb, qc, qd, qe, List.length_map] at h4
     refine Qo rfl (Qo rfl (Qo rfl (Qo rfl (Qo rfl (Qo rfl (Qo rfl (Qo rfl (Qk rfl rfl ?_))))))))
     refine hK _ _ (Qb (kp3 rfl rfl rfl) ?_)
     refine Zp rfl (Qe fun K hK => Qa rfl ?_)
     refine hK _ _ (Qb (kp1 rfl) ?_)
     refine Qu (Qt (Qj (Q4 (Qt (Qj (Qq rfl ?_))))))
     first
      | exact (QdP (i := i) h1 h2 (by omega) hI.2).symm
      | exact (QaN (i := i) (by omega) (.inl h4)).symm
      | exact (QaN (i := i) (by omega) (.inr h5)).symm
      | exact (QaO (.inl h1)).symm
      | exact (QaO (.inr h2)).symm
    ·try rw [h4]
     try simp only [qa, qb, qc, qd, qe, List.length_map] at h4
     refine Qg rfl (Qh rfl rfl (Qg rfl (Qz rfl rfl rfl (Qg rfl (Qa rfl (Qg rfl (QJ rfl rfl rfl (by omega) (QS (by omega)) rfl (Qg rfl (Q7 rfl rfl (Qg rfl (QD (cs := [_, _, _, _, _, _, _]) rfl rfl rfl rfl ?_)))))))))))
     refine Qg rfl (QC (X3) rfl rfl (.inr rfl) (Qg rfl (Yb rfl (Qk rfl rfl ?_))))
     refine hK _ _ (Qb (kp3 rfl rfl rfl) ?_)
     refine Qw rfl (fun h5 => ?_) (fun h5 => ?_)
     ·try rw [h5]
      try simp only [qa, qb, qc, qd, qe, List.length_map] at h5
      refine Qe fun K hK => Qa rfl ?_
      refine hK _ _ (Qb (kp1 rfl) ?_)
      refine Qu (Qt (Qj (Q4 (Qt (Qj (Qq rfl ?_))))))
      first
       | exact (QdP (i := i) h1 h2 (by omega) hI.2).symm
       | exact (QaN (i := i) (by omega) (.inl h4)).symm
       | exact (QaN (i := i) (by omega) (.inr h5)).symm
       | exact (QaO (.inl h1)).symm
       | exact (QaO (.inr h2)).symm
     ·try rw [h5]
      try simp only [qa, qb, qc, qd, qe, List.length_map] at h5
      refine Qv (Qi (Qd (kp2 rfl rfl) (QP fun K hK => Qa rfl (Q6 rfl rfl (by first | exact Qs (by omega) (by omega) | rfl) (Qa rfl (hK _ ?_))))))
      refine Ql (i + 1) ?_ ?_ ?_
      ·exact Zc (l := [1, 3]) (lH := [1]) (kp2 rfl rfl) (Qf rfl Qr) rfl rfl rfl
      ·exact ⟨by omega, Z9 (by omega) hI.2 (by rw [show QbH s.1[i].1 = true from h4, show QbH s.1[i].2 = true from h5]; rfl)⟩
      ·first | omega | (simp only; omega) | (dsimp only; omega)
   ·try rw [h3]
    try simp only [qa, qb, qc, qd, qe, List.length_map] at h3
    refine Zo (QN (QB (QI (Qd (Q2) (Qe fun K hK => Qa rfl ?_)))))
    refine hK _ _ (Qb (kp1 rfl) ?_)
    refine Qu (Qq rfl ?_)
    first
     | exact (QdP (i := i) h1 h2 (by omega) hI.2).symm
     | exact (QaN (i := i) (by omega) (.inl h4)).symm
     | exact (QaN (i := i) (by omega) (.inr h5)).symm
     | exact (QaO (.inl h1)).symm
     | exact (QaO (.inr h2)).symm
theorem Qds {s : List (Cu × Cu) × List (Cu × Cu)} (h1s : Sm s.1) (h2s : Sm s.2) {a b c : Int} {p q : List UInt8} (hp : p.length <= 1000000) (hq : q.length <= 1000000) : Ok Tryz.prog 114 [Qhj s, .agg [.int .i64 a, .int .i64 b, .int .i64 c, .str p, .str q]] (.bool (Qlt s a b c p q)) := by
 refine Ok.ofT ZX Tryz.func114 QrA (Nat.le_of_ble_eq_true rfl) ?_
 show TW _ _ tf114.body _ _
 refine Qe fun K hK => Zw rfl rfl rfl (Zw rfl rfl rfl (Qa rfl ?_))
 refine hK _ _ (Qb (kp2 rfl rfl) ?_)
 refine QG ?_ -- 0
 refine Qe fun K hK => QD (cs := [_, _]) rfl rfl rfl rfl (QC (YI h1s h2s) rfl rfl (.inr rfl) (Yb rfl (Qa rfl ?_)))
 refine Qy (g := 8) rfl (fun h1 => ?_) (fun h1 => ?_)
 ·try rw [h1]
  try simp only [qa, qb, qc, qd, qe] at h1
  refine Qo rfl (Qo rfl (Qo rfl (Qk rfl rfl ?_)))
  refine hK _ _ (Qb (kp3 rfl rfl rfl) ?_)
  refine Zp rfl (Qe fun K hK => Qa rfl ?_)
  refine hK _ _ (Qb (kp1 rfl) ?_)
  refine Qu (Qj (Qq rfl ?_))
  simp_all [Qlt]
 ·try rw [h1]
  try simp only [qa, qb, qc, qd, qe] at h1
  refine Qg rfl (QD (cs := [_, _, _, _, _]) rfl rfl rfl rfl (Qg rfl (QC (Zg hp hq) rfl rfl (.inr rfl) (Qg rfl (Yb rfl (Qk rfl rfl ?_))))))
  refine hK _ _ (Qb (kp3 rfl rfl rfl) ?_)
  refine Qw rfl (fun h2 => ?_) (fun h2 => ?_)
  ·try rw [h2]
   try simp only [qa, qb, qc, qd, qe] at h2
   refine Qe fun K hK => Qa rfl ?_
   refine hK _ _ (Qb (kp1 rfl) ?_)
   refine Qu (Qj (Qq rfl ?_))
   simp_all [Qlt]
  ·try rw [h2]
   try simp only [qa, qb, qc, qd, qe] at h2
   refine Qv (Qd (kp2 rfl rfl) ?_)
   refine QG ?_ -- 1
   refine Qe fun K hK => Qh rfl rfl (Qz rfl rfl rfl (Qff rfl rfl ?_))
   refine hK _ _ (Qb (kp3 rfl rfl rfl) ?_)
   refine Qw rfl (fun h3 => ?_) (fun h3 => ?_)
   ·try rw [h3]
    try simp only [qa, qb, qc, qd, qe] at h3
    refine Qe fun K hK => Qh rfl rfl (Qz rfl rfl rfl (QD (cs := [_, _, _, _, _]) rfl rfl rfl rfl (QC (Qax h1s hp hq) rfl rfl (.inr rfl) (Qa rfl ?_))))
    refine hK _ _ (Qb (kp1 rfl) ?_)
    refine Qu (Qj (Qq rfl ?_))
    simp_all [Qlt]
   ·try rw [h3]
    try simp only [qa, qb, qc, qd, qe] at h3
    refine Qv (Qd (kp2 rfl rfl) (Qe fun K hK => Qh rfl rfl (Qz rfl rfl rfl (QD (cs := [_, _, _, _, _]) rfl rfl rfl rfl (QC (Qax h2s hp hq) rfl rfl (.inr rfl) (Qa rfl ?_))))))
    refine hK _ _ (Qb (kp1 rfl) ?_)
    refine Qu (Qq rfl ?_)
    simp_all [Qlt]
end Go.Proofs
namespace Go.Proofs
open Go Go.Abs M3 M25
set_option linter.unusedVariables false
set_option linter.unusedSimpArgs false
theorem Qaz {l : List Cu} {c : Cu} (hl : l.length <= 3000000) (hs : ∀ x ∈ l, Cu.sm x) (hc : Cu.sm c) : Ok Tryz.prog 125 [Qhi l, .agg (dCu c)] (Qhi (Qcf l c)) := by
 refine Ok.ofT ZX Tryz.func125 QrL (Nat.le_of_ble_eq_true rfl) ?_
 show TW _ _ tf125.body _ _
 refine Qe fun K hK => Zw rfl rfl rfl (Qa rfl ?_)
 refine hK _ _ (Qb (kp2 rfl rfl) ?_)
 refine Qe fun K hK => Qa rfl ?_
 refine hK _ _ (Qb (kp3 rfl rfl rfl) ?_)
 refine QG ?_ -- 0
 refine QE ?_
 refine Zv (ι := Nat) (fun k => ⟨[(0, Qhi l), (3, .ref 3 0 0), (5, .int .i64 k)], [(3, ⟨[dCu c], 7, 112, true⟩)]⟩) (fun k => k <= l.length /\ Qcf l c = l.take k ++ Qcf (l.drop k) c) (fun k => l.length - k) 0 ?_ ?_ ?_
 ·exact Zc (l := [0, 3, 5]) (lH := [3]) (kp3 rfl rfl rfl) (Qf rfl Qr) rfl rfl rfl
 ·exact ⟨Nat.zero_le _, by simp⟩
 intro k hI
 try dsimp only
 refine QG ?_ -- 1
 refine Qe fun K hK => Qa rfl (Qa rfl (QU rfl rfl (Yj rfl rfl (Qa rfl ?_))))
 refine Qy (g := 10) rfl (fun h1 => ?_) (fun h1 => ?_)
 ·try rw [h1]
  try simp only [qa, qb, qc, qd, qe, List.length_map] at h1
  refine Qg rfl (Qa rfl (Qg rfl (Qa rfl (Qg rfl (QJ rfl rfl rfl (by omega) (QS (by omega)) rfl (Qg rfl (QO (ds0 := [2, 1, 0]) (cs := [_, _, _, _, _, _, _]) rfl rfl rfl rfl rfl rfl (Qg rfl (QO (ds0 := [2, 1, 0]) (cs := [_, _, _, _, _, _, _]) rfl rfl rfl rfl rfl rfl (Qg rfl (QY (ds0 := [1, 0]) (Zu (hs _ (List.getElem_mem (by omega))).1 (hs _ (List.getElem_mem (by omega))).2 hc.1 hc.2) rfl rfl (.inr rfl) rfl rfl ?_)))))))))))
  refine Qg rfl (Yj rfl rfl (Qk rfl rfl ?_))
  refine hK _ _ (Qb (kp4 rfl rfl rfl rfl) ?_)
  refine Qw rfl (fun h2 => ?_) (fun h2 => ?_)
  ·try rw [h2]
   try simp only [qa, qb, qc, qd, qe, List.length_map] at h2
   refine Qv (Qd (kp3 rfl rfl rfl) (QE (QP fun K hK => Qa rfl (Q6 rfl rfl (by first | exact Qs (by omega) (by omega) | rfl) (Qa rfl (hK _ ?_))))))
   refine Qi ?_
   refine Ql (k + 1) ?_ ?_ ?_
   ·exact Zc (l := [0, 3, 5]) (lH := [3]) (kp3 rfl rfl rfl) (Qf rfl Qr) rfl rfl rfl
   ·exact ⟨by omega, QmH (by omega) h2 hI.2⟩
   ·first | omega | (simp only; omega) | (dsimp only; omega)
  ·try rw [h2]
   try simp only [qa, qb, qc, qd, qe, List.length_map] at h2
   refine Zo (QN (QB (QI (Qd (kp3 rfl rfl rfl) ?_))))
   refine QG ?_ -- 2
   refine Qe fun K hK => Qa rfl (Qa rfl (QU rfl rfl (Yj rfl rfl (Qa rfl ?_))))
   refine Qy (g := 25) rfl (fun h3 => ?_) (fun h3 => ?_)
   ·try rw [h3]
    try simp only [qa, qb, qc, qd, qe, List.length_map] at h3
    refine Qg rfl (Qa rfl (Qg rfl (Qa rfl (Qg rfl (QJ rfl rfl rfl (by omega) (QS (by omega)) rfl (Qg rfl (QO (ds0 := [2, 1, 0]) (cs := [_, _, _, _, _, _, _]) rfl rfl rfl rfl rfl rfl (Qg rfl (QO (ds0 := [2, 1, 0]) (cs := [_, _, _, _, _, _, _]) rfl rfl rfl rfl rfl rfl (Qg rfl (QY (ds0 := [1, 0]) (Zu (hs _ (List.getElem_mem (by omega))).1 (hs _ (List.getElem_mem (by omega))).2 hc.1 hc.2) rfl rfl (.inr rfl) rfl rfl ?_)))))))))))
    refine Qg rfl (Zy rfl rfl (Qk rfl rfl ?_))
    refine hK _ _ (Qb (kp4 rfl rfl rfl rfl) ?_)
    refine Qw rfl (fun h4 => ?_) (fun h4 => ?_)
    ·try rw [h4]
     try simp only [qa, qb, qc, qd, qe, List.length_map] at h4
     refine Qe fun K hK => Qa rfl (Qa rfl ?_)
     refine hK _ _ (Qb (kp1 rfl) ?_)
     refine Qu (Qj (Yq rfl ?_))
     rw [QmG (k := k) (by omega) (by assumption) hI.2]; rfl
    ·try rw [h4]
     try simp only [qa, qb, qc, qd, qe, List.length_map] at h4
     refine Qv (Qd (kp3 rfl rfl rfl) (Qe fun K hK => Qa rfl (Qa rfl (Qfh rfl rfl rfl rfl (by omega) (by omega) (by simp; omega) Qi2 rfl (Qd5 (ds0 := [5, 1, 0]) rfl rfl (fun _ h => ⟨Qok, h⟩) rfl (.inl rfl) (by simp) (by simp; omega) (by simp; omega) rfl rfl (QO (ds0 := [6, 5, 1, 0]) (cs := [_, _, _, _, _, _, _]) rfl rfl rfl rfl rfl rfl (QH rfl rfl (QbR (ds0 := [1, 0]) rfl rfl (by simp [D.ids, D.sid]) ⟨_, rfl, rfl, rfl, rfl, rfl⟩ rfl rfl (by simp) rfl rfl (by simp; omega) (by simp; omega) rfl rfl (Qa rfl (Qa rfl ?_))))))))))
     refine Qfh rfl rfl rfl rfl (by omega) (by simp; omega) (by simp) Qi2 rfl (QbR (ds0 := [0]) rfl rfl (by simp [D.ids, D.sid]) ⟨rfl, Qok, rfl⟩ rfl rfl (by simp) rfl rfl (by simp; omega) (by simp; omega) rfl rfl (Qa rfl ?_))
     refine hK _ _ (Qb (kp1 rfl) ?_)
     refine Qu (Yq rfl ?_)
     rw [QkK (k := k) (by first | exact .inl (by omega) | exact .inr ⟨by omega, by assumption, by assumption⟩) hI.2]; simp [Qbb, D.fz, D.fzS, Qd4, lk, D.can, D.canS, Qhi, D.sid, (show ∀ a b : Nat, a + 1 + b = a + (b + 1) from fun a b => by omega), List.take_of_length_le (show (l.map dCu).length <= l.length by simp)] <;> rfl
   ·try rw [h3]
    try simp only [qa, qb, qc, qd, qe, List.length_map] at h3
    exact absurd h1 h3
 ·try rw [h1]
  try simp only [qa, qb, qc, qd, qe, List.length_map] at h1
  refine Qo rfl (Qo rfl (Qo rfl (Qo rfl (Qo rfl (Qo rfl (Qo rfl (Qk rfl rfl ?_)))))))
  refine hK _ _ (Qb (kp4 rfl rfl rfl rfl) ?_)
  refine ZY rfl (Zo (QN (QB (QI (Qd (kp3 rfl rfl rfl) ?_)))))
  refine QG ?_ -- 2
  refine Qe fun K hK => Qa rfl (Qa rfl (QU rfl rfl (Yj rfl rfl (Qa rfl ?_))))
  refine Qy (g := 25) rfl (fun h5 => ?_) (fun h5 => ?_)
  ·try rw [h5]
   try simp only [qa, qb, qc, qd, qe, List.length_map] at h5
   exact absurd h5 h1
  ·try rw [h5]
   try simp only [qa, qb, qc, qd, qe, List.length_map] at h5
   refine Qo rfl (Qo rfl (Qo rfl (Qo rfl (Qo rfl (Qo rfl (Qo rfl (Qk rfl rfl ?_)))))))
   refine hK _ _ (Qb (kp4 rfl rfl rfl rfl) ?_)
   refine ZY rfl (Qv (Qd (kp3 rfl rfl rfl) (Qe fun K hK => Qa rfl (Qa rfl (Qfh rfl rfl rfl rfl (by omega) (by omega) (by simp; omega) Qi2 rfl (Qd5 (ds0 := [5, 1, 0]) rfl rfl (fun _ h => ⟨Qok, h⟩) rfl (.inl rfl) (by simp) (by simp; omega) (by simp; omega) rfl rfl (QO (ds0 := [6, 5, 1, 0]) (cs := [_, _, _, _, _, _, _]) rfl rfl rfl rfl rfl rfl (QH rfl rfl (QbR (ds0 := [1, 0]) rfl rfl (by simp [D.ids, D.sid]) ⟨_, rfl, rfl, rfl, rfl, rfl⟩ rfl rfl (by simp) rfl rfl (by simp; omega) (by simp; omega) rfl rfl (Qa rfl ?_))))))))))
   refine Qa rfl (Qfh rfl rfl rfl rfl (by omega) (by simp; omega) (by simp) Qi2 rfl (QbR (ds0 := [0]) rfl rfl (by simp [D.ids, D.sid]) ⟨rfl, Qok, rfl⟩ rfl rfl (by simp) rfl rfl (by simp; omega) (by simp; omega) rfl rfl (Qa rfl ?_)))
   refine hK _ _ (Qb (kp1 rfl) ?_)
   refine Qu (Yq rfl ?_)
   rw [QkK (k := k) (by first | exact .inl (by omega) | exact .inr ⟨by omega, by assumption, by assumption⟩) hI.2]; simp [Qbb, D.fz, D.fzS, Qd4, lk, D.can, D.canS, Qhi, D.sid, (show ∀ a b : Nat, a + 1 + b = a + (b + 1) from fun a b => by omega), List.take_of_length_le (show (l.map dCu).length <= l.length by simp)] <;> rfl
theorem Qak {l : List (Cu × Cu)} (hl : Sm l) : Ok Tryz.prog 119 [ZF l] (Qhi (YW l)) := by
 refine Ok.ofT ZX Tryz.func119 QrF (Nat.le_of_ble_eq_true rfl) ?_
 show TW _ _ tf119.body _ _
 have hn := hl.1
 refine Qe fun K hK => Qa rfl ?_
 refine hK _ _ (Qb (kp1 rfl) ?_)
 refine Qe fun K hK => QC (YZ) rfl rfl (.inl rfl) (QC (Xb) rfl rfl (.inl rfl) (QH rfl rfl (Qa rfl ?_)))
 refine hK _ _ (Qb (kp2 rfl rfl) ?_)
 refine QG ?_ -- 0
 refine Qe fun K hK => Qa rfl ?_
 refine hK _ _ (Qb (kp3 rfl rfl rfl) ?_)
 refine QE ?_
 refine Zv (ι := Nat) (fun i => ⟨[(0, ZF l), (3, Qhi (YW (l.take i))), (4, .int .i64 i)], []⟩) (fun i => i <= l.length) (fun i => l.length - i) 0 ?_ ?_ ?_
 ·exact le_trans (QiD 7 _ (by decide)) (Zc (l := [0, 3, 4]) (lH := []) (kp3 rfl rfl rfl) Qr rfl rfl rfl)
 ·exact Nat.zero_le _
 intro i hI
 try dsimp only
 refine QG ?_ -- 1
 refine Qe fun K hK => Qa rfl (Qa rfl (QU rfl rfl (Yj rfl rfl ?_)))
 refine hK _ _ (Qb (kp4 rfl rfl rfl rfl) ?_)
 refine Qw rfl (fun h1 => ?_) (fun h1 => ?_)
 ·try rw [h1]
  try simp only [qa, qb, qc, qd, qe, List.length_map] at h1
  refine Qv (Qd (kp3 rfl rfl rfl) ?_)
  refine QG ?_ -- 2
  refine QE (QP fun K hK => Qa rfl (Qa rfl (Qa rfl (QJ rfl rfl rfl (by omega) (QS (by omega)) rfl (Q7 rfl rfl (QO (ds0 := [7, 1, 0]) (cs := [_, _, _, _, _, _, _]) rfl rfl rfl rfl rfl rfl (QY (ds0 := [1, 0]) (Qaz (Nat.le_trans (Qe3 hl i).1 (by omega)) (Qe3 hl i).2 (hl.2 _ (List.getElem_mem (by omega))).1) rfl rfl (.inl rfl) rfl rfl (Qa rfl (Qa rfl (QJ rfl rfl rfl (by omega) (QS (by omega)) rfl ?_))))))))))
  refine Q7 rfl rfl (QO (ds0 := [1, 0]) (cs := [_, _, _, _, _, _, _]) rfl rfl rfl rfl rfl rfl (QY (ds0 := [0]) (Qaz (Nat.le_trans (Qe4 _ _) (by have := (Qe3 hl i).1; omega)) (QhN (Qe3 hl i).2 (hl.2 _ (List.getElem_mem (by omega))).1) (hl.2 _ (List.getElem_mem (by omega))).2) rfl rfl (.inl rfl) rfl rfl (Qa rfl (hK _ ?_))))
  refine Qi (Qd (kp3 rfl rfl rfl) (QP fun K hK => Qa rfl (Q6 rfl rfl (by first | exact Qs (by omega) (by omega) | rfl) (Qa rfl (hK _ ?_)))))
  refine Ql (i + 1) ?_ ?_ ?_
  ·exact Zc (l := [0, 3, 4]) (lH := []) (kp3 rfl rfl rfl) Qr (by rw [Qn4 (by omega)]; rfl) rfl rfl
  ·omega
  ·first | omega | (simp only; omega) | (dsimp only; omega)
 ·try rw [h1]
  try simp only [qa, qb, qc, qd, qe, List.length_map] at h1
  refine Zo (QN (QB (QI (Qd (kp1 rfl) (Qe fun K hK => Qa rfl (Qa rfl ?_))))))
  refine hK _ _ (Qb (kp1 rfl) ?_)
  refine Qu (Yq rfl ?_)
  rw [List.take_of_length_le (show l.length <= i by omega)]; rfl
end Go.Proofs
namespace Go.Proofs
open Go Go.Abs M3 M25
set_option linter.unusedVariables false
set_option linter.unusedSimpArgs false
theorem Qal {l : List (Cu × Cu)} {x y : Cu} (hn : l.length <= 3000000) (hl : ∀ s ∈ l, Cu.sm s.1 /\ Cu.sm s.2) (hx : Cu.sm x) (hy : Cu.sm y) : OkH Tryz.prog 121 [.osl 500000 l.length, .agg (dCu x), .agg (dCu y)] [(500000, ⟨l.map QeN, 14, 115, true⟩)] (.osl 500000 (Qce l x y).length) [(500000, ⟨(Qce l x y).map QeN, 14, 115, true⟩)] := by
 refine OkH.mv ZX Tryz.func121 QrH (Nat.le_of_ble_eq_true rfl) rfl ?_
 show TW _ _ tf121.body _ _
 refine Qe fun K hK => Zw rfl rfl rfl (Zw rfl rfl rfl (Qa rfl ?_))
 refine hK _ _ (Qb (kp3 rfl rfl rfl) ?_)
 refine QG ?_ -- 0
 refine Qe fun K hK => Qa rfl (QU rfl rfl (XW rfl rfl (by first | exact Qs (by omega) (by omega) | rfl) (Qa rfl ?_)))
 refine hK _ _ (Qb (kp4 rfl rfl rfl rfl) ?_)
 refine Qe fun K hK => Qa rfl (Qfg rfl rfl (Qa rfl ?_))
 refine Qy (g := 13) rfl (fun h1 => ?_) (fun h1 => ?_)
 ·try rw [h1]
  try simp only [qa, qb, qc, qd, qe, List.length_map] at h1
  refine Qg rfl (Qa rfl (Qg rfl (Qa rfl (Qg rfl (XN (ds0 := [5, 4, 2, 1, 0]) rfl rfl rfl (by simp) (by omega) (by omega) rfl rfl rfl (Qg rfl (Qh rfl rfl (Qg rfl (QO (ds0 := [2, 1, 0]) (cs := [_, _, _, _, _, _, _]) rfl (Z5 rfl (ZM (by omega) (by omega))) rfl rfl rfl rfl (Qg rfl (QO (ds0 := [2, 1, 0]) (cs := [_, _, _, _, _, _, _]) rfl rfl rfl rfl rfl rfl ?_)))))))))))
  refine Qg rfl (QY (ds0 := [1, 0]) (Zu (hl _ (List.getElem_mem (by omega))).2.1 (hl _ (List.getElem_mem (by omega))).2.2 hx.1 hx.2) rfl rfl (.inr rfl) rfl rfl (Qg rfl (Zy rfl rfl (Qk rfl rfl ?_))))
  refine hK _ _ (Qb (kp5 rfl rfl rfl rfl rfl) ?_)
  refine Qw rfl (fun h2 => ?_) (fun h2 => ?_)
  ·try rw [h2]
   try simp only [qa, qb, qc, qd, qe, List.length_map] at h2
   refine Qe fun K hK => Qa rfl (Qa rfl (QD (cs := [_, _, _, _, _, _, _]) rfl rfl rfl rfl (Xj rfl rfl rfl (by simp) (by omega) (by omega) rfl (Qh rfl rfl (Q5 rfl rfl (ZM (by omega) (by omega)) rfl rfl rfl rfl rfl ?_)))))
   refine hK _ _ (Qb (kp1 rfl) ?_)
   refine Qe fun K hK => Qa rfl (Qa rfl ?_)
   refine hK _ _ (Qb (kp1 rfl) ?_)
   refine Qu (Qj ?_)
   refine Y1 rfl ?_ (Qez ?_)
   ·rw [QiH (i := ((l.length : Int) - 1).toNat) (by omega) h2]; simp [QlH, D.fz, D.fzS, QeR, D.can, D.canS]
   ·rw [QiH (i := ((l.length : Int) - 1).toNat) (by omega) h2]; simp [lk, List.map_set, QeN, dCu, setRow, D.sid]
  ·try rw [h2]
   try simp only [qa, qb, qc, qd, qe, List.length_map] at h2
   refine Qv (Qd (kp3 rfl rfl rfl) (Qe fun K hK => Qa rfl (QD (cs := [_, _, _, _, _, _, _]) rfl rfl rfl rfl (QD (cs := [_, _, _, _, _, _, _]) rfl rfl rfl rfl (QR rfl rfl (QH rfl rfl (XM rfl rfl (fun _ h => Xv rfl rfl rfl h) rfl (by simp) rfl rfl rfl (by simp; omega) (by simp; omega) (Qa rfl ?_))))))))
   refine hK _ _ (Qb (kp1 rfl) ?_)
   refine Qu ?_
   refine Y1 rfl ?_ (Qez ?_)
   ·rw [QdK (.inr ⟨((l.length : Int) - 1).toNat, by omega, h2⟩)]; simp [QlH, D.fz, D.fzS, QeR, D.can, D.canS]
   ·rw [QdK (.inr ⟨((l.length : Int) - 1).toNat, by omega, h2⟩)]; simp [lk, QeN, dCu, D.sid]
 ·try rw [h1]
  try simp only [qa, qb, qc, qd, qe, List.length_map] at h1
  refine Qo rfl (Qo rfl (Qo rfl (Qo rfl (Qo rfl (Qo rfl (Qo rfl (Qo rfl (Qk rfl rfl ?_))))))))
  refine hK _ _ (Qb (kp5 rfl rfl rfl rfl rfl) ?_)
  refine ZY rfl (Qv (Qd (kp3 rfl rfl rfl) (Qe fun K hK => Qa rfl (QD (cs := [_, _, _, _, _, _, _]) rfl rfl rfl rfl (QD (cs := [_, _, _, _, _, _, _]) rfl rfl rfl rfl (QR rfl rfl (QH rfl rfl (XM rfl rfl (fun _ h => Xv rfl rfl rfl h) rfl (by simp) rfl rfl rfl (by simp; omega) (by simp; omega) (Qa rfl ?_)))))))))
  refine hK _ _ (Qb (kp1 rfl) ?_)
  refine Qu ?_
  have h0 : l = [] := List.eq_nil_of_length_eq_zero (by omega)
  refine Y1 rfl ?_ (Qez ?_)
  ·rw [QdK (.inl h0)]; simp [QlH, D.fz, D.fzS, QeR, D.can, D.canS]
  ·rw [QdK (.inl h0)]; simp [lk, QeN, dCu, D.sid]
end Go.Proofs
namespace Go.Proofs
open Go Go.Abs M3 M25
set_option linter.unusedVariables false
set_option linter.unusedSimpArgs false
theorem Qc8 {l : List (Cu × Cu)} (hl : Sm l) : Ok Tryz.prog 118 [ZF l] (.tup [ZF (QjK l), .bool (l.all QdN)]) := by
  refine Ok.ofT ZX Tryz.func118 QrE (Nat.le_of_ble_eq_true rfl) ?_
  show TW _ _ tf118.body _ _
  have hn := hl.1
  have hc1 := Qcc l
  refine Qe fun K hK => Qa rfl (Qa rfl ?_)
  refine hK _ _ (Qb (kp1 rfl) ?_)
  refine QG ?_ -- 0
  refine Qe fun K hK => Qa rfl ?_
  refine hK _ _ (Qb (kp2 rfl rfl) ?_)
  refine QE ?_
  refine Zv (ι := Nat) (fun i => ⟨[(0, ZF l), (4, .int .i64 i)], []⟩) (fun i => i <= l.length /\ (l.take i).all QdN = true) (fun i => l.length - i) 0 ?_ ?_ ?_
  · exact Zh (kp2 rfl rfl)
  · exact ⟨Nat.zero_le _, by simp⟩
  intro i hI
  try dsimp only
  refine QG ?_ -- 1
  refine Qe fun K hK => Qa rfl (Qa rfl (QU rfl rfl (Yj rfl rfl ?_)))
  refine hK _ _ (Qb (kp3 rfl rfl rfl) ?_)
  refine Qw rfl (fun h1 => ?_) (fun h1 => ?_)
  · try rw [h1]
    try simp only [qa, qb, qc, qd, qe, List.length_map] at h1
    refine Qv (Qd (kp2 rfl rfl) ?_)
    refine QG ?_ -- 2
    refine QE (Qe fun K hK => Qa rfl (Qa rfl (QJ rfl rfl rfl (by omega) (QS (by omega)) rfl (QD (cs := [_, _, _, _, _, _, _, _, _, _, _, _, _, _]) rfl rfl rfl rfl (QC (YF (hl.at (i := i) (by omega)).1.1 (hl.at (i := i) (by omega)).1.2 (hl.at (i := i) (by omega)).2.1 (hl.at (i := i) (by omega)).2.2) rfl rfl (.inr rfl) (Yb rfl ?_))))))
    refine hK _ _ (Qb (kp3 rfl rfl rfl) ?_)
    refine Qw rfl (fun h2 => ?_) (fun h2 => ?_)
    · try rw [h2]
      try simp only [qa, qb, qc, qd, qe, List.length_map] at h2
      refine Qe fun K hK => Qa rfl (Qa rfl ?_)
      refine hK _ _ (Qb (kp2 rfl rfl) ?_)
      refine Qu (Qt (Qj (Q4 (Qt (Qj ?_)))))
      first
        | exact QT rfl rfl ⟨by rw [QjK, if_neg (by rw [XO (i := i) (by omega) (by assumption)]; simp)]; rfl, by rw [XO (i := i) (by omega) (by assumption)]; rfl⟩
        | (have ha : l.all QdN = true := XD (by omega) hI.2
           exact QT rfl rfl ⟨by rw [QjK, if_pos ha, hI2.done (by omega)]; simp [Qbb, D.fz, D.fzS, Qd4, lk, D.can, D.canS, ZF], by rw [ha]; rfl⟩)
    · try rw [h2]
      try simp only [qa, qb, qc, qd, qe, List.length_map] at h2
      refine Qv (Qi (Qd (kp2 rfl rfl) (QP fun K hK => Qa rfl (Q6 rfl rfl (by first | exact Qs (by omega) (by omega) | rfl) (Qa rfl (hK _ ?_))))))
      refine Ql (i + 1) ?_ ?_ ?_
      · exact Zh (kp2 rfl rfl)
      · exact ⟨by omega, Z9 (by omega) hI.2 (by assumption)⟩
      · first | omega | (simp only; omega) | (dsimp only; omega)
  · try rw [h1]
    try simp only [qa, qb, qc, qd, qe, List.length_map] at h1
    refine Zo (QN (QB (QI (Qd (kp1 rfl) (Qe fun K hK => Qa rfl ?_)))))
    refine hK _ _ (Qb (kp2 rfl rfl) ?_)
    refine Qe fun K hK => Qa rfl (QC (Qak hl) rfl rfl (.inl rfl) (Qa rfl ?_))
    refine hK _ _ (Qb (kp3 rfl rfl rfl) ?_)
    refine QG ?_ -- 3
    refine Qe fun K hK => Qa rfl ?_
    refine hK _ _ (Qb (kp4 rfl rfl rfl rfl) ?_)
    refine QE ?_
    refine Zv (ι := Nat × List (Cu × Cu)) (fun ⟨i, out⟩ => ⟨[(0, ZF l), (5, .osl 5 out.length), (6, Qhi (YW l)), (7, .int .i64 i)], [(5, ⟨out.map QeN, 14, 115, true⟩)]⟩) (fun ⟨i, out⟩ => i <= (YW l).length /\ FillI (mIn l) (YW l) i out) (fun ⟨i, out⟩ => (YW l).length - i) (0, []) ?_ ?_ ?_
    · exact le_trans (Yw 5 5 14 115 rfl rfl) (Zc (l := [0, 5, 6, 7]) (lH := [5]) (kp4 rfl rfl rfl rfl) (Qf rfl Qr) rfl rfl rfl)
    · exact ⟨Nat.zero_le _, FillI.zero⟩
    intro ⟨i, out⟩ hI
    obtain ⟨hI1, hI2⟩ := hI
    have hI3 := hI2.1
    try dsimp only
    refine QG ?_ -- 4
    refine Qe fun K hK => Qa rfl (Q6 rfl rfl (by first | exact Qs (by omega) (by omega) | rfl) (Qa rfl (QU rfl rfl (Yj rfl rfl ?_))))
    refine hK _ _ (Qb (kp5 rfl rfl rfl rfl rfl) ?_)
    refine Qw rfl (fun h3 => ?_) (fun h3 => ?_)
    · try rw [h3]
      try simp only [qa, qb, qc, qd, qe, List.length_map] at h3
      refine Qv (Qd (kp4 rfl rfl rfl rfl) ?_)
      refine QG ?_ -- 5
      refine QE (Qe fun K hK => Qa rfl (Qa rfl (Qa rfl (QJ rfl rfl rfl (by omega) (QS (by omega)) rfl (QO (ds0 := [0]) (cs := [_, _, _, _, _, _, _]) rfl rfl rfl rfl rfl rfl (Qa rfl (Qa rfl (Q6 rfl rfl (by first | exact Qs (by omega) (by omega) | rfl) (QJ rfl rfl rfl (by omega) (Qkz (by omega)) rfl (QO (ds0 := [0]) (cs := [_, _, _, _, _, _, _]) rfl rfl rfl rfl rfl rfl ?_))))))))))
      refine QY (ds0 := []) (QaY hl (Yx hl _ (List.getElem_mem (by omega))) (Yx hl _ (List.getElem_mem (by omega)))) rfl rfl (.inr rfl) rfl rfl ?_
      refine hK _ _ (Qb (kp5 rfl rfl rfl rfl rfl) ?_)
      refine Qw rfl (fun h4 => ?_) (fun h4 => ?_)
      · try rw [h4]
        try simp only [qa, qb, qc, qd, qe, List.length_map] at h4
        refine QP fun K hK => Qa rfl (Qa rfl (Qa rfl (QJ rfl rfl rfl (by omega) (QS (by omega)) rfl (QO (ds0 := [1, 0]) (cs := [_, _, _, _, _, _, _]) rfl rfl rfl rfl rfl rfl (Qa rfl (Qa rfl (Q6 rfl rfl (by first | exact Qs (by omega) (by omega) | rfl) (QJ rfl rfl rfl (by omega) (Qkz (by omega)) rfl (QO (ds0 := [1, 0]) (cs := [_, _, _, _, _, _, _]) rfl rfl rfl rfl rfl rfl (Qkd (ds0 := [0]) (Qkm (k := 5) rfl rfl rfl (by decide) rfl (by decide) (by simp [D.ids, D.sid, dCu]) ⟨.osl 5 out.length, by simp, by simp [D.ids, D.sid]⟩ rfl rfl (Qal (by omega) hI2.2.1 (Yx hl _ (List.getElem_mem (by omega))) (Yx hl _ (List.getElem_mem (by omega))))) (fun _ h => by cases h) rfl rfl ?_))))))))))
        refine Qa rfl (hK _ ?_)
        refine Qi (Qd (kp4 rfl rfl rfl rfl) (QP fun K hK => Qa rfl (Q6 rfl rfl (by first | exact Qs (by omega) (by omega) | rfl) (Qa rfl (hK _ ?_)))))
        refine Ql (i + 1, Qce out (YW l)[i] (YW l)[i + 1]) ?_ ?_ ?_
        · exact le_trans (Qmt (l := [0, 6, 7]) (t := 50) (u := 5) 5 (kp3 rfl rfl rfl) rfl rfl rfl rfl) (Zc (l := [0, 5, 6, 7]) (lH := [5]) (kp4 rfl rfl rfl rfl) (Qf rfl Qr) rfl rfl rfl)
        · exact ⟨by omega, hI2.take (Yx hl) (by omega) (by assumption)⟩
        · show (YW l).length - (i + 1) < (YW l).length - i; omega
      · try rw [h4]
        try simp only [qa, qb, qc, qd, qe, List.length_map] at h4
        refine Qv (Qi (Qd (kp4 rfl rfl rfl rfl) (QP fun K hK => Qa rfl (Q6 rfl rfl (by first | exact Qs (by omega) (by omega) | rfl) (Qa rfl (hK _ ?_))))))
        refine Ql (i + 1, out) ?_ ?_ ?_
        · exact Zc (l := [0, 5, 6, 7]) (lH := [5]) (kp4 rfl rfl rfl rfl) (Qf rfl Qr) rfl rfl rfl
        · exact ⟨by omega, hI2.skip (by omega) (by assumption)⟩
        · show (YW l).length - (i + 1) < (YW l).length - i; omega
    · try rw [h3]
      try simp only [qa, qb, qc, qd, qe, List.length_map] at h3
      refine Zo (QN (QB (QI (Qd (kp1 rfl) (Qe fun K hK => Qa rfl (Qa rfl (Qa rfl ?_)))))))
      refine hK _ _ (Qb (kp2 rfl rfl) ?_)
      refine Qu ?_
      first
        | exact QT rfl rfl ⟨by rw [QjK, if_neg (by rw [XO (i := i) (by omega) (by assumption)]; simp)]; rfl, by rw [XO (i := i) (by omega) (by assumption)]; rfl⟩
        | (have ha : l.all QdN = true := XD (by omega) hI.2
           exact QT rfl rfl ⟨by rw [QjK, if_pos ha, hI2.done (by omega)]; simp [Qbb, D.fz, D.fzS, Qd4, lk, D.can, D.canS, ZF], by rw [ha]; rfl⟩)
end Go.Proofs
namespace Go.Proofs
open Go Go.Abs M3 M25
set_option linter.unusedVariables false
set_option linter.unusedSimpArgs false
theorem QaX {a b : List (Cu × Cu)} (ha : Sm a) (hb : Sm b) (hab : a.length + b.length <= 1000000) : Ok Tryz.prog 111 [ZF a, ZF b] (ZF (QoS a b)) := by
 refine Ok.ofT ZX Tryz.func111 Qrx (Nat.le_of_ble_eq_true rfl) ?_
 show TW _ _ tf111.body _ _
 refine Qe fun K hK => Qa rfl ?_
 refine hK _ _ (Qb (kp2 rfl rfl) ?_)
 refine QG ?_ -- 0
 refine Qe fun K hK => Qa rfl (QC (ZV ha) rfl rfl (.inr rfl) (Yb rfl (Qa rfl ?_)))
 refine Qy (g := 10) rfl (fun h1 => ?_) (fun h1 => ?_)
 ·try rw [h1]
  try simp only [qa, qb, qc, qd, qe] at h1
  refine Qo rfl (Qo rfl (Qo rfl (Qk rfl rfl ?_)))
  refine hK _ _ (Qb (kp3 rfl rfl rfl) ?_)
  refine Zp rfl (Qe fun K hK => Qa rfl ?_)
  refine hK _ _ (Qb (kp1 rfl) ?_)
  refine Qu (Qj (Yq rfl ?_))
  rw [QoS, if_neg (by simp [h1])]; rfl
 ·try rw [h1]
  try simp only [qa, qb, qc, qd, qe] at h1
  refine Qg rfl (Qa rfl (Qg rfl (QC (ZV hb) rfl rfl (.inr rfl) (Qg rfl (Yb rfl (Qk rfl rfl ?_))))))
  refine hK _ _ (Qb (kp3 rfl rfl rfl) ?_)
  refine Qw rfl (fun h2 => ?_) (fun h2 => ?_)
  ·try rw [h2]
   try simp only [qa, qb, qc, qd, qe] at h2
   refine Qe fun K hK => Qa rfl ?_
   refine hK _ _ (Qb (kp1 rfl) ?_)
   refine Qu (Qj (Yq rfl ?_))
   rw [QoS, if_neg (by simp [h1, h2])]; rfl
  ·try rw [h2]
   try simp only [qa, qb, qc, qd, qe] at h2
   refine Qv (Qd (kp2 rfl rfl) (Qe fun K hK => Qa rfl (QoD rfl rfl (fun _ h => Qne QoW h) rfl (.inl rfl) (by simp) (by simp; omega) (by simp; omega) (Qa rfl (XM rfl rfl (fun _ h => Qne QoW h) rfl (by simp) rfl rfl rfl (by simp; omega) (by simp; omega) ?_)))))
   apply Qo6 [17] (by simp)
   ·simp [St.freezeL, St.freeze, rem, D.fz, D.fzS, Box.fz, lk, D.scrub]; exact ⟨rfl, rfl⟩
   ·exact Qc8 (ha.app hb hab)
   ·rfl
   ·simp [Qbb, D.fz, D.fzS, Qd4, D.can, D.canS, ZF]
   ·exact .inl rfl
   refine Qa rfl (Q3 rfl rfl (Q3 rfl rfl (Qa rfl (Qa rfl ?_))))
   refine hK _ _ (Qb (kp1 rfl) ?_)
   refine Qe fun K hK => Qa rfl (Qa rfl ?_)
   refine hK _ _ (Qb (kp1 rfl) ?_)
   refine Qu (Yq rfl ?_)
   rw [QoS, if_pos ⟨h1, h2⟩]; rfl
theorem Qay {a : List (Cu × Cu)} (ha : Sm a) : Ok Tryz.prog 113 [ZF a] (ZF (QjL a)) := by
 refine Ok.ofT ZX Tryz.func113 Qrz (Nat.le_of_ble_eq_true rfl) ?_
 show TW _ _ tf113.body _ _
 have hn := ha.1
 have hc1 := Qcc a
 refine Qe fun K hK => Qa rfl ?_
 refine hK _ _ (Qb (kp1 rfl) ?_)
 refine QG ?_ -- 0
 refine Qe fun K hK => Qa rfl (QC (ZV ha) rfl rfl (.inr rfl) (Yb rfl ?_))
 refine hK _ _ (Qb (kp2 rfl rfl) ?_)
 refine Qw rfl (fun h1 => ?_) (fun h1 => ?_)
 ·try rw [h1]
  try simp only [qa, qb, qc, qd, qe, List.length_map] at h1
  refine Qe fun K hK => Qa rfl ?_
  refine hK _ _ (Qb (kp1 rfl) ?_)
  refine Qu (Qj (Yq rfl ?_))
  rw [QjL, if_neg (by simp [h1])]; rfl
 ·try rw [h1]
  try simp only [qa, qb, qc, qd, qe, List.length_map] at h1
  refine Qv (Qd (kp1 rfl) (Qe fun K hK => Qa rfl ?_))
  refine hK _ _ (Qb (kp2 rfl rfl) ?_)
  refine Qe fun K hK => Qa rfl (QC (Qak ha) rfl rfl (.inl rfl) (Qa rfl ?_))
  refine hK _ _ (Qb (kp3 rfl rfl rfl) ?_)
  refine QG ?_ -- 1
  refine Qe fun K hK => Qa rfl ?_
  refine hK _ _ (Qb (kp4 rfl rfl rfl rfl) ?_)
  refine QE ?_
  refine Zv (ι := Nat × List (Cu × Cu)) (fun ⟨i, out⟩ => ⟨[(0, ZF a), (3, .osl 3 out.length), (4, Qhi (YW a)), (5, .int .i64 i)], [(3, ⟨out.map QeN, 14, 115, true⟩)]⟩) (fun ⟨i, out⟩ => i <= (YW a).length /\ FillI (fun x y => !mIn a x y) (YW a) i out) (fun ⟨i, out⟩ => (YW a).length - i) (0, []) ?_ ?_ ?_
  ·exact le_trans (Yw 3 3 14 115 rfl rfl) (Zc (l := [0, 3, 4, 5]) (lH := [3]) (kp4 rfl rfl rfl rfl) (Qf rfl Qr) rfl rfl rfl)
  ·exact ⟨Nat.zero_le _, FillI.zero⟩
  intro ⟨i, out⟩ hI
  obtain ⟨hI1, hI2⟩ := hI
  have hI3 := hI2.1
  try dsimp only
  refine QG ?_ -- 2
  refine Qe fun K hK => Qa rfl (Q6 rfl rfl (by first | exact Qs (by omega) (by omega) | rfl) (Qa rfl (QU rfl rfl (Yj rfl rfl ?_))))
  refine hK _ _ (Qb (kp5 rfl rfl rfl rfl rfl) ?_)
  refine Qw rfl (fun h2 => ?_) (fun h2 => ?_)
  ·try rw [h2]
   try simp only [qa, qb, qc, qd, qe, List.length_map] at h2
   refine Qv (Qd (kp4 rfl rfl rfl rfl) ?_)
   refine QG ?_ -- 3
   refine QE (Qe fun K hK => Qa rfl (Qa rfl (Qa rfl (QJ rfl rfl rfl (by omega) (QS (by omega)) rfl (QO (ds0 := [1, 0]) (cs := [_, _, _, _, _, _, _]) rfl rfl rfl rfl rfl rfl (Qa rfl (Qa rfl (Q6 rfl rfl (by first | exact Qs (by omega) (by omega) | rfl) (QJ rfl rfl rfl (by omega) (Qkz (by omega)) rfl (QO (ds0 := [1, 0]) (cs := [_, _, _, _, _, _, _]) rfl rfl rfl rfl rfl rfl ?_))))))))))
   refine QY (ds0 := [0]) (QaY ha (Yx ha _ (List.getElem_mem (by omega))) (Yx ha _ (List.getElem_mem (by omega)))) rfl rfl (.inr rfl) rfl rfl (Yb rfl ?_)
   refine hK _ _ (Qb (kp5 rfl rfl rfl rfl rfl) ?_)
   refine Qw rfl (fun h3 => ?_) (fun h3 => ?_)
   ·try rw [h3]
    try simp only [qa, qb, qc, qd, qe, List.length_map] at h3
    refine QP fun K hK => Qa rfl (Qa rfl (Qa rfl (QJ rfl rfl rfl (by omega) (QS (by omega)) rfl (QO (ds0 := [1, 0]) (cs := [_, _, _, _, _, _, _]) rfl rfl rfl rfl rfl rfl (Qa rfl (Qa rfl (Q6 rfl rfl (by first | exact Qs (by omega) (by omega) | rfl) (QJ rfl rfl rfl (by omega) (Qkz (by omega)) rfl (QO (ds0 := [1, 0]) (cs := [_, _, _, _, _, _, _]) rfl rfl rfl rfl rfl rfl (Qkd (ds0 := [0]) (Qkm (k := 3) rfl rfl rfl (by decide) rfl (by decide) (by simp [D.ids, D.sid, dCu]) ⟨.osl 3 out.length, by simp, by simp [D.ids, D.sid]⟩ rfl rfl (Qal (by omega) hI2.2.1 (Yx ha _ (List.getElem_mem (by omega))) (Yx ha _ (List.getElem_mem (by omega))))) (fun _ h => by cases h) rfl rfl ?_))))))))))
    refine Qa rfl (hK _ ?_)
    refine Qi (Qd (kp4 rfl rfl rfl rfl) (QP fun K hK => Qa rfl (Q6 rfl rfl (by first | exact Qs (by omega) (by omega) | rfl) (Qa rfl (hK _ ?_)))))
    refine Ql (i + 1, Qce out (YW a)[i] (YW a)[i + 1]) ?_ ?_ ?_
    ·exact le_trans (Qmt (l := [0, 4, 5]) (t := 40) (u := 3) 3 (kp3 rfl rfl rfl) rfl rfl rfl rfl) (Zc (l := [0, 3, 4, 5]) (lH := [3]) (kp4 rfl rfl rfl rfl) (Qf rfl Qr) rfl rfl rfl)
    ·exact ⟨by omega, hI2.take (Yx ha) (by omega) (by simp; assumption)⟩
    ·show (YW a).length - (i + 1) < (YW a).length - i; omega
   ·try rw [h3]
    try simp only [qa, qb, qc, qd, qe, List.length_map] at h3
    refine Qv (Qi (Qd (kp4 rfl rfl rfl rfl) (QP fun K hK => Qa rfl (Q6 rfl rfl (by first | exact Qs (by omega) (by omega) | rfl) (Qa rfl (hK _ ?_))))))
    refine Ql (i + 1, out) ?_ ?_ ?_
    ·exact Zc (l := [0, 3, 4, 5]) (lH := [3]) (kp4 rfl rfl rfl rfl) (Qf rfl Qr) rfl rfl rfl
    ·exact ⟨by omega, hI2.skip (by omega) (by simp; assumption)⟩
    ·show (YW a).length - (i + 1) < (YW a).length - i; omega
  ·try rw [h2]
   try simp only [qa, qb, qc, qd, qe, List.length_map] at h2
   refine Zo (QN (QB (QI (Qd (kp1 rfl) (Qe fun K hK => Qa rfl (Qa rfl ?_))))))
   refine hK _ _ (Qb (kp1 rfl) ?_)
   refine Qu (Yq rfl ?_)
   rw [QjL, if_pos h1, hI2.done (by omega)]; simp [Qbb, D.fz, D.fzS, Qd4, lk, D.can, D.canS, ZF]
end Go.Proofs
namespace Go.Proofs
open Go Go.Abs M3 M25
set_option linter.unusedVariables false
set_option linter.unusedSimpArgs false
theorem Qd8 {a b : Qfi} (h1a : Sm a.1) (h2a : Sm a.2) (h1b : Sm b.1) (h2b : Sm b.2) (hl1 : a.1.length + b.1.length <= 1000000) (hl2 : a.2.length + b.2.length <= 1000000) : Ok Tryz.prog 97 [Qhj a, Qhj b] (Qhj (QoT a b)) := by
 refine Ok.ofT ZX Tryz.func97 Qs9 (Nat.le_of_ble_eq_true rfl) ?_
 show TW _ _ tf97.body _ _
 refine Qe fun K hK => Zw rfl rfl rfl (Zw rfl rfl rfl (ZC rfl ?_))
 refine hK _ _ (Qb (kp3 rfl rfl rfl) ?_)
 refine QG ?_ -- 0
 refine Qe fun K hK => QD (cs := [_, _]) rfl rfl rfl rfl (QC (YI h1a h2a) rfl rfl (.inr rfl) (Yb rfl (Qa rfl ?_)))
 refine Qy (g := 8) rfl (fun h1 => ?_) (fun h1 => ?_)
 ·try rw [h1]
  try simp only [qa, qb, qc, qd, qe] at h1
  refine Qo rfl (Qo rfl (Qo rfl (Qk rfl rfl ?_)))
  refine hK _ _ (Qb (kp4 rfl rfl rfl rfl) ?_)
  refine Zp rfl (Qe fun K hK => QC (Z7) rfl rfl (.inl rfl) (Q5 rfl rfl rfl rfl rfl rfl rfl rfl ?_))
  refine hK _ _ (Qb (kp1 rfl) ?_)
  refine Qu (Qj (Post.eq (ZE (ds := [.sl _, .sl _]) (cs := [_, _]) rfl rfl rfl rfl rfl) ?_))
  rw [QoT, if_neg (by simp [h1])]; rfl
 ·try rw [h1]
  try simp only [qa, qb, qc, qd, qe] at h1
  refine Qg rfl (QD (cs := [_, _]) rfl rfl rfl rfl (Qg rfl (QC (YI h1b h2b) rfl rfl (.inr rfl) (Qg rfl (Yb rfl (Qk rfl rfl ?_))))))
  refine hK _ _ (Qb (kp4 rfl rfl rfl rfl) ?_)
  refine Qw rfl (fun h2 => ?_) (fun h2 => ?_)
  ·try rw [h2]
   try simp only [qa, qb, qc, qd, qe] at h2
   refine Qe fun K hK => QC (Z7) rfl rfl (.inl rfl) (Q5 rfl rfl rfl rfl rfl rfl rfl rfl ?_)
   refine hK _ _ (Qb (kp1 rfl) ?_)
   refine Qu (Qj (Post.eq (ZE (ds := [.sl _, .sl _]) (cs := [_, _]) rfl rfl rfl rfl rfl) ?_))
   rw [QoT, if_neg (by simp [h1, h2])]; rfl
  ·try rw [h2]
   try simp only [qa, qb, qc, qd, qe] at h2
   refine Qv (Qd (kp3 rfl rfl rfl) (Qe fun K hK => Qh rfl rfl (QQ (ds0 := [7, 1, 0]) rfl rfl rfl rfl rfl (Qh rfl rfl (QQ (ds0 := [7, 1, 0]) rfl rfl rfl rfl rfl (QY (ds0 := [1, 0]) (QaX h1a h1b hl1) rfl rfl (.inl rfl) rfl rfl (Qh rfl rfl (QQ (ds0 := [2, 1, 0]) rfl rfl rfl rfl rfl (Qh rfl rfl (QQ (ds0 := [2, 1, 0]) rfl rfl rfl rfl rfl ?_))))))))))
   refine QY (ds0 := [1, 0]) (QaX h2a h2b hl2) rfl rfl (.inl rfl) rfl rfl (QR rfl rfl (Xk (ds0 := []) rfl rfl rfl rfl rfl rfl rfl rfl rfl rfl ?_))
   refine hK _ _ (Qb (kp1 rfl) ?_)
   refine Qu (Post.eq (ZE (ds := [.sl _, .sl _]) (cs := [_, _]) rfl rfl rfl rfl rfl) ?_)
   rw [QoT, if_pos ⟨h1, h2⟩]; rfl
theorem Qdt {a : Qfi} (h1a : Sm a.1) (h2a : Sm a.2) : Ok Tryz.prog 99 [Qhj a] (Qhj (QhM a)) := by
 refine Ok.ofT ZX Tryz.func99 Qtb (Nat.le_of_ble_eq_true rfl) ?_
 show TW _ _ tf99.body _ _
 refine Qe fun K hK => Zw rfl rfl rfl (ZC rfl ?_)
 refine hK _ _ (Qb (kp2 rfl rfl) ?_)
 refine QG ?_ -- 0
 refine Qe fun K hK => QD (cs := [_, _]) rfl rfl rfl rfl (QC (YI h1a h2a) rfl rfl (.inr rfl) (Yb rfl ?_))
 refine hK _ _ (Qb (kp3 rfl rfl rfl) ?_)
 refine Qw rfl (fun h1 => ?_) (fun h1 => ?_)
 ·try rw [h1]
  try simp only [qa, qb, qc, qd, qe] at h1
  refine Qe fun K hK => QC (Z7) rfl rfl (.inl rfl) (Q5 rfl rfl rfl rfl rfl rfl rfl rfl ?_)
  refine hK _ _ (Qb (kp1 rfl) ?_)
  refine Qu (Qj (Post.eq (ZE (ds := [.sl _, .sl _]) (cs := [_, _]) rfl rfl rfl rfl rfl) ?_))
  rw [QhM, if_neg (by simp [h1])]; rfl
 ·try rw [h1]
  try simp only [qa, qb, qc, qd, qe] at h1
  refine Qv (Qd (kp2 rfl rfl) (Qe fun K hK => Qh rfl rfl (QQ (ds0 := [5, 1, 0]) rfl rfl rfl rfl rfl (QY (ds0 := [1, 0]) (Qay h1a) rfl rfl (.inl rfl) rfl rfl (Qh rfl rfl (QQ (ds0 := [2, 1, 0]) rfl rfl rfl rfl rfl (QY (ds0 := [1, 0]) (Qay h2a) rfl rfl (.inl rfl) rfl rfl (QR rfl rfl (Xk (ds0 := []) rfl rfl rfl rfl rfl rfl rfl rfl rfl rfl ?_)))))))))
  refine hK _ _ (Qb (kp1 rfl) ?_)
  refine Qu (Post.eq (ZE (ds := [.sl _, .sl _]) (cs := [_, _]) rfl rfl rfl rfl rfl) ?_)
  rw [QhM, if_pos h1]; rfl
end Go.Proofs
namespace Go.Proofs
open Go Go.Abs M3 M25
set_option linter.unusedVariables false
set_option linter.unusedSimpArgs false
theorem Z1 {v n : Int} (hn : n <= 9223372036854775807) (hv : I64 v) : Ok Tryz.prog 13 [.int .i64 v, .int .i64 n] (.int .i64 (mPl v n)) := by
 refine Ok.ofT ZX Tryz.func13 Qr9 (Nat.le_of_ble_eq_true rfl) ?_
 show TW _ _ tf13.body _ _
 refine Qe fun K hK => Qa rfl ?_
 refine hK _ _ (Qb (kp2 rfl rfl) ?_)
 refine QG ?_ -- 0
 refine Qe fun K hK => Qa rfl (Yj rfl rfl ?_)
 refine hK _ _ (Qb (kp3 rfl rfl rfl) ?_)
 refine Qw rfl (fun h1 => ?_) (fun h1 => ?_)
 ·try rw [h1]
  try simp only [qa, qb, qc, qd, qe] at h1
  refine Qe fun K hK => Qa rfl ?_
  refine hK _ _ (Qb (kp1 rfl) ?_)
  refine Qu (Qj (QA rfl ?_))
  rw [mPl, if_pos h1]
 ·try rw [h1]
  try simp only [qa, qb, qc, qd, qe] at h1
  refine Qv (Qd (kp2 rfl rfl) (Qe fun K hK => Qa rfl (Qa rfl (Qnt rfl rfl (by omega) (Qa rfl ?_)))))
  refine hK _ _ (Qb (kp2 rfl rfl) ?_)
  refine QG ?_ -- 1
  refine Qe fun K hK => Qa rfl (Yj rfl rfl ?_)
  refine hK _ _ (Qb (kp3 rfl rfl rfl) ?_)
  refine Qw rfl (fun h2 => ?_) (fun h2 => ?_)
  ·try rw [h2]
   try simp only [qa, qb, qc, qd, qe] at h2
   refine Qe fun K hK => Qa rfl (Qa rfl (Q6 rfl rfl (Qs (by have := Int.lt_tmod_of_pos v (show 0 < n by omega); omega) (by have := Int.tmod_lt_of_pos v (show 0 < n by omega); omega)) (Qa rfl ?_)))
   refine hK _ _ (Qb (kp1 rfl) ?_)
   refine Qu (Qj (QA rfl ?_))
   rw [mPl, if_neg h1, QfX, if_pos h2]
  ·try rw [h2]
   try simp only [qa, qb, qc, qd, qe] at h2
   refine Qv (Qd (kp1 rfl) (Qe fun K hK => Qa rfl (Qa rfl ?_)))
   refine hK _ _ (Qb (kp1 rfl) ?_)
   refine Qu (QA rfl ?_)
   rw [mPl, if_neg h1, QfX, if_neg h2]
theorem Qd6 {l : List Int} {i : Int} : Ok Tryz.prog 73 [ZH l, .int .i64 i] (.int .i64 (Qnp l i)) := by
 refine Ok.ofT ZX Tryz.func73 QsO (Nat.le_of_ble_eq_true rfl) ?_
 show TW _ _ tf73.body _ _
 refine Qe fun K hK => Qa rfl ?_
 refine hK _ _ (Qb (kp2 rfl rfl) ?_)
 refine QG ?_ -- 0
 refine Qe fun K hK => Qa rfl (Yj rfl rfl (Qa rfl ?_))
 refine Qy (g := 7) rfl (fun h1 => ?_) (fun h1 => ?_)
 ·try rw [h1]
  try simp only [qa, qb, qc, qd, qe, List.length_map] at h1
  refine Qo rfl (Qo rfl (Qo rfl (Qo rfl (Qk rfl rfl ?_))))
  refine hK _ _ (Qb (kp3 rfl rfl rfl) ?_)
  refine Zp rfl (Qe fun K hK => Qa rfl (Qnt rfl rfl (by omega) (Qa rfl ?_)))
  refine hK _ _ (Qb (kp1 rfl) ?_)
  refine Qu (Qj (QA rfl ?_))
  rw [Qnp, if_pos (by omega)]
 ·try rw [h1]
  try simp only [qa, qb, qc, qd, qe, List.length_map] at h1
  refine Qg rfl (Qa rfl (Qg rfl (Qa rfl (Qg rfl (QU rfl rfl (Qg rfl (Qfg rfl rfl (Qk rfl rfl ?_))))))))
  refine hK _ _ (Qb (kp3 rfl rfl rfl) ?_)
  refine Qw rfl (fun h2 => ?_) (fun h2 => ?_)
  ·try rw [h2]
   try simp only [qa, qb, qc, qd, qe, List.length_map] at h2
   refine Qe fun K hK => Qa rfl (Qnt rfl rfl (by omega) (Qa rfl ?_))
   refine hK _ _ (Qb (kp1 rfl) ?_)
   refine Qu (Qj (QA rfl ?_))
   rw [Qnp, if_pos (by omega)]
  ·try rw [h2]
   try simp only [qa, qb, qc, qd, qe, List.length_map] at h2
   refine Qv (Qd (kp2 rfl rfl) (Qe fun K hK => Qa rfl (Qa rfl (QJ rfl rfl rfl (by omega) (ZM (by omega) (by omega)) rfl (Qz rfl rfl rfl (Qa rfl ?_))))))
   refine hK _ _ (Qb (kp1 rfl) ?_)
   refine Qu (QA rfl ?_)
   exact (QmA (by omega) (by omega)).symm
theorem XP {k : Nat} {L : List Int} {I n : Int} (hk : 1000000 <= k) (hL : ∀ x ∈ L, I64 x) (hn : n <= 9223372036854775807) (et : Nat) : OkH Tryz.prog 42 [.ref k 0 0, .int .i64 n] [(k, gB L I et)] (.int .i64 (nx L I n)) ((k, gB L (nxI I) et) :: [(k, gB L I et)]) := by
 refine OkH.lent hk ZX Tryz.func42 Qsp (Nat.le_of_ble_eq_true rfl) rfl ?_
 show TW _ _ tf42.body _ _
 refine Qe fun K hK => Qa rfl ?_
 refine hK _ _ (Qb (kp2 rfl rfl) ?_)
 refine Qe fun K hK => Qa rfl (Yc rfl rfl (Qh rfl Qe2 (Qz rfl (Z5 Qem rfl) rfl (Q6 rfl rfl rfl (Yc rfl rfl (Qh rfl Qe2 (Q5 rfl Qem rfl rfl rfl rfl rfl rfl ?_)))))))
 refine hK _ _ (Qb (kp2 rfl rfl) ?_)
 refine Qe fun K hK => Qa rfl (Yc rfl rfl (Qh rfl Qe2 (QQ (ds0 := [3, 1, 0]) rfl (Z5 Qem rfl) rfl rfl rfl (Qa rfl (Yc rfl rfl (Qh rfl Qe2 (QQ (ds0 := [4, 3, 1, 0]) rfl (Z5 Qem rfl) rfl rfl rfl (XW rfl rfl rfl (QY (ds0 := [1, 0]) (Qd6) rfl rfl (.inr rfl) rfl rfl (Qa rfl ?_))))))))))
 refine QY (ds0 := [0]) (Z1 hn (Qn3 hL (Qgf _))) rfl rfl (.inr rfl) rfl rfl (Qa rfl ?_)
 refine hK _ _ (Qb (kp1 rfl) ?_)
 refine Qu ?_
 exact Y1 rfl rfl (QpR Qem)
end Go.Proofs
namespace Go.Proofs
open Go Go.Abs M3 M25
set_option linter.unusedVariables false
set_option linter.unusedSimpArgs false
theorem Y9 {v : Int} (h0 : 0 <= v) (h1v : v <= 61) : Ok Tryz.prog 55 [.int .i64 v] (.int .i64 (2 ^ v.toNat)) := by
 refine Ok.ofT ZX Tryz.func55 QsA (Nat.le_of_ble_eq_true rfl) ?_
 show TW _ _ tf55.body _ _
 refine Qe fun K hK => Qa rfl ?_
 refine hK _ _ (Qb (kp1 rfl) ?_)
 refine Qe fun K hK => Qa rfl ?_
 refine hK _ _ (Qb (kp2 rfl rfl) ?_)
 refine QG ?_ -- 0
 refine Qe fun K hK => Qa rfl ?_
 refine hK _ _ (Qb (kp3 rfl rfl rfl) ?_)
 refine QE ?_
 refine Zv (ι := Nat) (fun i => ⟨[(0, .int .i64 v), (3, .int .i64 (2 ^ i)), (4, .int .i64 i)], []⟩) (fun i => (i : Int) <= v) (fun i => v.toNat - i) 0 ?_ ?_ ?_
 ·exact Zh (kp3 rfl rfl rfl)
 ·exact h0
 intro i hI
 have hp := QhS (i := i + 1) (by omega)
 rw [Int.pow_succ] at hp
 try dsimp only
 refine QG ?_ -- 1
 refine Qe fun K hK => Qa rfl (Qa rfl (Yj rfl rfl ?_))
 refine hK _ _ (Qb (kp4 rfl rfl rfl rfl) ?_)
 refine Qw rfl (fun h1 => ?_) (fun h1 => ?_)
 ·try rw [h1]
  try simp only [qa, qb, qc, qd, qe] at h1
  refine Qv (Qd (kp3 rfl rfl rfl) ?_)
  refine QG ?_ -- 2
  refine QE (QP fun K hK => Qa rfl (Qpa rfl rfl (Qs (by obtain ⟨p1, p2⟩ := hp; generalize (2 : Int) ^ i = z at *; omega) (by obtain ⟨p1, p2⟩ := hp; generalize (2 : Int) ^ i = z at *; omega)) (Qa rfl (hK _ ?_))))
  refine Qi (Qd (kp3 rfl rfl rfl) (QP fun K hK => Qa rfl (Q6 rfl rfl (Qs (by omega) (by omega)) (Qa rfl (hK _ ?_)))))
  refine Ql (i + 1) ?_ ?_ ?_
  ·exact Zc (l := [0, 3, 4]) (lH := []) (kp3 rfl rfl rfl) Qr (by rw [Int.pow_succ]; rfl) rfl rfl
  ·show ((i + 1 : Nat) : Int) <= v; omega
  ·first | omega | (simp only; omega) | (dsimp only; omega)
 ·try rw [h1]
  try simp only [qa, qb, qc, qd, qe] at h1
  refine Zo (QN (QB (QI (Qd (kp1 rfl) (Qe fun K hK => Qa rfl (Qa rfl ?_))))))
  refine hK _ _ (Qb (kp1 rfl) ?_)
  refine Qu (QA rfl ?_)
  rw [show v.toNat = i by omega]
theorem XQ {h m : Int} : Ok Tryz.prog 60 [.int .i64 h, .int .i64 m] (.int .i64 (QaF h m)) := by
 refine Ok.ofT ZX Tryz.func60 QsD (Nat.le_of_ble_eq_true rfl) ?_
 show TW _ _ tf60.body _ _
 refine Qe fun K hK => Qa rfl ?_
 refine hK _ _ (Qb (kp2 rfl rfl) ?_)
 refine QG ?_ -- 0
 refine QE (Qe fun K hK => Qa rfl (Qa rfl (QbQ rfl rfl (Qa rfl (Zy rfl rfl (Qa rfl ?_))))))
 refine hK _ _ (Qb (kp3 rfl rfl rfl) ?_)
 refine Qw rfl (fun h1 => ?_) (fun h1 => ?_)
 ·try rw [h1]
  try simp only [qa, qb, qc, qd, qe] at h1
  refine Qe fun K hK => Qa rfl ?_
  refine hK _ _ (Qb (kp1 rfl) ?_)
  refine Qu (Qt (Qj (QA rfl ?_)))
  rw [QaF, if_pos h1]
 ·try rw [h1]
  try simp only [qa, qb, qc, qd, qe] at h1
  refine Qe fun K hK => Qa rfl (Qa rfl (QbQ rfl rfl (Zy rfl rfl (Qa rfl ?_))))
  refine hK _ _ (Qb (kp1 rfl) ?_)
  refine Qw rfl (fun h2 => ?_) (fun h2 => ?_)
  ·try rw [h2]
   try simp only [qa, qb, qc, qd, qe] at h2
   refine Qe fun K hK => Qa rfl ?_
   refine hK _ _ (Qb (kp1 rfl) ?_)
   refine Qu (Qt (Qj (QA rfl ?_)))
   rw [QaF, if_neg h1, if_pos h2]
  ·try rw [h2]
   try simp only [qa, qb, qc, qd, qe] at h2
   refine Qv (Qi (Qd (Q2) (Qe fun K hK => Qa rfl ?_)))
   refine hK _ _ (Qb (kp1 rfl) ?_)
   refine Qu (QA rfl ?_)
   rw [QaF, if_neg h1, if_neg h2]
theorem Qij {h m : Int} : Ok Tryz.prog 52 [.int .i64 h, .int .i64 m] (.int .i64 (Qde h m)) := by
 refine Ok.ofT ZX Tryz.func52 Qsz (Nat.le_of_ble_eq_true rfl) ?_
 show TW _ _ tf52.body _ _
 refine Qe fun K hK => Qa rfl ?_
 refine hK _ _ (Qb (kp2 rfl rfl) ?_)
 refine QG ?_ -- 0
 refine QE (Qe fun K hK => Qa rfl (Qa rfl (QeT rfl rfl (Zy rfl rfl (Qa rfl ?_)))))
 refine hK _ _ (Qb (kp3 rfl rfl rfl) ?_)
 refine Qw rfl (fun h1 => ?_) (fun h1 => ?_)
 ·try rw [h1]
  try simp only [qa, qb, qc, qd, qe] at h1
  refine Qe fun K hK => Qa rfl ?_
  refine hK _ _ (Qb (kp1 rfl) ?_)
  refine Qu (Qt (Qj (QA rfl ?_)))
  rw [Qde, if_pos h1]
 ·try rw [h1]
  try simp only [qa, qb, qc, qd, qe] at h1
  refine Qe fun K hK => Qa rfl (Qa rfl (QbQ rfl rfl (Zy rfl rfl (Qa rfl ?_))))
  refine hK _ _ (Qb (kp1 rfl) ?_)
  refine Qw rfl (fun h2 => ?_) (fun h2 => ?_)
  ·try rw [h2]
   try simp only [qa, qb, qc, qd, qe] at h2
   refine Qe fun K hK => Qa rfl ?_
   refine hK _ _ (Qb (kp1 rfl) ?_)
   refine Qu (Qt (Qj (QA rfl ?_)))
   rw [Qde, if_neg h1, if_pos h2]
  ·try rw [h2]
   try simp only [qa, qb, qc, qd, qe] at h2
   refine Qv (Qi (Qd (Q2) (Qe fun K hK => Qa rfl ?_)))
   refine hK _ _ (Qb (kp1 rfl) ?_)
   refine Qu (QA rfl ?_)
   rw [Qde, if_neg h1, if_neg h2]
end Go.Proofs
namespace Go.Proofs
open Go Go.Abs M3 M25
set_option linter.unusedVariables false
set_option linter.unusedSimpArgs false
theorem Xn  : Ok Tryz.prog 66 [] (.sl (versions.map dVr)) := by
 refine Ok.ofT ZX Tryz.func66 QsH (Nat.le_of_ble_eq_true rfl) ?_
 show TW _ _ tf66.body _ _
 refine Qe fun K hK => Qa rfl ?_
 refine hK _ _ (Qb (Q2) ?_)
 refine Qe fun K hK => QR rfl rfl (QR rfl rfl (QR rfl rfl (QR rfl rfl (QH rfl rfl (Qa rfl ?_)))))
 refine hK _ _ (Qb (kp1 rfl) ?_)
 refine Qu (Yq rfl ?_)
 rfl
end Go.Proofs
namespace M25
open Go Go.Abs M3
structure WantT where
 u : Int
 s : Qfi
structure CandT where
 v : Vr
 sh : Int
 ns : List (List WantT)
 bs : List WantT
structure Qnw where
 n : List UInt8
 f : List UInt8
 cs : List CandT
abbrev Qp := List Qnw
def QeO (x : WantT) : List D := [.int .i64 x.u, ZF x.s.1, ZF x.s.2]
def Zb (l : List WantT) : D := .sl (l.map QeO)
def QW (l : List (List WantT)) : D := .sl (l.map fun r => [Zb r])
def Qpq (c : CandT) : List D := [.int .i64 c.v.a, .int .i64 c.v.b, .int .i64 c.v.c, .str c.v.p, .str c.v.q, .int .i64 c.sh, QW c.ns, Zb c.bs]
def Qko (l : List CandT) : D := .sl (l.map Qpq)
def YS (u : Qnw) : List D := [.str u.n, .str u.f, Qko u.cs]
def Z8 (w : Qp) : D := .agg [.sl (w.map YS)]
structure TermT where
 u : Int
 m : Int
 deriving DecidableEq
structure QL where
 u : Int
 m : Int
 l : Int
 c : Int
 deriving DecidableEq
structure RowT where
 k : Int
 u : Int
 a : Int
 b : Int
 t : List TermT
def Qef (t : TermT) : List D := [.int .i64 t.u, .int .i64 t.m]
def ZK (l : List TermT) : D := .sl (l.map Qef)
def Qft (s : QL) : List D := [.int .i64 s.u, .int .i64 s.m, .int .i64 s.l, .int .i64 s.c]
def Zz (l : List QL) : D := .sl (l.map Qft)
def Ql1 (r : RowT) : List D := [.int .i64 r.k, .int .i64 r.u, .int .i64 r.a, .int .i64 r.b, ZK r.t]
def Qqp (l : List RowT) : D := .sl (l.map Ql1)
def dDb (l : List (List TermT)) : D := .sl (l.map fun t => [ZK t])
abbrev XV (a b : Int) : Int := Qar .and .i64 a b
abbrev bor (a b : Int) : Int := Qar .or .i64 a b
abbrev Qgh (a b : Int) : Int := Qar .andNot .i64 a b
def uAt (w : Qp) (u : Int) : Option Qnw := if u < 0 then none else w[u.toNat]?
theorem Qk3 {w : Qp} {u : Int} (h0 : 0 <= u) (h : u < w.length) : uAt w u = some (w[u.toNat]'(by omega)) := by
 rw [uAt, if_neg (by omega), List.getElem?_eq_getElem (by omega)]
theorem Qj6 {w : Qp} {u : Int} (h : u < 0 \/ (w.length : Int) <= u) : uAt w u = none := by
 unfold uAt
 split
 ·rfl
 ·rw [List.getElem?_eq_none]; omega
def YH (w : Qp) (u : Int) : Int := match uAt w u with
 | none => 0
 | some x => 2 ^ (min x.cs.length 16 + 1) - 1
theorem QhJ {w : Qp} {u : Int} (h0 : 0 <= u) (h : u < w.length) : YH w u = 2 ^ (min (w[u.toNat]'(by omega)).cs.length 16 + 1) - 1 := by
 rw [YH, Qk3 h0 h]
theorem QdJ {w : Qp} {u : Int} (h : u < 0 \/ (w.length : Int) <= u) : YH w u = 0 := by rw [YH, Qj6 h]
theorem QhI (w : Qp) (u : Int) : 0 <= YH w u /\ YH w u <= 131071 := by
 unfold YH
 split
 ·omega
 ·rename_i x _
  have h1 : (2 : Nat) ^ (min x.cs.length 16 + 1) <= 2 ^ 17 := Nat.pow_le_pow_right (by omega) (by omega)
  have h2 : 1 <= (2 : Nat) ^ (min x.cs.length 16 + 1) := Nat.one_le_two_pow
  have h3 : ((2 ^ (min x.cs.length 16 + 1) : Nat) : Int) = (2 : Int) ^ (min x.cs.length 16 + 1) := by simp
  rw [<- h3]
  have h4 : (2 : Nat) ^ 17 = 131072 := by decide
  omega
def Qgs (v : Vr) : Prop := v.p.length <= 1000000 /\ v.q.length <= 1000000
structure WSm (w : Qp) : Prop where
 len : w.length <= 48
 cs : ∀ u ∈ w, u.cs.length <= 16
 vs : ∀ u ∈ w, ∀ c ∈ u.cs, Qgs c.v
 ns : ∀ u ∈ w, ∀ c ∈ u.cs, c.ns.length <= 1000 /\ c.bs.length <= 1000
 nl : ∀ u ∈ w, ∀ c ∈ u.cs, ∀ r ∈ c.ns, r.length <= 1000
 nw : ∀ u ∈ w, ∀ c ∈ u.cs, ∀ r ∈ c.ns, ∀ x ∈ r, Sm x.s.1 /\ Sm x.s.2
 bw : ∀ u ∈ w, ∀ c ∈ u.cs, ∀ x ∈ c.bs, Sm x.s.1 /\ Sm x.s.2
def Qre (s : Qfi) (v : Vr) : Bool := Qlt s v.a v.b v.c v.p v.q
def QbO (s : Qfi) (l : List CandT) : Nat -> Int
 | 0 => 0
 | n + 1 => QbO s l n + match l[n]? with
  | some c => if Qre s c.v = true then 2 ^ (n + 1) else 0
  | none => 0
theorem QkO (s : Qfi) (l : List CandT) : ∀ n, 0 <= QbO s l n /\ QbO s l n <= 2 ^ (n + 1) - 2
 | 0 => by simp [QbO]
 | n + 1 => by
  obtain ⟨h1, h2⟩ := QkO s l n
  have h3 : (2 : Int) ^ (n + 1 + 1) = 2 ^ (n + 1) * 2 := Int.pow_succ ..
  have h4 : (0 : Int) < 2 ^ (n + 1) := Int.pow_pos (by omega)
  rw [QbO, h3]
  generalize (2 : Int) ^ (n + 1) = z at *
  split
  ·split <;> omega
  ·omega
theorem QmL {s : Qfi} {l : List CandT} {i : Nat} (h : i < l.length) (hp : Qre s l[i].v = true) : QbO s l (i + 1) = QbO s l i + 2 ^ (i + 1) := by
 rw [QbO, List.getElem?_eq_getElem h]; simp only [hp, if_true]
theorem Qn8 {s : Qfi} {l : List CandT} {i : Nat} (h : i < l.length) (hp : Qre s l[i].v = false) : QbO s l (i + 1) = QbO s l i := by
 rw [QbO, List.getElem?_eq_getElem h]; simp only [hp, Bool.false_eq_true, if_false, Int.add_zero]
def Qjl (w : Qp) (x : WantT) : Int := match uAt w x.u with
 | none => 0
 | some un => QbO x.s un.cs (min un.cs.length 16)
theorem QmF {w : Qp} {x : WantT} (h0 : 0 <= x.u) (h : x.u < w.length) : Qjl w x = QbO x.s (w[x.u.toNat]'(by omega)).cs (min (w[x.u.toNat]'(by omega)).cs.length 16) := by
 rw [Qjl, Qk3 h0 h]
theorem QkJ {w : Qp} {x : WantT} (h : x.u < 0 \/ (w.length : Int) <= x.u) : Qjl w x = 0 := by rw [Qjl, Qj6 h]
theorem Qoh {n : Nat} (h : n <= 17) : 1 <= (2 : Int) ^ n /\ (2 : Int) ^ n <= 131072 := by
 have h1 : (2 : Nat) ^ n <= 2 ^ 17 := Nat.pow_le_pow_right (by omega) h
 have h2 : 1 <= (2 : Nat) ^ n := Nat.one_le_two_pow
 have h3 : ((2 ^ n : Nat) : Int) = (2 : Int) ^ n := by simp
 rw [<- h3]
 have h4 : (2 : Nat) ^ 17 = 131072 := by decide
 omega
theorem QkN (s : Qfi) (l : List CandT) {n : Nat} (h : n <= 16) : 0 <= QbO s l n /\ QbO s l n <= 131070 := by
 obtain ⟨h1, h2⟩ := QkO s l n
 have := Qoh (n := n + 1) (by omega)
 omega
theorem QpD (w : Qp) (x : WantT) : 0 <= Qjl w x /\ Qjl w x <= 131070 := by
 unfold Qjl
 split
 ·omega
 ·exact QkN _ _ (by omega)
def XR (m : Int) : Nat -> List Int
 | 0 => []
 | n + 1 => XR m n ++ if XV m (2 ^ n) = 0 then [] else [(n : Int) - 1]
def QbN (m : Int) : List Int := XR m 17
theorem Qeh (m : Int) : ∀ n, (XR m n).length <= n
 | 0 => Nat.le_refl _
 | n + 1 => by
  have := Qeh m n
  rw [XR, List.length_append]
  split <;> simp <;> omega
def QdM (f : Int) (u : Int) : List TermT -> Int
 | [] => f
 | t :: r => if t.u = u then t.m else QdM f u r
def QdL (w : Qp) (l : List TermT) (u : Int) : Int := QdM (YH w u) u l
theorem Qlx {f u : Int} {l : List TermT} {i : Nat} (h : i < l.length) (hn : ¬ l[i].u = u) : QdM f u (l.drop i) = QdM f u (l.drop (i + 1)) := by
 rw [List.drop_eq_getElem_cons h, QdM, if_neg hn]
theorem QmK {f u : Int} {l : List TermT} {i : Nat} (h : i < l.length) (hn : l[i].u = u) : QdM f u (l.drop i) = l[i].m := by
 rw [List.drop_eq_getElem_cons h, QdM, if_pos hn]
def Qb4 (w : Qp) : Nat -> List Int
 | 0 => []
 | n + 1 => Qb4 w n ++ [YH w n]
theorem Qda (w : Qp) : ∀ n, (Qb4 w n).length = n
 | 0 => rfl
 | n + 1 => by rw [Qb4, List.length_append, Qda w n]; rfl
def Qa3 (w : Qp) : List Int := Qb4 w w.length
def XB (w : Qp) (ms : List Int) : Nat -> List TermT
 | 0 => []
 | n + 1 => XB w ms n ++ if ms.getD n 0 = YH w n then [] else [⟨n, ms.getD n 0⟩]
theorem QgT (w : Qp) (ms : List Int) : ∀ n, (XB w ms n).length <= n
 | 0 => Nat.le_refl _
 | n + 1 => by
  have := QgT w ms n
  rw [XB, List.length_append]
  split <;> simp <;> omega
def QiJ (w : Qp) (ms : List Int) : Option (List TermT) := if ms.all (fun m => !decide (m = 0)) = true then some (XB w ms ms.length) else none
def dOT (o : Option (List TermT)) : D := .tup [ZK (o.getD []), .bool o.isSome]
def XA (ms : List Int) (l : List TermT) : List Int := l.foldl (fun ms t => ms.set t.u.toNat (XV (ms.getD t.u.toNat 0) t.m)) ms
def inW (w : Qp) (u : Int) : Bool := decide (0 <= u) && decide (u < w.length)
def QeH (w : Qp) (l : List TermT) : Option (List TermT) := if l.all (fun t => inW w t.u) = true then QiJ w (XA (Qa3 w) l) else none
def QgM (l : List TermT) (u : Int) : List TermT := l.filter fun t => !decide (t.u = u)
def Yk (l : List TermT) : Nat -> List TermT
 | 0 => []
 | n + 1 => Yk l n ++ l.filter fun t => decide (t.u = ((n : Nat) : Int))
def QhO (l : List TermT) : List TermT := Yk l 48
def Yi (w : Qp) (u : Int) (p : Nat) (l : List WantT) (bar : Bool) : Option (List TermT) :=
 QeH w (⟨u, XV (YH w u) (2 * 2 ^ p)⟩ :: l.map fun x => ⟨x.u, if bar = true then Qjl w x else YH w x.u - Qjl w x⟩)
def QjH (r x : RowT) : Bool := decide (x.k = r.k) && decide (x.u = r.u) && decide (QgM x.t r.u = QgM r.t r.u)
def QnX (w : Qp) (r x : RowT) : RowT := { x with t := QhO (⟨r.u, bor (QdL w x.t r.u) (QdL w r.t r.u)⟩ :: QgM x.t r.u) }
def Xi (w : Qp) (r : RowT) : List RowT -> List RowT
 | [] => [r]
 | x :: l => if QjH r x = true then QnX w r x :: l else x :: Xi w r l
def YQ (w : Qp) (u : Int) (p : Nat) (l : List (List WantT)) (rows : List RowT) : List RowT := l.foldl (fun rows n => match Yi w u p n false with
 | some t => Xi w ⟨2, u, 0, 0, t⟩ rows
 | none => rows) rows
def QbJ (w : Qp) (u : Int) (p : Nat) (l : List WantT) (rows : List RowT) : List RowT := l.foldl (fun rows n => match Yi w u p [n] true with
 | some t => Xi w ⟨3, u, 0, 0, t⟩ rows
 | none => rows) rows
def YJ (w : Qp) (u : Int) (cs : List CandT) : Nat -> List RowT -> List RowT
 | 0, rows => rows
 | n + 1, rows => match cs[n]? with
  | some c => QbJ w u n c.bs (YQ w u n c.ns (YJ w u cs n rows))
  | none => YJ w u cs n rows
def Yr (w : Qp) : Nat -> List RowT
 | 0 => [⟨1, 0, 0, 0, [⟨0, 1⟩]⟩]
 | n + 1 => match w[n]? with
  | some u => YJ w n u.cs u.cs.length (Yr w n)
  | none => Yr w n
def QdH (w : Qp) : List RowT := Yr w w.length
def mDB (w : Qp) : List (List TermT) := (QdH w).map RowT.t
/-! ### Trails -/
def Q9 (w : Qp) (l : List QL) (u : Int) : Int := l.foldl (fun a s => if s.u = u /\ inW w u = true then s.m else a) (YH w u)
def Ym (l : List QL) : Int := match l.getLast? with
 | none => 0
 | some s => s.l
def Xp (l : List QL) (u : Int) : Bool := l.any fun s => decide (s.u = u) && decide (s.c = -1)
def Qly : List Int -> Int
 | [x] => x
 | _ => -1
def XX (m : Int) : Int := Qly (QbN m)
def Qbu (w : Qp) (l : List QL) (s : QL) : Bool :=
 inW w s.u && decide (-1 <= s.c) && decide (XV s.m (Q9 w l s.u) = s.m) &&
  if s.c = -1 then decide (0 <= XX s.m) && !Xp l s.u && decide (s.l = IntKind.i64.wrap (Ym l + 1))
  else !decide (s.m = 0) && !decide (s.m = Q9 w l s.u) && decide (s.l = Ym l)
def Xq (w : Qp) (l : List QL) : Bool := (List.range l.length).all fun i => match l[i]? with
 | some s => Qbu w (l.take i) s
 | none => true
def Qdd (w : Qp) (l : List QL) (inc : List TermT) : Bool := inc.all fun t => decide (QaF (Q9 w l t.u) t.m = 2)
def Xr (have_ : Int -> Int) : List TermT -> Int -> Int
 | [], at_ => at_
 | t :: r, at_ => if QaF (have_ t.u) t.m = 0 then -1 else if QaF (have_ t.u) t.m = 1 then (if 0 <= at_ then -1 else Xr have_ r t.u) else Xr have_ r at_
def QfW (w : Qp) (l : List QL) (inc : List TermT) : Int := Xr (Q9 w l) inc (-1)
def Y7 (w : Qp) (l : List QL) : Nat -> List (List TermT) -> Int × Int
 | _, [] => (-1, -1)
 | i, x :: r => if Qdd w l x = true then (i, -1) else if 0 <= QfW w l x then (i, QfW w l x) else Y7 w l (i + 1) r
def Yn (w : Qp) (db : List (List TermT)) (l : List QL) : Int × Int := Y7 w l 0 db
def ZJ (w : Qp) (l : List QL) (t : TermT) (c : Int) : Option (List QL) :=
 if c < 0 \/ inW w t.u = false then none
 else if IntKind.i64.wrap (Q9 w l t.u - XV (Q9 w l t.u) t.m) = 0 \/ IntKind.i64.wrap (Q9 w l t.u - XV (Q9 w l t.u) t.m) = Q9 w l t.u then none
 else some (l ++ [⟨t.u, IntKind.i64.wrap (Q9 w l t.u - XV (Q9 w l t.u) t.m), Ym l, c⟩])
def YG (w : Qp) (l : List QL) (u p : Int) : Option (List QL) := match uAt w u with
 | none => none
 | some x => if p < 0 \/ (x.cs.length : Int) <= p then none
  else if Qbu w l ⟨u, IntKind.i64.wrap (2 * 2 ^ min p.toNat 64), IntKind.i64.wrap (Ym l + 1), -1⟩ = true then some (l ++ [⟨u, IntKind.i64.wrap (2 * 2 ^ min p.toNat 64), IntKind.i64.wrap (Ym l + 1), -1⟩]) else none
def dOS (o : Option (List QL)) : D := .tup [Zz (o.getD []), .bool o.isSome]
def QeQ (w : Qp) (db : List (List TermT)) : Nat -> List QL -> List QL × Int
 | 0, out => (out, -1)
 | n + 1, out => if (Yn w db out).2 < 0 then (out, (Yn w db out).1)
  else QeQ w db n ((ZJ w out ⟨(Yn w db out).2, QdL w (db.getD (Yn w db out).1.toNat []) (Yn w db out).2⟩ (Yn w db out).1).getD [])
def QfY (w : Qp) (db : List (List TermT)) (l : List QL) : List QL × Int := QeQ w db (w.length * 18 + 1) l
end M25
namespace M25
open Go Go.Abs M3
section
variable {fr : List (Nat × D)} {H : List (Nat × Box)} {t u : Nat}
theorem Qkg {k n : Nat} {b : Box} {d : D} (hb : lk H k = some b) (hp : b.pr = true) (hn : n = b.rows.length) (hd : .sl b.rows = d) : Qbb ⟨fr, H⟩ (.osl k n) = d := by
 unfold Qbb; rw [Qrd (S := Qd4) rfl hb hp hn]; exact hd
theorem QcA {e : YB} {k n : Nat} {b : Box} {d : D} (h : lk fr t = some (.osl k n)) (hb : lk H k = some b) (hp : b.pr = true) (hn : n = b.rows.length) (hd : .sl b.rows = d) (he : e = .ret \/ e = .normal := by first | exact .inl rfl | exact .inr rfl) : Post [.tmp t] d e ⟨fr, H⟩ :=
 Yq h (Qkg hb hp hn hd) he
theorem Qf4 {e : YB} {k n : Nat} {b : Box} {q d d' : D} (h : lk fr t = some (.osl k n)) (hb : lk H k = some b) (hp : b.pr = true) (hn : n = b.rows.length) (hd : .sl b.rows = d) (h2 : lk fr u = some q) (hd2 : Qbb ⟨fr, H⟩ q = d') (he : e = .ret \/ e = .normal := by first | exact .inl rfl | exact .inr rfl) : Post [.tmp t, .tmp u] (.tup [d, d']) e ⟨fr, H⟩ :=
 QT h h2 ⟨Qkg hb hp hn hd, hd2⟩ he
end
theorem Qrg (n : Nat) : (min (n : Int) 16 + 1).toNat = min n 16 + 1 := by omega
theorem Qji {n : Nat} (h : n <= 62) : IntKind.i64.wrap ((2 : Int) ^ n - 1) = 2 ^ n - 1 := by
 have := QhS h; exact Qs (by omega) (by omega)
theorem QqH (i : Nat) : (2 : Int) ^ ((i : Int) + 1).toNat = 2 ^ (i + 1) := by rw [Qnm]
theorem QoB (s : Qfi) (l : List CandT) {i : Nat} (h : i < 16) : IntKind.i64.wrap (QbO s l i + (2 : Int) ^ ((i : Int) + 1).toNat) = QbO s l i + 2 ^ (i + 1) := by
 rw [QqH]
 have h1 := QkN s l (n := i) (by omega)
 have h2 := Qoh (n := i + 1) (by omega)
 exact Qs (by omega) (by omega)
theorem X7 {m : Int} {n : Nat} (h : ¬ XV m (2 ^ n) = 0) : XR m (n + 1) = XR m n ++ [(n : Int) - 1] := by rw [XR, if_neg h]
theorem Qbj {m : Int} {n : Nat} (h : XV m (2 ^ n) = 0) : XR m (n + 1) = XR m n := by rw [XR, if_pos h, List.append_nil]
theorem QoI {l : List TermT} {u : Int} {i : Nat} (h : i < l.length) : QgM (l.take (i + 1)) u = QgM (l.take i) u ++ if l[i].u = u then [] else [l[i]] := by
 rw [List.take_succ_eq_append_getElem h, QgM, List.filter_append]
 congr 1
 simp only [List.filter_cons, List.filter_nil]
 by_cases hu : l[i].u = u <;> simp [hu]
theorem Qbd {l : List TermT} {u : Int} {i : Nat} (h : i < l.length) (hn : ¬ l[i].u = u) : QgM (l.take (i + 1)) u = QgM (l.take i) u ++ [l[i]] := by rw [QoI h, if_neg hn]
theorem Qdn {l : List TermT} {u : Int} {i : Nat} (h : i < l.length) (hn : l[i].u = u) : QgM (l.take (i + 1)) u = QgM (l.take i) u := by rw [QoI h, if_pos hn, List.append_nil]
theorem Qfp (l : List TermT) (u : Int) : (QgM l u).length <= l.length := List.length_filter_le ..
theorem QnB (l : List TermT) (u : Int) (i : Nat) : (QgM (l.take i) u).length <= l.length := Nat.le_trans (Qfp ..) (List.length_take_le' ..)
def Qex (l : List TermT) (u : Nat) (i : Nat) : List TermT := (l.take i).filter fun t => decide (t.u = ((u : Nat) : Int))
theorem QpO {l : List TermT} {u i : Nat} (h : i < l.length) (hn : l[i].u = ((u : Nat) : Int)) : Qex l u (i + 1) = Qex l u i ++ [l[i]] := by
 rw [Qex, List.take_succ_eq_append_getElem h, List.filter_append]; simp [hn, Qex]
theorem QqJ {l : List TermT} {u i : Nat} (h : i < l.length) (hn : ¬ l[i].u = ((u : Nat) : Int)) : Qex l u (i + 1) = Qex l u i := by
 rw [Qex, List.take_succ_eq_append_getElem h, List.filter_append]; simp [hn, Qex]
theorem Qm9 (l : List TermT) (u i : Nat) : (Qex l u i).length <= l.length := Nat.le_trans (List.length_filter_le ..) (List.length_take_le' ..)
theorem Qjb (l : List TermT) (u : Nat) : Yk l (u + 1) = Yk l u ++ Qex l u l.length := by rw [Yk, Qex, List.take_length]
theorem Qg4 (l : List TermT) : ∀ n, (Yk l n).length <= n * l.length
 | 0 => by simp [Yk]
 | n + 1 => by
  have := Qg4 l n
  rw [Qjb, List.length_append, Nat.succ_mul]
  have := Qm9 l n l.length
  omega
theorem X8 (w : Qp) (n : Nat) : Qb4 w (n + 1) = Qb4 w n ++ [YH w n] := rfl
theorem Qaa {w : Qp} {ms : List Int} {n : Nat} (h : n < ms.length) (hn : ¬ ms[n] = YH w n) : XB w ms (n + 1) = XB w ms n ++ [⟨n, ms[n]⟩] := by
 rw [XB, List.getD_eq_getElem?_getD, List.getElem?_eq_getElem h]; simp [hn]
theorem Qbv {w : Qp} {ms : List Int} {n : Nat} (h : n < ms.length) (hn : ms[n] = YH w n) : XB w ms (n + 1) = XB w ms n := by
 rw [XB, List.getD_eq_getElem?_getD, List.getElem?_eq_getElem h]; simp [hn]
theorem Qlu {w : Qp} {ms : List Int} {i : Nat} (h : i < ms.length) (hz : ms[i] = 0) : QiJ w ms = none := by
 rw [QiJ, if_neg]
 rw [XO h (by simp [hz])]; simp
theorem QmD {w : Qp} {ms : List Int} {i : Nat} (hi : ms.length <= i) (h : (ms.take i).all (fun m => !decide (m = 0)) = true) : QiJ w ms = some (XB w ms ms.length) := by
 rw [List.take_of_length_le hi] at h; rw [QiJ, if_pos h]
theorem QeF {w : Qp} {u : Int} (h0 : 0 <= u) (h : u < w.length) : inW w u = true := by simp [inW, h0, h]
theorem Qdc {w : Qp} {u : Int} (h : u < 0 \/ (w.length : Int) <= u) : inW w u = false := by
 simp only [inW, Bool.and_eq_false_iff, decide_eq_false_iff_not]; omega
theorem Qdb {w : Qp} {u : Int} : inW w u = true ↔ 0 <= u /\ u < w.length := by simp [inW]
theorem Qlv (l : List TermT) : ∀ ms : List Int, (XA ms l).length = ms.length := by
 induction l with
 | nil => intro ms; rfl
 | cons t l ih => intro ms; rw [XA, List.foldl_cons]; exact (ih _).trans (List.length_set ..)
theorem Qn6 {ms : List Int} {l : List TermT} {i : Nat} (h : i < l.length) : XA ms (l.take (i + 1)) = (XA ms (l.take i)).set l[i].u.toNat (XV ((XA ms (l.take i)).getD l[i].u.toNat 0) l[i].m) := by
 rw [List.take_succ_eq_append_getElem h, XA, List.foldl_append]; rfl
theorem QkL {ms : List Int} {l : List TermT} {i : Nat} (h : i < l.length) (hu : l[i].u.toNat < (XA ms (l.take i)).length) : XA ms (l.take (i + 1)) = (XA ms (l.take i)).set l[i].u.toNat (XV ((XA ms (l.take i))[l[i].u.toNat]) l[i].m) := by
 rw [Qn6 h, List.getD_eq_getElem?_getD, List.getElem?_eq_getElem hu]; rfl
theorem Qnl {x y : TermT} : QaV [0, 0] (Qef x) (Qef y) = some (decide (x = y)) := by
 obtain ⟨a, b⟩ := x
 obtain ⟨c, d⟩ := y
 simp only [Qef, QaV, if_true, Option.map_some, Bool.and_true, Option.some.injEq]
 rw [Bool.eq_iff_iff]
 simp only [Bool.and_eq_true, decide_eq_true_eq, TermT.mk.injEq]
theorem Qnj {α : Type} {a b : List α} {i : Nat} (ha : i < a.length) (hb : i < b.length) (h : a.take i = b.take i) (he : a[i] = b[i]) : a.take (i + 1) = b.take (i + 1) := by
 rw [List.take_succ_eq_append_getElem ha, List.take_succ_eq_append_getElem hb, h, he]
theorem QpN {α : Type} [DecidableEq α] {a b : List α} {i : Nat} (ha : i < a.length) (hb : i < b.length) (he : ¬ a[i] = b[i]) : decide (a = b) = false := decide_eq_false fun e => he (by subst e; rfl)
theorem Qfd {e : Int} (h1 : 0 <= e) (h2 : e <= 18446744073709551615) : IntKind.u64.wrap e = e := by
 unfold IntKind.wrap
 simp only [IntKind.bits, IntKind.signed, Bool.false_and, Bool.false_eq_true, if_false]
 omega
theorem Qnn {p : Nat} (h : p <= 60) : IntKind.i64.wrap ((2 : Int) * 2 ^ min ((p : Nat) : Int).toNat IntKind.i64.bits) = 2 * 2 ^ p := by
 rw [show min ((p : Nat) : Int).toNat IntKind.i64.bits = p from by simp only [IntKind.bits, Int.toNat_natCast]; omega]
 have := QhS (i := p + 1) (by omega)
 rw [Int.pow_succ] at this
 exact Qs (by omega) (by omega)
theorem QpW (w : Qp) (u : Int) (x : WantT) : IntKind.i64.wrap (YH w u - Qjl w x) = YH w u - Qjl w x := by
 have h1 := QhI w u
 have h2 := QpD w x
 exact Qs (by omega) (by omega)
def clF (w : Qp) (bar : Bool) (x : WantT) : TermT := ⟨x.u, if bar = true then Qjl w x else YH w x.u - Qjl w x⟩
def clT (w : Qp) (u : Int) (p : Nat) (bar : Bool) (l : List WantT) : List TermT := ⟨u, XV (YH w u) (2 * 2 ^ p)⟩ :: l.map (clF w bar)
theorem Qbh {w : Qp} {u : Int} {p : Nat} {bar : Bool} {l : List WantT} {i : Nat} (h : i < l.length) (hb : bar = false) : clT w u p bar (l.take (i + 1)) = clT w u p bar (l.take i) ++ [⟨l[i].u, YH w l[i].u - Qjl w l[i]⟩] := by
 rw [clT, List.take_succ_eq_append_getElem h, List.map_append, <- List.cons_append]; simp [clT, clF, hb]
theorem Qbg {w : Qp} {u : Int} {p : Nat} {bar : Bool} {l : List WantT} {i : Nat} (h : i < l.length) (hb : bar = true) : clT w u p bar (l.take (i + 1)) = clT w u p bar (l.take i) ++ [⟨l[i].u, Qjl w l[i]⟩] := by
 rw [clT, List.take_succ_eq_append_getElem h, List.map_append, <- List.cons_append]; simp [clT, clF, hb]
theorem QlZ (w : Qp) (u : Int) (p : Nat) (bar : Bool) (l : List WantT) : (clT w u p bar l).length = l.length + 1 := by simp [clT]
theorem QgQ {w : Qp} {l : List TermT} {i : Nat} (h : i < l.length) (hu : inW w l[i].u = false) : QeH w l = none := by
 rw [QeH, XO h hu]; rfl
theorem QmE {w : Qp} {l : List TermT} (h : l.all (fun t => inW w t.u) = true) : QeH w l = QiJ w (XA (Qa3 w) l) := by
 rw [QeH, if_pos h]
theorem QfB (w : Qp) (l : List TermT) : (XA (Qa3 w) l).length = w.length := by rw [Qlv, Qa3, Qda]
def srt (l : List TermT) (u i : Nat) : List TermT := Yk l u ++ Qex l u i
theorem QbB {l : List TermT} {u i : Nat} (h : i < l.length) (hn : l[i].u = ((u : Nat) : Int)) : srt l u (i + 1) = srt l u i ++ [l[i]] := by rw [srt, QpO h hn, <- List.append_assoc]; rfl
theorem Qd1 {l : List TermT} {u i : Nat} (h : i < l.length) (hn : ¬ l[i].u = ((u : Nat) : Int)) : srt l u (i + 1) = srt l u i := by rw [srt, QqJ h hn]; rfl
theorem Qad (l : List TermT) (u : Nat) : srt l u 0 = Yk l u := by simp [srt, Qex]
theorem QbA (l : List TermT) (u : Nat) {i : Nat} (h : l.length = i) : Yk l (u + 1) = srt l u i := by rw [Qjb, h]; rfl
theorem QpP (l : List TermT) (u i : Nat) : (srt l u i).length <= u * l.length + l.length := by
 have h1 := Qg4 l u
 have h2 := Qm9 l u i
 rw [srt, List.length_append]; omega
end M25
namespace Go.Proofs
open Go Go.Abs M3 M25
set_option linter.unusedVariables false
set_option linter.unusedSimpArgs false
theorem ZN {w : Qp} (hw : WSm w) {u : Int} : Ok Tryz.prog 48 [Z8 w, .int .i64 u] (.int .i64 (YH w u)) := by
 refine Ok.ofT ZX Tryz.func48 Qsv (Nat.le_of_ble_eq_true rfl) ?_
 show TW _ _ tf48.body _ _
 refine Qe fun K hK => Zw rfl rfl rfl (Qa rfl ?_)
 refine hK _ _ (Qb (kp2 rfl rfl) ?_)
 refine QG ?_ -- 0
 refine Qe fun K hK => Qa rfl (Yj rfl rfl (Qa rfl ?_))
 refine Qy (g := 7) rfl (fun h1 => ?_) (fun h1 => ?_)
 ·try rw [h1]
  try simp only [qa, qb, qc, qd, qe, List.length_map] at h1
  refine Qo rfl (Qo rfl (Qo rfl (Qo rfl (Qo rfl (Qk rfl rfl ?_)))))
  refine hK _ _ (Qb (kp3 rfl rfl rfl) ?_)
  refine Zp rfl (Qe fun K hK => Qa rfl ?_)
  refine hK _ _ (Qb (kp1 rfl) ?_)
  refine Qu (Qj (QA rfl ?_))
  rw [QdJ (by omega)]
 ·try rw [h1]
  try simp only [qa, qb, qc, qd, qe, List.length_map] at h1
  refine Qg rfl (Qa rfl (Qg rfl (Qh rfl rfl (Qg rfl (Qz rfl rfl rfl (Qg rfl (QU rfl rfl (Qg rfl (Qfg rfl rfl (Qk rfl rfl ?_))))))))))
  refine hK _ _ (Qb (kp3 rfl rfl rfl) ?_)
  refine Qw rfl (fun h2 => ?_) (fun h2 => ?_)
  ·try rw [h2]
   try simp only [qa, qb, qc, qd, qe, List.length_map] at h2
   refine Qe fun K hK => Qa rfl ?_
   refine hK _ _ (Qb (kp1 rfl) ?_)
   refine Qu (Qj (QA rfl ?_))
   rw [QdJ (by omega)]
  ·try rw [h2]
   try simp only [qa, qb, qc, qd, qe, List.length_map] at h2
   refine Qv (Qd (kp2 rfl rfl) (Qe fun K hK => Qh rfl rfl (Qz rfl rfl rfl (Qa rfl (QJ rfl rfl rfl (by omega) (ZM (by omega) (by omega)) rfl (Q7 rfl rfl (Qz rfl rfl rfl (QU rfl rfl (Qq4 rfl rfl (Q6 rfl rfl (by first | exact Qs (by omega) (by omega) | rfl) ?_))))))))))
   refine QC (Y9 (by omega) (by omega)) rfl rfl (.inr rfl) (XW rfl rfl (Qji (by omega)) (Qa rfl ?_))
   refine hK _ _ (Qb (kp1 rfl) ?_)
   refine Qu (QA rfl ?_)
   rw [QhJ (by omega) (by omega), List.length_map, Qrg]
theorem YY {w : Qp} (hw : WSm w) {l : List TermT} (hl : l.length <= 1000000) {u : Int} : Ok Tryz.prog 76 [Z8 w, ZK l, .int .i64 u] (.int .i64 (QdL w l u)) := by
 refine Ok.ofT ZX Tryz.func76 QsR (Nat.le_of_ble_eq_true rfl) ?_
 show TW _ _ tf76.body _ _
 refine Qe fun K hK => Zw rfl rfl rfl (Qa rfl ?_)
 refine hK _ _ (Qb (kp3 rfl rfl rfl) ?_)
 refine QG ?_ -- 0
 refine Qe fun K hK => Qa rfl ?_
 refine hK _ _ (Qb (kp4 rfl rfl rfl rfl) ?_)
 refine QE ?_
 refine Zv (ι := Nat) (fun i => ⟨[(1, ZK l), (2, .int .i64 u), (3, .ref 3 0 0), (7, .int .i64 i)], [(3, ⟨[[.sl ((w).map YS)]], 1, 26, true⟩)]⟩) (fun i => i <= l.length /\ QdM (YH w u) u l = QdM (YH w u) u (l.drop i)) (fun i => l.length - i) 0 ?_ ?_ ?_
 ·exact Zc (l := [1, 2, 3, 7]) (lH := [3]) (kp4 rfl rfl rfl rfl) (Qf rfl Qr) rfl rfl rfl
 ·exact ⟨Nat.zero_le _, by simp⟩
 intro i hI
 try dsimp only
 refine QG ?_ -- 1
 refine Qe fun K hK => Qa rfl (Qa rfl (QU rfl rfl (Yj rfl rfl ?_)))
 refine hK _ _ (Qb (kp5 rfl rfl rfl rfl rfl) ?_)
 refine Qw rfl (fun h1 => ?_) (fun h1 => ?_)
 ·try rw [h1]
  try simp only [qa, qb, qc, qd, qe, List.length_map] at h1
  refine Qv (Qd (kp4 rfl rfl rfl rfl) ?_)
  refine QG ?_ -- 2
  refine QE (Qe fun K hK => Qa rfl (Qa rfl (QJ rfl rfl rfl (by omega) (QS (by omega)) rfl (Q7 rfl rfl (Qz rfl rfl rfl (Qa rfl (Zy rfl rfl ?_)))))))
  refine hK _ _ (Qb (kp5 rfl rfl rfl rfl rfl) ?_)
  refine Qw rfl (fun h2 => ?_) (fun h2 => ?_)
  ·try rw [h2]
   try simp only [qa, qb, qc, qd, qe, List.length_map] at h2
   refine Qe fun K hK => Qa rfl (Qa rfl (QJ rfl rfl rfl (by omega) (QS (by omega)) rfl (Q7 rfl rfl (Qz rfl rfl rfl (Qa rfl ?_)))))
   refine hK _ _ (Qb (kp1 rfl) ?_)
   refine Qu (Qt (Qj (Q4 (Qt (Qj (QA rfl ?_))))))
   rw [QdL, hI.2, QmK (by omega) h2]
  ·try rw [h2]
   try simp only [qa, qb, qc, qd, qe, List.length_map] at h2
   refine Qv (Qi (Qd (kp4 rfl rfl rfl rfl) (QP fun K hK => Qa rfl (Q6 rfl rfl (by first | exact Qs (by omega) (by omega) | rfl) (Qa rfl (hK _ ?_))))))
   refine Ql (i + 1) ?_ ?_ ?_
   ·exact Zc (l := [1, 2, 3, 7]) (lH := [3]) (kp4 rfl rfl rfl rfl) (Qf rfl Qr) rfl rfl rfl
   ·exact ⟨by omega, by rw [hI.2, Qlx (by omega) (by assumption)]⟩
   ·first | omega | (simp only; omega) | (dsimp only; omega)
 ·try rw [h1]
  try simp only [qa, qb, qc, qd, qe, List.length_map] at h1
  refine Zo (QN (QB (QI (Qd (kp2 rfl rfl) (Qe fun K hK => QD (cs := [_]) rfl rfl rfl rfl (Qa rfl (QC (ZN hw) rfl rfl (.inr rfl) (Qa rfl ?_))))))))
  refine hK _ _ (Qb (kp1 rfl) ?_)
  refine Qu (QA rfl ?_)
  rw [QdL, hI.2, List.drop_eq_nil_of_le (by omega)]; rfl
theorem Qc2 {w : Qp} (hw : WSm w) {x : WantT} (hx : Sm x.s.1 /\ Sm x.s.2) : Ok Tryz.prog 101 [Z8 w, .agg (QeO x)] (.int .i64 (Qjl w x)) := by
 refine Ok.ofT ZX Tryz.func101 Qrn (Nat.le_of_ble_eq_true rfl) ?_
 show TW _ _ tf101.body _ _
 refine Qe fun K hK => Zw rfl rfl rfl (Zw rfl rfl rfl (Qa rfl ?_))
 refine hK _ _ (Qb (kp2 rfl rfl) ?_)
 refine QG ?_ -- 0
 refine Qe fun K hK => Qh rfl rfl (Qz rfl rfl rfl (Yj rfl rfl (Qa rfl ?_)))
 refine Qy (g := 11) rfl (fun h1 => ?_) (fun h1 => ?_)
 ·try rw [h1]
  try simp only [qa, qb, qc, qd, qe, List.length_map] at h1
  refine Qo rfl (Qo rfl (Qo rfl (Qo rfl (Qo rfl (Qo rfl (Qk rfl rfl ?_))))))
  refine hK _ _ (Qb (kp3 rfl rfl rfl) ?_)
  refine Zp rfl (Qe fun K hK => Qa rfl ?_)
  refine hK _ _ (Qb (kp1 rfl) ?_)
  refine Qu (Qj (QA rfl ?_))
  rw [QkJ (by omega)]
 ·try rw [h1]
  try simp only [qa, qb, qc, qd, qe, List.length_map] at h1
  refine Qg rfl (Qh rfl rfl (Qg rfl (Qz rfl rfl rfl (Qg rfl (Qh rfl rfl (Qg rfl (Qz rfl rfl rfl (Qg rfl (QU rfl rfl (Qg rfl (Qfg rfl rfl ?_)))))))))))
  refine Qk rfl rfl ?_
  refine hK _ _ (Qb (kp3 rfl rfl rfl) ?_)
  refine Qw rfl (fun h2 => ?_) (fun h2 => ?_)
  ·try rw [h2]
   try simp only [qa, qb, qc, qd, qe, List.length_map] at h2
   refine Qe fun K hK => Qa rfl ?_
   refine hK _ _ (Qb (kp1 rfl) ?_)
   refine Qu (Qj (QA rfl ?_))
   rw [QkJ (by omega)]
  ·try rw [h2]
   try simp only [qa, qb, qc, qd, qe, List.length_map] at h2
   refine Qv (Qd (kp2 rfl rfl) (Qe fun K hK => Qa rfl ?_))
   refine hK _ _ (Qb (kp3 rfl rfl rfl) ?_)
   refine Qe fun K hK => Qh rfl rfl (Qz rfl rfl rfl (Qh rfl rfl (Qz rfl rfl rfl (QJ rfl rfl rfl (by omega) (ZM (by omega) (by omega)) rfl (Q7 rfl rfl (Qz rfl rfl rfl (Qa rfl ?_)))))))
   refine hK _ _ (Qb (kp3 rfl rfl rfl) ?_)
   refine QG ?_ -- 1
   refine Qe fun K hK => Qa rfl ?_
   refine hK _ _ (Qb (kp4 rfl rfl rfl rfl) ?_)
   refine QE ?_
   refine Zv (ι := Nat) (fun i => ⟨[(3, .ref 3 0 0), (5, .int .i64 (QbO x.s (w[x.u.toNat]'(by omega)).cs i)), (6, Qko (w[x.u.toNat]'(by omega)).cs), (7, .int .i64 i)], [(3, ⟨[[.int .i64 (x).u, ZF (x).s.1, ZF (x).s.2]], 3, 81, true⟩)]⟩) (fun i => i <= (min (w[x.u.toNat]'(by omega)).cs.length 16)) (fun i => (min (w[x.u.toNat]'(by omega)).cs.length 16) - i) 0 ?_ ?_ ?_
   ·exact Zc (l := [3, 5, 6, 7]) (lH := [3]) (kp4 rfl rfl rfl rfl) (Qf rfl Qr) rfl rfl rfl
   ·exact Nat.zero_le _
   intro i hI
   try dsimp only
   refine QG ?_ -- 2
   refine Qe fun K hK => Qa rfl (Qa rfl (QU rfl rfl (Yj rfl rfl (Qa rfl ?_))))
   refine Qy (g := 30) rfl (fun h3 => ?_) (fun h3 => ?_)
   ·try rw [h3]
    try simp only [qa, qb, qc, qd, qe, List.length_map] at h3
    refine Qg rfl (Qa rfl (Qg rfl (Yj rfl rfl (Qk rfl rfl ?_))))
    refine hK _ _ (Qb (kp5 rfl rfl rfl rfl rfl) ?_)
    refine Qw rfl (fun h4 => ?_) (fun h4 => ?_)
    ·try rw [h4]
     try simp only [qa, qb, qc, qd, qe, List.length_map] at h4
     refine Qv (Qd (kp4 rfl rfl rfl rfl) ?_)
     refine QG ?_ -- 3
     refine QE (Qe fun K hK => Qh rfl rfl (QO (ds0 := [0]) (cs := [_, _]) rfl rfl rfl rfl rfl rfl (Qa rfl (Qa rfl (QJ rfl rfl rfl (by omega) (QS (by omega)) rfl (Q7 rfl rfl (QO (ds0 := [0]) (cs := [_, _, _, _, _]) rfl rfl rfl rfl rfl rfl (QY (ds0 := []) (Qds hx.1 hx.2 (hw.vs _ (List.getElem_mem _) _ (List.getElem_mem (by omega))).1 (hw.vs _ (List.getElem_mem _) _ (List.getElem_mem (by omega))).2) rfl rfl (.inr rfl) rfl rfl ?_))))))))
     refine hK _ _ (Qb (kp5 rfl rfl rfl rfl rfl) ?_)
     refine Qw rfl (fun h5 => ?_) (fun h5 => ?_)
     ·try rw [h5]
      try simp only [qa, qb, qc, qd, qe, List.length_map] at h5
      refine QP fun K hK => Qa rfl (Qa rfl (Q6 rfl rfl (by first | exact Qs (by omega) (by omega) | rfl) (QC (Y9 (by omega) (by omega)) rfl rfl (.inr rfl) (Q6 rfl rfl (QoB _ _ (by omega)) (Qa rfl (hK _ ?_))))))
      refine Qi (Qd (kp4 rfl rfl rfl rfl) (QP fun K hK => Qa rfl (Q6 rfl rfl (by first | exact Qs (by omega) (by omega) | rfl) (Qa rfl (hK _ ?_)))))
      refine Ql (i + 1) ?_ ?_ ?_
      ·exact Zc (l := [3, 5, 6, 7]) (lH := [3]) (kp4 rfl rfl rfl rfl) (Qf rfl Qr) (by rw [QmL (by omega) (by assumption)]; rfl) rfl rfl
      ·omega
      ·first | omega | (simp only; omega) | (dsimp only; omega)
     ·try rw [h5]
      try simp only [qa, qb, qc, qd, qe, List.length_map] at h5
      refine Qv (Qi (Qd (kp4 rfl rfl rfl rfl) (QP fun K hK => Qa rfl (Q6 rfl rfl (by first | exact Qs (by omega) (by omega) | rfl) (Qa rfl (hK _ ?_))))))
      refine Ql (i + 1) ?_ ?_ ?_
      ·exact Zc (l := [3, 5, 6, 7]) (lH := [3]) (kp4 rfl rfl rfl rfl) (Qf rfl Qr) (by rw [Qn8 (by omega) (by assumption)]; rfl) rfl rfl
      ·omega
      ·first | omega | (simp only; omega) | (dsimp only; omega)
    ·try rw [h4]
     try simp only [qa, qb, qc, qd, qe, List.length_map] at h4
     refine Zo (QN (QB (QI (Qd (kp1 rfl) (Qe fun K hK => Qa rfl (Qa rfl ?_))))))
     refine hK _ _ (Qb (kp1 rfl) ?_)
     refine Qu (QA rfl ?_)
     rw [QmF (by omega) (by omega), show i = min (w[x.u.toNat]'(by omega)).cs.length 16 by omega]
   ·try rw [h3]
    try simp only [qa, qb, qc, qd, qe, List.length_map] at h3
    refine Qo rfl (Qo rfl (Qk rfl rfl ?_))
    refine hK _ _ (Qb (kp5 rfl rfl rfl rfl rfl) ?_)
    refine ZY rfl (Zo (QN (QB (QI (Qd (kp1 rfl) (Qe fun K hK => Qa rfl (Qa rfl ?_)))))))
    refine hK _ _ (Qb (kp1 rfl) ?_)
    refine Qu (QA rfl ?_)
    rw [QmF (by omega) (by omega), show i = min (w[x.u.toNat]'(by omega)).cs.length 16 by omega]
theorem XZ {m : Int} : Ok Tryz.prog 45 [.int .i64 m] (ZH (QbN m)) := by
 refine Ok.ofT ZX Tryz.func45 Qss (Nat.le_of_ble_eq_true rfl) ?_
 show TW _ _ tf45.body _ _
 refine Qe fun K hK => Qa rfl ?_
 refine hK _ _ (Qb (kp1 rfl) ?_)
 refine Qe fun K hK => Qa rfl ?_
 refine hK _ _ (Qb (kp2 rfl rfl) ?_)
 refine QG ?_ -- 0
 refine Qe fun K hK => Qa rfl ?_
 refine hK _ _ (Qb (kp3 rfl rfl rfl) ?_)
 refine QE ?_
 refine Zv (ι := Nat) (fun i => ⟨[(0, .int .i64 m), (3, .osl 3 (XR m i).length), (4, .int .i64 i)], [(3, ⟨(XR m i).map (fun x => [.int .i64 x]), 1, 3, true⟩)]⟩) (fun i => i <= 17) (fun i => 17 - i) 0 ?_ ?_ ?_
 ·exact le_trans (Yw 3 3 1 3 rfl rfl) (Zc (l := [0, 3, 4]) (lH := [3]) (kp3 rfl rfl rfl) (Qf rfl Qr) rfl rfl rfl)
 ·exact Nat.zero_le _
 intro i hI
 have hlen := Qeh m i
 try dsimp only
 refine QG ?_ -- 1
 refine Qe fun K hK => Qa rfl (Qo9 rfl rfl ?_)
 refine hK _ _ (Qb (kp4 rfl rfl rfl rfl) ?_)
 refine Qw rfl (fun h1 => ?_) (fun h1 => ?_)
 ·try rw [h1]
  try simp only [qa, qb, qc, qd, qe] at h1
  refine Qv (Qd (kp3 rfl rfl rfl) ?_)
  refine QG ?_ -- 2
  refine QE (Qe fun K hK => Qa rfl (Qa rfl (QC (Y9 (by omega) (by omega)) rfl rfl (.inr rfl) (QbQ rfl rfl (X5 rfl rfl ?_)))))
  refine hK _ _ (Qb (kp4 rfl rfl rfl rfl) ?_)
  refine Qw rfl (fun h2 => ?_) (fun h2 => ?_)
  ·try rw [h2]
   try simp only [qa, qb, qc, qd, qe] at h2
   refine QP fun K hK => Qa rfl (Qa rfl (XW rfl rfl (by first | exact Qs (by omega) (by omega) | rfl) (QH rfl rfl (XM rfl rfl (fun _ h => Xv rfl rfl rfl h) rfl (by simp) rfl rfl rfl (by simp; omega) (by simp; omega) (Qa rfl (hK _ ?_))))))
   refine Qi (Qd (kp3 rfl rfl rfl) (QP fun K hK => Qa rfl (Q6 rfl rfl (by first | exact Qs (by omega) (by omega) | rfl) (Qa rfl (hK _ ?_)))))
   refine Ql (i + 1) ?_ ?_ ?_
   ·exact Zc (l := [0, 3, 4]) (lH := [3]) (kp3 rfl rfl rfl) (Qf rfl Qr) (by first | (rw [X7 (m := m) (n := i) h2]; done) | (rw [X7 (m := m) (n := i) h2]; rfl) | (rw [X7 (m := m) (n := i) h2, List.length_append]; rfl) | (simp [X7 (m := m) (n := i) h2]; done) | (simp [X7 (m := m) (n := i) h2]; omega) | rfl) (by first | (rw [X7 (m := m) (n := i) h2]; done) | (rw [X7 (m := m) (n := i) h2]; rfl) | (rw [X7 (m := m) (n := i) h2, List.map_append]; rfl) | (simp [X7 (m := m) (n := i) h2]; done) | rfl) rfl
   ·omega
   ·first | omega | (simp only; omega) | (dsimp only; omega)
  ·try rw [h2]
   try simp only [qa, qb, qc, qd, qe] at h2
   refine Qv (Qi (Qd (kp3 rfl rfl rfl) (QP fun K hK => Qa rfl (Q6 rfl rfl (by first | exact Qs (by omega) (by omega) | rfl) (Qa rfl (hK _ ?_))))))
   refine Ql (i + 1) ?_ ?_ ?_
   ·exact Zc (l := [0, 3, 4]) (lH := [3]) (kp3 rfl rfl rfl) (Qf rfl Qr) (by first | (rw [Qbj (m := m) (n := i) h2]; done) | (rw [Qbj (m := m) (n := i) h2]; rfl) | (rw [Qbj (m := m) (n := i) h2, List.length_append]; rfl) | (simp [Qbj (m := m) (n := i) h2]; done) | (simp [Qbj (m := m) (n := i) h2]; omega) | rfl) (by first | (rw [Qbj (m := m) (n := i) h2]; done) | (rw [Qbj (m := m) (n := i) h2]; rfl) | (rw [Qbj (m := m) (n := i) h2, List.map_append]; rfl) | (simp [Qbj (m := m) (n := i) h2]; done) | rfl) rfl
   ·omega
   ·first | omega | (simp only; omega) | (dsimp only; omega)
 ·try rw [h1]
  try simp only [qa, qb, qc, qd, qe] at h1
  refine Zo (QN (QB (QI (Qd (kp1 rfl) (Qe fun K hK => Qa rfl (Qa rfl ?_))))))
  refine hK _ _ (Qb (kp1 rfl) ?_)
  refine Qu ?_
  exact QcA rfl rfl rfl (by simp) (by rw [QbN, show (17 : Nat) = i by omega]; rfl)
theorem QcK {a b : List TermT} (ha : a.length <= 1000000) : Ok Tryz.prog 102 [ZK a, ZK b] (.bool (decide (a = b))) := by
 refine Ok.ofT ZX Tryz.func102 Qro (Nat.le_of_ble_eq_true rfl) ?_
 show TW _ _ tf102.body _ _
 refine Qe fun K hK => Qa rfl ?_
 refine hK _ _ (Qb (kp2 rfl rfl) ?_)
 refine QG ?_ -- 0
 refine Qe fun K hK => Qa rfl (QU rfl rfl (Qa rfl (QU rfl rfl (X5 rfl rfl ?_))))
 refine hK _ _ (Qb (kp3 rfl rfl rfl) ?_)
 refine Qw rfl (fun h1 => ?_) (fun h1 => ?_)
 ·try rw [h1]
  try simp only [qa, qb, qc, qd, qe, List.length_map] at h1
  refine Qe fun K hK => Qa rfl ?_
  refine hK _ _ (Qb (kp1 rfl) ?_)
  refine Qu (Qj (Qq rfl ?_))
  rw [decide_eq_false fun e => h1 (by rw [e])]
 ·try rw [h1]
  try simp only [qa, qb, qc, qd, qe, List.length_map] at h1
  refine Qv (Qd (kp2 rfl rfl) ?_)
  refine QG ?_ -- 1
  refine Qe fun K hK => Qa rfl ?_
  refine hK _ _ (Qb (kp3 rfl rfl rfl) ?_)
  refine QE ?_
  refine Zv (ι := Nat) (fun i => ⟨[(0, ZK a), (1, ZK b), (5, .int .i64 i)], []⟩) (fun i => i <= a.length /\ a.take i = b.take i) (fun i => a.length - i) 0 ?_ ?_ ?_
  ·exact Zh (kp3 rfl rfl rfl)
  ·exact ⟨Nat.zero_le _, by simp⟩
  intro i hI
  try dsimp only
  refine QG ?_ -- 2
  refine Qe fun K hK => Qa rfl (Qa rfl (QU rfl rfl (Yj rfl rfl ?_)))
  refine hK _ _ (Qb (kp4 rfl rfl rfl rfl) ?_)
  refine Qw rfl (fun h2 => ?_) (fun h2 => ?_)
  ·try rw [h2]
   try simp only [qa, qb, qc, qd, qe, List.length_map] at h2
   refine Qv (Qd (kp3 rfl rfl rfl) ?_)
   refine QG ?_ -- 3
   refine QE (Qe fun K hK => Qa rfl (Qa rfl (QJ rfl rfl rfl (by omega) (QS (by omega)) rfl (QO (ds0 := [0]) (cs := [_, _]) rfl rfl rfl rfl rfl rfl (Qa rfl (Qa rfl (QJ rfl rfl rfl (by omega) (QS (by omega)) rfl (QO (ds0 := [0]) (cs := [_, _]) rfl rfl rfl rfl rfl rfl (Qqb rfl rfl Qnl ?_)))))))))
   refine hK _ _ (Qb (kp4 rfl rfl rfl rfl) ?_)
   refine Qw rfl (fun h3 => ?_) (fun h3 => ?_)
   ·try rw [h3]
    try simp only [qa, qb, qc, qd, qe, List.length_map] at h3
    refine Qe fun K hK => Qa rfl ?_
    refine hK _ _ (Qb (kp1 rfl) ?_)
    refine Qu (Qt (Qj (Q4 (Qt (Qj (Qq rfl ?_))))))
    rw [QpN (i := i) (by omega) (by omega) h3]
   ·try rw [h3]
    try simp only [qa, qb, qc, qd, qe, List.length_map] at h3
    refine Qv (Qi (Qd (kp3 rfl rfl rfl) (QP fun K hK => Qa rfl (Q6 rfl rfl (by first | exact Qs (by omega) (by omega) | rfl) (Qa rfl (hK _ ?_))))))
    refine Ql (i + 1) ?_ ?_ ?_
    ·exact Zh (kp3 rfl rfl rfl)
    ·exact ⟨by omega, Qnj (by omega) (by omega) hI.2 h3⟩
    ·first | omega | (simp only; omega) | (dsimp only; omega)
  ·try rw [h2]
   try simp only [qa, qb, qc, qd, qe, List.length_map] at h2
   refine Zo (QN (QB (QI (Qd (Q2) (Qe fun K hK => Qa rfl ?_)))))
   refine hK _ _ (Qb (kp1 rfl) ?_)
   refine Qu (Qq rfl ?_)
   rw [List.take_of_length_le (by omega), List.take_of_length_le (by omega)] at hI; exact (decide_eq_true hI.2).symm
end Go.Proofs
namespace Go.Proofs
open Go Go.Abs M3 M25
set_option linter.unusedVariables false
set_option linter.unusedSimpArgs false
theorem QbV {w : Qp} (hw : WSm w) (et : Nat) (het : et = 3) : OkH Tryz.prog 79 [Z8 w] [] (.osl 500000 (Qa3 w).length) [(500000, ⟨(Qa3 w).map (fun x => [.int .i64 x]), 1, et, true⟩)] := by
 subst het
 refine OkH.new ZX Tryz.func79 QsU (Nat.le_of_ble_eq_true rfl) rfl ?_
 show TW _ _ tf79.body _ _
 have hn := hw.len
 refine Qe fun K hK => Zw rfl rfl rfl (Qa rfl ?_)
 refine hK _ _ (Qb (kp1 rfl) ?_)
 refine Qe fun K hK => Qa rfl ?_
 refine hK _ _ (Qb (kp2 rfl rfl) ?_)
 refine QG ?_ -- 0
 refine Qe fun K hK => Qa rfl ?_
 refine hK _ _ (Qb (kp3 rfl rfl rfl) ?_)
 refine QE ?_
 refine Zv (ι := Nat) (fun i => ⟨[(1, .ref 1 0 0), (3, .osl 500000 (Qb4 w i).length), (4, .int .i64 i)], [(1, ⟨[[.sl ((w).map YS)]], 1, 26, true⟩), (500000, ⟨(Qb4 w i).map (fun x => [.int .i64 x]), 1, 3, true⟩)]⟩) (fun i => i <= w.length) (fun i => w.length - i) 0 ?_ ?_ ?_
 ·exact le_trans (Yw 3 500000 1 3 rfl rfl) (Zc (l := [1, 3, 4]) (lH := [1, 500000]) (kp3 rfl rfl rfl) (Qf rfl (Qf rfl Qr)) rfl rfl rfl)
 ·exact Nat.zero_le _
 intro i hI
 have hlen := Qda w i
 try dsimp only
 refine QG ?_ -- 1
 refine Qe fun K hK => Qa rfl (Qh rfl rfl (Qz rfl rfl rfl (QU rfl rfl (Yj rfl rfl ?_))))
 refine hK _ _ (Qb (kp4 rfl rfl rfl rfl) ?_)
 refine Qw rfl (fun h1 => ?_) (fun h1 => ?_)
 ·try rw [h1]
  try simp only [qa, qb, qc, qd, qe, List.length_map] at h1
  refine Qv (Qd (kp3 rfl rfl rfl) ?_)
  refine QG ?_ -- 2
  refine QE (QP fun K hK => Qa rfl (QD (cs := [_]) rfl rfl rfl rfl (Qa rfl (QC (ZN hw) rfl rfl (.inr rfl) (QH rfl rfl (XM rfl rfl (fun _ h => Xv rfl rfl rfl h) rfl (by simp) rfl rfl rfl (by simp; omega) (by simp; omega) (Qa rfl (hK _ ?_))))))))
  refine Qi (Qd (kp3 rfl rfl rfl) (QP fun K hK => Qa rfl (Q6 rfl rfl (by first | exact Qs (by omega) (by omega) | rfl) (Qa rfl (hK _ ?_)))))
  refine Ql (i + 1) ?_ ?_ ?_
  ·exact Zc (l := [1, 3, 4]) (lH := [1, 500000]) (kp3 rfl rfl rfl) (Qf rfl (Qf rfl Qr)) (by first | (rw [X8]; done) | (rw [X8]; rfl) | (rw [X8, List.length_append]; rfl) | (simp [X8]; done) | (simp [X8]; omega) | rfl) (by first | (rw [X8]; done) | (rw [X8]; rfl) | (rw [X8, List.map_append]; rfl) | (simp [X8]; done) | rfl) rfl
  ·omega
  ·first | omega | (simp only; omega) | (dsimp only; omega)
 ·try rw [h1]
  try simp only [qa, qb, qc, qd, qe, List.length_map] at h1
  refine Zo (QN (QB (QI (Qd (kp1 rfl) (Qe fun K hK => Qa rfl (Qa rfl ?_))))))
  refine hK _ _ (Qb (kp1 rfl) ?_)
  refine Qu ?_
  refine Y1 rfl ?_ (Qez ?_)
  ·rw [Qa3, show w.length = i by omega]; rfl
  ·rw [Qa3, show w.length = i by omega]; rfl
theorem QcL {w : Qp} (hw : WSm w) {ms : List Int} (hm : ms.length <= 1000000) : Ok Tryz.prog 80 [Z8 w, ZH ms] (dOT (QiJ w ms)) := by
 refine Ok.ofT ZX Tryz.func80 QsV (Nat.le_of_ble_eq_true rfl) ?_
 show TW _ _ tf80.body _ _
 refine Qe fun K hK => Zw rfl rfl rfl (Qa rfl (Qa rfl ?_))
 refine hK _ _ (Qb (kp2 rfl rfl) ?_)
 refine Qe fun K hK => Qa rfl ?_
 refine hK _ _ (Qb (kp3 rfl rfl rfl) ?_)
 refine QG ?_ -- 0
 refine Qe fun K hK => Qa rfl ?_
 refine hK _ _ (Qb (kp4 rfl rfl rfl rfl) ?_)
 refine QE ?_
 refine Zv (ι := Nat) (fun i => ⟨[(1, ZH ms), (2, .ref 2 0 0), (6, .osl 6 (XB w ms i).length), (7, .int .i64 i)], [(2, ⟨[[.sl ((w).map YS)]], 1, 26, true⟩), (6, ⟨(XB w ms i).map Qef, 2, 35, true⟩)]⟩) (fun i => i <= ms.length /\ (ms.take i).all (fun m => !decide (m = 0)) = true) (fun i => ms.length - i) 0 ?_ ?_ ?_
 ·exact le_trans (Yw 6 6 2 35 rfl rfl) (Zc (l := [1, 2, 6, 7]) (lH := [2, 6]) (kp4 rfl rfl rfl rfl) (Qf rfl (Qf rfl Qr)) rfl rfl rfl)
 ·exact ⟨Nat.zero_le _, by simp⟩
 intro i hI
 have hlen := QgT w ms i
 try dsimp only
 refine QG ?_ -- 1
 refine Qe fun K hK => Qa rfl (Qa rfl (QU rfl rfl (Yj rfl rfl ?_)))
 refine hK _ _ (Qb (kp5 rfl rfl rfl rfl rfl) ?_)
 refine Qw rfl (fun h1 => ?_) (fun h1 => ?_)
 ·try rw [h1]
  try simp only [qa, qb, qc, qd, qe, List.length_map] at h1
  refine Qv (Qd (kp4 rfl rfl rfl rfl) ?_)
  refine QG ?_ -- 2
  refine QE ?_
  refine QG ?_ -- 3
  refine Qe fun K hK => Qa rfl (Qa rfl (QJ rfl rfl rfl (by omega) (QS (by omega)) rfl (Qz rfl rfl rfl (Zy rfl rfl ?_))))
  refine hK _ _ (Qb (kp5 rfl rfl rfl rfl rfl) ?_)
  refine Qw rfl (fun h2 => ?_) (fun h2 => ?_)
  ·try rw [h2]
   try simp only [qa, qb, qc, qd, qe, List.length_map] at h2
   refine Qe fun K hK => Qa rfl (Qa rfl ?_)
   refine hK _ _ (Qb (kp2 rfl rfl) ?_)
   refine Qu (Qj (Qt (Qj (Q4 (Qt (Qj ?_))))))
   rw [Qlu (i := i) (by omega) h2]
   exact QT rfl rfl ⟨rfl, rfl⟩
  ·try rw [h2]
   try simp only [qa, qb, qc, qd, qe, List.length_map] at h2
   refine Qv (Qd (kp4 rfl rfl rfl rfl) (Qe fun K hK => Qa rfl (Qa rfl (QJ rfl rfl rfl (by omega) (QS (by omega)) rfl (QQ (ds0 := [0]) rfl rfl rfl rfl rfl (QO (ds0 := [1, 0]) (cs := [_]) rfl rfl rfl rfl rfl rfl (Qa rfl (QY (ds0 := [0]) (ZN hw) rfl rfl (.inr rfl) rfl rfl (X5 rfl rfl ?_)))))))))
   refine hK _ _ (Qb (kp5 rfl rfl rfl rfl rfl) ?_)
   refine Qw rfl (fun h3 => ?_) (fun h3 => ?_)
   ·try rw [h3]
    try simp only [qa, qb, qc, qd, qe, List.length_map] at h3
    refine QP fun K hK => Qa rfl (Qa rfl (Qa rfl (Qa rfl (QJ rfl rfl rfl (by omega) (QS (by omega)) rfl (Qz rfl rfl rfl (QR rfl rfl (QH rfl rfl (XM rfl rfl (fun _ h => Xv rfl rfl rfl h) rfl (by simp) rfl rfl rfl (by simp; omega) (by simp; omega) (Qa rfl (hK _ ?_))))))))))
    refine Qi (Qd (kp4 rfl rfl rfl rfl) (QP fun K hK => Qa rfl (Q6 rfl rfl (by first | exact Qs (by omega) (by omega) | rfl) (Qa rfl (hK _ ?_)))))
    refine Ql (i + 1) ?_ ?_ ?_
    ·exact Zc (l := [1, 2, 6, 7]) (lH := [2, 6]) (kp4 rfl rfl rfl rfl) (Qf rfl (Qf rfl Qr)) (by first | (rw [Qaa (by omega) h3]; done) | (rw [Qaa (by omega) h3]; rfl) | (rw [Qaa (by omega) h3, List.length_append]; rfl) | (simp [Qaa (by omega) h3]; done) | (simp [Qaa (by omega) h3]; omega) | rfl) (by first | (rw [Qaa (by omega) h3]; done) | (rw [Qaa (by omega) h3]; rfl) | (rw [Qaa (by omega) h3, List.map_append]; rfl) | (simp [Qaa (by omega) h3]; done) | rfl) rfl
    ·exact ⟨by omega, Z9 (by omega) hI.2 (by simpa using h2)⟩
    ·first | omega | (simp only; omega) | (dsimp only; omega)
   ·try rw [h3]
    try simp only [qa, qb, qc, qd, qe, List.length_map] at h3
    refine Qv (Qi (Qd (kp4 rfl rfl rfl rfl) (QP fun K hK => Qa rfl (Q6 rfl rfl (by first | exact Qs (by omega) (by omega) | rfl) (Qa rfl (hK _ ?_))))))
    refine Ql (i + 1) ?_ ?_ ?_
    ·exact Zc (l := [1, 2, 6, 7]) (lH := [2, 6]) (kp4 rfl rfl rfl rfl) (Qf rfl (Qf rfl Qr)) (by first | (rw [Qbv (by omega) h3]; done) | (rw [Qbv (by omega) h3]; rfl) | (rw [Qbv (by omega) h3, List.length_append]; rfl) | (simp [Qbv (by omega) h3]; done) | (simp [Qbv (by omega) h3]; omega) | rfl) (by first | (rw [Qbv (by omega) h3]; done) | (rw [Qbv (by omega) h3]; rfl) | (rw [Qbv (by omega) h3, List.map_append]; rfl) | (simp [Qbv (by omega) h3]; done) | rfl) rfl
    ·exact ⟨by omega, Z9 (by omega) hI.2 (by simpa using h2)⟩
    ·first | omega | (simp only; omega) | (dsimp only; omega)
 ·try rw [h1]
  try simp only [qa, qb, qc, qd, qe, List.length_map] at h1
  refine Zo (QN (QB (QI (Qd (kp1 rfl) (Qe fun K hK => Qa rfl (Qa rfl (Qa rfl ?_)))))))
  refine hK _ _ (Qb (kp2 rfl rfl) ?_)
  refine Qu ?_
  rw [QmD (i := i) (by omega) hI.2]
  exact Qf4 rfl rfl rfl (by simp) (by show D.sl _ = ZK (XB w ms ms.length); rw [show ms.length = i by omega]; rfl) rfl rfl
theorem QcJ {w : Qp} (hw : WSm w) {l : List TermT} (hl : l.length <= 2000000) : Ok Tryz.prog 47 [Z8 w, ZK l] (dOT (QeH w l)) := by
 refine Ok.ofT ZX Tryz.func47 Qsu (Nat.le_of_ble_eq_true rfl) ?_
 show TW _ _ tf47.body _ _
 have hn := hw.len
 refine Qe fun K hK => Zw rfl rfl rfl (Qa rfl (Qa rfl ?_))
 refine hK _ _ (Qb (kp2 rfl rfl) ?_)
 refine Qe fun K hK => QD (cs := [_]) rfl rfl rfl rfl (YC (Qqm rfl (by intro x hx; simp at hx; subst hx; rfl) rfl rfl rfl (QbV hw _ rfl)) (Qa rfl ?_))
 refine hK _ _ (Qb (kp3 rfl rfl rfl) ?_)
 refine Qid (ι := Unit) (fun _ => ⟨[(2, .ref 2 0 0), (6, ZH (XA (Qa3 w) l))], [(2, ⟨[[.sl ((w).map YS)]], 1, 26, true⟩)]⟩) (fun _ => l.all (fun t => inW w t.u) = true) ?_ ?_
 ·skip
  refine Qe fun K hK => Qa rfl ?_
  refine hK _ _ (Qb (kp4 rfl rfl rfl rfl) ?_)
  refine QE ?_
  refine Zv (ι := Nat) (fun i => ⟨[(1, ZK l), (2, .ref 2 0 0), (6, .osl 500000 (XA (Qa3 w) (l.take i)).length), (7, .int .i64 i)], [(2, ⟨[[.sl ((w).map YS)]], 1, 26, true⟩), (500000, ⟨(XA (Qa3 w) (l.take i)).map (fun x => [.int .i64 x]), 1, 3, true⟩)]⟩) (fun i => i <= l.length /\ (l.take i).all (fun t => inW w t.u) = true) (fun i => l.length - i) 0 ?_ ?_ ?_
  ·exact Zc (l := [1, 2, 6, 7]) (lH := [2, 500000]) (kp4 rfl rfl rfl rfl) (Qf rfl (Qf rfl Qr)) rfl rfl rfl
  ·exact ⟨Nat.zero_le _, by simp⟩
  intro i hI
  have hlen := QfB w (l.take i)
  try dsimp only
  refine QG ?_ -- 1
  refine Qe fun K hK => Qa rfl (Qa rfl (QU rfl rfl (Yj rfl rfl ?_)))
  refine hK _ _ (Qb (kp5 rfl rfl rfl rfl rfl) ?_)
  refine Qw rfl (fun h1 => ?_) (fun h1 => ?_)
  ·try rw [h1]
   try simp only [qa, qb, qc, qd, qe, List.length_map] at h1
   refine Qv (Qd (kp4 rfl rfl rfl rfl) ?_)
   refine QG ?_ -- 2
   refine QE ?_
   refine QG ?_ -- 3
   refine Qe fun K hK => Qa rfl (Qa rfl (QJ rfl rfl rfl (by omega) (QS (by omega)) rfl (Q7 rfl rfl (Qz rfl rfl rfl (Yj rfl rfl (Qa rfl ?_))))))
   refine Qy (g := 22) rfl (fun h2 => ?_) (fun h2 => ?_)
   ·try rw [h2]
    try simp only [qa, qb, qc, qd, qe, List.length_map] at h2
    refine Qo rfl (Qo rfl (Qo rfl (Qo rfl (Qo rfl (Qo rfl (Qo rfl (Qo rfl (Qk rfl rfl ?_))))))))
    refine hK _ _ (Qb (kp5 rfl rfl rfl rfl rfl) ?_)
    refine Zp rfl (Qe fun K hK => Qa rfl (Qa rfl ?_))
    refine hK _ _ (Qb (kp2 rfl rfl) ?_)
    refine Qu (Qj (Qt (Qj (Q4 (Qt (QdF ?_))))))
    rw [QgQ (i := i) (by omega) (Qdc (by omega))]
    exact QT rfl rfl ⟨rfl, rfl⟩
   ·try rw [h2]
    try simp only [qa, qb, qc, qd, qe, List.length_map] at h2
    refine Qg rfl (Qa rfl (Qg rfl (Qa rfl (Qg rfl (QJ rfl rfl rfl (by omega) (QS (by omega)) rfl (Qg rfl (Q7 rfl rfl (Qg rfl (Qz rfl rfl rfl (Qg rfl (Qa rfl ?_)))))))))))
    refine Qg rfl (QU rfl rfl (Qg rfl (Qfg rfl rfl (Qk rfl rfl ?_))))
    refine hK _ _ (Qb (kp5 rfl rfl rfl rfl rfl) ?_)
    refine Qw rfl (fun h3 => ?_) (fun h3 => ?_)
    ·try rw [h3]
     try simp only [qa, qb, qc, qd, qe, List.length_map] at h3
     refine Qe fun K hK => Qa rfl (Qa rfl ?_)
     refine hK _ _ (Qb (kp2 rfl rfl) ?_)
     refine Qu (Qj (Qt (Qj (Q4 (Qt (QdF ?_))))))
     rw [QgQ (i := i) (by omega) (Qdc (by omega))]
     exact QT rfl rfl ⟨rfl, rfl⟩
    ·try rw [h3]
     try simp only [qa, qb, qc, qd, qe, List.length_map] at h3
     refine Qv (Qd (kp4 rfl rfl rfl rfl) (QP fun K hK => Qa rfl (Qa rfl (Qa rfl (QJ rfl rfl rfl (by omega) (QS (by omega)) rfl (Q7 rfl rfl (QQ (ds0 := [1, 0]) rfl rfl rfl rfl rfl (Qa rfl (Qa rfl (Qa rfl ?_))))))))))
     refine QJ rfl rfl rfl (by omega) (QS (by omega)) rfl (Q7 rfl rfl (QQ (ds0 := [9, 8, 2, 0]) rfl rfl rfl rfl rfl (XN (ds0 := [8, 2, 0]) rfl rfl rfl (by simp) (by omega) (by omega) rfl rfl rfl (QQ (ds0 := [2, 0]) rfl (Z5 rfl (ZM (by omega) (by omega))) rfl rfl rfl (Qa rfl (Qa rfl (QJ rfl rfl rfl (by omega) (QS (by omega)) rfl (Q7 rfl rfl (QQ (ds0 := [2, 0]) rfl rfl rfl rfl rfl (QbQ rfl rfl (XN (ds0 := [0]) rfl rfl rfl (by simp) (by omega) (by omega) rfl rfl rfl ?_)))))))))))
     refine Xk (ds0 := []) rfl rfl (ZM (by omega) (by omega)) rfl rfl rfl rfl rfl rfl rfl (hK _ ?_)
     refine Qi (Qd (kp4 rfl rfl rfl rfl) (QP fun K hK => Qa rfl (Q6 rfl rfl (by first | exact Qs (by omega) (by omega) | rfl) (Qa rfl (hK _ ?_)))))
     refine Ql (i + 1) ?_ ?_ ?_
     ·exact Zc (l := [1, 2, 6, 7]) (lH := [2, 500000]) (kp4 rfl rfl rfl rfl) (Qf rfl (Qf rfl Qr)) (by rw [QkL (by omega) (by omega), List.length_set]; rfl) (by rw [QkL (by omega) (by omega), List.map_set]; rfl) rfl
     ·exact ⟨by omega, Z9 (by omega) hI.2 (QeF (by omega) (by omega))⟩
     ·first | omega | (simp only; omega) | (dsimp only; omega)
  ·try rw [h1]
   try simp only [qa, qb, qc, qd, qe, List.length_map] at h1
   refine Zo (QN (QB (QI ?_)))
   refine Yh () ?_ ?_
   ·exact le_trans (QkB (l := [2]) (lH := [2]) 500000 6 (kp1 rfl) (Qf rfl Qr) rfl rfl rfl (by first | (simp; done) | (simp; omega)) rfl rfl rfl rfl) (Zc (l := [2, 6]) (lH := [2]) (kp2 rfl rfl) (Qf rfl Qr) (by rw [List.take_of_length_le (show l.length <= i by omega)]; rfl) rfl rfl)
   ·exact XD (by omega) hI.2
 intro _ hJ
 try dsimp only
 refine Qe fun K hK => QD (cs := [_]) rfl rfl rfl rfl (Qa rfl (QC (QcL hw (by rw [QfB]; omega)) rfl rfl (.inl rfl) (Q3 rfl rfl (Q3 rfl rfl (Qa rfl (Qa rfl ?_))))))
 refine hK _ _ (Qb (kp2 rfl rfl) ?_)
 refine Qu ?_
 rw [QmE hJ]
 exact QT rfl rfl ⟨rfl, rfl⟩
theorem Xa {l : List TermT} (hl : l.length <= 2000000) {u : Int} : Ok Tryz.prog 103 [ZK l, .int .i64 u] (ZK (QgM l u)) := by
 refine Ok.ofT ZX Tryz.func103 Qrp (Nat.le_of_ble_eq_true rfl) ?_
 show TW _ _ tf103.body _ _
 refine Qe fun K hK => Qa rfl ?_
 refine hK _ _ (Qb (kp2 rfl rfl) ?_)
 refine Qe fun K hK => Qa rfl ?_
 refine hK _ _ (Qb (kp3 rfl rfl rfl) ?_)
 refine QG ?_ -- 0
 refine Qe fun K hK => Qa rfl ?_
 refine hK _ _ (Qb (kp4 rfl rfl rfl rfl) ?_)
 refine QE ?_
 refine Zv (ι := Nat) (fun i => ⟨[(0, ZK l), (1, .int .i64 u), (5, .osl 5 (QgM (l.take i) u).length), (6, .int .i64 i)], [(5, ⟨(QgM (l.take i) u).map Qef, 2, 35, true⟩)]⟩) (fun i => i <= l.length) (fun i => l.length - i) 0 ?_ ?_ ?_
 ·exact le_trans (Yw 5 5 2 35 rfl rfl) (Zc (l := [0, 1, 5, 6]) (lH := [5]) (kp4 rfl rfl rfl rfl) (Qf rfl Qr) rfl rfl rfl)
 ·exact Nat.zero_le _
 intro i hI
 have hlen := QnB l u i
 try dsimp only
 refine QG ?_ -- 1
 refine Qe fun K hK => Qa rfl (Qa rfl (QU rfl rfl (Yj rfl rfl ?_)))
 refine hK _ _ (Qb (kp5 rfl rfl rfl rfl rfl) ?_)
 refine Qw rfl (fun h1 => ?_) (fun h1 => ?_)
 ·try rw [h1]
  try simp only [qa, qb, qc, qd, qe, List.length_map] at h1
  refine Qv (Qd (kp4 rfl rfl rfl rfl) ?_)
  refine QG ?_ -- 2
  refine QE (Qe fun K hK => Qa rfl (Qa rfl (QJ rfl rfl rfl (by omega) (QS (by omega)) rfl (Q7 rfl rfl (Qz rfl rfl rfl (Qa rfl (X5 rfl rfl ?_)))))))
  refine hK _ _ (Qb (kp5 rfl rfl rfl rfl rfl) ?_)
  refine Qw rfl (fun h2 => ?_) (fun h2 => ?_)
  ·try rw [h2]
   try simp only [qa, qb, qc, qd, qe, List.length_map] at h2
   refine QP fun K hK => Qa rfl (Qa rfl (Qa rfl (QJ rfl rfl rfl (by omega) (QS (by omega)) rfl (QD (cs := [_, _]) rfl rfl rfl rfl (QH rfl rfl (XM rfl rfl (fun _ h => Xv rfl rfl rfl h) rfl (by simp) rfl rfl rfl (by simp; omega) (by simp; omega) (Qa rfl (hK _ ?_))))))))
   refine Qi (Qd (kp4 rfl rfl rfl rfl) (QP fun K hK => Qa rfl (Q6 rfl rfl (by first | exact Qs (by omega) (by omega) | rfl) (Qa rfl (hK _ ?_)))))
   refine Ql (i + 1) ?_ ?_ ?_
   ·exact Zc (l := [0, 1, 5, 6]) (lH := [5]) (kp4 rfl rfl rfl rfl) (Qf rfl Qr) (by first | (rw [Qbd (by omega) h2]; done) | (rw [Qbd (by omega) h2]; rfl) | (rw [Qbd (by omega) h2, List.length_append]; rfl) | (simp [Qbd (by omega) h2]; done) | (simp [Qbd (by omega) h2]; omega) | rfl) (by first | (rw [Qbd (by omega) h2]; done) | (rw [Qbd (by omega) h2]; rfl) | (rw [Qbd (by omega) h2, List.map_append]; rfl) | (simp [Qbd (by omega) h2]; done) | rfl) rfl
   ·omega
   ·first | omega | (simp only; omega) | (dsimp only; omega)
  ·try rw [h2]
   try simp only [qa, qb, qc, qd, qe, List.length_map] at h2
   refine Qv (Qi (Qd (kp4 rfl rfl rfl rfl) (QP fun K hK => Qa rfl (Q6 rfl rfl (by first | exact Qs (by omega) (by omega) | rfl) (Qa rfl (hK _ ?_))))))
   refine Ql (i + 1) ?_ ?_ ?_
   ·exact Zc (l := [0, 1, 5, 6]) (lH := [5]) (kp4 rfl rfl rfl rfl) (Qf rfl Qr) (by first | (rw [Qdn (by omega) h2]; done) | (rw [Qdn (by omega) h2]; rfl) | (rw [Qdn (by omega) h2, List.length_append]; rfl) | (simp [Qdn (by omega) h2]; done) | (simp [Qdn (by omega) h2]; omega) | rfl) (by first | (rw [Qdn (by omega) h2]; done) | (rw [Qdn (by omega) h2]; rfl) | (rw [Qdn (by omega) h2, List.map_append]; rfl) | (simp [Qdn (by omega) h2]; done) | rfl) rfl
   ·omega
   ·first | omega | (simp only; omega) | (dsimp only; omega)
 ·try rw [h1]
  try simp only [qa, qb, qc, qd, qe, List.length_map] at h1
  refine Zo (QN (QB (QI (Qd (kp1 rfl) (Qe fun K hK => Qa rfl (Qa rfl ?_))))))
  refine hK _ _ (Qb (kp1 rfl) ?_)
  refine Qu ?_
  exact QcA rfl rfl rfl (by simp) (by rw [List.take_of_length_le (show l.length <= i by omega)]; rfl)
theorem QbK {l : List TermT} (hl : l.length <= 3000000) : Ok Tryz.prog 104 [ZK l] (ZK (QhO l)) := by
 refine Ok.ofT ZX Tryz.func104 Qrq (Nat.le_of_ble_eq_true rfl) ?_
 show TW _ _ tf104.body _ _
 refine Qe fun K hK => Qa rfl ?_
 refine hK _ _ (Qb (kp1 rfl) ?_)
 refine Qe fun K hK => Qa rfl ?_
 refine hK _ _ (Qb (kp2 rfl rfl) ?_)
 refine QG ?_ -- 0
 refine Qe fun K hK => Qa rfl ?_
 refine hK _ _ (Qb (kp3 rfl rfl rfl) ?_)
 refine QE ?_
 refine Zv (ι := Nat) (fun u => ⟨[(0, ZK l), (3, .osl 3 (Yk l u).length), (4, .int .i64 u)], [(3, ⟨(Yk l u).map Qef, 2, 35, true⟩)]⟩) (fun u => u <= 48) (fun u => 48 - u) 0 ?_ ?_ ?_
 ·exact le_trans (Yw 3 3 2 35 rfl rfl) (Zc (l := [0, 3, 4]) (lH := [3]) (kp3 rfl rfl rfl) (Qf rfl Qr) rfl rfl rfl)
 ·exact Nat.zero_le _
 intro u hU
 have hlen2 : u * l.length <= 48 * 3000000 := Nat.mul_le_mul (by omega) hl
 try dsimp only
 refine QG ?_ -- 1
 refine Qe fun K hK => Qa rfl (Yj rfl rfl ?_)
 refine hK _ _ (Qb (kp4 rfl rfl rfl rfl) ?_)
 refine Qw rfl (fun h1 => ?_) (fun h1 => ?_)
 ·try rw [h1]
  try simp only [qa, qb, qc, qd, qe, List.length_map] at h1
  refine Qv (Qd (kp3 rfl rfl rfl) ?_)
  refine QG ?_ -- 2
  refine QE (Qe fun K hK => Qa rfl ?_)
  refine hK _ _ (Qb (kp4 rfl rfl rfl rfl) ?_)
  refine QE ?_
  refine Zv (ι := Nat) (fun i => ⟨[(0, ZK l), (3, .osl 3 (srt l u i).length), (4, .int .i64 u), (5, .int .i64 i)], [(3, ⟨(srt l u i).map Qef, 2, 35, true⟩)]⟩) (fun i => i <= l.length) (fun i => l.length - i) 0 ?_ ?_ ?_
  ·exact Zc (l := [0, 3, 4, 5]) (lH := [3]) (kp4 rfl rfl rfl rfl) (Qf rfl Qr) (by first | (rw [Qad]; done) | (rw [Qad]; rfl) | (rw [Qad, List.length_append]; rfl) | (simp [Qad]; done) | (simp [Qad]; omega) | rfl) (by first | (rw [Qad]; done) | (rw [Qad]; rfl) | (rw [Qad, List.map_append]; rfl) | (simp [Qad]; done) | rfl) rfl
  ·exact Nat.zero_le _
  intro i hI
  have hlen3 := QpP l u i
  try dsimp only
  refine QG ?_ -- 3
  refine Qe fun K hK => Qa rfl (Qa rfl (QU rfl rfl (Yj rfl rfl ?_)))
  refine hK _ _ (Qb (kp5 rfl rfl rfl rfl rfl) ?_)
  refine Qw rfl (fun h2 => ?_) (fun h2 => ?_)
  ·try rw [h2]
   try simp only [qa, qb, qc, qd, qe, List.length_map] at h2
   refine Qv (Qd (kp4 rfl rfl rfl rfl) ?_)
   refine QG ?_ -- 4
   refine QE (Qe fun K hK => Qa rfl (Qa rfl (QJ rfl rfl rfl (by omega) (QS (by omega)) rfl (Q7 rfl rfl (Qz rfl rfl rfl (Qa rfl (Zy rfl rfl ?_)))))))
   refine hK _ _ (Qb (kp5 rfl rfl rfl rfl rfl) ?_)
   refine Qw rfl (fun h3 => ?_) (fun h3 => ?_)
   ·try rw [h3]
    try simp only [qa, qb, qc, qd, qe, List.length_map] at h3
    refine QP fun K hK => Qa rfl (Qa rfl (Qa rfl (QJ rfl rfl rfl (by omega) (QS (by omega)) rfl (QD (cs := [_, _]) rfl rfl rfl rfl (QH rfl rfl (XM rfl rfl (fun _ h => Xv rfl rfl rfl h) rfl (by simp) rfl rfl rfl (by simp; omega) (by simp; omega) (Qa rfl (hK _ ?_))))))))
    refine Qi (Qd (kp4 rfl rfl rfl rfl) (QP fun K hK => Qa rfl (Q6 rfl rfl (by first | exact Qs (by omega) (by omega) | rfl) (Qa rfl (hK _ ?_)))))
    refine Ql (i + 1) ?_ ?_ ?_
    ·exact Zc (l := [0, 3, 4, 5]) (lH := [3]) (kp4 rfl rfl rfl rfl) (Qf rfl Qr) (by first | (rw [QbB (by omega) h3]; done) | (rw [QbB (by omega) h3]; rfl) | (rw [QbB (by omega) h3, List.length_append]; rfl) | (simp [QbB (by omega) h3]; done) | (simp [QbB (by omega) h3]; omega) | rfl) (by first | (rw [QbB (by omega) h3]; done) | (rw [QbB (by omega) h3]; rfl) | (rw [QbB (by omega) h3, List.map_append]; rfl) | (simp [QbB (by omega) h3]; done) | rfl) rfl
    ·omega
    ·first | omega | (simp only; omega) | (dsimp only; omega)
   ·try rw [h3]
    try simp only [qa, qb, qc, qd, qe, List.length_map] at h3
    refine Qv (Qi (Qd (kp4 rfl rfl rfl rfl) (QP fun K hK => Qa rfl (Q6 rfl rfl (by first | exact Qs (by omega) (by omega) | rfl) (Qa rfl (hK _ ?_))))))
    refine Ql (i + 1) ?_ ?_ ?_
    ·exact Zc (l := [0, 3, 4, 5]) (lH := [3]) (kp4 rfl rfl rfl rfl) (Qf rfl Qr) (by first | (rw [Qd1 (by omega) h3]; done) | (rw [Qd1 (by omega) h3]; rfl) | (rw [Qd1 (by omega) h3, List.length_append]; rfl) | (simp [Qd1 (by omega) h3]; done) | (simp [Qd1 (by omega) h3]; omega) | rfl) (by first | (rw [Qd1 (by omega) h3]; done) | (rw [Qd1 (by omega) h3]; rfl) | (rw [Qd1 (by omega) h3, List.map_append]; rfl) | (simp [Qd1 (by omega) h3]; done) | rfl) rfl
    ·omega
    ·first | omega | (simp only; omega) | (dsimp only; omega)
  ·try rw [h2]
   try simp only [qa, qb, qc, qd, qe, List.length_map] at h2
   refine Zo (QN (QB (QI (Qi (Qd (kp3 rfl rfl rfl) (QP fun K hK => Qa rfl (Q6 rfl rfl (by first | exact Qs (by omega) (by omega) | rfl) (Qa rfl (hK _ ?_)))))))))
   refine Ql (u + 1) ?_ ?_ ?_
   ·exact Zc (l := [0, 3, 4]) (lH := [3]) (kp3 rfl rfl rfl) (Qf rfl Qr) (by first | (rw [QbA l u (show l.length = i by omega)]; done) | (rw [QbA l u (show l.length = i by omega)]; rfl) | (rw [QbA l u (show l.length = i by omega), List.length_append]; rfl) | (simp [QbA l u (show l.length = i by omega)]; done) | (simp [QbA l u (show l.length = i by omega)]; omega) | rfl) (by first | (rw [QbA l u (show l.length = i by omega)]; done) | (rw [QbA l u (show l.length = i by omega)]; rfl) | (rw [QbA l u (show l.length = i by omega), List.map_append]; rfl) | (simp [QbA l u (show l.length = i by omega)]; done) | rfl) rfl
   ·omega
   ·first | omega | (simp only; omega) | (dsimp only; omega)
 ·try rw [h1]
  try simp only [qa, qb, qc, qd, qe, List.length_map] at h1
  refine Zo (QN (QB (QI (Qd (kp1 rfl) (Qe fun K hK => Qa rfl (Qa rfl ?_))))))
  refine hK _ _ (Qb (kp1 rfl) ?_)
  refine Qu ?_
  exact QcA rfl rfl rfl (by simp) (by rw [QhO, show (48 : Nat) = u by omega]; rfl)
theorem Xx {w : Qp} (hw : WSm w) {u : Int} {p : Nat} (hp : p <= 60) {l : List WantT} (hl : l.length <= 1000000) (hx : ∀ x ∈ l, Sm x.s.1 /\ Sm x.s.2) {bar : Bool} : Ok Tryz.prog 77 [Z8 w, .int .i64 u, .int .i64 (p : Nat), Zb l, .bool bar] (dOT (Yi w u p l bar)) := by
 refine Ok.ofT ZX Tryz.func77 QsS (Nat.le_of_ble_eq_true rfl) ?_
 show TW _ _ tf77.body _ _
 refine Qe fun K hK => Zw rfl rfl rfl (Qa rfl (Qa rfl ?_))
 refine hK _ _ (Qb (kp5 rfl rfl rfl rfl rfl) ?_)
 refine Qe fun K hK => Qa rfl (QD (cs := [_]) rfl rfl rfl rfl (Qa rfl (QC (ZN hw) rfl rfl (.inr rfl) (Qa rfl (Qib rfl (Qfd (by omega) (by omega)) (Qnu rfl rfl (by omega) (Qnn hp) (QbQ rfl rfl (QR rfl rfl (QH rfl rfl (Qa rfl ?_))))))))))
 refine hK _ _ (Qb (kp4 rfl rfl rfl rfl) ?_)
 refine Qid (ι := Unit) (fun _ => ⟨[(5, .ref 5 0 0), (12, ZK (clT w u p bar l))], [(5, ⟨[[.sl ((w).map YS)]], 1, 26, true⟩)]⟩) (fun _ => True) ?_ ?_
 ·skip
  refine Qe fun K hK => Qa rfl ?_
  refine hK _ _ (Qb (kp5 rfl rfl rfl rfl rfl) ?_)
  refine QE ?_
  refine Zv (ι := Nat) (fun i => ⟨[(3, Zb l), (4, .bool bar), (5, .ref 5 0 0), (12, .osl 24 (clT w u p bar (l.take i)).length), (13, .int .i64 i)], [(5, ⟨[[.sl ((w).map YS)]], 1, 26, true⟩), (24, ⟨(clT w u p bar (l.take i)).map Qef, 2, 35, true⟩)]⟩) (fun i => i <= l.length) (fun i => l.length - i) 0 ?_ ?_ ?_
  ·exact Zc (l := [3, 4, 5, 12, 13]) (lH := [5, 24]) (kp5 rfl rfl rfl rfl rfl) (Qf rfl (Qf rfl Qr)) rfl rfl rfl
  ·exact Nat.zero_le _
  intro i hI
  have hlen := QlZ w u p bar (l.take i)
  have hlen2 : (l.take i).length <= l.length := List.length_take_le' ..
  try dsimp only
  refine QG ?_ -- 1
  refine Qe fun K hK => Qa rfl (Qa rfl (QU rfl rfl (Yj rfl rfl ?_)))
  refine hK _ _ (Qb (kp6 rfl rfl rfl rfl rfl rfl) ?_)
  refine Qw rfl (fun h1 => ?_) (fun h1 => ?_)
  ·try rw [h1]
   try simp only [qa, qb, qc, qd, qe, List.length_map] at h1
   refine Qv (Qd (kp5 rfl rfl rfl rfl rfl) ?_)
   refine QG ?_ -- 2
   refine QE (Qe fun K hK => QO (ds0 := [1, 0]) (cs := [_]) rfl rfl rfl rfl rfl rfl (Qa rfl (Qa rfl (QJ rfl rfl rfl (by omega) (QS (by omega)) rfl (QO (ds0 := [1, 0]) (cs := [_, _, _]) rfl rfl rfl rfl rfl rfl (QY (ds0 := [0]) (Qc2 hw (hx _ (List.getElem_mem (by omega)))) rfl rfl (.inr rfl) rfl rfl (Qa rfl ?_)))))))
   refine hK _ _ (Qb (kp6 rfl rfl rfl rfl rfl rfl) ?_)
   refine QG ?_ -- 3
   refine Qe fun K hK => Qa rfl (Yb rfl ?_)
   refine hK _ _ (Qb (kp7 rfl rfl rfl rfl rfl rfl rfl) ?_)
   refine Qw rfl (fun h2 => ?_) (fun h2 => ?_)
   ·try rw [h2]
    try simp only [qa, qb, qc, qd, qe, List.length_map] at h2
    refine QP fun K hK => QO (ds0 := [3, 1, 0]) (cs := [_]) rfl rfl rfl rfl rfl rfl (Qa rfl (Qa rfl (QJ rfl rfl rfl (by omega) (QS (by omega)) rfl (Q7 rfl rfl (QQ (ds0 := [3, 1, 0]) rfl rfl rfl rfl rfl (QY (ds0 := [1, 0]) (ZN hw) rfl rfl (.inr rfl) rfl rfl (Qa rfl (XW rfl rfl (QpW w _ _) (Qa rfl (hK _ ?_))))))))))
    refine Qd (kp6 rfl rfl rfl rfl rfl rfl) (QP fun K hK => Qa rfl (Qa rfl (Qa rfl (QJ rfl rfl rfl (by omega) (QS (by omega)) rfl (Q7 rfl rfl (Qz rfl rfl rfl (Qa rfl (QR rfl rfl (QH rfl rfl (XM rfl rfl (fun _ h => Xv rfl rfl rfl h) rfl (by simp) rfl rfl rfl (by simp; omega) (by simp; omega) ?_))))))))))
    refine Qa rfl (hK _ ?_)
    refine Qi (Qd (kp5 rfl rfl rfl rfl rfl) (QP fun K hK => Qa rfl (Q6 rfl rfl (by first | exact Qs (by omega) (by omega) | rfl) (Qa rfl (hK _ ?_)))))
    refine Ql (i + 1) ?_ ?_ ?_
    ·exact Zc (l := [3, 4, 5, 12, 13]) (lH := [5, 24]) (kp5 rfl rfl rfl rfl rfl) (Qf rfl (Qf rfl Qr)) (by first | (rw [Qbh (by omega) h2]; done) | (rw [Qbh (by omega) h2]; rfl) | (rw [Qbh (by omega) h2, List.length_append]; rfl) | (simp [Qbh (by omega) h2]; done) | (simp [Qbh (by omega) h2]; omega) | rfl) (by first | (rw [Qbh (by omega) h2]; done) | (rw [Qbh (by omega) h2]; rfl) | (rw [Qbh (by omega) h2, List.map_append]; rfl) | (simp [Qbh (by omega) h2]; done) | rfl) rfl
    ·omega
    ·first | omega | (simp only; omega) | (dsimp only; omega)
   ·try rw [h2]
    try simp only [qa, qb, qc, qd, qe, List.length_map] at h2
    refine Qv (Qd (kp6 rfl rfl rfl rfl rfl rfl) (QP fun K hK => Qa rfl (Qa rfl (Qa rfl (QJ rfl rfl rfl (by omega) (QS (by omega)) rfl (Q7 rfl rfl (Qz rfl rfl rfl (Qa rfl (QR rfl rfl (QH rfl rfl ?_))))))))))
    refine XM rfl rfl (fun _ h => Xv rfl rfl rfl h) rfl (by simp) rfl rfl rfl (by simp; omega) (by simp; omega) (Qa rfl (hK _ ?_))
    refine Qi (Qd (kp5 rfl rfl rfl rfl rfl) (QP fun K hK => Qa rfl (Q6 rfl rfl (by first | exact Qs (by omega) (by omega) | rfl) (Qa rfl (hK _ ?_)))))
    refine Ql (i + 1) ?_ ?_ ?_
    ·exact Zc (l := [3, 4, 5, 12, 13]) (lH := [5, 24]) (kp5 rfl rfl rfl rfl rfl) (Qf rfl (Qf rfl Qr)) (by first | (rw [Qbg (by omega) h2]; done) | (rw [Qbg (by omega) h2]; rfl) | (rw [Qbg (by omega) h2, List.length_append]; rfl) | (simp [Qbg (by omega) h2]; done) | (simp [Qbg (by omega) h2]; omega) | rfl) (by first | (rw [Qbg (by omega) h2]; done) | (rw [Qbg (by omega) h2]; rfl) | (rw [Qbg (by omega) h2, List.map_append]; rfl) | (simp [Qbg (by omega) h2]; done) | rfl) rfl
    ·omega
    ·first | omega | (simp only; omega) | (dsimp only; omega)
  ·try rw [h1]
   try simp only [qa, qb, qc, qd, qe, List.length_map] at h1
   refine Zo (QN (QB (QI ?_)))
   refine Yh () ?_ ?_
   ·exact le_trans (QkB (l := [5]) (lH := [5]) 24 12 (kp1 rfl) (Qf rfl Qr) rfl rfl rfl (by first | (simp; done) | (simp; omega)) rfl rfl rfl rfl) (Zc (l := [5, 12]) (lH := [5]) (kp2 rfl rfl) (Qf rfl Qr) (by rw [List.take_of_length_le (show l.length <= i by omega)]; rfl) rfl rfl)
   ·exact trivial
 intro _ hJ
 try dsimp only
 refine Qe fun K hK => QD (cs := [_]) rfl rfl rfl rfl (Qa rfl (QC (QcJ hw (by rw [QlZ]; omega)) rfl rfl (.inl rfl) (Q3 rfl rfl (Q3 rfl rfl (Qa rfl (Qa rfl ?_))))))
 refine hK _ _ (Qb (kp2 rfl rfl) ?_)
 refine Qu ?_
 exact QT rfl rfl ⟨rfl, rfl⟩
end Go.Proofs
namespace M25
open Go Go.Abs M3
def IncOk (w : Qp) (l : List TermT) : Prop := l.Pairwise (fun a b => a.u < b.u) /\ ∀ t ∈ l, 0 <= t.u /\ t.u < w.length
theorem Qg2 : ∀ (l : List TermT) (a b : Int), l.Pairwise (fun x y => x.u < y.u) -> (∀ t ∈ l, a <= t.u /\ t.u < b) -> a <= b -> (l.length : Int) <= b - a
 | [], a, b, _, _, h => by simp; omega
 | t :: l, a, b, hp, hb, h => by
  rw [List.pairwise_cons] at hp
  have h1 := hb t (by simp)
  have := Qg2 l (t.u + 1) b hp.2 (fun s hs => ⟨by have := hp.1 s hs; omega, (hb s (by simp [hs])).2⟩) (by omega)
  simp only [List.length_cons]; omega
theorem IncOk.len {w : Qp} {l : List TermT} (h : IncOk w l) : l.length <= w.length := by
 have := Qg2 l 0 w.length h.1 h.2 (by omega)
 omega
theorem IncOk.nil (w : Qp) : IncOk w [] := ⟨List.Pairwise.nil, by simp⟩
theorem QiN (w : Qp) (ms : List Int) : ∀ n, (XB w ms n).Pairwise (fun a b => a.u < b.u) /\ ∀ t ∈ XB w ms n, 0 <= t.u /\ t.u < n
 | 0 => ⟨List.Pairwise.nil, by simp [XB]⟩
 | n + 1 => by
  obtain ⟨h1, h2⟩ := QiN w ms n
  rw [XB]
  split
  ·rw [List.append_nil]; exact ⟨h1, fun t ht => by have := h2 t ht; omega⟩
  ·refine ⟨List.pairwise_append.2 ⟨h1, List.pairwise_singleton _ _, fun a ha b hb => ?_⟩, fun t ht => ?_⟩
   ·simp only [List.mem_singleton] at hb; subst hb; exact (h2 a ha).2
   ·rcases List.mem_append.1 ht with ht | ht
    ·have := h2 t ht; omega
    ·simp only [List.mem_singleton] at ht; subst ht; simp only; omega
theorem QfU {w : Qp} {l t : List TermT} (h : QeH w l = some t) : IncOk w t := by
 unfold QeH at h
 split at h
 ·unfold QiJ at h
  split at h
  ·cases h
   obtain ⟨h1, h2⟩ := QiN w (XA (Qa3 w) l) (XA (Qa3 w) l).length
   refine ⟨h1, fun t ht => ?_⟩
   have := h2 t ht
   rw [QfB] at this
   exact this
  ·cases h
 ·cases h
theorem IncOk.ne {w : Qp} {l : List TermT} (h : IncOk w l) : l.Pairwise (fun a b => a.u ≠ b.u) := h.1.imp fun h => by omega
theorem Qgc {l : List TermT} (hl : l.Pairwise (fun a b => a.u ≠ b.u)) : ∀ n, (Yk l n).Pairwise (fun a b => a.u < b.u) /\ ∀ t ∈ Yk l n, t ∈ l /\ 0 <= t.u /\ t.u < n
 | 0 => ⟨List.Pairwise.nil, by simp [Yk]⟩
 | n + 1 => by
  obtain ⟨h1, h2⟩ := Qgc hl n
  rw [Yk]
  have hf : ∀ t ∈ l.filter (fun t => decide (t.u = ((n : Nat) : Int))), t ∈ l /\ t.u = n := fun t ht => by
   simpa using List.mem_filter.1 ht
  refine ⟨List.pairwise_append.2 ⟨h1, ?_, fun a ha b hb => ?_⟩, fun t ht => ?_⟩
  ·refine List.Pairwise.imp_of_mem (fun {a b} ha hb hab => ?_) (hl.filter _)
   have := (hf a ha).2
   have := (hf b hb).2
   omega
  ·rw [(hf b hb).2]; exact (h2 a ha).2.2
  ·rcases List.mem_append.1 ht with ht | ht
   ·have := h2 t ht; exact ⟨this.1, by omega, by omega⟩
   ·have := hf t ht; exact ⟨this.1, by omega, by omega⟩
theorem Qlw {w : Qp} {l : List TermT} (hl : l.Pairwise (fun a b => a.u ≠ b.u)) (hb : ∀ t ∈ l, 0 <= t.u /\ t.u < w.length) : IncOk w (QhO l) := by
 obtain ⟨h1, h2⟩ := Qgc hl 48
 exact ⟨h1, fun t ht => hb t (h2 t ht).1⟩
theorem QnY {w : Qp} {r x : RowT} (hx : IncOk w x.t) (h0 : 0 <= r.u) (h1 : r.u < w.length) : IncOk w (QnX w r x).t := by
 refine Qlw (List.pairwise_cons.2 ⟨fun t ht => ?_, hx.ne.filter _⟩) fun t ht => ?_
 ·have := (List.mem_filter.1 ht).2
  simp only [Bool.not_eq_true', decide_eq_false_iff_not] at this
  exact fun e => this e.symm
 ·rcases List.mem_cons.1 ht with rfl | ht
  ·exact ⟨h0, h1⟩
  ·exact hx.2 t (List.mem_filter.1 ht).1
def QaW (w : Qp) (rows : List RowT) : Prop := ∀ x ∈ rows, IncOk w x.t
theorem QjS {w : Qp} {r : RowT} (hr : IncOk w r.t) (h0 : 0 <= r.u) (h1 : r.u < w.length) : ∀ {rows : List RowT}, QaW w rows -> QaW w (Xi w r rows)
 | [], _ => fun x hx => by
  simp only [Xi, List.mem_singleton] at hx; subst hx; exact hr
 | y :: rows, h => fun x hx => by
  rw [Xi] at hx
  split at hx
  ·rcases List.mem_cons.1 hx with rfl | hx
   ·exact QnY (h y (by simp)) h0 h1
   ·exact h x (by simp [hx])
  ·rcases List.mem_cons.1 hx with rfl | hx
   ·exact h x (by simp)
   ·exact QjS hr h0 h1 (fun z hz => h z (by simp [hz])) x hx
theorem QhT (w : Qp) (r : RowT) : ∀ rows : List RowT, (Xi w r rows).length <= rows.length + 1
 | [] => by simp [Xi]
 | x :: rows => by
  have := QhT w r rows
  rw [Xi]; split <;> simp <;> omega
theorem QjI {r x : RowT} (h : ¬ x.k = r.k \/ ¬ x.u = r.u \/ ¬ QgM x.t r.u = QgM r.t r.u) : QjH r x = false := by
 simp only [QjH, Bool.and_eq_false_iff, decide_eq_false_iff_not]
 rcases h with h | h | h
 ·exact .inl (.inl h)
 ·exact .inl (.inr h)
 ·exact .inr h
theorem Qmy {r x : RowT} (h1 : x.k = r.k) (h2 : x.u = r.u) (h3 : QgM x.t r.u = QgM r.t r.u) : QjH r x = true := by simp [QjH, h1, h2, h3]
theorem Qf5 {w : Qp} {r : RowT} {rows : List RowT} {i : Nat} (h : i < rows.length) (hn : QjH r rows[i] = false) (hi : Xi w r rows = rows.take i ++ Xi w r (rows.drop i)) : Xi w r rows = rows.take (i + 1) ++ Xi w r (rows.drop (i + 1)) := by
 rw [hi, List.drop_eq_getElem_cons h, Xi, if_neg (by rw [hn]; simp), List.take_succ_eq_append_getElem h, List.append_assoc]; rfl
theorem QkV {w : Qp} {r : RowT} {rows : List RowT} {i : Nat} (h : i < rows.length) (hn : QjH r rows[i] = true) (hi : Xi w r rows = rows.take i ++ Xi w r (rows.drop i)) : Xi w r rows = rows.set i (QnX w r rows[i]) := by
 rw [hi, List.drop_eq_getElem_cons h, Xi, if_pos hn, List.set_eq_take_append_cons_drop, if_pos h]
theorem QkW {w : Qp} {r : RowT} {rows : List RowT} {i : Nat} (h : rows.length <= i) (hi : Xi w r rows = rows.take i ++ Xi w r (rows.drop i)) : Xi w r rows = rows ++ [r] := by
 rw [hi, List.drop_eq_nil_of_le h, List.take_of_length_le h, Xi]
theorem QkT {w : Qp} {u : Int} {p : Nat} {l : List (List WantT)} {rows : List RowT} {i : Nat} (h : i < l.length) : YQ w u p (l.take (i + 1)) rows = match Yi w u p l[i] false with
  | some t => Xi w ⟨2, u, 0, 0, t⟩ (YQ w u p (l.take i) rows)
  | none => YQ w u p (l.take i) rows := by
 rw [List.take_succ_eq_append_getElem h, YQ, List.foldl_append]; rfl
theorem QiR {w : Qp} {u : Int} {p : Nat} {l : List (List WantT)} {rows : List RowT} {i : Nat} (h : i < l.length) (ho : (Yi w u p l[i] false).isSome = true) : YQ w u p (l.take (i + 1)) rows = Xi w ⟨2, u, 0, 0, (Yi w u p l[i] false).getD []⟩ (YQ w u p (l.take i) rows) := by
 rw [QkT h]
 cases hc : Yi w u p l[i] false with
 | none => rw [hc] at ho; cases ho
 | some t => rfl
theorem QkS {w : Qp} {u : Int} {p : Nat} {l : List (List WantT)} {rows : List RowT} {i : Nat} (h : i < l.length) (ho : (Yi w u p l[i] false).isSome = false) : YQ w u p (l.take (i + 1)) rows = YQ w u p (l.take i) rows := by
 rw [QkT h]
 cases hc : Yi w u p l[i] false with
 | none => rfl
 | some t => rw [hc] at ho; cases ho
theorem QlS {w : Qp} {u : Int} {p : Nat} {l : List WantT} {rows : List RowT} {i : Nat} (h : i < l.length) : QbJ w u p (l.take (i + 1)) rows = match Yi w u p [l[i]] true with
  | some t => Xi w ⟨3, u, 0, 0, t⟩ (QbJ w u p (l.take i) rows)
  | none => QbJ w u p (l.take i) rows := by
 rw [List.take_succ_eq_append_getElem h, QbJ, List.foldl_append]; rfl
theorem Qkj {w : Qp} {u : Int} {p : Nat} {l : List WantT} {rows : List RowT} {i : Nat} (h : i < l.length) (ho : (Yi w u p [l[i]] true).isSome = true) : QbJ w u p (l.take (i + 1)) rows = Xi w ⟨3, u, 0, 0, (Yi w u p [l[i]] true).getD []⟩ (QbJ w u p (l.take i) rows) := by
 rw [QlS h]
 cases hc : Yi w u p [l[i]] true with
 | none => rw [hc] at ho; cases ho
 | some t => rfl
theorem QlR {w : Qp} {u : Int} {p : Nat} {l : List WantT} {rows : List RowT} {i : Nat} (h : i < l.length) (ho : (Yi w u p [l[i]] true).isSome = false) : QbJ w u p (l.take (i + 1)) rows = QbJ w u p (l.take i) rows := by
 rw [QlS h]
 cases hc : Yi w u p [l[i]] true with
 | none => rfl
 | some t => rw [hc] at ho; cases ho
theorem Qmi {w : Qp} {u : Int} {p : Nat} {l : List WantT} {b : Bool} : IncOk w ((Yi w u p l b).getD []) := by
 cases hc : Yi w u p l b with
 | none => exact IncOk.nil w
 | some t => exact QfU hc
theorem QdR {w : Qp} {u : Int} {p : Nat} (h0 : 0 <= u) (h1 : u < w.length) : ∀ {l : List (List WantT)} {rows : List RowT}, QaW w rows -> QaW w (YQ w u p l rows) /\ (YQ w u p l rows).length <= rows.length + l.length
 | [], rows, h => ⟨h, Nat.le_refl _⟩
 | x :: l, rows, h => by
  rw [YQ, List.foldl_cons]
  cases hc : Yi w u p x false with
  | none =>
   obtain ⟨q1, q2⟩ := QdR h0 h1 (l := l) h
   exact ⟨q1, Nat.le_trans q2 (by simp)⟩
  | some t =>
   obtain ⟨q1, q2⟩ := QdR (p := p) h0 h1 (l := l) (QjS (r := ⟨2, u, 0, 0, t⟩) (QfU hc) h0 h1 h)
   have := QhT w ⟨2, u, 0, 0, t⟩ rows
   exact ⟨q1, Nat.le_trans q2 (by simp only [List.length_cons]; omega)⟩
theorem QeV {w : Qp} {u : Int} {p : Nat} (h0 : 0 <= u) (h1 : u < w.length) : ∀ {l : List WantT} {rows : List RowT}, QaW w rows -> QaW w (QbJ w u p l rows) /\ (QbJ w u p l rows).length <= rows.length + l.length
 | [], rows, h => ⟨h, Nat.le_refl _⟩
 | x :: l, rows, h => by
  rw [QbJ, List.foldl_cons]
  cases hc : Yi w u p [x] true with
  | none =>
   obtain ⟨q1, q2⟩ := QeV h0 h1 (l := l) h
   exact ⟨q1, Nat.le_trans q2 (by simp)⟩
  | some t =>
   obtain ⟨q1, q2⟩ := QeV (p := p) h0 h1 (l := l) (QjS (r := ⟨3, u, 0, 0, t⟩) (QfU hc) h0 h1 h)
   have := QhT w ⟨3, u, 0, 0, t⟩ rows
   exact ⟨q1, Nat.le_trans q2 (by simp only [List.length_cons]; omega)⟩
theorem Qhh {w : Qp} {u : Int} {cs : List CandT} {n : Nat} {rows : List RowT} (h : n < cs.length) : YJ w u cs (n + 1) rows = QbJ w u n cs[n].bs (YQ w u n cs[n].ns (YJ w u cs n rows)) := by
 rw [YJ, List.getElem?_eq_getElem h]
theorem Qfr {w : Qp} {u : Int} {cs : List CandT} (h0 : 0 <= u) (h1 : u < w.length) (hc : ∀ c ∈ cs, c.ns.length <= 1000 /\ c.bs.length <= 1000) {rows : List RowT} (h : QaW w rows) : ∀ n, n <= cs.length -> QaW w (YJ w u cs n rows) /\ (YJ w u cs n rows).length <= rows.length + n * 2000
 | 0, _ => ⟨h, by simp [YJ]⟩
 | n + 1, hn => by
  obtain ⟨q1, q2⟩ := Qfr h0 h1 hc h n (by omega)
  rw [Qhh (by omega)]
  obtain ⟨q3, q4⟩ := QdR (p := n) h0 h1 (l := cs[n].ns) q1
  obtain ⟨q5, q6⟩ := QeV (p := n) h0 h1 (l := cs[n].bs) q3
  have := hc cs[n] (List.getElem_mem _)
  exact ⟨q5, by omega⟩
theorem QjW {w : Qp} {n : Nat} (h : n < w.length) : Yr w (n + 1) = YJ w n w[n].cs w[n].cs.length (Yr w n) := by
 rw [Yr, List.getElem?_eq_getElem h]
theorem Qck {w : Qp} (hw : WSm w) (h0 : 0 < w.length) : ∀ n, n <= w.length -> QaW w (Yr w n) /\ (Yr w n).length <= 1 + n * 32000
 | 0, _ => ⟨fun x hx => by
   simp only [Yr, List.mem_singleton] at hx; subst hx
   exact ⟨List.pairwise_singleton _ _, fun t ht => by simp only [List.mem_singleton] at ht; subst ht; exact ⟨Int.le_refl _, by simp only; omega⟩⟩, by simp [Yr]⟩
 | n + 1, hn => by
  obtain ⟨q1, q2⟩ := Qck hw h0 n (by omega)
  rw [QjW (by omega)]
  obtain ⟨q3, q4⟩ := Qfr (u := n) (by omega) (by omega) (fun c hc => hw.ns w[n] (List.getElem_mem _) c hc) q1 w[n].cs.length (Nat.le_refl _)
  have := hw.cs w[n] (List.getElem_mem _)
  refine ⟨q3, ?_⟩
  have h5 : w[n].cs.length * 2000 <= 16 * 2000 := Nat.mul_le_mul_right _ this
  omega
theorem QqB {w : Qp} (hw : WSm w) (h0 : 0 < w.length) : ∀ t ∈ mDB w, IncOk w t := fun t ht => by
 obtain ⟨r, hr, rfl⟩ := List.mem_map.1 ht
 exact (Qck hw h0 w.length (Nat.le_refl _)).1 r hr
theorem QpC {w : Qp} (hw : WSm w) (h0 : 0 < w.length) : (mDB w).length <= 1600000 := by
 have := (Qck hw h0 w.length (Nat.le_refl _)).2
 have := hw.len
 rw [mDB, List.length_map, QdH]; omega
theorem Qrj {l : List TermT} : ∀ r ∈ l.map Qef, r.length = 2 := fun r hr => by obtain ⟨x, _, rfl⟩ := List.mem_map.1 hr; rfl
theorem Qrk {l : List WantT} : ∀ r ∈ l.map QeO, r.length = 3 := fun r hr => by obtain ⟨x, _, rfl⟩ := List.mem_map.1 hr; rfl
theorem QlB {l : List QL} : ∀ r ∈ l.map Qft, r.length = 4 := fun r hr => by obtain ⟨x, _, rfl⟩ := List.mem_map.1 hr; rfl
theorem Qnc {α : Type} {f : α -> List D} {l : List α} {i : Nat} (h : i < l.length) : ((l.map f).take ((i : Int) + 1).toNat).drop ((i : Nat) : Int).toNat = [l[i]].map f := by
 rw [Qnm, Int.toNat_natCast, List.drop_take, show i + 1 - i = 1 by omega, List.drop_eq_getElem_cons (by simpa using h)]
 simp
theorem WSm.nsLen {w : Qp} (hw : WSm w) {u i : Nat} (hu : u < w.length) (hi : i < w[u].cs.length) : w[u].cs[i].ns.length <= 1000 := (hw.ns _ (List.getElem_mem _) _ (List.getElem_mem _)).1
theorem WSm.bsLen {w : Qp} (hw : WSm w) {u i : Nat} (hu : u < w.length) (hi : i < w[u].cs.length) : w[u].cs[i].bs.length <= 1000 := (hw.ns _ (List.getElem_mem _) _ (List.getElem_mem _)).2
theorem WSm.csLen {w : Qp} (hw : WSm w) {u : Nat} (hu : u < w.length) : w[u].cs.length <= 16 := hw.cs _ (List.getElem_mem _)
theorem QpB {w : Qp} (hw : WSm w) {u i : Nat} (hu : u < w.length) (hi : i <= w[u].cs.length) : QaW w (YJ w u w[u].cs i (Yr w u)) /\ (YJ w u w[u].cs i (Yr w u)).length <= 10000000 := by
 obtain ⟨q1, q2⟩ := Qck hw (by omega) u (by omega)
 obtain ⟨q3, q4⟩ := Qfr (u := u) (by omega) (by omega) (fun c hc => hw.ns w[u] (List.getElem_mem _) c hc) q1 i hi
 have := hw.csLen hu
 have := hw.len
 have h5 : i * 2000 <= 16 * 2000 := Nat.mul_le_mul_right _ (by omega)
 have h6 : u * 32000 <= 48 * 32000 := Nat.mul_le_mul_right _ (by omega)
 exact ⟨q3, by omega⟩
theorem QhH {w : Qp} (hw : WSm w) {u i : Nat} (hu : u < w.length) (hi : i < w[u].cs.length) (k : Nat) : QaW w (YQ w u i (w[u].cs[i].ns.take k) (YJ w u w[u].cs i (Yr w u))) /\ (YQ w u i (w[u].cs[i].ns.take k) (YJ w u w[u].cs i (Yr w u))).length <= 20000000 := by
 obtain ⟨q1, q2⟩ := QpB hw hu (Nat.le_of_lt hi)
 obtain ⟨q3, q4⟩ := QdR (u := u) (p := i) (by omega) (by omega) (l := w[u].cs[i].ns.take k) q1
 have := hw.nsLen hu hi
 have h2 : (w[u].cs[i].ns.take k).length <= w[u].cs[i].ns.length := List.length_take_le' ..
 exact ⟨q3, by omega⟩
theorem QkF {w : Qp} (hw : WSm w) {u i : Nat} (hu : u < w.length) (hi : i < w[u].cs.length) (k : Nat) : QaW w (QbJ w u i (w[u].cs[i].bs.take k) (YQ w u i w[u].cs[i].ns (YJ w u w[u].cs i (Yr w u)))) /\ (QbJ w u i (w[u].cs[i].bs.take k) (YQ w u i w[u].cs[i].ns (YJ w u w[u].cs i (Yr w u)))).length <= 30000000 := by
 obtain ⟨q1, q2⟩ := QhH hw hu hi w[u].cs[i].ns.length
 rw [List.take_length] at q1 q2
 obtain ⟨q3, q4⟩ := QeV (u := u) (p := i) (by omega) (by omega) (l := w[u].cs[i].bs.take k) q1
 have := hw.bsLen hu hi
 have h2 : (w[u].cs[i].bs.take k).length <= w[u].cs[i].bs.length := List.length_take_le' ..
 exact ⟨q3, by omega⟩
end M25
namespace Go.Proofs
open Go Go.Abs M3 M25
set_option linter.unusedVariables false
set_option linter.unusedSimpArgs false
theorem Qah {w : Qp} (hw : WSm w) {r : RowT} {rows : List RowT} (hr : QaW w rows) (hrr : IncOk w r.t) (hl : rows.length <= 100000000) : OkH Tryz.prog 78 [Z8 w, .osl 500000 rows.length, .agg (Ql1 r)] [(500000, ⟨(rows).map Ql1, 5, 89, true⟩)] (.osl 500000 (Xi w r rows).length) [(500000, ⟨(Xi w r rows).map Ql1, 5, 89, true⟩)] := by
 refine OkH.mv ZX Tryz.func78 QsT (Nat.le_of_ble_eq_true rfl) rfl ?_
 show TW _ _ tf78.body _ _
 have hn := hw.len
 refine Qe fun K hK => Zw rfl rfl rfl (Zw rfl rfl rfl (Qa rfl ?_))
 refine hK _ _ (Qb (kp3 rfl rfl rfl) ?_)
 refine QG ?_ -- 0
 refine Qe fun K hK => Qa rfl ?_
 refine hK _ _ (Qb (kp4 rfl rfl rfl rfl) ?_)
 refine QE ?_
 refine Zv (ι := Nat) (fun i => ⟨[(1, .osl 500000 rows.length), (3, .ref 3 0 0), (5, .ref 5 0 0), (7, .int .i64 i)], [(3, ⟨[[.sl ((w).map YS)]], 1, 26, true⟩), (5, ⟨[[.int .i64 (r).k, .int .i64 (r).u, .int .i64 (r).a, .int .i64 (r).b, ZK (r).t]], 5, 89, true⟩), (500000, ⟨(rows).map Ql1, 5, 89, true⟩)]⟩) (fun i => i <= rows.length /\ Xi w r rows = rows.take i ++ Xi w r (rows.drop i)) (fun i => rows.length - i) 0 ?_ ?_ ?_
 ·exact Zc (l := [1, 3, 5, 7]) (lH := [3, 5, 500000]) (kp4 rfl rfl rfl rfl) (Qf rfl (Qf rfl (Qf rfl Qr))) rfl rfl rfl
 ·exact ⟨Nat.zero_le _, by simp⟩
 intro i hI
 try dsimp only
 refine QG ?_ -- 1
 refine Qe fun K hK => Qa rfl (Qa rfl (QU rfl rfl (Yj rfl rfl ?_)))
 refine hK _ _ (Qb (kp5 rfl rfl rfl rfl rfl) ?_)
 refine Qw rfl (fun h1 => ?_) (fun h1 => ?_)
 ·try rw [h1]
  try simp only [qa, qb, qc, qd, qe, List.length_map] at h1
  refine Qv (Qd (kp4 rfl rfl rfl rfl) ?_)
  refine QG ?_ -- 2
  refine QE (Qe fun K hK => Qa rfl (Qa rfl (Xj rfl rfl rfl (by simp) (by omega) (by omega) rfl (QD (cs := [_, _, _, _, _]) rfl (Z5 rfl (QS (by omega))) rfl rfl (ZC rfl (Q5 rfl rfl rfl rfl rfl rfl rfl rfl ?_))))))
  refine hK _ _ (Qb (kp5 rfl rfl rfl rfl rfl) ?_)
  refine Qe fun K hK => Qh rfl rfl (QQ (ds0 := [20, 19, 18, 17, 16, 15, 14, 13, 12, 11, 10, 9, 8, 7, 6, 5, 4, 3, 2, 1, 0]) rfl rfl rfl rfl rfl (Qh rfl rfl (QQ (ds0 := [20, 19, 18, 17, 16, 15, 14, 13, 12, 11, 10, 9, 8, 7, 6, 5, 4, 3, 2, 1, 0]) rfl rfl rfl rfl rfl ?_)))
  first | refine Zy rfl rfl ?_ | refine Qff rfl rfl ?_
  refine Qa rfl ?_
  refine Qy (g := 25) rfl (fun h2 => ?_) (fun h2 => ?_)
  ·try rw [h2]
   try simp only [qa, qb, qc, qd, qe, List.length_map] at h2
   refine Qg rfl (Qh rfl rfl (Qg rfl (QQ (ds0 := [14, 13, 12, 11, 10, 9, 8, 7, 6, 5, 4, 3, 2, 1, 0]) rfl rfl rfl rfl rfl (Qg rfl (Qh rfl rfl (Qg rfl (QQ (ds0 := [14, 13, 12, 11, 10, 9, 8, 7, 6, 5, 4, 3, 2, 1, 0]) rfl rfl rfl rfl rfl (Qg rfl ?_))))))))
   first | refine Zy rfl rfl ?_ | refine Qff rfl rfl ?_
   refine Qk rfl rfl (Qa rfl ?_)
   refine Qy (g := 32) rfl (fun h3 => ?_) (fun h3 => ?_)
   ·try rw [h3]
    try simp only [qa, qb, qc, qd, qe, List.length_map] at h3
    refine Qg rfl (Qh rfl rfl (Qg rfl (QQ (ds0 := [7, 1, 0]) rfl rfl rfl rfl rfl (Qg rfl (Qh rfl rfl (Qg rfl (QQ (ds0 := [7, 1, 0]) rfl rfl rfl rfl rfl (Qg rfl (QY (ds0 := [1, 0]) (Xa (Nat.le_trans (hr _ (List.getElem_mem (by omega))).len (by omega))) rfl rfl (.inl rfl) rfl rfl (Qg rfl (Qh rfl rfl ?_)))))))))))
    refine Qg rfl (QQ (ds0 := [2, 1, 0]) rfl rfl rfl rfl rfl (Qg rfl (Qh rfl rfl (Qg rfl (QQ (ds0 := [2, 1, 0]) rfl rfl rfl rfl rfl (Qg rfl (QY (ds0 := [1, 0]) (Xa (Nat.le_trans hrr.len (by omega))) rfl rfl (.inl rfl) rfl rfl (Qg rfl (QY (ds0 := [0]) (QcK (Nat.le_trans (Qfp _ _) (Nat.le_trans (hr _ (List.getElem_mem (by omega))).len (by omega)))) rfl rfl (.inr rfl) rfl rfl (Qk rfl rfl ?_))))))))))
    refine hK _ _ (Qb (kp6 rfl rfl rfl rfl rfl rfl) ?_)
    refine Qw rfl (fun h4 => ?_) (fun h4 => ?_)
    ·try rw [h4]
     try simp only [qa, qb, qc, qd, qe, List.length_map] at h4
     refine Qe fun K hK => Qh rfl rfl (QQ (ds0 := [8, 7, 1, 0]) rfl rfl rfl rfl rfl (QO (ds0 := [16, 9, 8, 7, 1, 0]) (cs := [_]) rfl rfl rfl rfl rfl rfl (Qh rfl rfl (QQ (ds0 := [16, 9, 8, 7, 1, 0]) rfl rfl rfl rfl rfl (Qh rfl rfl (QQ (ds0 := [16, 9, 8, 7, 1, 0]) rfl rfl rfl rfl rfl (QY (ds0 := [9, 8, 7, 1, 0]) (YY hw (Nat.le_trans (hr _ (List.getElem_mem (by omega))).len (by omega))) rfl rfl (.inr rfl) rfl rfl (QO (ds0 := [10, 9, 8, 7, 1, 0]) (cs := [_]) rfl rfl rfl rfl rfl rfl (Qh rfl rfl (QQ (ds0 := [10, 9, 8, 7, 1, 0]) rfl rfl rfl rfl rfl ?_))))))))))
     refine Qh rfl rfl (QQ (ds0 := [10, 9, 8, 7, 1, 0]) rfl rfl rfl rfl rfl (QY (ds0 := [9, 8, 7, 1, 0]) (YY hw (Nat.le_trans hrr.len (by omega))) rfl rfl (.inr rfl) rfl rfl (Qr1 rfl rfl (QR rfl rfl (QH rfl rfl (Qh rfl rfl (QQ (ds0 := [2, 1, 0]) rfl rfl rfl rfl rfl (Qh rfl rfl (QQ (ds0 := [2, 1, 0]) rfl rfl rfl rfl rfl (QY (ds0 := [1, 0]) (Xa (Nat.le_trans (hr _ (List.getElem_mem (by omega))).len (by omega))) rfl rfl (.inl rfl) rfl rfl (QbR (ds0 := [0]) rfl rfl (by simp [D.ids, D.sid, ZK]) ⟨rfl, Qrj, rfl⟩ rfl rfl (by simp) rfl rfl (by have q1 := Qfp (rows[i]'(by omega)).t r.u; have q2 := (hr _ (List.getElem_mem (show i < rows.length by omega))).len; simp; omega) (by have q1 := Qfp (rows[i]'(by omega)).t r.u; have q2 := (hr _ (List.getElem_mem (show i < rows.length by omega))).len; simp; omega) rfl rfl ?_)))))))))))
     refine Qa rfl ?_
     refine hK _ _ (Qb (kp3 rfl rfl rfl) ?_)
     refine Qpc (QkB (l := [1, 7]) (lH := [500000]) 67 9 (kp2 rfl rfl) (Qf rfl Qr) rfl rfl rfl (by first | (simp; done) | (simp; omega)) rfl rfl rfl rfl) (Qe fun K hK => Qa rfl (Qa rfl (Qa rfl (QC (QbK (l := ⟨r.u, bor (QdL w (rows[i]'(by omega)).t r.u) (QdL w r.t r.u)⟩ :: QgM (rows[i]'(by omega)).t r.u) (by have q1 := Qfp (rows[i]'(by omega)).t r.u; have q2 := (hr _ (List.getElem_mem (show i < rows.length by omega))).len; simp; omega)) rfl rfl (.inl rfl) (Xj rfl rfl rfl (by simp) (by omega) (by omega) rfl (Qh rfl rfl (Q5 rfl rfl (QS (by omega)) rfl rfl rfl rfl rfl ?_)))))))
     refine hK _ _ (Qb (kp1 rfl) ?_)
     refine Qe fun K hK => Qa rfl (Qa rfl ?_)
     refine hK _ _ (Qb (kp1 rfl) ?_)
     refine Qu (Qt (Qj (Q4 (Qt (Qj ?_)))))
     refine Y1 rfl ?_ (Qez ?_)
     ·rw [QkV (i := i) (by omega) (Qmy h2 h3 h4) hI.2]; simp [QlH, D.fz, D.fzS, QeR, D.can, D.canS]
     ·rw [QkV (i := i) (by omega) (Qmy h2 h3 h4) hI.2]; simp [lk, List.map_set, Ql1, QnX, setRow, D.sid, ZK]
    ·try rw [h4]
     try simp only [qa, qb, qc, qd, qe, List.length_map] at h4
     refine Qv (Qi (Qd (kp4 rfl rfl rfl rfl) (QP fun K hK => Qa rfl (Q6 rfl rfl (by first | exact Qs (by omega) (by omega) | rfl) (Qa rfl (hK _ ?_))))))
     refine Ql (i + 1) ?_ ?_ ?_
     ·exact Zc (l := [1, 3, 5, 7]) (lH := [3, 5, 500000]) (kp4 rfl rfl rfl rfl) (Qf rfl (Qf rfl (Qf rfl Qr))) rfl rfl rfl
     ·exact ⟨by omega, Qf5 (by omega) (QjI (by first | exact .inl h2 | exact .inr (.inl h3) | exact .inr (.inr h4))) hI.2⟩
     ·first | omega | (simp only; omega) | (dsimp only; omega)
   ·try rw [h3]
    try simp only [qa, qb, qc, qd, qe, List.length_map] at h3
    refine Qo rfl (Qo rfl (Qo rfl (Qo rfl (Qo rfl (Qo rfl (Qo rfl (Qo rfl (Qo rfl (Qo rfl (Qo rfl (Qk rfl rfl ?_)))))))))))
    refine hK _ _ (Qb (kp6 rfl rfl rfl rfl rfl rfl) ?_)
    refine ZY rfl (Qv (Qi (Qd (kp4 rfl rfl rfl rfl) (QP fun K hK => Qa rfl (Q6 rfl rfl (by first | exact Qs (by omega) (by omega) | rfl) (Qa rfl (hK _ ?_)))))))
    refine Ql (i + 1) ?_ ?_ ?_
    ·exact Zc (l := [1, 3, 5, 7]) (lH := [3, 5, 500000]) (kp4 rfl rfl rfl rfl) (Qf rfl (Qf rfl (Qf rfl Qr))) rfl rfl rfl
    ·exact ⟨by omega, Qf5 (by omega) (QjI (by first | exact .inl h2 | exact .inr (.inl h3) | exact .inr (.inr h4))) hI.2⟩
    ·first | omega | (simp only; omega) | (dsimp only; omega)
  ·try rw [h2]
   try simp only [qa, qb, qc, qd, qe, List.length_map] at h2
   refine Qo rfl (Qo rfl (Qo rfl (Qo rfl (Qo rfl (Qk rfl rfl (Qa rfl (Qo rfl (Qo rfl (Qo rfl (Qo rfl (Qo rfl ?_)))))))))))
   refine Qo rfl (Qo rfl (Qo rfl (Qo rfl (Qo rfl (Qo rfl (Qk rfl rfl ?_))))))
   refine hK _ _ (Qb (kp6 rfl rfl rfl rfl rfl rfl) ?_)
   refine ZY rfl (Qv (Qi (Qd (kp4 rfl rfl rfl rfl) (QP fun K hK => Qa rfl (Q6 rfl rfl (by first | exact Qs (by omega) (by omega) | rfl) (Qa rfl (hK _ ?_)))))))
   refine Ql (i + 1) ?_ ?_ ?_
   ·exact Zc (l := [1, 3, 5, 7]) (lH := [3, 5, 500000]) (kp4 rfl rfl rfl rfl) (Qf rfl (Qf rfl (Qf rfl Qr))) rfl rfl rfl
   ·exact ⟨by omega, Qf5 (by omega) (QjI (by first | exact .inl h2 | exact .inr (.inl h3) | exact .inr (.inr h4))) hI.2⟩
   ·first | omega | (simp only; omega) | (dsimp only; omega)
 ·try rw [h1]
  try simp only [qa, qb, qc, qd, qe, List.length_map] at h1
  refine Zo (QN (QB (QI (Qd (kp2 rfl rfl) (Qe fun K hK => Qa rfl (QD (cs := [_, _, _, _, _]) rfl rfl rfl rfl (QH rfl rfl (XM rfl rfl (fun _ h => Xv rfl rfl rfl h) rfl (by simp) rfl rfl rfl (by simp; omega) (by simp; omega) (Qa rfl ?_)))))))))
  refine hK _ _ (Qb (kp1 rfl) ?_)
  refine Qu ?_
  refine Y1 rfl ?_ (Qez ?_)
  ·rw [QkW (i := i) (by omega) hI.2]; simp [QlH, D.fz, D.fzS, QeR, D.can, D.canS]
  ·rw [QkW (i := i) (by omega) hI.2]; simp [lk, Ql1, D.sid, ZK]
theorem Qc3 {w : Qp} (hw : WSm w) : Ok Tryz.prog 46 [Z8 w] (Qqp (QdH w)) := by
 refine Ok.ofT ZX Tryz.func46 Qst (Nat.le_of_ble_eq_true rfl) ?_
 show TW _ _ tf46.body _ _
 have hn := hw.len
 refine Qe fun K hK => Zw rfl rfl rfl (Qa rfl ?_)
 refine hK _ _ (Qb (kp1 rfl) ?_)
 refine Qe fun K hK => QR rfl rfl (QH rfl rfl (QR rfl rfl (QH rfl rfl (Qa rfl ?_))))
 refine hK _ _ (Qb (kp2 rfl rfl) ?_)
 refine QG ?_ -- 0
 refine Qe fun K hK => Qa rfl ?_
 refine hK _ _ (Qb (kp3 rfl rfl rfl) ?_)
 refine QE ?_
 refine Zv (ι := Nat) (fun j => ⟨[(1, .ref 1 0 0), (3, .osl 3 (Yr w j).length), (4, .int .i64 j)], [(1, ⟨[[.sl ((w).map YS)]], 1, 26, true⟩), (3, ⟨(Yr w j).map Ql1, 5, 89, true⟩)]⟩) (fun j => j <= w.length) (fun j => w.length - j) 0 ?_ ?_ ?_
 ·exact le_trans (QiD 14 _ (by decide)) (le_trans (QfI (k := 16) (b := ⟨[[.int .i64 1, .int .i64 0, .int .i64 0, .int .i64 0, .sl [[.int .i64 0, .int .i64 1]]]], 5, 89, false⟩) rfl (by simp) (by simp [D.sid])) (le_trans (QjF (l := [1, 4]) (lH := [1]) 16 3 3 (kp2 rfl rfl) (Qf rfl Qr) rfl rfl rfl rfl rfl rfl rfl) (Zc (l := [1, 3, 4]) (lH := [1, 3]) (kp3 rfl rfl rfl) (Qf rfl (Qf rfl Qr)) rfl rfl rfl)))
 ·exact Nat.zero_le _
 intro j hU
 try dsimp only
 refine QG ?_ -- 1
 refine Qe fun K hK => Qa rfl (Qh rfl rfl (Qz rfl rfl rfl (QU rfl rfl (Yj rfl rfl ?_))))
 refine hK _ _ (Qb (kp4 rfl rfl rfl rfl) ?_)
 refine Qw rfl (fun h1 => ?_) (fun h1 => ?_)
 ·try rw [h1]
  try simp only [qa, qb, qc, qd, qe, List.length_map] at h1
  refine Qv (Qd (kp3 rfl rfl rfl) ?_)
  refine QG ?_ -- 2
  refine QE (Qe fun K hK => Qa rfl ?_)
  refine hK _ _ (Qb (kp4 rfl rfl rfl rfl) ?_)
  refine QE ?_
  refine Zv (ι := Nat) (fun i => ⟨[(1, .ref 1 0 0), (3, .osl 3 (YJ w j (w[j]'(by omega)).cs i (Yr w j)).length), (4, .int .i64 j), (5, .int .i64 i)], [(1, ⟨[[.sl ((w).map YS)]], 1, 26, true⟩), (3, ⟨(YJ w j (w[j]'(by omega)).cs i (Yr w j)).map Ql1, 5, 89, true⟩)]⟩) (fun i => i <= (w[j]'(by omega)).cs.length) (fun i => (w[j]'(by omega)).cs.length - i) 0 ?_ ?_ ?_
  ·exact Zc (l := [1, 3, 4, 5]) (lH := [1, 3]) (kp4 rfl rfl rfl rfl) (Qf rfl (Qf rfl Qr)) rfl rfl rfl
  ·exact Nat.zero_le _
  intro i hI
  have hcs := hw.csLen (u := j) (by omega)
  try dsimp only
  refine QG ?_ -- 3
  refine Qe fun K hK => Qa rfl (Qh rfl rfl (Qz rfl rfl rfl (Qa rfl (QJ rfl rfl rfl (by omega) (QS (by omega)) rfl (Q7 rfl rfl (Qz rfl rfl rfl (QU rfl rfl (Yj rfl rfl ?_))))))))
  refine hK _ _ (Qb (kp5 rfl rfl rfl rfl rfl) ?_)
  refine Qw rfl (fun h2 => ?_) (fun h2 => ?_)
  ·try rw [h2]
   try simp only [qa, qb, qc, qd, qe, List.length_map] at h2
   refine Qv (Qd (kp4 rfl rfl rfl rfl) ?_)
   refine QG ?_ -- 4
   refine QE (Qe fun K hK => Qh rfl rfl (Qz rfl rfl rfl (Qa rfl (QJ rfl rfl rfl (by omega) (QS (by omega)) rfl (Q7 rfl rfl (Qz rfl rfl rfl (Qa rfl (QJ rfl rfl rfl (by omega) (QS (by omega)) rfl (QD (cs := [_, _, _, _, _, _, _, _]) rfl rfl rfl rfl (ZC rfl ?_))))))))))
   refine Q5 rfl rfl rfl rfl rfl rfl rfl rfl ?_
   refine hK _ _ (Qb (kp5 rfl rfl rfl rfl rfl) ?_)
   refine QG ?_ -- 5
   refine Qe fun K hK => Qa rfl ?_
   refine hK _ _ (Qb (kp6 rfl rfl rfl rfl rfl rfl) ?_)
   refine QE ?_
   refine Zv (ι := Nat) (fun k => ⟨[(1, .ref 1 0 0), (3, .osl 3 (YQ w j i (((w[j]'(by omega)).cs[i]'(by omega)).ns.take k) (YJ w j (w[j]'(by omega)).cs i (Yr w j))).length), (4, .int .i64 j), (5, .int .i64 i), (6, .ref 6 0 0), (7, .int .i64 k)], [(1, ⟨[[.sl ((w).map YS)]], 1, 26, true⟩), (3, ⟨(YQ w j i (((w[j]'(by omega)).cs[i]'(by omega)).ns.take k) (YJ w j (w[j]'(by omega)).cs i (Yr w j))).map Ql1, 5, 89, true⟩), (6, ⟨[Qpq ((w[j]'(by omega)).cs[i]'(by omega))], 8, 71, true⟩)]⟩) (fun k => k <= ((w[j]'(by omega)).cs[i]'(by omega)).ns.length) (fun k => ((w[j]'(by omega)).cs[i]'(by omega)).ns.length - k) 0 ?_ ?_ ?_
   ·exact Zc (l := [1, 3, 4, 5, 6, 7]) (lH := [1, 3, 6]) (kp6 rfl rfl rfl rfl rfl rfl) (Qf rfl (Qf rfl (Qf rfl Qr))) rfl rfl rfl
   ·exact Nat.zero_le _
   intro k hK1
   have hnl := hw.nsLen (u := j) (i := i) (by omega) (by omega)
   try dsimp only
   refine QG ?_ -- 6
   refine Qe fun K hK => Qa rfl (Qh rfl rfl (Qz rfl rfl rfl (QU rfl rfl (Yj rfl rfl ?_))))
   refine hK _ _ (Qb (kp7 rfl rfl rfl rfl rfl rfl rfl) ?_)
   refine Qw rfl (fun h3 => ?_) (fun h3 => ?_)
   ·try rw [h3]
    try simp only [qa, qb, qc, qd, qe, List.length_map] at h3
    refine Qv (Qd (kp6 rfl rfl rfl rfl rfl rfl) ?_)
    refine QG ?_ -- 7
    refine QE (Qe fun K hK => QO (ds0 := [5, 4, 3, 2, 1, 0]) (cs := [_]) rfl rfl rfl rfl rfl rfl (Qa rfl (Qa rfl (Qh rfl rfl (QQ (ds0 := [7, 6, 5, 4, 3, 2, 1, 0]) rfl rfl rfl rfl rfl (Qa rfl (QJ rfl rfl rfl (by omega) (QS (by omega)) rfl (QQ (ds0 := [5, 4, 3, 2, 1, 0]) rfl rfl rfl rfl rfl (QY (ds0 := [4, 3, 2, 1, 0]) (Xx hw (p := i) (by omega) (Nat.le_trans (hw.nl _ (List.getElem_mem (by omega)) _ (List.getElem_mem (by omega)) _ (List.getElem_mem (by omega))) (by omega)) (hw.nw _ (List.getElem_mem (by omega)) _ (List.getElem_mem (by omega)) _ (List.getElem_mem (by omega)))) rfl rfl (.inl rfl) rfl rfl (Qa rfl ?_))))))))))
    refine Q3 rfl rfl (Q3 rfl rfl (Qa rfl (Qa rfl ?_)))
    refine hK _ _ (Qb (kp8 rfl rfl rfl rfl rfl rfl rfl rfl) ?_)
    refine Qe fun K hK => Qa rfl ?_
    refine hK _ _ (Qb (kp8 rfl rfl rfl rfl rfl rfl rfl rfl) ?_)
    refine Qw rfl (fun h4 => ?_) (fun h4 => ?_)
    ·try rw [h4]
     try simp only [qa, qb, qc, qd, qe, List.length_map] at h4
     refine QP fun K hK => QD (cs := [_]) rfl rfl rfl rfl (Qa rfl (Qa rfl (Qa rfl (QR rfl rfl (QlN (Qkm (k := 3) rfl rfl rfl (by decide) rfl (by decide) (by simp [D.ids, D.sid, ZK]) ⟨.osl 3 (YQ w j i (((w[j]'(by omega)).cs[i]'(by omega)).ns.take k) (YJ w j (w[j]'(by omega)).cs i (Yr w j))).length, by simp, by simp [D.ids, D.sid]⟩ rfl rfl (Qah hw (r := ⟨2, j, 0, 0, (Yi w j i (((w[j]'(by omega)).cs[i]'(by omega)).ns[k]'(by omega)) false).getD []⟩) (QhH hw (by omega) (by omega) _).1 Qmi (Nat.le_trans (QhH hw (by omega) (by omega) _).2 (by omega)))) (Qa rfl (hK _ ?_)))))))
     refine Qi (Qd (kp6 rfl rfl rfl rfl rfl rfl) (QP fun K hK => Qa rfl (Q6 rfl rfl (by first | exact Qs (by omega) (by omega) | rfl) (Qa rfl (hK _ ?_)))))
     refine Ql (k + 1) ?_ ?_ ?_
     ·exact le_trans (QjF (l := [1, 4, 5, 6, 7]) (lH := [1, 6]) 69 3 3 (kp5 rfl rfl rfl rfl rfl) (Qf rfl (Qf rfl Qr)) rfl rfl rfl rfl rfl rfl rfl) (Zc (l := [1, 3, 4, 5, 6, 7]) (lH := [1, 3, 6]) (kp6 rfl rfl rfl rfl rfl rfl) (Qf rfl (Qf rfl (Qf rfl Qr))) (by rw [QiR (by omega) h4] <;> rfl) (by rw [QiR (by omega) h4] <;> rfl) rfl)
     ·omega
     ·first | omega | (simp only; omega) | (dsimp only; omega)
    ·try rw [h4]
     try simp only [qa, qb, qc, qd, qe, List.length_map] at h4
     refine Qv (Qi (Qd (kp6 rfl rfl rfl rfl rfl rfl) (QP fun K hK => Qa rfl (Q6 rfl rfl (by first | exact Qs (by omega) (by omega) | rfl) (Qa rfl (hK _ ?_))))))
     refine Ql (k + 1) ?_ ?_ ?_
     ·exact Zc (l := [1, 3, 4, 5, 6, 7]) (lH := [1, 3, 6]) (kp6 rfl rfl rfl rfl rfl rfl) (Qf rfl (Qf rfl (Qf rfl Qr))) (by rw [QkS (by omega) h4] <;> rfl) (by rw [QkS (by omega) h4] <;> rfl) rfl
     ·omega
     ·first | omega | (simp only; omega) | (dsimp only; omega)
   ·try rw [h3]
    try simp only [qa, qb, qc, qd, qe, List.length_map] at h3
    refine Zo (QN (QB (QI (Qd (kp5 rfl rfl rfl rfl rfl) (Qe fun K hK => Qa rfl ?_)))))
    refine hK _ _ (Qb (kp6 rfl rfl rfl rfl rfl rfl) ?_)
    refine QE ?_
    refine Zv (ι := Nat) (fun m => ⟨[(1, .ref 1 0 0), (3, .osl 3 (QbJ w j i (((w[j]'(by omega)).cs[i]'(by omega)).bs.take m) (YQ w j i ((w[j]'(by omega)).cs[i]'(by omega)).ns (YJ w j (w[j]'(by omega)).cs i (Yr w j)))).length), (4, .int .i64 j), (5, .int .i64 i), (6, .ref 6 0 0), (10, .int .i64 m)], [(1, ⟨[[.sl ((w).map YS)]], 1, 26, true⟩), (3, ⟨(QbJ w j i (((w[j]'(by omega)).cs[i]'(by omega)).bs.take m) (YQ w j i ((w[j]'(by omega)).cs[i]'(by omega)).ns (YJ w j (w[j]'(by omega)).cs i (Yr w j)))).map Ql1, 5, 89, true⟩), (6, ⟨[Qpq ((w[j]'(by omega)).cs[i]'(by omega))], 8, 71, true⟩)]⟩) (fun m => m <= ((w[j]'(by omega)).cs[i]'(by omega)).bs.length) (fun m => ((w[j]'(by omega)).cs[i]'(by omega)).bs.length - m) 0 ?_ ?_ ?_
    ·exact Zc (l := [1, 3, 4, 5, 6, 10]) (lH := [1, 3, 6]) (kp6 rfl rfl rfl rfl rfl rfl) (Qf rfl (Qf rfl (Qf rfl Qr))) (by rw [List.take_of_length_le (show ((w[j]'(by omega)).cs[i]'(by omega)).ns.length <= k by omega)] <;> rfl) (by rw [List.take_of_length_le (show ((w[j]'(by omega)).cs[i]'(by omega)).ns.length <= k by omega)] <;> rfl) rfl
    ·exact Nat.zero_le _
    intro m hM
    have hbl := hw.bsLen (u := j) (i := i) (by omega) (by omega)
    try dsimp only
    refine QG ?_ -- 8
    refine Qe fun K hK => Qa rfl (Qh rfl rfl (Qz rfl rfl rfl (QU rfl rfl (Yj rfl rfl ?_))))
    refine hK _ _ (Qb (kp7 rfl rfl rfl rfl rfl rfl rfl) ?_)
    refine Qw rfl (fun h5 => ?_) (fun h5 => ?_)
    ·try rw [h5]
     try simp only [qa, qb, qc, qd, qe, List.length_map] at h5
     refine Qv (Qd (kp6 rfl rfl rfl rfl rfl rfl) ?_)
     refine QG ?_ -- 9
     refine QE (Qe fun K hK => QO (ds0 := [5, 4, 3, 2, 1, 0]) (cs := [_]) rfl rfl rfl rfl rfl rfl (Qa rfl (Qa rfl (Qh rfl rfl (QQ (ds0 := [6, 5, 4, 3, 2, 1, 0]) rfl rfl rfl rfl rfl (Qa rfl (Qa rfl (Q6 rfl rfl (by first | exact Qs (by omega) (by omega) | rfl) (Qfh rfl rfl rfl rfl (by omega) (by omega) (by simp; omega) Qrk (Qnc (by omega)) (QY (ds0 := [4, 3, 2, 1, 0]) (Xx hw (p := i) (l := [((w[j]'(by omega)).cs[i]'(by omega)).bs[m]'(by omega)]) (by omega) (by simp) (by intro x hx; simp only [List.mem_singleton] at hx; subst hx; exact hw.bw _ (List.getElem_mem (by omega)) _ (List.getElem_mem (by omega)) _ (List.getElem_mem (by omega)))) rfl rfl (.inl rfl) rfl rfl ?_))))))))))
     refine Qa rfl (Q3 rfl rfl (Q3 rfl rfl (Qa rfl (Qa rfl ?_))))
     refine hK _ _ (Qb (kp8 rfl rfl rfl rfl rfl rfl rfl rfl) ?_)
     refine Qe fun K hK => Qa rfl ?_
     refine hK _ _ (Qb (kp8 rfl rfl rfl rfl rfl rfl rfl rfl) ?_)
     refine Qw rfl (fun h6 => ?_) (fun h6 => ?_)
     ·try rw [h6]
      try simp only [qa, qb, qc, qd, qe, List.length_map] at h6
      refine QP fun K hK => QD (cs := [_]) rfl rfl rfl rfl (Qa rfl (Qa rfl (Qa rfl (QR rfl rfl (QlN (Qkm (k := 3) rfl rfl rfl (by decide) rfl (by decide) (by simp [D.ids, D.sid, ZK]) ⟨.osl 3 (QbJ w j i (((w[j]'(by omega)).cs[i]'(by omega)).bs.take m) (YQ w j i ((w[j]'(by omega)).cs[i]'(by omega)).ns (YJ w j (w[j]'(by omega)).cs i (Yr w j)))).length, by simp, by simp [D.ids, D.sid]⟩ rfl rfl (Qah hw (r := ⟨3, j, 0, 0, (Yi w j i [((w[j]'(by omega)).cs[i]'(by omega)).bs[m]'(by omega)] true).getD []⟩) (QkF hw (by omega) (by omega) _).1 Qmi (Nat.le_trans (QkF hw (by omega) (by omega) _).2 (by omega)))) (Qa rfl (hK _ ?_)))))))
      refine Qi (Qd (kp6 rfl rfl rfl rfl rfl rfl) (QP fun K hK => Qa rfl (Q6 rfl rfl (by first | exact Qs (by omega) (by omega) | rfl) (Qa rfl (hK _ ?_)))))
      refine Ql (m + 1) ?_ ?_ ?_
      ·exact le_trans (QjF (l := [1, 4, 5, 6, 10]) (lH := [1, 6]) 96 3 3 (kp5 rfl rfl rfl rfl rfl) (Qf rfl (Qf rfl Qr)) rfl rfl rfl rfl rfl rfl rfl) (Zc (l := [1, 3, 4, 5, 6, 10]) (lH := [1, 3, 6]) (kp6 rfl rfl rfl rfl rfl rfl) (Qf rfl (Qf rfl (Qf rfl Qr))) (by rw [Qkj (by omega) h6] <;> rfl) (by rw [Qkj (by omega) h6] <;> rfl) rfl)
      ·omega
      ·first | omega | (simp only; omega) | (dsimp only; omega)
     ·try rw [h6]
      try simp only [qa, qb, qc, qd, qe, List.length_map] at h6
      refine Qv (Qi (Qd (kp6 rfl rfl rfl rfl rfl rfl) (QP fun K hK => Qa rfl (Q6 rfl rfl (by first | exact Qs (by omega) (by omega) | rfl) (Qa rfl (hK _ ?_))))))
      refine Ql (m + 1) ?_ ?_ ?_
      ·exact Zc (l := [1, 3, 4, 5, 6, 10]) (lH := [1, 3, 6]) (kp6 rfl rfl rfl rfl rfl rfl) (Qf rfl (Qf rfl (Qf rfl Qr))) (by rw [QlR (by omega) h6] <;> rfl) (by rw [QlR (by omega) h6] <;> rfl) rfl
      ·omega
      ·first | omega | (simp only; omega) | (dsimp only; omega)
    ·try rw [h5]
     try simp only [qa, qb, qc, qd, qe, List.length_map] at h5
     refine Zo (QN (QB (QI (Qi (Qd (kp4 rfl rfl rfl rfl) (QP fun K hK => Qa rfl (Q6 rfl rfl (by first | exact Qs (by omega) (by omega) | rfl) (Qa rfl (hK _ ?_)))))))))
     refine Ql (i + 1) ?_ ?_ ?_
     ·exact Zc (l := [1, 3, 4, 5]) (lH := [1, 3]) (kp4 rfl rfl rfl rfl) (Qf rfl (Qf rfl Qr)) (by rw [Qhh (by omega), List.take_of_length_le (show ((w[j]'(by omega)).cs[i]'(by omega)).bs.length <= m by omega)] <;> rfl) (by rw [Qhh (by omega), List.take_of_length_le (show ((w[j]'(by omega)).cs[i]'(by omega)).bs.length <= m by omega)] <;> rfl) rfl
     ·omega
     ·first | omega | (simp only; omega) | (dsimp only; omega)
  ·try rw [h2]
   try simp only [qa, qb, qc, qd, qe, List.length_map] at h2
   refine Zo (QN (QB (QI (Qi (Qd (kp3 rfl rfl rfl) (QP fun K hK => Qa rfl (Q6 rfl rfl (by first | exact Qs (by omega) (by omega) | rfl) (Qa rfl (hK _ ?_)))))))))
   refine Ql (j + 1) ?_ ?_ ?_
   ·exact Zc (l := [1, 3, 4]) (lH := [1, 3]) (kp3 rfl rfl rfl) (Qf rfl (Qf rfl Qr)) (by rw [QjW (by omega), show (w[j]'(by omega)).cs.length = i by omega] <;> rfl) (by rw [QjW (by omega), show (w[j]'(by omega)).cs.length = i by omega] <;> rfl) rfl
   ·omega
   ·first | omega | (simp only; omega) | (dsimp only; omega)
 ·try rw [h1]
  try simp only [qa, qb, qc, qd, qe, List.length_map] at h1
  refine Zo (QN (QB (QI (Qd (kp1 rfl) (Qe fun K hK => Qa rfl (Qa rfl ?_))))))
  refine hK _ _ (Qb (kp1 rfl) ?_)
  refine Qu ?_
  exact QcA rfl rfl rfl (by simp) (by rw [QdH, show w.length = j by omega] <;> rfl)
end Go.Proofs
namespace M25
open Go Go.Abs M3
/-! ### Bits of numbers -/
theorem Qh4 (e : Int) : IntKind.i64.wrap e = (BitVec.ofInt 64 e).toInt := by
 have hb : (BitVec.ofInt 64 e).toInt = if e % 18446744073709551616 < 9223372036854775808 then e % 18446744073709551616 else e % 18446744073709551616 - 18446744073709551616 := by
  rw [BitVec.toInt_ofInt]; rfl
 rw [hb]
 unfold IntKind.wrap
 simp only [IntKind.bits, IntKind.signed, Bool.true_and]
 split
 ·rename_i h
  have := of_decide_eq_true h
  split <;> omega
 ·rename_i h
  have : ¬ (e % 2 ^ 64 >= 2 ^ (64 - 1)) := fun hh => h (decide_eq_true hh)
  split <;> omega
theorem Qf2 (b : BitVec 64) : BitVec.ofInt 64 (b.toNat : Int) = b := by
 rw [BitVec.ofInt_natCast, BitVec.ofNat_toNat, BitVec.setWidth_eq]
theorem QoJ (x y : Int) : BitVec.ofInt 64 (XV x y) = BitVec.ofInt 64 x &&& BitVec.ofInt 64 y := by
 show BitVec.ofInt 64 (IntKind.i64.wrap ((BitVec.ofInt 64 x &&& BitVec.ofInt 64 y).toNat : Int)) = _
 rw [Qh4, BitVec.ofInt_toInt, Qf2]
theorem QoK (x y : Int) : BitVec.ofInt 64 (Qgh x y) = BitVec.ofInt 64 x &&& ~~~ BitVec.ofInt 64 y := by
 show BitVec.ofInt 64 (IntKind.i64.wrap ((BitVec.ofInt 64 x &&& ~~~ BitVec.ofInt 64 y).toNat : Int)) = _
 rw [Qh4, BitVec.ofInt_toInt, Qf2]
theorem Qhz {x : Int} (h : I64 x) : IntKind.i64.wrap x = x := Qs h.1 h.2
theorem Qkk {x : Int} (h : I64 x) : (BitVec.ofInt 64 x).toInt = x := by rw [<- Qh4, Qhz h]
theorem Qhy (x y : Int) : I64 (XV x y) := Qgf _
theorem QfH (x y : Int) : I64 (Qgh x y) := Qgf _
def tb (x : Int) (i : Nat) : Bool := (BitVec.ofInt 64 x).getLsbD i
theorem Qk2 (x y : Int) (i : Nat) : tb (XV x y) i = (tb x i && tb y i) := by rw [tb, QoJ, BitVec.getLsbD_and]; rfl
theorem Qge (x y : Int) {i : Nat} : tb (Qgh x y) i = (tb x i && !tb y i) := by
 rw [tb, QoK, BitVec.getLsbD_and, BitVec.getLsbD_not]
 by_cases h : i < 64
 ·simp [h, tb]
 ·simp [tb, BitVec.getLsbD_of_ge _ i (by omega : 64 <= i)]
theorem Qnk (x : Int) {i : Nat} (h : 64 <= i) : tb x i = false := BitVec.getLsbD_of_ge _ i h
theorem Qjf {x y : Int} (hx : I64 x) (hy : I64 y) (h : ∀ i, tb x i = tb y i) : x = y := by
 rw [<- Qkk hx, <- Qkk hy]
 congr 1
 exact BitVec.eq_of_getLsbD_eq fun i _ => h i
theorem Qj4 (i : Nat) : tb 0 i = false := by
 show (BitVec.ofInt 64 0).getLsbD i = false
 rw [show BitVec.ofInt 64 0 = 0#64 from rfl, BitVec.getLsbD_zero]
theorem Qfv {x : Int} (hx : I64 x) : x = 0 ↔ ∀ i, tb x i = false := by
 constructor
 ·rintro rfl i; exact Qj4 i
 ·intro h; exact Qjf hx ⟨by omega, by omega⟩ fun i => by rw [h i, Qj4]
theorem Qjg (n : Nat) {i : Nat} (h : i < 64) : tb (n : Int) i = n.testBit i := by
 rw [tb, BitVec.ofInt_natCast, BitVec.getLsbD_ofNat]; simp [h]
theorem Qg5 {k : Nat} (hk : k < 64) (i : Nat) : tb ((2 : Int) ^ k) i = decide (i = k) := by
 have e : ((2 ^ k : Nat) : Int) = (2 : Int) ^ k := by simp
 by_cases h : i < 64
 ·rw [<- e, Qjg _ h, Nat.testBit_two_pow]
  exact decide_eq_decide.2 eq_comm
 ·rw [Qnk _ (by omega)]; exact (decide_eq_false (by omega)).symm
theorem QaU (x m : Int) : IntKind.i64.wrap (x - XV x m) = Qgh x m := by
 have h : BitVec.ofInt 64 (x - XV x m) = BitVec.ofInt 64 x &&& ~~~ BitVec.ofInt 64 m := by
  rw [Int.sub_eq_add_neg, BitVec.ofInt_add, BitVec.ofInt_neg, <- BitVec.sub_eq_add_neg, QoJ]
  generalize BitVec.ofInt 64 x = a
  generalize BitVec.ofInt 64 m = b
  have h1 : (a &&& ~~~b) + (a &&& b) = a := by
   rw [BitVec.add_eq_or_of_and_eq_zero]
   ·ext i hi; simp; cases a[i] <;> cases b[i] <;> rfl
   ·ext i hi; simp
    cases a[i] <;> cases b[i] <;> simp
  exact (BitVec.sub_eq_iff_eq_add).2 h1.symm
 have e : Qgh x m = (BitVec.ofInt 64 (Qgh x m)).toInt := (Qkk (QfH x m)).symm
 rw [e, Qh4, h, QoK]
theorem Qcn {x m : Int} : XV x m = 0 ↔ ∀ i, tb x i = true -> tb m i = false := by
 rw [Qfv (Qhy x m)]
 refine forall_congr' fun i => ?_
 rw [Qk2]; cases tb x i <;> cases tb m i <;> simp
theorem not_zero {x m : Int} : Qgh x m = 0 ↔ ∀ i, tb x i = true -> tb m i = true := by
 rw [Qfv (QfH x m)]
 refine forall_congr' fun i => ?_
 rw [Qge]; cases tb x i <;> cases tb m i <;> simp
theorem Xe {x m : Int} (hx : I64 x) : XV x m = x ↔ ∀ i, tb x i = true -> tb m i = true := by
 constructor
 ·intro h i hi
  have := congrArg (fun z => tb z i) h
  simp only [Qk2, hi, Bool.true_and] at this
  exact this
 ·intro h
  refine Qjf (Qhy x m) hx fun i => ?_
  rw [Qk2]
  cases hx2 : tb x i
  ·rfl
  ·rw [h i hx2]; rfl
theorem QeI {x m : Int} (hx : I64 x) : Qgh x m = x ↔ ∀ i, tb x i = true -> tb m i = false := by
 constructor
 ·intro h i hi
  have := congrArg (fun z => tb z i) h
  simp only [Qge, hi, Bool.true_and] at this
  simpa using this
 ·intro h
  refine Qjf (QfH x m) hx fun i => ?_
  rw [Qge]
  cases hx2 : tb x i
  ·rfl
  ·rw [h i hx2]; rfl
def Lo (x : Int) : Prop := 0 <= x /\ x < 131072
theorem Lo.i64 {x : Int} (h : Lo x) : I64 x := ⟨by have := h.1; omega, by have := h.2; omega⟩
theorem Lo.hi {x : Int} (h : Lo x) {i : Nat} (hi : 17 <= i) : tb x i = false := by
 obtain ⟨n, rfl⟩ := Int.eq_ofNat_of_zero_le h.1
 by_cases h6 : i < 64
 ·rw [Qjg _ h6, Nat.testBit_lt_two_pow]
  have h1 : (2 : Nat) ^ 17 <= 2 ^ i := Nat.pow_le_pow_right (by omega) hi
  have h2 : (2 : Nat) ^ 17 = 131072 := by decide
  have := h.2
  omega
 ·exact Qnk _ (by omega)
theorem Lo.of {x : Int} (hx : I64 x) (h : ∀ i, 17 <= i -> tb x i = false) : Lo x := by
 have hb : (BitVec.ofInt 64 x).toNat < 2 ^ 17 := by
  refine Nat.lt_pow_two_of_testBit _ fun i hi => ?_
  exact h i hi
 have h2 : (2 : Nat) ^ 17 = 131072 := by decide
 have e := Qkk hx
 rw [BitVec.toInt_eq_toNat_of_lt (by omega)] at e
 exact ⟨by omega, by omega⟩
theorem QqA {x : Int} (h : Lo x) (m : Int) : Lo (Qgh x m) := Lo.of (QfH x m) fun i hi => by rw [Qge, h.hi hi]; rfl
theorem Qmz {k : Nat} (h : k <= 16) : Lo ((2 : Int) ^ k) := by
 have := Qoh (n := k) (by omega)
 refine ⟨by omega, ?_⟩
 have h1 : (2 : Nat) ^ k <= 2 ^ 16 := Nat.pow_le_pow_right (by omega) h
 have h2 : (2 : Nat) ^ 16 = 65536 := by decide
 have h3 : ((2 ^ k : Nat) : Int) = (2 : Int) ^ k := by simp
 omega
theorem QpA (w : Qp) (u : Int) : Lo (YH w u) := ⟨(QhI w u).1, by have := (QhI w u).2; omega⟩
theorem Qow {x : Int} (hx : I64 x) (m : Int) : Qde x m = QaF x m := by
 unfold QaF Qde
 have : (Qar .andNot .i64 x m = 0) ↔ (Qar .and .i64 x m = x) := (not_zero (x := x) (m := m)).trans (Xe hx).symm
 by_cases h : Qar .andNot .i64 x m = 0
 ·rw [if_pos h, if_pos (this.1 h)]
 ·rw [if_neg h, if_neg (fun e => h (this.2 e))]
theorem Qhe {x : Int} {k : Nat} (hk : k < 64) : XV x (2 ^ k) = 0 ↔ tb x k = false := by
 rw [Qcn]
 constructor
 ·intro h
  cases hx : tb x k
  ·rfl
  ·have := h k hx; rw [Qg5 hk] at this; simp at this
 ·intro h i hi
  rw [Qg5 hk]
  by_cases e : i = k
  ·subst e; rw [h] at hi; cases hi
  ·exact decide_eq_false e
end M25
namespace M25
open Go Go.Abs M3
/-! ### Trails: the loops' laws -/
theorem Qb9 (w : Qp) (l : List QL) (s : QL) (u : Int) : Q9 w (l ++ [s]) u = if s.u = u /\ inW w u = true then s.m else Q9 w l u := by
 rw [Q9, List.foldl_append]; rfl
theorem Qcm {α : Type} {l : List α} {i k : Nat} (hk : k + 1 = i) (h : k < l.length) : l.take i = l.take k ++ [l[k]] := by
 subst hk; rw [List.take_succ_eq_append_getElem h]
theorem Qn0 {w : Qp} {l : List QL} {u : Int} {i k : Nat} (hk : k + 1 = i) (h : k < l.length) (hu : l[k].u = u) (hw : inW w u = true) : Q9 w (l.take i) u = l[k].m := by
 rw [Qcm hk h, Qb9, if_pos ⟨hu, hw⟩]
theorem QfM {w : Qp} {l : List QL} {u : Int} {i k : Nat} (hk : k + 1 = i) (h : k < l.length) (hu : ¬ l[k].u = u \/ ¬ 0 <= u \/ ¬ u < w.length) : Q9 w (l.take i) u = Q9 w (l.take (i - 1)) u := by
 rw [Qcm hk h, Qb9, if_neg, show i - 1 = k by omega]
 rintro ⟨h1, h2⟩
 rw [Qdb] at h2
 rcases hu with hu | hu | hu
 ·exact hu h1
 ·exact hu h2.1
 ·exact hu h2.2
theorem QhF {w : Qp} {l : List QL} {u : Int} (h : inW w u = false) : Q9 w l u = 0 := by
 have hf : YH w u = 0 := QdJ (by
  refine Classical.byContradiction fun hn => ?_
  rw [QeF (by omega) (by omega)] at h; cases h)
 suffices hs : ∀ a, l.foldl (fun a s => if s.u = u /\ inW w u = true then s.m else a) a = a by rw [Q9, hs, hf]
 induction l with
 | nil => intro a; rfl
 | cons s l ih => intro a; rw [List.foldl_cons, if_neg (by rw [h]; simp), ih]
def QaE (w : Qp) (l : List QL) (u : Int) : Int := l.foldl (fun a s => if s.u = u then s.m else a) (YH w u)
theorem QhE {w : Qp} {l : List QL} {u : Int} (h : inW w u = true) : QaE w l u = Q9 w l u := by
 unfold QaE Q9
 simp only [h, and_true]
theorem QgJ (w : Qp) (l : List QL) (s : QL) (u : Int) : QaE w (l ++ [s]) u = if s.u = u then s.m else QaE w l u := by
 rw [QaE, List.foldl_append]; rfl
theorem Qmx {w : Qp} {l : List QL} {u : Int} {i k : Nat} (hk : k + 1 = i) (h : k < l.length) (hu : l[k].u = u) : QaE w (l.take i) u = l[k].m := by
 rw [Qcm hk h, QgJ, if_pos hu]
theorem Qls {w : Qp} {l : List QL} {u : Int} {i k : Nat} (hk : k + 1 = i) (h : k < l.length) (hu : ¬ l[k].u = u) : QaE w (l.take i) u = QaE w (l.take (i - 1)) u := by
 rw [Qcm hk h, QgJ, if_neg hu, show i - 1 = k by omega]
theorem XS {w : Qp} {u : Int} : YH w u = 0 ↔ inW w u = false := by
 constructor
 ·intro h
  cases hw : inW w u
  ·rfl
  ·rw [Qdb] at hw
   rw [QhJ hw.1 hw.2] at h
   have h2 : 2 <= (2 : Int) ^ (min (w[u.toNat]'(by omega)).cs.length 16 + 1) := by
    rw [Int.pow_succ]
    have := Qoh (n := min (w[u.toNat]'(by omega)).cs.length 16) (by omega)
    omega
   omega
 ·intro h
  refine QdJ (Classical.byContradiction fun hn => ?_)
  rw [QeF (by omega) (by omega)] at h; cases h
theorem QiE {l : List QL} (h : (l.length : Int) = 0) : Ym l = 0 := by
 have e : l = [] := List.eq_nil_of_length_eq_zero (by omega)
 subst e; rfl
theorem QkC {l : List QL} {k : Nat} (hk : k + 1 = l.length) : Ym l = (l[k]'(by omega)).l := by
 rw [Ym, List.getLast?_eq_getElem?, show l.length - 1 = k by omega, List.getElem?_eq_getElem (by omega)]
theorem Qob : ∀ {l : List Int}, ¬ (l.length : Int) = 1 -> Qly l = -1
 | [], _ => rfl
 | [x], h => by simp at h
 | x :: y :: l, _ => rfl
theorem QmQ : ∀ {l : List Int} (h : (l.length : Int) = 1), Qly l = l[(0 : Int).toNat]'(by simp; omega)
 | [], h => by simp at h
 | [x], _ => rfl
 | x :: y :: l, h => by simp at h; omega
theorem Qog {m : Int} (h : ¬ ((QbN m).length : Int) = 1) : XX m = -1 := Qob h
theorem QmV {m : Int} (h : ((QbN m).length : Int) = 1) : XX m = (QbN m)[(0 : Int).toNat]'(by simp; omega) := QmQ h
theorem QlF {α : Type} {f : α -> List D} {l : List α} {i : Nat} : ((l.map f).take ((i : Nat) : Int).toNat).drop (((0 : Nat) : Int)).toNat = (l.take i).map f := by simp [List.map_take]
def QpF (w : Qp) (l : List QL) (i : Nat) : Bool := match l[i]? with
 | some s => Qbu w (l.take i) s
 | none => true
theorem QdQ {w : Qp} {l : List QL} {i : Nat} (h : i < l.length) : QpF w l i = Qbu w (l.take i) l[i] := by
 rw [QpF, List.getElem?_eq_getElem h]
theorem QkI (w : Qp) (l : List QL) : Xq w l = (List.range l.length).all (QpF w l) := rfl
theorem Y8 {w : Qp} {l : List QL} {s : QL} (h : s.u < 0 \/ (w.length : Int) <= s.u \/ s.c < -1) : Qbu w l s = false := by
 unfold Qbu
 rcases h with h | h | h
 ·rw [Qdc (.inl h)]; rfl
 ·rw [Qdc (.inr h)]; rfl
 ·rw [decide_eq_false (show ¬ -1 <= s.c by omega)]; simp
theorem ZZ {w : Qp} {l : List QL} {s : QL} (h0 : 0 <= s.u) (h1 : s.u < w.length) (h2 : -1 <= s.c) : Qbu w l s = (decide (XV s.m (Q9 w l s.u) = s.m) &&
  if s.c = -1 then decide (0 <= XX s.m) && !Xp l s.u && decide (s.l = IntKind.i64.wrap (Ym l + 1))
  else !decide (s.m = 0) && !decide (s.m = Q9 w l s.u) && decide (s.l = Ym l)) := by
 rw [Qbu, QeF h0 h1, decide_eq_true h2]; rfl
theorem Qcq {w : Qp} {l : List QL} {t : TermT} {c : Int} (h : c < 0 \/ t.u < 0 \/ (w.length : Int) <= t.u) : ZJ w l t c = none := by
 rw [ZJ, if_pos]
 rcases h with h | h
 ·exact .inl h
 ·exact .inr (Qdc h)
theorem Qbi {w : Qp} {l : List QL} {t : TermT} {c : Int} (h : IntKind.i64.wrap (Q9 w l t.u - XV (Q9 w l t.u) t.m) = 0 \/ IntKind.i64.wrap (Q9 w l t.u - XV (Q9 w l t.u) t.m) = Q9 w l t.u) : ZJ w l t c = none := by
 rw [ZJ]
 split
 ·rfl
 ·first | rfl | rw [if_pos h]
theorem Qgy {w : Qp} {l : List QL} {t : TermT} {c : Int} (h0 : ¬ c < 0) (h1 : inW w t.u = true) (h2 : ¬ IntKind.i64.wrap (Q9 w l t.u - XV (Q9 w l t.u) t.m) = 0) (h3 : ¬ IntKind.i64.wrap (Q9 w l t.u - XV (Q9 w l t.u) t.m) = Q9 w l t.u) :
  ZJ w l t c = some (l ++ [⟨t.u, IntKind.i64.wrap (Q9 w l t.u - XV (Q9 w l t.u) t.m), Ym l, c⟩]) := by
 rw [ZJ, if_neg (by rw [h1]; simp [h0]), if_neg (by simp [h2, h3])]
theorem Qgx (w : Qp) (l : List QL) (t : TermT) (c : Int) : ((ZJ w l t c).getD []).length <= l.length + 1 := by
 unfold ZJ
 split
 ·simp
 ·split <;> simp
def QbI (w : Qp) (l : List QL) : Prop := ∀ s ∈ l, Lo s.m
theorem Qbq {w : Qp} {l : List QL} (h : QbI w l) (u : Int) : Lo (Q9 w l u) := by
 suffices hs : ∀ (l : List QL) a, (∀ s ∈ l, Lo s.m) -> Lo a -> Lo (l.foldl (fun a s => if s.u = u /\ inW w u = true then s.m else a) a) from hs l _ h (QpA w u)
 intro l
 induction l with
 | nil => intro a _ h; exact h
 | cons s l ih =>
  intro a hl ha
  rw [List.foldl_cons]
  refine ih _ (fun t ht => hl t (by simp [ht])) ?_
  split
  ·exact hl s (by simp)
  ·exact ha
theorem Ql4 {w : Qp} {l : List QL} {t : TermT} {c : Int} (hl : QbI w l) (h : XV (Q9 w l t.u) t.m = 0) : ZJ w l t c = none :=
 Qbi (.inr (by rw [QaU, QeI (Qbq hl _).i64, <- Qcn]; exact h))
theorem Ql5 {w : Qp} {l : List QL} {t : TermT} {c : Int} (h : Qgh (Q9 w l t.u) t.m = 0) : ZJ w l t c = none :=
 Qbi (.inl (by rw [QaU]; exact h))
theorem Ql6 {w : Qp} {l : List QL} {t : TermT} {c : Int} (hl : QbI w l) (h0 : ¬ c < 0) (h1 : ¬ XV (Q9 w l t.u) t.m = 0) (h2 : ¬ Qgh (Q9 w l t.u) t.m = 0) : ZJ w l t c = some (l ++ [⟨t.u, Qgh (Q9 w l t.u) t.m, Ym l, c⟩]) := by
 have hin : inW w t.u = true := by
  cases hw : inW w t.u
  ·rw [QhF hw] at h1
   exact absurd (Qcn.2 fun i hi => by rw [Qj4] at hi; cases hi) h1
  ·rfl
 rw [Qgy h0 hin (by rw [QaU]; exact h2) (by rw [QaU, QeI (Qbq hl _).i64, <- Qcn]; exact h1), QaU]
theorem Qeg {w : Qp} {l : List QL} {u p : Int} (h : (u < 0 \/ (w.length : Int) <= u) \/ p < 0) : YG w l u p = none := by
 unfold YG
 split
 ·rfl
 ·rename_i x hx
  rcases h with h | h
  ·rw [Qj6 h] at hx; cases hx
  ·rw [if_pos (.inl h)]
theorem Qle {w : Qp} {l : List QL} {u p : Int} (h0 : 0 <= u) (h1 : u < w.length) (h : ((w[u.toNat]'(by omega)).cs.length : Int) <= p) : YG w l u p = none := by
 rw [YG, Qk3 h0 h1]
 simp only []
 rw [if_pos (.inr h)]
def Qps (l : List QL) (u p : Int) : QL := ⟨u, IntKind.i64.wrap (2 * 2 ^ min p.toNat 64), IntKind.i64.wrap (Ym l + 1), -1⟩
theorem Ql3 {w : Qp} {l : List QL} {u p : Int} (h : Qbu w l (Qps l u p) = false) : YG w l u p = none := by
 unfold YG
 split
 ·rfl
 ·split
  ·rfl
  ·simp only [Qps] at h
   rw [if_neg (by rw [h]; simp)]
theorem Qlh {w : Qp} {l : List QL} {u p : Int} (h0 : 0 <= u) (h1 : u < w.length) (h2 : ¬ p < 0) (h3 : ¬ ((w[u.toNat]'(by omega)).cs.length : Int) <= p) (h : Qbu w l (Qps l u p) = true) : YG w l u p = some (l ++ [Qps l u p]) := by
 rw [YG, Qk3 h0 h1]
 simp only []
 rw [if_neg (by omega)]
 simp only [Qps] at h ⊢
 rw [if_pos h]
theorem Qbw {h : Int -> Int} {inc : List TermT} {a : Int} {i : Nat} (hi : i < inc.length) : Xr h (inc.drop i) a = if QaF (h inc[i].u) inc[i].m = 0 then -1 else if QaF (h inc[i].u) inc[i].m = 1 then (if 0 <= a then -1 else Xr h (inc.drop (i + 1)) inc[i].u) else Xr h (inc.drop (i + 1)) a := by
 rw [List.drop_eq_getElem_cons hi, Xr]
theorem QiS {h : Int -> Int} {inc : List TermT} {a : Int} {i : Nat} (hi : inc.length <= i) : Xr h (inc.drop i) a = a := by
 rw [List.drop_eq_nil_of_le hi, Xr]
theorem QjX {w : Qp} {l : List QL} {db : List (List TermT)} {i : Nat} (hi : i < db.length) : Y7 w l i (db.drop i) = if Qdd w l db[i] = true then ((i : Int), -1) else if 0 <= QfW w l db[i] then ((i : Int), QfW w l db[i]) else Y7 w l (i + 1) (db.drop (i + 1)) := by
 rw [List.drop_eq_getElem_cons hi, Y7]
theorem Qoo {w : Qp} {l : List QL} {db : List (List TermT)} {i : Nat} (hi : db.length <= i) : Y7 w l i (db.drop i) = (-1, -1) := by
 rw [List.drop_eq_nil_of_le hi, Y7]
theorem Qk0 (w : Qp) (l : List QL) : ∀ (db : List (List TermT)) (i : Nat), (Y7 w l i db = (-1, -1)) \/ ∃ k, i <= k /\ ∃ hk : k - i < db.length, (Y7 w l i db = ((k : Int), -1) /\ Qdd w l db[k - i] = true) \/ (Qdd w l db[k - i] = false /\ 0 <= QfW w l db[k - i] /\ Y7 w l i db = ((k : Int), QfW w l db[k - i]))
 | [], i => .inl rfl
 | x :: db, i => by
  rw [Y7]
  by_cases h1 : Qdd w l x = true
  ·rw [if_pos h1]; exact .inr ⟨i, Nat.le_refl _, by simp, .inl ⟨rfl, by simpa using h1⟩⟩
  ·rw [if_neg h1]
   by_cases h2 : 0 <= QfW w l x
   ·rw [if_pos h2]; exact .inr ⟨i, Nat.le_refl _, by simp, .inr ⟨by simpa using h1, by simpa using h2, by simp⟩⟩
   ·rw [if_neg h2]
    rcases Qk0 w l db (i + 1) with h | ⟨k, hk, hlt, h⟩
    ·exact .inl h
    ·refine .inr ⟨k, by omega, by simp only [List.length_cons]; omega, ?_⟩
     have e : (x :: db)[k - i]'(by simp only [List.length_cons]; omega) = db[k - (i + 1)] := by
      obtain ⟨j, hj⟩ : ∃ j, k - i = j + 1 := ⟨k - i - 1, by omega⟩
      simp only [hj, List.getElem_cons_succ]
      congr 1; omega
     rw [e]; exact h
theorem Qi3 {w : Qp} {l : List QL} {db : List (List TermT)} (h : ¬ (Yn w db l).2 < 0) : 0 <= (Yn w db l).1 /\ (Yn w db l).1 < db.length := by
 unfold Yn at h ⊢
 rcases Qk0 w l db 0 with e | ⟨k, _, hk, ⟨e, _⟩ | ⟨_, _, e⟩⟩
 ·rw [e] at h; simp at h
 ·rw [e] at h; simp at h
 ·rw [e]; simp only; omega
theorem QlC {w : Qp} {db : List (List TermT)} {n : Nat} {out : List QL} (h : (Yn w db out).2 < 0) (hn : 0 < n) : QeQ w db n out = (out, (Yn w db out).1) := by
 obtain ⟨m, rfl⟩ : ∃ m, n = m + 1 := ⟨n - 1, by omega⟩
 rw [QeQ, if_pos h]
theorem Qom {w : Qp} {db : List (List TermT)} {n : Nat} {out : List QL} (h : ¬ (Yn w db out).2 < 0) (hn : 0 < n) (hd : (Yn w db out).1.toNat < db.length) : QeQ w db n out = QeQ w db (n - 1) ((ZJ w out ⟨(Yn w db out).2, QdL w db[(Yn w db out).1.toNat] (Yn w db out).2⟩ (Yn w db out).1).getD []) := by
 obtain ⟨m, rfl⟩ : ∃ m, n = m + 1 := ⟨n - 1, by omega⟩
 rw [QeQ, if_neg h, List.getD_eq_getElem?_getD, List.getElem?_eq_getElem hd]; rfl
end M25
