/- Part 4 of the means of the proof: a verified abstract evaluator, the prepared functions, and contracts of functions. It states nothing of the claim by itself. -/
import Derived.Test.YtmlclkgmdndcdaaGreatB3
set_option linter.unusedSimpArgs false
set_option linter.unusedVariables false
namespace Go.Proofs
open Go Go.Abs M3
set_option linter.unusedVariables false
set_option linter.unusedSimpArgs false
theorem XC {a b c : Int} {p q : List UInt8} (hp : p.length <= 1000000) (hq : q.length <= 1000000) {a' b' c' : Int} {p' q' : List UInt8} (hp' : p'.length <= 1000000) (hq' : q'.length <= 1000000) : Ok Tryz.prog 129 [.agg [.int .i64 a, .int .i64 b, .int .i64 c, .str p, .str q], .agg [.int .i64 a', .int .i64 b', .int .i64 c', .str p', .str q']] (.int .i64 (Qm9 a b c p q a' b' c' p' q')) := by
 refine Ok.ofT ZQ Tryz.func129 QsI (Nat.le_of_ble_eq_true rfl) ?_
 show TW _ _ tf129.body _ _
 refine Qe fun K hK => Zo rfl rfl rfl (Zo rfl rfl rfl (Qa rfl ?_))
 refine hK _ _ (Qb (kp2 rfl rfl) ?_)
 refine QD ?_ -- 0
 refine Qe fun K hK => QG (cs := [_, _, _, _, _]) rfl rfl rfl rfl (QF (Zi (by omega) (by omega)) rfl rfl (.inr rfl) (Ye rfl (Qa rfl ?_)))
 refine QB (g := 11) rfl (fun h1 => ?_) (fun h1 => ?_)
 ·try rw [h1]
  try simp only [qa, qb, qc, qd, qe] at h1
  refine Qq rfl (Qq rfl (Qq rfl (Ql rfl rfl ?_)))
  refine hK _ _ (Qb (kp3 rfl rfl rfl) ?_)
  refine Zl rfl (Qe fun K hK => Qa rfl ?_)
  refine hK _ _ (Qb (kp1 rfl) ?_)
  refine Qu (Qj (Qy rfl ?_))
  simp [Qm9, h1]
 ·try rw [h1]
  try simp only [qa, qb, qc, qd, qe] at h1
  refine Qg rfl (QG (cs := [_, _, _, _, _]) rfl rfl rfl rfl (Qg rfl (QF (Zi (by omega) (by omega)) rfl rfl (.inr rfl) (Qg rfl (Ye rfl (Ql rfl rfl ?_))))))
  refine hK _ _ (Qb (kp3 rfl rfl rfl) ?_)
  refine Qw rfl (fun h2 => ?_) (fun h2 => ?_)
  ·try rw [h2]
   try simp only [qa, qb, qc, qd, qe] at h2
   refine Qe fun K hK => Qa rfl ?_
   refine hK _ _ (Qb (kp1 rfl) ?_)
   refine Qu (Qj (Qy rfl ?_))
   simp [Qm9, h1, h2]
  ·try rw [h2]
   try simp only [qa, qb, qc, qd, qe] at h2
   refine Qv (Qd (kp2 rfl rfl) ?_)
   refine QD ?_ -- 1
   refine Qe fun K hK => Qi rfl rfl (QC rfl rfl rfl (Qi rfl rfl (QC rfl rfl rfl (QF (ZB) rfl rfl (.inr rfl) (Qa rfl ?_)))))
   refine hK _ _ (Qb (kp3 rfl rfl rfl) ?_)
   refine Qe fun K hK => Qa rfl (XJ rfl rfl ?_)
   refine hK _ _ (Qb (kp4 rfl rfl rfl rfl) ?_)
   refine Qw rfl (fun h3 => ?_) (fun h3 => ?_)
   ·try rw [h3]
    try simp only [qa, qb, qc, qd, qe] at h3
    refine Qe fun K hK => Qa rfl (Qa rfl ?_)
    refine hK _ _ (Qb (kp1 rfl) ?_)
    refine Qu (Qj (Qy rfl ?_))
    simp [Qm9, h1, h2, h3]
   ·try rw [h3]
    try simp only [qa, qb, qc, qd, qe] at h3
    refine Qv (Qd (kp2 rfl rfl) ?_)
    refine QD ?_ -- 2
    refine Qe fun K hK => Qi rfl rfl (QC rfl rfl rfl (Qi rfl rfl (QC rfl rfl rfl (QF (ZB) rfl rfl (.inr rfl) (Qa rfl ?_)))))
    refine hK _ _ (Qb (kp3 rfl rfl rfl) ?_)
    refine Qe fun K hK => Qa rfl (XJ rfl rfl ?_)
    refine hK _ _ (Qb (kp4 rfl rfl rfl rfl) ?_)
    refine Qw rfl (fun h4 => ?_) (fun h4 => ?_)
    ·try rw [h4]
     try simp only [qa, qb, qc, qd, qe] at h4
     refine Qe fun K hK => Qa rfl (Qa rfl ?_)
     refine hK _ _ (Qb (kp1 rfl) ?_)
     refine Qu (Qj (Qy rfl ?_))
     simp [Qm9, h1, h2, h3, h4]
    ·try rw [h4]
     try simp only [qa, qb, qc, qd, qe] at h4
     refine Qv (Qd (kp2 rfl rfl) ?_)
     refine QD ?_ -- 3
     refine Qe fun K hK => Qi rfl rfl (QC rfl rfl rfl (Qi rfl rfl (QC rfl rfl rfl (QF (ZB) rfl rfl (.inr rfl) (Qa rfl ?_)))))
     refine hK _ _ (Qb (kp3 rfl rfl rfl) ?_)
     refine Qe fun K hK => Qa rfl (XJ rfl rfl ?_)
     refine hK _ _ (Qb (kp4 rfl rfl rfl rfl) ?_)
     refine Qw rfl (fun h5 => ?_) (fun h5 => ?_)
     ·try rw [h5]
      try simp only [qa, qb, qc, qd, qe] at h5
      refine Qe fun K hK => Qa rfl (Qa rfl ?_)
      refine hK _ _ (Qb (kp1 rfl) ?_)
      refine Qu (Qj (Qy rfl ?_))
      simp [Qm9, h1, h2, h3, h4, h5]
     ·try rw [h5]
      try simp only [qa, qb, qc, qd, qe] at h5
      refine Qv (Qd (kp2 rfl rfl) (Qe fun K hK => Qi rfl rfl (QC rfl rfl rfl (Qi rfl rfl (QC rfl rfl rfl (QF (Qdo (by omega) (by omega)) rfl rfl (.inr rfl) (Qa rfl ?_)))))))
      refine hK _ _ (Qb (kp1 rfl) ?_)
      refine Qu (Qy rfl ?_)
      simp [Qm9, h1, h2, h3, h4, h5]
theorem Yi {e a b c : Int} {p q : List UInt8} {f : Bool} (hp : p.length <= 1000000) (hq : q.length <= 1000000) : Ok Tryz.prog 127 [.agg [.int .i64 e, .int .i64 a, .int .i64 b, .int .i64 c, .str p, .str q, .bool f]] (.bool (QeG e a b c p q f)) := by
 refine Ok.ofT ZQ Tryz.func127 QsG (Nat.le_of_ble_eq_true rfl) ?_
 show TW _ _ tf127.body _ _
 refine Qe fun K hK => Zo rfl rfl rfl (Qa rfl ?_)
 refine hK _ _ (Qb (kp1 rfl) ?_)
 refine QD ?_ -- 0
 refine Qe fun K hK => Qi rfl rfl (QC rfl rfl rfl (ZI rfl rfl ?_))
 refine hK _ _ (Qb (kp2 rfl rfl) ?_)
 refine Qw rfl (fun h1 => ?_) (fun h1 => ?_)
 ·try rw [h1]
  try simp only [qa, qb, qc, qd, qe] at h1
  refine Qe fun K hK => Qi rfl rfl (QG (cs := [_, _, _, _, _]) rfl rfl rfl rfl (QF (Zi (by omega) (by omega)) rfl rfl (.inr rfl) (Qa rfl ?_)))
  refine QB (g := 9) rfl (fun h2 => ?_) (fun h2 => ?_)
  ·try rw [h2]
   try simp only [qa, qb, qc, qd, qe] at h2
   refine Qg rfl (Qi rfl rfl (Qg rfl (Qi rfl rfl (Qg rfl (QC rfl rfl rfl (Qg rfl (Qfy rfl rfl (Ql rfl rfl (Qa rfl ?_)))))))))
   refine hK _ _ (Qb (kp1 rfl) ?_)
   refine Qu (Qj (Qs rfl ?_))
   simp_all [QeG]
  ·try rw [h2]
   try simp only [qa, qb, qc, qd, qe] at h2
   refine Qq rfl (Qq rfl (Qq rfl (Qq rfl (Ql rfl rfl (Qa rfl ?_)))))
   refine hK _ _ (Qb (kp1 rfl) ?_)
   refine Qu (Qj (Qs rfl ?_))
   simp_all [QeG]
 ·try rw [h1]
  try simp only [qa, qb, qc, qd, qe] at h1
  refine Qv (Qd (kp1 rfl) (Qe fun K hK => Qi rfl rfl (QC rfl rfl rfl (ZI rfl rfl (Qa rfl ?_)))))
  refine QB (g := 18) rfl (fun h3 => ?_) (fun h3 => ?_)
  ·try rw [h3]
   try simp only [qa, qb, qc, qd, qe] at h3
   refine Qq rfl (Qq rfl (Qq rfl (Ql rfl rfl (Qa rfl (Qg rfl (Qi rfl rfl (Qg rfl (QG (cs := [_, _, _, _, _]) rfl rfl rfl rfl (Qg rfl (QU rfl rfl (Qg rfl ?_)))))))))))
   refine QkE rfl rfl rfl (Ql rfl rfl (Qa rfl ?_))
   refine QB (g := 29) rfl (fun h4 => ?_) (fun h4 => ?_)
   ·try rw [h4]
    try simp only [qa, qb, qc, qd, qe] at h4
    refine Qg rfl (Qi rfl rfl (Qg rfl (QC rfl rfl rfl (Qg rfl (Ye rfl (Ql rfl rfl (Qa rfl ?_)))))))
    refine hK _ _ (Qb (kp1 rfl) ?_)
    refine Qu (Qs rfl ?_)
    simp_all [QeG]
   ·try rw [h4]
    try simp only [qa, qb, qc, qd, qe] at h4
    refine Qq rfl (Qq rfl (Qq rfl (Ql rfl rfl (Qa rfl ?_))))
    refine hK _ _ (Qb (kp1 rfl) ?_)
    refine Qu (Qs rfl ?_)
    simp_all [QeG]
  ·try rw [h3]
   try simp only [qa, qb, qc, qd, qe] at h3
   refine Qg rfl (Qi rfl rfl (Qg rfl (QC rfl rfl rfl (Qg rfl (ZI rfl rfl (Ql rfl rfl (Qa rfl ?_)))))))
   refine QB (g := 23) rfl (fun h5 => ?_) (fun h5 => ?_)
   ·try rw [h5]
    try simp only [qa, qb, qc, qd, qe] at h5
    refine Qg rfl (Qi rfl rfl (Qg rfl (QG (cs := [_, _, _, _, _]) rfl rfl rfl rfl (Qg rfl (QU rfl rfl (Qg rfl (QkE rfl rfl rfl (Ql rfl rfl (Qa rfl ?_)))))))))
    refine QB (g := 29) rfl (fun h6 => ?_) (fun h6 => ?_)
    ·try rw [h6]
     try simp only [qa, qb, qc, qd, qe] at h6
     refine Qg rfl (Qi rfl rfl (Qg rfl (QC rfl rfl rfl (Qg rfl (Ye rfl (Ql rfl rfl (Qa rfl ?_)))))))
     refine hK _ _ (Qb (kp1 rfl) ?_)
     refine Qu (Qs rfl ?_)
     simp_all [QeG]
    ·try rw [h6]
     try simp only [qa, qb, qc, qd, qe] at h6
     refine Qq rfl (Qq rfl (Qq rfl (Ql rfl rfl (Qa rfl ?_))))
     refine hK _ _ (Qb (kp1 rfl) ?_)
     refine Qu (Qs rfl ?_)
     simp_all [QeG]
   ·try rw [h5]
    try simp only [qa, qb, qc, qd, qe] at h5
    refine Qq rfl (Qq rfl (Qq rfl (Qq rfl (Ql rfl rfl (Qa rfl (Qq rfl (Qq rfl (Qq rfl (Ql rfl rfl (Qa rfl ?_))))))))))
    refine hK _ _ (Qb (kp1 rfl) ?_)
    refine Qu (Qs rfl ?_)
    simp_all [QeG]
theorem Zz {e a b c : Int} {p q : List UInt8} {f : Bool} (hp : p.length <= 1000000) (hq : q.length <= 1000000) {e' a' b' c' : Int} {p' q' : List UInt8} {f' : Bool} (hp' : p'.length <= 1000000) (hq' : q'.length <= 1000000) : Ok Tryz.prog 124 [.agg [.int .i64 e, .int .i64 a, .int .i64 b, .int .i64 c, .str p, .str q, .bool f], .agg [.int .i64 e', .int .i64 a', .int .i64 b', .int .i64 c', .str p', .str q', .bool f']] (.int .i64 (QbF e a b c p q f e' a' b' c' p' q' f')) := by
 refine Ok.ofT ZQ Tryz.func124 QsD (Nat.le_of_ble_eq_true rfl) ?_
 show TW _ _ tf124.body _ _
 refine Qe fun K hK => Zo rfl rfl rfl (Zo rfl rfl rfl (Qa rfl ?_))
 refine hK _ _ (Qb (kp2 rfl rfl) ?_)
 refine QD ?_ -- 0
 refine Qe fun K hK => QG (cs := [_, _, _, _, _, _, _]) rfl rfl rfl rfl (QF (Yi (by omega) (by omega)) rfl rfl (.inr rfl) (Ye rfl (Qa rfl ?_)))
 refine QB (g := 9) rfl (fun h1 => ?_) (fun h1 => ?_)
 ·try rw [h1]
  try simp only [qa, qb, qc, qd, qe] at h1
  refine Qq rfl (Qq rfl (Qq rfl (Ql rfl rfl ?_)))
  refine hK _ _ (Qb (kp3 rfl rfl rfl) ?_)
  refine Zl rfl (Qe fun K hK => Qa rfl ?_)
  refine hK _ _ (Qb (kp1 rfl) ?_)
  refine Qu (Qj (Qy rfl ?_))
  first | (simp [QbF, h1]; done) | (simp_all [QbF]; done)
 ·try rw [h1]
  try simp only [qa, qb, qc, qd, qe] at h1
  refine Qg rfl (QG (cs := [_, _, _, _, _, _, _]) rfl rfl rfl rfl (Qg rfl (QF (Yi (by omega) (by omega)) rfl rfl (.inr rfl) (Qg rfl (Ye rfl (Ql rfl rfl ?_))))))
  refine hK _ _ (Qb (kp3 rfl rfl rfl) ?_)
  refine Qw rfl (fun h2 => ?_) (fun h2 => ?_)
  ·try rw [h2]
   try simp only [qa, qb, qc, qd, qe] at h2
   refine Qe fun K hK => Qa rfl ?_
   refine hK _ _ (Qb (kp1 rfl) ?_)
   refine Qu (Qj (Qy rfl ?_))
   first | (simp [QbF, h1, h2]; done) | (simp_all [QbF]; done)
  ·try rw [h2]
   try simp only [qa, qb, qc, qd, qe] at h2
   refine Qv (Qd (kp2 rfl rfl) ?_)
   refine QD ?_ -- 1
   refine Qe fun K hK => Qi rfl rfl (QC rfl rfl rfl (Qi rfl rfl (QC rfl rfl rfl ?_)))
   first | refine XJ rfl rfl ?_ | refine Qn5 rfl rfl ?_
   refine Qa rfl ?_
   refine QB (g := 19) rfl (fun h3 => ?_) (fun h3 => ?_)
   ·try rw [h3]
    try simp only [qa, qb, qc, qd, qe] at h3
    refine Qq rfl (Qq rfl (Qq rfl (Ql rfl rfl ?_)))
    refine hK _ _ (Qb (kp3 rfl rfl rfl) ?_)
    refine Zl rfl (Qe fun K hK => Qi rfl rfl (QC rfl rfl rfl (Qi rfl rfl (QC rfl rfl rfl (QF (ZB) rfl rfl (.inr rfl) (Qa rfl ?_))))))
    refine hK _ _ (Qb (kp1 rfl) ?_)
    refine Qu (Qj (Qy rfl ?_))
    first | (simp [QbF, h1, h2, h3]; done) | (simp_all [QbF]; done)
   ·try rw [h3]
    try simp only [qa, qb, qc, qd, qe] at h3
    refine Qg rfl (Qi rfl rfl (Qg rfl (QC rfl rfl rfl (Qg rfl (XJ rfl rfl (Ql rfl rfl ?_))))))
    refine hK _ _ (Qb (kp3 rfl rfl rfl) ?_)
    refine Qw rfl (fun h4 => ?_) (fun h4 => ?_)
    ·try rw [h4]
     try simp only [qa, qb, qc, qd, qe] at h4
     refine Qe fun K hK => Qi rfl rfl (QC rfl rfl rfl (Qi rfl rfl (QC rfl rfl rfl (QF (ZB) rfl rfl (.inr rfl) (Qa rfl ?_)))))
     refine hK _ _ (Qb (kp1 rfl) ?_)
     refine Qu (Qj (Qy rfl ?_))
     first | (simp [QbF, h1, h2, h3, h4]; done) | (simp_all [QbF]; done)
    ·try rw [h4]
     try simp only [qa, qb, qc, qd, qe] at h4
     refine Qv (Qd (kp2 rfl rfl) ?_)
     refine QD ?_ -- 2
     refine Qe fun K hK => Qi rfl rfl (QG (cs := [_, _, _, _, _]) rfl rfl rfl rfl (Qi rfl rfl (QG (cs := [_, _, _, _, _]) rfl rfl rfl rfl (QF (XC (by omega) (by omega) (by omega) (by omega)) rfl rfl (.inr rfl) (Qa rfl ?_)))))
     refine hK _ _ (Qb (kp3 rfl rfl rfl) ?_)
     refine Qe fun K hK => Qa rfl (XJ rfl rfl ?_)
     refine hK _ _ (Qb (kp4 rfl rfl rfl rfl) ?_)
     refine Qw rfl (fun h5 => ?_) (fun h5 => ?_)
     ·try rw [h5]
      try simp only [qa, qb, qc, qd, qe] at h5
      refine Qe fun K hK => Qa rfl (Qa rfl ?_)
      refine hK _ _ (Qb (kp1 rfl) ?_)
      refine Qu (Qj (Qy rfl ?_))
      first | (simp [QbF, h1, h2, h3, h4, h5]; done) | (simp_all [QbF]; done)
     ·try rw [h5]
      try simp only [qa, qb, qc, qd, qe] at h5
      refine Qv (Qd (kp2 rfl rfl) ?_)
      refine QD ?_ -- 3
      refine Qz (Qe fun K hK => Qi rfl rfl (QC rfl rfl rfl (Qi rfl rfl (QC rfl rfl rfl (QrT rfl rfl (Qa rfl ?_))))))
      refine hK _ _ (Qb (kp2 rfl rfl) ?_)
      refine Qw rfl (fun h6 => ?_) (fun h6 => ?_)
      ·try rw [h6]
       try simp only [qa, qb, qc, qd, qe] at h6
       refine Qe fun K hK => Qa rfl ?_
       refine hK _ _ (Qb (kp1 rfl) ?_)
       refine Qu (Qt (Qj (Qy rfl ?_)))
       first | (simp [QbF, h1, h2, h3, h4, h5, h6]; done) | (simp_all [QbF]; done)
      ·try rw [h6]
       try simp only [qa, qb, qc, qd, qe] at h6
       refine Qe fun K hK => Qi rfl rfl (QC rfl rfl rfl (Qa rfl ?_))
       refine hK _ _ (Qb (kp1 rfl) ?_)
       refine Qw rfl (fun h7 => ?_) (fun h7 => ?_)
       ·try rw [h7]
        try simp only [qa, qb, qc, qd, qe] at h7
        refine Qe fun K hK => Qa rfl ?_
        refine hK _ _ (Qb (kp1 rfl) ?_)
        refine Qu (Qt (Qj (Qy rfl ?_)))
        first | (simp [QbF, h1, h2, h3, h4, h5, h6, h7]; done) | (simp_all [QbF]; done)
       ·try rw [h7]
        try simp only [qa, qb, qc, qd, qe] at h7
        refine Qv (Qh (Qd (Q0) (Qe fun K hK => Qa rfl ?_)))
        refine hK _ _ (Qb (kp1 rfl) ?_)
        refine Qu (Qy rfl ?_)
        first | (simp [QbF, h1, h2, h3, h4, h5, h6, h7]; done) | (simp_all [QbF]; done)
theorem X7 {e a b c : Int} {p q : List UInt8} {f : Bool} (hp : p.length <= 1000000) (hq : q.length <= 1000000) {a' b' c' : Int} {p' q' : List UInt8} (hp' : p'.length <= 1000000) (hq' : q'.length <= 1000000) : Ok Tryz.prog 130 [.agg [.int .i64 e, .int .i64 a, .int .i64 b, .int .i64 c, .str p, .str q, .bool f], .agg [.int .i64 a', .int .i64 b', .int .i64 c', .str p', .str q']] (.bool (Qaz e a b c p q f a' b' c' p' q')) := by
 refine Ok.ofT ZQ Tryz.func130 QsJ (Nat.le_of_ble_eq_true rfl) ?_
 show TW _ _ tf130.body _ _
 refine Qe fun K hK => Zo rfl rfl rfl (Zo rfl rfl rfl (Qa rfl ?_))
 refine hK _ _ (Qb (kp2 rfl rfl) ?_)
 refine QD ?_ -- 0
 refine Qe fun K hK => QG (cs := [_, _, _, _, _, _, _]) rfl rfl rfl rfl (QF (Yi (by omega) (by omega)) rfl rfl (.inr rfl) (Ye rfl (Qa rfl ?_)))
 refine QB (g := 9) rfl (fun h1 => ?_) (fun h1 => ?_)
 ·try rw [h1]
  try simp only [qa, qb, qc, qd, qe] at h1
  refine Qq rfl (Qq rfl (Qq rfl (Ql rfl rfl ?_)))
  refine hK _ _ (Qb (kp3 rfl rfl rfl) ?_)
  refine Zl rfl (Qe fun K hK => Qa rfl ?_)
  refine hK _ _ (Qb (kp1 rfl) ?_)
  refine Qu (Qj (Qs rfl ?_))
  first | (simp [Qaz, h1]; done) | (simp_all [Qaz]; done)
 ·try rw [h1]
  try simp only [qa, qb, qc, qd, qe] at h1
  refine Qg rfl (QG (cs := [_, _, _, _, _]) rfl rfl rfl rfl (Qg rfl (QF (Zi (by omega) (by omega)) rfl rfl (.inr rfl) (Qg rfl (Ye rfl (Ql rfl rfl ?_))))))
  refine hK _ _ (Qb (kp3 rfl rfl rfl) ?_)
  refine Qw rfl (fun h2 => ?_) (fun h2 => ?_)
  ·try rw [h2]
   try simp only [qa, qb, qc, qd, qe] at h2
   refine Qe fun K hK => Qa rfl ?_
   refine hK _ _ (Qb (kp1 rfl) ?_)
   refine Qu (Qj (Qs rfl ?_))
   first | (simp [Qaz, h1, h2]; done) | (simp_all [Qaz]; done)
  ·try rw [h2]
   try simp only [qa, qb, qc, qd, qe] at h2
   refine Qv (Qd (kp2 rfl rfl) ?_)
   refine QD ?_ -- 1
   refine Qe fun K hK => Qi rfl rfl (QC rfl rfl rfl (XJ rfl rfl ?_))
   refine hK _ _ (Qb (kp3 rfl rfl rfl) ?_)
   refine Qw rfl (fun h3 => ?_) (fun h3 => ?_)
   ·try rw [h3]
    try simp only [qa, qb, qc, qd, qe] at h3
    refine Qe fun K hK => Qi rfl rfl (QC rfl rfl rfl (Yb rfl rfl (Qa rfl ?_)))
    refine hK _ _ (Qb (kp1 rfl) ?_)
    refine Qu (Qj (Qs rfl ?_))
    first | (simp [Qaz, h1, h2, h3]; done) | (simp_all [Qaz]; done)
   ·try rw [h3]
    try simp only [qa, qb, qc, qd, qe] at h3
    refine Qv (Qd (kp2 rfl rfl) (Qe fun K hK => Qi rfl rfl (QG (cs := [_, _, _, _, _]) rfl rfl rfl rfl (QG (cs := [_, _, _, _, _]) rfl rfl rfl rfl (QF (XC (by omega) (by omega) (by omega) (by omega)) rfl rfl (.inr rfl) (Qa rfl ?_))))))
    refine hK _ _ (Qb (kp2 rfl rfl) ?_)
    refine Qe fun K hK => Qa rfl (Yb rfl rfl (Qa rfl ?_))
    refine QB (g := 26) rfl (fun h4 => ?_) (fun h4 => ?_)
    ·try rw [h4]
     try simp only [qa, qb, qc, qd, qe] at h4
     refine Qq rfl (Qq rfl (Qq rfl (ZF rfl (ZF rfl (ZF rfl (Qq rfl (Ql rfl rfl (Qa rfl ?_))))))))
     refine hK _ _ (Qb (kp1 rfl) ?_)
     refine Qu (Qs rfl ?_)
     first | (simp [Qaz, h1, h2, h3, h4]; done) | (simp_all [Qaz]; done)
    ·try rw [h4]
     try simp only [qa, qb, qc, qd, qe] at h4
     refine Qg rfl (Qa rfl (Qg rfl (ZI rfl rfl (Qg rfl (Qa rfl ?_)))))
     refine QB (g := 29) rfl (fun h5 => ?_) (fun h5 => ?_)
     ·try rw [h5]
      try simp only [qa, qb, qc, qd, qe] at h5
      refine Qg rfl (Qi rfl rfl (Qg rfl (QC rfl rfl rfl (Qg rfl (Ye rfl (Qg rfl (Ql rfl rfl (Ql rfl rfl (Qa rfl ?_)))))))))
      refine hK _ _ (Qb (kp1 rfl) ?_)
      refine Qu (Qs rfl ?_)
      first | (simp [Qaz, h1, h2, h3, h4, h5]; done) | (simp_all [Qaz]; done)
     ·try rw [h5]
      try simp only [qa, qb, qc, qd, qe] at h5
      refine Qq rfl (Qq rfl (Qq rfl (Qg rfl (Ql rfl rfl (Ql rfl rfl (Qa rfl ?_))))))
      refine hK _ _ (Qb (kp1 rfl) ?_)
      refine Qu (Qs rfl ?_)
      first | (simp [Qaz, h1, h2, h3, h4, h5]; done) | (simp_all [Qaz]; done)
theorem YK {e a b c : Int} {p q : List UInt8} {f : Bool} (hp : p.length <= 1000000) (hq : q.length <= 1000000) {e' a' b' c' : Int} {p' q' : List UInt8} {f' : Bool} (hp' : p'.length <= 1000000) (hq' : q'.length <= 1000000) : Ok Tryz.prog 123 [.agg [.int .i64 e, .int .i64 a, .int .i64 b, .int .i64 c, .str p, .str q, .bool f, .int .i64 e', .int .i64 a', .int .i64 b', .int .i64 c', .str p', .str q', .bool f']] (.bool (Qid e a b c p q f e' a' b' c' p' q' f')) := by
 refine Ok.ofT ZQ Tryz.func123 QsC (Nat.le_of_ble_eq_true rfl) ?_
 show TW _ _ tf123.body _ _
 refine Qe fun K hK => Zo rfl rfl rfl (Qa rfl ?_)
 refine hK _ _ (Qb (kp1 rfl) ?_)
 refine Qe fun K hK => Qi rfl rfl (QG (cs := [_, _, _, _, _, _, _]) rfl rfl rfl rfl (QF (Yi (by omega) (by omega)) rfl rfl (.inr rfl) (Qa rfl ?_)))
 refine QB (g := 6) rfl (fun h1 => ?_) (fun h1 => ?_)
 ·try rw [h1]
  try simp only [qa, qb, qc, qd, qe] at h1
  refine Qg rfl (Qi rfl rfl (Qg rfl (QG (cs := [_, _, _, _, _, _, _]) rfl rfl rfl rfl (Qg rfl (QF (Yi (by omega) (by omega)) rfl rfl (.inr rfl) (Ql rfl rfl (Qa rfl ?_)))))))
  refine QB (g := 11) rfl (fun h2 => ?_) (fun h2 => ?_)
  ·try rw [h2]
   try simp only [qa, qb, qc, qd, qe] at h2
   refine Qg rfl (Qi rfl rfl (Qg rfl (QG (cs := [_, _, _, _, _, _, _]) rfl rfl rfl rfl (Qg rfl (Qi rfl rfl (Qg rfl (QG (cs := [_, _, _, _, _, _, _]) rfl rfl rfl rfl (Qg rfl (QF (Zz (by omega) (by omega) (by omega) (by omega)) rfl rfl (.inr rfl) (Qg rfl (Yb rfl rfl ?_)))))))))))
   refine Ql rfl rfl (Qa rfl ?_)
   refine hK _ _ (Qb (kp1 rfl) ?_)
   refine Qu (Qs rfl ?_)
   first | (simp [Qid, h1, h2]; done) | (simp_all [Qid]; done)
  ·try rw [h2]
   try simp only [qa, qb, qc, qd, qe] at h2
   refine Qq rfl (Qq rfl (Qq rfl (Qq rfl (Qq rfl (Qq rfl (Ql rfl rfl (Qa rfl ?_)))))))
   refine hK _ _ (Qb (kp1 rfl) ?_)
   refine Qu (Qs rfl ?_)
   first | (simp [Qid, h1, h2]; done) | (simp_all [Qid]; done)
 ·try rw [h1]
  try simp only [qa, qb, qc, qd, qe] at h1
  refine Qq rfl (Qq rfl (Qq rfl (Ql rfl rfl (Qa rfl (Qq rfl (Qq rfl (Qq rfl (Qq rfl (Qq rfl (Qq rfl (Ql rfl rfl ?_)))))))))))
  refine Qa rfl ?_
  refine hK _ _ (Qb (kp1 rfl) ?_)
  refine Qu (Qs rfl ?_)
  first | (simp [Qid, h1]; done) | (simp_all [Qid]; done)
theorem Qc6 {e a b c : Int} {p q : List UInt8} {f : Bool} (hp : p.length <= 1000000) (hq : q.length <= 1000000) {e' a' b' c' : Int} {p' q' : List UInt8} {f' : Bool} (hp' : p'.length <= 1000000) (hq' : q'.length <= 1000000) {x y z : Int} {r s : List UInt8} (hr : r.length <= 1000000) (hs : s.length <= 1000000) : Ok Tryz.prog 126 [.agg [.int .i64 e, .int .i64 a, .int .i64 b, .int .i64 c, .str p, .str q, .bool f, .int .i64 e', .int .i64 a', .int .i64 b', .int .i64 c', .str p', .str q', .bool f'], .agg [.int .i64 x, .int .i64 y, .int .i64 z, .str r, .str s]] (.bool (Qde e a b c p q f e' a' b' c' p' q' f' x y z r s)) := by
 refine Ok.ofT ZQ Tryz.func126 QsF (Nat.le_of_ble_eq_true rfl) ?_
 show TW _ _ tf126.body _ _
 refine Qe fun K hK => Zo rfl rfl rfl (Zo rfl rfl rfl (Qa rfl ?_))
 refine hK _ _ (Qb (kp2 rfl rfl) ?_)
 refine Qe fun K hK => QG (cs := [_, _, _, _, _, _, _, _, _, _, _, _, _, _]) rfl rfl rfl rfl (QF (YK (by omega) (by omega) (by omega) (by omega)) rfl rfl (.inr rfl) (Qa rfl ?_))
 refine QB (g := 7) rfl (fun h1 => ?_) (fun h1 => ?_)
 ·try rw [h1]
  try simp only [qa, qb, qc, qd, qe] at h1
  refine Qg rfl (QG (cs := [_, _, _, _, _]) rfl rfl rfl rfl (Qg rfl (QF (Zi (by omega) (by omega)) rfl rfl (.inr rfl) (Ql rfl rfl (Qa rfl ?_)))))
  refine QB (g := 11) rfl (fun h2 => ?_) (fun h2 => ?_)
  ·try rw [h2]
   try simp only [qa, qb, qc, qd, qe] at h2
   refine Qg rfl (Qi rfl rfl (Qg rfl (QG (cs := [_, _, _, _, _, _, _]) rfl rfl rfl rfl (Qg rfl (QG (cs := [_, _, _, _, _]) rfl rfl rfl rfl (Qg rfl (QF (X7 (by omega) (by omega) (by omega) (by omega)) rfl rfl (.inr rfl) (Ql rfl rfl (Qa rfl ?_)))))))))
   refine QB (g := 17) rfl (fun h3 => ?_) (fun h3 => ?_)
   ·try rw [h3]
    try simp only [qa, qb, qc, qd, qe] at h3
    refine Qg rfl (Qi rfl rfl (Qg rfl (QG (cs := [_, _, _, _, _, _, _]) rfl rfl rfl rfl (Qg rfl (QG (cs := [_, _, _, _, _]) rfl rfl rfl rfl (Qg rfl (QF (X7 (by omega) (by omega) (by omega) (by omega)) rfl rfl (.inr rfl) (Qg rfl (Ye rfl (Ql rfl rfl (Qa rfl ?_)))))))))))
    refine hK _ _ (Qb (kp1 rfl) ?_)
    refine Qu (Qs rfl ?_)
    first | (simp [Qde, h1, h2, h3]; done) | (simp_all [Qde]; done)
   ·try rw [h3]
    try simp only [qa, qb, qc, qd, qe] at h3
    refine Qq rfl (Qq rfl (Qq rfl (Qq rfl (Qq rfl (Ql rfl rfl (Qa rfl ?_))))))
    refine hK _ _ (Qb (kp1 rfl) ?_)
    refine Qu (Qs rfl ?_)
    first | (simp [Qde, h1, h2, h3]; done) | (simp_all [Qde]; done)
  ·try rw [h2]
   try simp only [qa, qb, qc, qd, qe] at h2
   refine Qq rfl (Qq rfl (Qq rfl (Qq rfl (Ql rfl rfl (Qa rfl (Qq rfl (Qq rfl (Qq rfl (Qq rfl (Qq rfl (Ql rfl rfl ?_)))))))))))
   refine Qa rfl ?_
   refine hK _ _ (Qb (kp1 rfl) ?_)
   refine Qu (Qs rfl ?_)
   first | (simp [Qde, h1, h2]; done) | (simp_all [Qde]; done)
 ·try rw [h1]
  try simp only [qa, qb, qc, qd, qe] at h1
  refine Qq rfl (Qq rfl (Ql rfl rfl (Qa rfl (Qq rfl (Qq rfl (Qq rfl (Qq rfl (Ql rfl rfl (Qa rfl (Qq rfl (Qq rfl ?_)))))))))))
  refine Qq rfl (Qq rfl (Qq rfl (Ql rfl rfl (Qa rfl ?_))))
  refine hK _ _ (Qb (kp1 rfl) ?_)
  refine Qu (Qs rfl ?_)
  first | (simp [Qde, h1]; done) | (simp_all [Qde]; done)
end Go.Proofs
namespace M3
open Go Go.Abs
end M3
namespace M3
open Go Go.Abs
end M3
namespace M3
open Go Go.Abs
end M3
namespace M25
open Go Go.Abs M3
def Qg9 (a b c : Int) : Bool := decide (a = 0) && decide (b = 0) && decide (c = 0)
def Qah (a b c : Int) (p q : List UInt8) (part : Int) : Option (Int × Int × Int) :=
 if Qix a b c p q = false \/ part < 0 \/ 2 < part then none
 else
  let o := if part = 0 then (a + 1, 0, 0) else if part = 1 then (a, b + 1, 0) else (a, b, c + 1)
  if Qix o.1 o.2.1 o.2.2 [] [] = true then some o else none
def dOV (o : Option (Int × Int × Int)) : D := .tup [.agg [.int .i64 (o.getD (0, 0, 0)).1, .int .i64 (o.getD (0, 0, 0)).2.1, .int .i64 (o.getD (0, 0, 0)).2.2, .str [], .str []], .bool o.isSome]
def XN (a b c : Int) (p q : List UInt8) : Nat -> Option (Int × Int × Int)
 | 0 => none
 | n + 1 => if (Qah a b c p q n).isSome = true then Qah a b c p q n else XN a b c p q n
def Qi7 (a b c : Int) (p q : List UInt8) : Option (Int × Int × Int) :=
 if Qix a b c p q = false then none else if p ≠ [] then some (a, b, c) else XN a b c p q 3
theorem QcM {a b c : Int} {p q : List UInt8} (h : Qix a b c p q = true) : (0 <= a /\ a <= 9999) /\ (0 <= b /\ b <= 9999) /\ (0 <= c /\ c <= 9999) := by
 simp only [Qix, mFits, Bool.and_eq_true, decide_eq_true_eq] at h
 omega
theorem QjV {a b c : Int} {p q : List UInt8} {m : Nat} (hm : 0 < m) (h : (Qah a b c p q ((m : Int) - 1)).isSome = false) : XN a b c p q m = XN a b c p q (m - 1) := by
 obtain ⟨n, rfl⟩ : ∃ n, m = n + 1 := ⟨m - 1, by omega⟩
 rw [show ((n + 1 : Nat) : Int) - 1 = (n : Int) by omega] at h
 rw [XN, if_neg (by rw [h]; simp)]; rfl
theorem QiG {a b c : Int} {p q : List UInt8} {m : Nat} (hm : 0 < m) (h : (Qah a b c p q ((m : Int) - 1)).isSome = true) : XN a b c p q m = Qah a b c p q ((m : Int) - 1) := by
 obtain ⟨n, rfl⟩ : ∃ n, m = n + 1 := ⟨m - 1, by omega⟩
 rw [show ((n + 1 : Nat) : Int) - 1 = (n : Int) by omega] at h ⊢
 rw [XN, if_pos h]
def dCu (x : Cu) : List D := [.int .i64 x.e, .int .i64 x.a, .int .i64 x.b, .int .i64 x.c, .str x.p, .str x.q, .bool x.f]
def Qe6 (s : Cu × Cu) : List D := dCu s.1 ++ dCu s.2
def ZJ (l : List (Cu × Cu)) : D := .sl (l.map Qe6)
def QhF (s : List (Cu × Cu) × List (Cu × Cu)) : D := .agg [ZJ s.1, ZJ s.2]
def Qda : Cu := ⟨-1, 0, 0, 0, [], [], false⟩
def QgF : Cu := ⟨1, 0, 0, 0, [], [], false⟩
def Qga (a b c : Int) : Cu := if Qg9 a b c = true then Qda else ⟨0, a, b, c, [], [], false⟩
def Qd0 (a b c : Int) : Cu := match Qi7 a b c [] [] with
 | none => QgF
 | some o => ⟨0, o.1, o.2.1, o.2.2, [], [], false⟩
def Xi (a b c : Int) (p q : List UInt8) : List (Cu × Cu) × List (Cu × Cu) :=
 if Qix a b c p q = false then ([], []) else if p ≠ [] then ([], [(⟨0, a, b, c, p, [], false⟩, ⟨0, a, b, c, p, [], true⟩)]) else ([(Qga a b c, Qd0 a b c)], [])
def Qhb (e a b c : Int) (p q : List UInt8) (f : Bool) : Bool := !decide (e = 0) || (!f && decide (p = []) && !Qg9 a b c)
def Cu.sm (x : Cu) : Prop := x.p.length <= 1000000 /\ x.q.length <= 1000000
def Sm (l : List (Cu × Cu)) : Prop := l.length <= 1000000 /\ ∀ s ∈ l, Cu.sm s.1 /\ Cu.sm s.2
theorem Sm.at {l : List (Cu × Cu)} (h : Sm l) {i : Nat} (hi : i < l.length) : (l[i].1.p.length <= 1000000 /\ l[i].1.q.length <= 1000000) /\ (l[i].2.p.length <= 1000000 /\ l[i].2.q.length <= 1000000) := h.2 _ (List.getElem_mem hi)
def Qd7 (s : Cu × Cu) : Bool := Qid s.1.e s.1.a s.1.b s.1.c s.1.p s.1.q s.1.f s.2.e s.2.a s.2.b s.2.c s.2.p s.2.q s.2.f
def QbG (x y : Cu) : Int := QbF x.e x.a x.b x.c x.p x.q x.f y.e y.a y.b y.c y.p y.q y.f
def QqR (l : List (Cu × Cu)) (i : Nat) : Bool := match l[i]? with
 | none => true
 | some s => Qd7 s && (decide (i = 0) || match l[i - 1]? with | none => true | some r => decide (QbG r.2 s.1 < 0))
theorem Qnn {l : List (Cu × Cu)} {i : Nat} (h : i < l.length) : QqR l i = (Qd7 l[i] && (decide (i = 0) || decide (QbG (l[i - 1]'(by omega)).2 l[i].1 < 0))) := by
 unfold QqR
 rw [List.getElem?_eq_getElem h, List.getElem?_eq_getElem (show i - 1 < l.length by omega)]
theorem QpG {l : List (Cu × Cu)} {i : Nat} (h : i < l.length) (h1 : Qd7 l[i] = true) (h2 : i = 0 \/ QbG (l[i - 1]'(by omega)).2 l[i].1 < 0) : QqR l i = true := by
 rw [Qnn h, h1]; simpa using h2
theorem Qhh {l : List (Cu × Cu)} {i : Nat} (h : i < l.length) (h1 : Qd7 l[i] = false \/ (i ≠ 0 /\ 0 <= QbG (l[i - 1]'(by omega)).2 l[i].1)) : QqR l i = false := by
 rw [Qnn h]
 rcases h1 with h1 | ⟨h1, h2⟩
 ·rw [h1]; rfl
 ·simp only [Bool.and_eq_false_iff, Bool.or_eq_false_iff, decide_eq_false_iff_not]
  exact .inr ⟨h1, by omega⟩
def QeH (l : List (Cu × Cu)) : Bool := (List.range l.length).all (QqR l)
theorem QbL {n i : Nat} {p : Nat -> Bool} (h : i < n) (hp : p i = false) : (List.range n).all p = false := by
 rw [Bool.eq_false_iff]; intro ha
 rw [List.all_eq_true] at ha
 rw [ha i (List.mem_range.2 h)] at hp; cases hp
theorem Qii {i : Nat} {p : Nat -> Bool} (h : (List.range i).all p = true) (hp : p i = true) : (List.range (i + 1)).all p = true := by
 rw [List.range_succ, List.all_append, h]; simp [hp]
theorem Qfs {i : Nat} {p : Nat -> Bool} {n : Nat} (h : (List.range i).all p = true) (hn : n <= i) : (List.range n).all p = true := by
 rw [List.all_eq_true] at h ⊢
 exact fun x hx => h x (List.mem_range.2 (Nat.lt_of_lt_of_le (List.mem_range.1 hx) hn))
def Qh8 (s : Cu × Cu) (a b c : Int) (p q : List UInt8) : Bool := Qde s.1.e s.1.a s.1.b s.1.c s.1.p s.1.q s.1.f s.2.e s.2.a s.2.b s.2.c s.2.p s.2.q s.2.f a b c p q
def Qh7 (l : List (Cu × Cu)) (a b c : Int) (p q : List UInt8) : Bool := QeH l && l.any fun s => Qh8 s a b c p q
theorem QhR {l : List (Cu × Cu)} {a b c : Int} {p q : List UInt8} {i : Nat} (hi : l.length <= i) (h : (l.take i).any (fun s => Qh8 s a b c p q) = false) : Qh7 l a b c p q = false := by
 rw [List.take_of_length_le hi] at h; rw [Qh7, h, Bool.and_false]
theorem QhS {l : List (Cu × Cu)} {a b c : Int} {p q : List UInt8} (h : QeH l = false) : Qh7 l a b c p q = false := by rw [Qh7, h]; rfl
theorem QhT {l : List (Cu × Cu)} {a b c : Int} {p q : List UInt8} {i : Nat} (h : QeH l = true) (hi : i < l.length) (hp : Qh8 l[i] a b c p q = true) : Qh7 l a b c p q = true := by
 rw [Qh7, h, Bool.true_and]; exact List.any_eq_true.2 ⟨_, List.getElem_mem hi, hp⟩
def inC (x y : Cu) (s : Cu × Cu) : Bool := decide (QbG s.1 x <= 0) && decide (QbG y s.2 <= 0)
theorem Qrl {x y : Cu} {s : Cu × Cu} (h1 : QbG s.1 x <= 0) (h2 : QbG y s.2 <= 0) : inC x y s = true := by simp [inC, h1, h2]
theorem Qrk {x y : Cu} {s : Cu × Cu} (h : ¬ QbG s.1 x <= 0 \/ ¬ QbG y s.2 <= 0) : inC x y s = false := by
 simp only [inC, Bool.and_eq_false_iff, decide_eq_false_iff_not]; exact h
def mIn (l : List (Cu × Cu)) (x y : Cu) : Bool := l.any (inC x y)
theorem Qhw {α : Type} {s : List α} {p : α -> Bool} {i : Nat} (h : i < s.length) (hp : p s[i] = true) : s.any p = true := List.any_eq_true.2 ⟨_, List.getElem_mem h, hp⟩
theorem Qmm {α : Type} {s : List α} {p : α -> Bool} {i : Nat} (hi : s.length <= i) (h : (s.take i).any p = false) : s.any p = false := by rwa [List.take_of_length_le hi] at h
theorem QfD {α : Type} {s : List α} {p : α -> Bool} {i : Nat} (h : i < s.length) (ha : (s.take i).any p = false) (hp : p s[i] = false) : (s.take (i + 1)).any p = false := by
 rw [List.take_succ_eq_append_getElem h, List.any_append, ha]; simp [hp]
def QbU (x : Cu) : Bool := Qhb x.e x.a x.b x.c x.p x.q x.f
def Qgb (s : List (Cu × Cu) × List (Cu × Cu)) : Bool := QeH s.1 && QeH s.2 && s.1.all fun x => QbU x.1 && QbU x.2
def QlW (s : List (Cu × Cu) × List (Cu × Cu)) (a b c : Int) (p q : List UInt8) : Bool :=
 Qgb s && Qix a b c p q && (if p = [] then Qh7 s.1 a b c p q else Qh7 s.2 a b c p q)
theorem Qa1 {s : List (Cu × Cu) × List (Cu × Cu)} (h : QeH s.1 = false \/ QeH s.2 = false) : Qgb s = false := by
 rw [Qgb]; rcases h with h | h <;> simp [h]
theorem Qa0 {s : List (Cu × Cu) × List (Cu × Cu)} {i : Nat} (hi : i < s.1.length) (h : QbU s.1[i].1 = false \/ QbU s.1[i].2 = false) : Qgb s = false := by
 have : (s.1.all fun x => QbU x.1 && QbU x.2) = false := XA hi (by rcases h with h | h <;> simp [h])
 rw [Qgb, this, Bool.and_false]
theorem Qd9 {s : List (Cu × Cu) × List (Cu × Cu)} {i : Nat} (h1 : QeH s.1 = true) (h2 : QeH s.2 = true) (hi : s.1.length <= i) (h : (s.1.take i).all (fun x => QbU x.1 && QbU x.2) = true) : Qgb s = true := by
 rw [List.take_of_length_le hi] at h
 rw [Qgb, h1, h2, h]; rfl
def QhE (l : List Cu) : D := .sl (l.map dCu)
theorem Qjq {l : List Cu} : ∀ r ∈ l.map dCu, r.length = 7 := fun r hr => by obtain ⟨x, _, rfl⟩ := List.mem_map.1 hr; rfl
theorem QoX {l : List Cu} {a b : Nat} : ∀ r ∈ ((l.map dCu).take a).drop b, r.length = 7 := fun r hr => Qjq r (List.mem_of_mem_take (List.mem_of_mem_drop hr))
def Qct : List Cu -> Cu -> List Cu
 | [], c => [c]
 | x :: r, c => if QbG x c < 0 then x :: Qct r c else if QbG x c = 0 then x :: r else c :: x :: r
theorem Qnf {l : List Cu} {c : Cu} {k : Nat} (hk : k < l.length) (h : QbG l[k] c < 0) (hi : Qct l c = l.take k ++ Qct (l.drop k) c) : Qct l c = l.take (k + 1) ++ Qct (l.drop (k + 1)) c := by
 rw [hi, List.drop_eq_getElem_cons hk, Qct, if_pos h, List.take_succ_eq_append_getElem hk, List.append_assoc]; rfl
theorem Qne {l : List Cu} {c : Cu} {k : Nat} (hk : k < l.length) (h : QbG l[k] c = 0) (hi : Qct l c = l.take k ++ Qct (l.drop k) c) : Qct l c = l := by
 rw [hi, List.drop_eq_getElem_cons hk, Qct, if_neg (by omega), if_pos h, <- List.drop_eq_getElem_cons hk, List.take_append_drop]
theorem Qla {l : List Cu} {c : Cu} {k : Nat} (h : l.length <= k \/ ∃ hk : k < l.length, ¬ QbG l[k] c < 0 /\ QbG l[k] c ≠ 0) (hi : Qct l c = l.take k ++ Qct (l.drop k) c) : Qct l c = l.take k ++ c :: l.drop k := by
 rw [hi]
 rcases h with h | ⟨hk, h1, h2⟩
 ·rw [List.drop_eq_nil_of_le h, Qct]
 ·rw [List.drop_eq_getElem_cons hk, Qct, if_neg h1, if_neg h2]
theorem Qfn : ∀ (l : List Cu) (c : Cu), (Qct l c).length <= l.length + 1
 | [], c => by simp [Qct]
 | x :: r, c => by
  have := Qfn r c
  simp only [Qct]
  (repeat' split) <;> simp <;> omega
theorem Qib : ∀ {l : List Cu} {c : Cu}, (∀ x ∈ l, Cu.sm x) -> Cu.sm c -> ∀ x ∈ Qct l c, Cu.sm x
 | [], c, _, hc, x, hx => by simp [Qct] at hx; exact hx ▸ hc
 | y :: r, c, hl, hc, x, hx => by
  simp only [Qct] at hx
  split at hx
  ·rcases List.mem_cons.1 hx with rfl | hx
   ·exact hl _ (by simp)
   ·exact Qib (fun z hz => hl z (by simp [hz])) hc x hx
  ·split at hx
   ·exact hl x hx
   ·rcases List.mem_cons.1 hx with rfl | hx
    ·exact hc
    ·exact hl x hx
def YY (l : List (Cu × Cu)) : List Cu := l.foldl (fun out s => Qct (Qct out s.1) s.2) [Qda, QgF]
theorem QoG {l : List (Cu × Cu)} {i : Nat} (h : i < l.length) : YY (l.take (i + 1)) = Qct (Qct (YY (l.take i)) l[i].1) l[i].2 := by
 rw [List.take_succ_eq_append_getElem h, YY, List.foldl_append]; rfl
theorem Qg7 : ∀ (l : List (Cu × Cu)) (out : List Cu), (l.foldl (fun out s => Qct (Qct out s.1) s.2) out).length <= out.length + 2 * l.length
 | [], out => by simp
 | s :: l, out => by
  have h1 := Qfn out s.1
  have h2 := Qfn (Qct out s.1) s.2
  have := Qg7 l (Qct (Qct out s.1) s.2)
  simp only [List.foldl_cons, List.length_cons]; omega
theorem Qcq (l : List (Cu × Cu)) : (YY l).length <= 2 + 2 * l.length := Qg7 l _
theorem Qi3 : ∀ {l : List (Cu × Cu)} {out : List Cu}, (∀ s ∈ l, Cu.sm s.1 /\ Cu.sm s.2) -> (∀ x ∈ out, Cu.sm x) -> ∀ x ∈ l.foldl (fun out s => Qct (Qct out s.1) s.2) out, Cu.sm x
 | [], _, _, h => h
 | s :: l, out, hl, h => by
  rw [List.foldl_cons]
  exact Qi3 (fun t ht => hl t (by simp [ht])) (Qib (Qib h (hl s (by simp)).1) (hl s (by simp)).2)
theorem Qk6 {l : List (Cu × Cu)} (hl : ∀ s ∈ l, Cu.sm s.1 /\ Cu.sm s.2) : ∀ x ∈ YY l, Cu.sm x := Qi3 hl (by
 intro x hx
 simp only [List.mem_cons, List.not_mem_nil, or_false] at hx
 rcases hx with rfl | rfl <;> exact ⟨Nat.zero_le _, Nat.zero_le _⟩)
theorem Qfm {l : List (Cu × Cu)} (hl : Sm l) (i : Nat) : (YY (l.take i)).length <= 2000002 /\ ∀ x ∈ YY (l.take i), Cu.sm x := by
 refine ⟨?_, Qk6 fun s hs => hl.2 s (List.mem_of_mem_take hs)⟩
 have := Qcq (l.take i)
 have h2 : (l.take i).length <= l.length := List.length_take_le' ..
 have := hl.1
 omega
def Qcs (l : List (Cu × Cu)) (x y : Cu) : List (Cu × Cu) := match l.getLast? with
 | some s => if QbG s.2 x = 0 then l.dropLast ++ [(s.1, y)] else l ++ [(x, y)]
 | none => l ++ [(x, y)]
theorem Qi4 {l : List (Cu × Cu)} {x y : Cu} {i : Nat} (hi : i + 1 = l.length) (h : QbG (l[i]'(by omega)).2 x = 0) : Qcs l x y = l.set i ((l[i]'(by omega)).1, y) := by
 have hg : l.getLast? = some (l[i]'(by omega)) := by
  rw [List.getLast?_eq_getElem?, show l.length - 1 = i by omega, List.getElem?_eq_getElem]
 rw [Qcs, hg]
 simp only [h, if_true]
 rw [List.dropLast_eq_take, show l.length - 1 = i by omega, List.set_eq_take_append_cons_drop, if_pos (by omega), List.drop_eq_nil_of_le (by omega)]
theorem Qd3 {l : List (Cu × Cu)} {x y : Cu} (h : l = [] \/ ∃ i, ∃ hi : i + 1 = l.length, QbG (l[i]'(by omega)).2 x ≠ 0) : Qcs l x y = l ++ [(x, y)] := by
 rcases h with rfl | ⟨i, hi, h⟩
 ·rfl
 ·have hg : l.getLast? = some (l[i]'(by omega)) := by
   rw [List.getLast?_eq_getElem?, show l.length - 1 = i by omega, List.getElem?_eq_getElem]
  rw [Qcs, hg]
  simp only [if_neg h]
theorem Qi5 (l : List (Cu × Cu)) (x y : Cu) : (Qcs l x y).length <= l.length + 1 := by
 unfold Qcs
 split
 ·split
  ·simp
  ·simp
 ·simp
theorem Qk7 {l : List (Cu × Cu)} {x y : Cu} (hl : ∀ s ∈ l, Cu.sm s.1 /\ Cu.sm s.2) (hx : Cu.sm x) (hy : Cu.sm y) : ∀ s ∈ Qcs l x y, Cu.sm s.1 /\ Cu.sm s.2 := by
 intro s hs
 unfold Qcs at hs
 split at hs
 ·rename_i t ht
  have ht' := List.mem_of_getLast? ht
  split at hs
  ·rcases List.mem_append.1 hs with hs | hs
   ·exact hl s (List.dropLast_subset _ hs)
   ·simp at hs; subst hs; exact ⟨(hl t ht').1, hy⟩
  ·rcases List.mem_append.1 hs with hs | hs
   ·exact hl s hs
   ·simp at hs; subst hs; exact ⟨hx, hy⟩
 ·rcases List.mem_append.1 hs with hs | hs
  ·exact hl s hs
  ·simp at hs; subst hs; exact ⟨hx, hy⟩
theorem Qk0 {α β : Type} {l : List α} {f : α -> β} {i : Nat} (h : i + 1 < l.length) : (l.map f)[((i : Int) + 1).toNat]? = some (f l[i + 1]) := by
 rw [show ((i : Int) + 1).toNat = i + 1 by omega, List.getElem?_map, List.getElem?_eq_getElem h]; rfl
def Qcr (f : Cu -> Cu -> Bool) : List Cu -> List (Cu × Cu) -> List (Cu × Cu)
 | x :: y :: r, out => Qcr f (y :: r) (if f x y = true then Qcs out x y else out)
 | _, out => out
def Qkb (l : List (Cu × Cu)) : List (Cu × Cu) := if l.all Qd7 = true then Qcr (mIn l) (YY l) [] else []
theorem Qg8 {f : Cu -> Cu -> Bool} {c : List Cu} {out : List (Cu × Cu)} {i : Nat} (h : i + 1 < c.length) : Qcr f (c.drop i) out = Qcr f (c.drop (i + 1)) (if f c[i] c[i + 1] = true then Qcs out c[i] c[i + 1] else out) := by
 rw [List.drop_eq_getElem_cons (show i < c.length by omega), List.drop_eq_getElem_cons h, Qcr]
theorem Qna {f : Cu -> Cu -> Bool} {c : List Cu} {out : List (Cu × Cu)} {i : Nat} (h : c.length <= i + 1) : Qcr f (c.drop i) out = out := by
 have : (c.drop i).length <= 1 := by simp; omega
 match hd : c.drop i with
 | [] => rfl
 | [x] => rfl
 | x :: y :: r => rw [hd] at this; simp at this
def FillI (f : Cu -> Cu -> Bool) (c : List Cu) (i : Nat) (out : List (Cu × Cu)) : Prop :=
 out.length <= i /\ (∀ s ∈ out, Cu.sm s.1 /\ Cu.sm s.2) /\ Qcr f c [] = Qcr f (c.drop i) out
theorem FillI.zero {f : Cu -> Cu -> Bool} {c : List Cu} : FillI f c 0 [] := ⟨Nat.zero_le _, by simp, by simp⟩
theorem FillI.take {f : Cu -> Cu -> Bool} {c : List Cu} {i : Nat} {out : List (Cu × Cu)} (h : FillI f c i out) (hc : ∀ x ∈ c, Cu.sm x) (hi : i + 1 < c.length) (ht : f c[i] c[i + 1] = true) : FillI f c (i + 1) (Qcs out c[i] c[i + 1]) := by
 obtain ⟨h1, h2, h3⟩ := h
 refine ⟨Nat.le_trans (Qi5 ..) (by omega), Qk7 h2 (hc _ (List.getElem_mem _)) (hc _ (List.getElem_mem _)), ?_⟩
 rw [h3, Qg8 hi, if_pos ht]
theorem FillI.skip {f : Cu -> Cu -> Bool} {c : List Cu} {i : Nat} {out : List (Cu × Cu)} (h : FillI f c i out) (hi : i + 1 < c.length) (ht : f c[i] c[i + 1] = false) : FillI f c (i + 1) out := by
 obtain ⟨h1, h2, h3⟩ := h
 exact ⟨by omega, h2, by rw [h3, Qg8 hi, if_neg (by rw [ht]; simp)]⟩
theorem FillI.done {f : Cu -> Cu -> Bool} {c : List Cu} {i : Nat} {out : List (Cu × Cu)} (h : FillI f c i out) (hi : c.length <= i + 1) : Qcr f c [] = out := by rw [h.2.2, Qna hi]
theorem QnW {i : Nat} : ((i : Int) + 1).toNat = i + 1 := by omega
theorem YC {l : List (Cu × Cu)} (hl : Sm l) : ∀ x ∈ YY l, Cu.sm x := Qk6 hl.2
def QpD (a b : List (Cu × Cu)) : List (Cu × Cu) := if QeH a = true /\ QeH b = true then Qkb (a ++ b) else []
def Qkc (a : List (Cu × Cu)) : List (Cu × Cu) := if QeH a = true then Qcr (fun x y => !mIn a x y) (YY a) [] else []
theorem QpI {l : List (Cu × Cu)} : ∀ r ∈ l.map Qe6, r.length = 14 := fun r hr => by obtain ⟨x, _, rfl⟩ := List.mem_map.1 hr; rfl
theorem Sm.app {a b : List (Cu × Cu)} (ha : Sm a) (hb : Sm b) (h : a.length + b.length <= 1000000) : Sm (a ++ b) := by
 refine ⟨by simp; omega, fun s hs => ?_⟩
 rcases List.mem_append.1 hs with hs | hs
 ·exact ha.2 s hs
 ·exact hb.2 s hs
theorem Qr5 {H : List (Nat × Box)} {S : Nat -> Bool} {k n : Nat} {b : Box} (hS : S k = true) (hb : lk H k = some b) (hp : b.pr = true) (hn : n = b.rows.length) : (D.osl k n).fz H S = .sl b.rows := by
 simp only [D.fz, D.fzS, hS, hb, if_true, hp, hn, and_self]
abbrev Qfz := List (Cu × Cu) × List (Cu × Cu)
def QpE (a b : Qfz) : Qfz := if Qgb a = true /\ Qgb b = true then (QpD a.1 b.1, QpD a.2 b.2) else ([], [])
def Qia (a : Qfz) : Qfz := if Qgb a = true then (Qkc a.1, Qkc a.2) else ([], [])
def mPl (v n : Int) : Int := if n < 1 then 0 else Qgd v n
theorem Qi9 {v n : Int} : 0 <= mPl v n := by
 unfold mPl; split
 ·omega
 ·exact QoS (by omega)
theorem Qi8 {v n : Int} (h : 1 <= n) : mPl v n < n := by
 rw [mPl, if_neg (by omega)]; exact QoR (by omega)
def Qn0 (l : List Int) (i : Int) : Int := if i < 0 \/ (l.length : Int) <= i then i.tmod 3 else l.getD i.toNat 0
theorem Qm8 {l : List Int} {i : Int} (h0 : 0 <= i) (h : i < l.length) : Qn0 l i = l[i.toNat]'(by omega) := by
 rw [Qn0, if_neg (by omega), List.getD_eq_getElem?_getD, List.getElem?_eq_getElem (by omega)]; rfl
def I64 (x : Int) : Prop := -9223372036854775808 <= x /\ x <= 9223372036854775807
theorem QoF {l : List Int} {i : Int} (hl : ∀ x ∈ l, I64 x) (hi : I64 i) : I64 (Qn0 l i) := by
 by_cases h : i < 0 \/ (l.length : Int) <= i
 ·rw [Qn0, if_pos h]
  have h1 := Int.tmod_lt_of_pos i (show (0 : Int) < 3 by omega)
  have h2 := Int.lt_tmod_of_pos i (show (0 : Int) < 3 by omega)
  exact ⟨by omega, by omega⟩
 ·rw [Qm8 (by omega) (by omega)]
  exact hl _ (List.getElem_mem _)
theorem Qgw (x : Int) : I64 (IntKind.i64.wrap x) := by
 unfold IntKind.wrap I64
 simp only [IntKind.bits, IntKind.signed, Bool.true_and]
 split
 ·rename_i h
  have := of_decide_eq_true h
  omega
 ·rename_i h
  have : ¬ (x % 2 ^ 64 >= 2 ^ (64 - 1)) := fun hh => h (decide_eq_true hh)
  omega
theorem QeF {α : Type} {k : Nat} {v : α} {l : List (Nat × α)} : lk ((k, v) :: l) k = some v := by rw [Qo, if_pos rfl]
theorem Qfl {α : Type} {k : Nat} {v : α} {l : List (Nat × α)} : (lk ((k, v) :: l) k).isSome = true := by rw [QeF]; rfl
def gB (L : List Int) (I : Int) (et : Nat) : Box := ⟨[[ZC L, .int .i64 I]], 2, et, true⟩
def nxI (I : Int) : Int := IntKind.i64.wrap (I + 1)
def nx (L : List Int) (I n : Int) : Int := mPl (Qn0 L (IntKind.i64.wrap (nxI I - 1))) n
def XF (h m : Int) : Int := if QaC .and .i64 h m = h then 2 else if QaC .and .i64 h m = 0 then 0 else 1
def QaZ (h m : Int) : Int := if QaC .andNot .i64 h m = 0 then 2 else if QaC .and .i64 h m = 0 then 0 else 1
theorem Qig {i : Nat} (h : i <= 62) : 1 <= (2 : Int) ^ i /\ (2 : Int) ^ i <= 4611686018427387904 := by
 have h1 : (2 : Nat) ^ i <= 2 ^ 62 := Nat.pow_le_pow_right (by omega) h
 have h2 : 1 <= (2 : Nat) ^ i := Nat.one_le_two_pow
 have h3 : ((2 ^ i : Nat) : Int) = (2 : Int) ^ i := by simp
 rw [<- h3]
 have h4 : (2 : Nat) ^ 62 = 4611686018427387904 := by decide
 omega
structure Vr where
 a : Int
 b : Int
 c : Int
 p : List UInt8
 q : List UInt8
def dVr (v : Vr) : List D := [.int .i64 v.a, .int .i64 v.b, .int .i64 v.c, .str v.p, .str v.q]
def Vr.sm (v : Vr) : Prop := v.p.length <= 100 /\ v.q.length <= 100
def versions : List Vr := [⟨1, 0, 0, [], []⟩, ⟨1, 2, 0, [], []⟩, ⟨2, 0, 0, [97, 46, 49], []⟩, ⟨2, 0, 0, [], []⟩]
theorem QkA : ∀ v ∈ versions, v.sm := by
 intro v hv
 simp only [versions, List.mem_cons, List.not_mem_nil, or_false] at hv
 rcases hv with rfl | rfl | rfl | rfl <;> exact ⟨by decide, by decide⟩
theorem Qec {i : Nat} : ((i : Int) - 1).toNat = i - 1 := by omega
end M25
namespace Go.Proofs
open Go Go.Abs M3 M25
set_option linter.unusedVariables false
set_option linter.unusedSimpArgs false
theorem Qat {a b c : Int} {p q : List UInt8} : Ok Tryz.prog 92 [.agg [.int .i64 a, .int .i64 b, .int .i64 c, .str p, .str q]] (.agg [.int .i64 a, .int .i64 b, .int .i64 c, .str p, .str []]) := by
 refine Ok.ofT ZQ Tryz.func92 Qt7 (Nat.le_of_ble_eq_true rfl) ?_
 show TW _ _ tf92.body _ _
 refine Qe fun K hK => Zo rfl rfl rfl (ZK rfl ?_)
 refine hK _ _ (Qb (kp2 rfl rfl) ?_)
 refine Qe fun K hK => Qi rfl rfl (Q7 rfl rfl rfl rfl rfl rfl rfl rfl ?_)
 refine hK _ _ (Qb (kp2 rfl rfl) ?_)
 refine Qe fun K hK => QG (cs := [_, _, _, _, _]) rfl rfl rfl rfl (Q7 rfl rfl rfl rfl rfl rfl rfl rfl ?_)
 refine hK _ _ (Qb (kp1 rfl) ?_)
 refine Qu (ZH (cs := [_, _, _, _, _]) rfl rfl rfl rfl ?_)
 exact rfl
theorem Y2  : Ok Tryz.prog 94 [] (.agg [.int .i64 (-1), .int .i64 0, .int .i64 0, .int .i64 0, .str [], .str [], .bool false]) := by
 refine Ok.ofT ZQ Tryz.func94 Qt9 (Nat.le_of_ble_eq_true rfl) ?_
 show TW _ _ tf94.body _ _
 refine Qe fun K hK => ZK rfl ?_
 refine hK _ _ (Qb (kp1 rfl) ?_)
 refine Qe fun K hK => QU rfl rfl (Q7 rfl rfl rfl rfl rfl rfl rfl rfl ?_)
 refine hK _ _ (Qb (kp1 rfl) ?_)
 refine Qu (ZH (cs := [_, _, _, _, _, _, _]) rfl rfl rfl rfl ?_)
 exact rfl
theorem Xe  : Ok Tryz.prog 96 [] (.agg [.int .i64 1, .int .i64 0, .int .i64 0, .int .i64 0, .str [], .str [], .bool false]) := by
 refine Ok.ofT ZQ Tryz.func96 Qub (Nat.le_of_ble_eq_true rfl) ?_
 show TW _ _ tf96.body _ _
 refine Qe fun K hK => ZK rfl ?_
 refine hK _ _ (Qb (kp1 rfl) ?_)
 refine Qe fun K hK => QU rfl rfl (Q7 rfl rfl rfl rfl rfl rfl rfl rfl ?_)
 refine hK _ _ (Qb (kp1 rfl) ?_)
 refine Qu (ZH (cs := [_, _, _, _, _, _, _]) rfl rfl rfl rfl ?_)
 exact rfl
theorem YR {a b c : Int} {p q : List UInt8} : Ok Tryz.prog 69 [.agg [.int .i64 a, .int .i64 b, .int .i64 c, .str p, .str q]] (.agg [.int .i64 0, .int .i64 a, .int .i64 b, .int .i64 c, .str p, .str [], .bool false]) := by
 refine Ok.ofT ZQ Tryz.func69 QtM (Nat.le_of_ble_eq_true rfl) ?_
 show TW _ _ tf69.body _ _
 refine Qe fun K hK => Zo rfl rfl rfl (ZK rfl ?_)
 refine hK _ _ (Qb (kp2 rfl rfl) ?_)
 refine Qe fun K hK => QG (cs := [_, _, _, _, _]) rfl rfl rfl rfl (QF (Qat) rfl rfl (.inl rfl) (QU rfl rfl (Q7 rfl rfl rfl rfl rfl rfl rfl rfl ?_)))
 refine hK _ _ (Qb (kp1 rfl) ?_)
 refine Qu (ZH (cs := [_, _, _, _, _, _, _]) rfl rfl rfl rfl ?_)
 exact rfl
theorem Qca {a b c : Int} {p q : List UInt8} : Ok Tryz.prog 70 [.agg [.int .i64 a, .int .i64 b, .int .i64 c, .str p, .str q]] (.agg [.int .i64 0, .int .i64 a, .int .i64 b, .int .i64 c, .str p, .str [], .bool true]) := by
 refine Ok.ofT ZQ Tryz.func70 QtN (Nat.le_of_ble_eq_true rfl) ?_
 show TW _ _ tf70.body _ _
 refine Qe fun K hK => Zo rfl rfl rfl (ZK rfl ?_)
 refine hK _ _ (Qb (kp2 rfl rfl) ?_)
 refine Qe fun K hK => QG (cs := [_, _, _, _, _]) rfl rfl rfl rfl (QF (Qat) rfl rfl (.inl rfl) (QU rfl rfl (Q7 rfl rfl rfl rfl rfl rfl rfl rfl ?_)))
 refine hK _ _ (Qb (kp1 rfl) ?_)
 refine Qu (ZH (cs := [_, _, _, _, _, _, _]) rfl rfl rfl rfl ?_)
 exact rfl
theorem X9 {a b c : Int} {p q : List UInt8} : Ok Tryz.prog 93 [.agg [.int .i64 a, .int .i64 b, .int .i64 c, .str p, .str q]] (.bool (Qg9 a b c)) := by
 refine Ok.ofT ZQ Tryz.func93 Qt8 (Nat.le_of_ble_eq_true rfl) ?_
 show TW _ _ tf93.body _ _
 refine Qe fun K hK => Zo rfl rfl rfl (Qa rfl ?_)
 refine hK _ _ (Qb (kp1 rfl) ?_)
 refine Qe fun K hK => Qi rfl rfl (QC rfl rfl rfl (ZI rfl rfl (Qa rfl ?_)))
 refine QB (g := 6) rfl (fun h1 => ?_) (fun h1 => ?_)
 ·try rw [h1]
  try simp only [qa, qb, qc, qd, qe] at h1
  refine Qg rfl (Qi rfl rfl (Qg rfl (QC rfl rfl rfl (Qg rfl (ZI rfl rfl (Ql rfl rfl (Qa rfl ?_)))))))
  refine QB (g := 11) rfl (fun h2 => ?_) (fun h2 => ?_)
  ·try rw [h2]
   try simp only [qa, qb, qc, qd, qe] at h2
   refine Qg rfl (Qi rfl rfl (Qg rfl (QC rfl rfl rfl (Qg rfl (ZI rfl rfl (Ql rfl rfl (Qa rfl ?_)))))))
   refine hK _ _ (Qb (kp1 rfl) ?_)
   refine Qu (Qs rfl ?_)
   simp_all [Qg9]
  ·try rw [h2]
   try simp only [qa, qb, qc, qd, qe] at h2
   refine Qq rfl (Qq rfl (Qq rfl (Ql rfl rfl (Qa rfl ?_))))
   refine hK _ _ (Qb (kp1 rfl) ?_)
   refine Qu (Qs rfl ?_)
   simp_all [Qg9]
 ·try rw [h1]
  try simp only [qa, qb, qc, qd, qe] at h1
  refine Qq rfl (Qq rfl (Qq rfl (Ql rfl rfl (Qa rfl (Qq rfl (Qq rfl (Qq rfl (Ql rfl rfl (Qa rfl ?_)))))))))
  refine hK _ _ (Qb (kp1 rfl) ?_)
  refine Qu (Qs rfl ?_)
  simp_all [Qg9]
end Go.Proofs
namespace Go.Proofs
open Go Go.Abs M3 M25
set_option linter.unusedVariables false
set_option linter.unusedSimpArgs false
theorem Qdm {a b c : Int} {p q : List UInt8} (hp : p.length <= 1000000) (hq : q.length <= 1000000) {part : Int} : Ok Tryz.prog 109 [.agg [.int .i64 a, .int .i64 b, .int .i64 c, .str p, .str q], .int .i64 part] (dOV (Qah a b c p q part)) := by
 refine Ok.ofT ZQ Tryz.func109 Qso (Nat.le_of_ble_eq_true rfl) ?_
 show TW _ _ tf109.body _ _
 refine Qe fun K hK => Zo rfl rfl rfl (ZK rfl (Qa rfl ?_))
 refine hK _ _ (Qb (kp3 rfl rfl rfl) ?_)
 refine QD ?_ -- 0
 refine Qe fun K hK => QG (cs := [_, _, _, _, _]) rfl rfl rfl rfl (QF (Zi (by omega) (by omega)) rfl rfl (.inr rfl) (Ye rfl (Qa rfl ?_)))
 refine QB (g := 10) rfl (fun h1 => ?_) (fun h1 => ?_)
 ·try rw [h1]
  try simp only [qa, qb, qc, qd, qe] at h1
  refine Qq rfl (Qq rfl (Ql rfl rfl (Qa rfl (Qq rfl (Qq rfl (Ql rfl rfl ?_))))))
  refine hK _ _ (Qb (kp4 rfl rfl rfl rfl) ?_)
  refine Zl rfl (Qe fun K hK => QU rfl rfl (Q7 rfl rfl rfl rfl rfl rfl rfl rfl (Qa rfl ?_)))
  refine hK _ _ (Qb (kp2 rfl rfl) ?_)
  refine Qu (Qj (Post.eq (XL (ds := [.int .i64 _, .int .i64 _, .int .i64 _, .str _, .str _]) (d' := .bool _) (cs := [_, _, _, _, _]) rfl rfl rfl rfl rfl ⟨rfl, rfl⟩) ?_))
  first | (simp [Qah, dOV, h1]; done) | (simp_all [Qah, dOV]; done)
 ·try rw [h1]
  try simp only [qa, qb, qc, qd, qe] at h1
  refine Qg rfl (Qa rfl (Qg rfl (Yb rfl rfl (Ql rfl rfl (Qa rfl ?_)))))
  refine QB (g := 14) rfl (fun h2 => ?_) (fun h2 => ?_)
  ·try rw [h2]
   try simp only [qa, qb, qc, qd, qe] at h2
   refine Qq rfl (Qq rfl (Ql rfl rfl ?_))
   refine hK _ _ (Qb (kp4 rfl rfl rfl rfl) ?_)
   refine Zl rfl (Qe fun K hK => QU rfl rfl (Q7 rfl rfl rfl rfl rfl rfl rfl rfl (Qa rfl ?_)))
   refine hK _ _ (Qb (kp2 rfl rfl) ?_)
   refine Qu (Qj (Post.eq (XL (ds := [.int .i64 _, .int .i64 _, .int .i64 _, .str _, .str _]) (d' := .bool _) (cs := [_, _, _, _, _]) rfl rfl rfl rfl rfl ⟨rfl, rfl⟩) ?_))
   first | (simp [Qah, dOV, h1, h2]; done) | (simp_all [Qah, dOV]; done)
  ·try rw [h2]
   try simp only [qa, qb, qc, qd, qe] at h2
   refine Qg rfl (Qa rfl (Qg rfl (Qhv rfl rfl (Ql rfl rfl ?_))))
   refine hK _ _ (Qb (kp4 rfl rfl rfl rfl) ?_)
   refine Qw rfl (fun h3 => ?_) (fun h3 => ?_)
   ·try rw [h3]
    try simp only [qa, qb, qc, qd, qe] at h3
    refine Qe fun K hK => QU rfl rfl (Q7 rfl rfl rfl rfl rfl rfl rfl rfl (Qa rfl ?_))
    refine hK _ _ (Qb (kp2 rfl rfl) ?_)
    refine Qu (Qj (Post.eq (XL (ds := [.int .i64 _, .int .i64 _, .int .i64 _, .str _, .str _]) (d' := .bool _) (cs := [_, _, _, _, _]) rfl rfl rfl rfl rfl ⟨rfl, rfl⟩) ?_))
    first | (simp [Qah, dOV, h1, h2, h3]; done) | (simp_all [Qah, dOV]; done)
   ·try rw [h3]
    try simp only [qa, qb, qc, qd, qe] at h3
    refine Qv (Qd (kp3 rfl rfl rfl) (Qe fun K hK => ZK rfl ?_))
    refine hK _ _ (Qb (kp4 rfl rfl rfl rfl) ?_)
    refine QD ?_ -- 1
    refine Qe fun K hK => Qa rfl ?_
    refine hK _ _ (Qb (kp4 rfl rfl rfl rfl) ?_)
    refine Qz (Qe fun K hK => ZI rfl rfl (Qa rfl ?_))
    refine hK _ _ (Qb (kp5 rfl rfl rfl rfl rfl) ?_)
    refine Qw rfl (fun h4 => ?_) (fun h4 => ?_)
    ·try rw [h4]
     try simp only [qa, qb, qc, qd, qe] at h4
     refine QN fun K hK => Qi rfl rfl (QC rfl rfl rfl (QY rfl rfl (Qr (by have := QcM (by simpa using h1); omega) (by have := QcM (by simpa using h1); omega)) (QU rfl rfl (Q7 rfl rfl rfl rfl rfl rfl rfl rfl (hK _ ?_)))))
     refine Qh (Qd (kp2 rfl rfl) ?_)
     refine QD ?_ -- 2
     refine Qe fun K hK => QG (cs := [_, _, _, _, _]) rfl rfl rfl rfl (QF (Zi (by simp) (by simp)) rfl rfl (.inr rfl) (Ye rfl ?_))
     refine hK _ _ (Qb (kp3 rfl rfl rfl) ?_)
     refine Qw rfl (fun h5 => ?_) (fun h5 => ?_)
     ·try rw [h5]
      try simp only [qa, qb, qc, qd, qe] at h5
      refine Qe fun K hK => QU rfl rfl (Q7 rfl rfl rfl rfl rfl rfl rfl rfl (Qa rfl ?_))
      refine hK _ _ (Qb (kp2 rfl rfl) ?_)
      refine Qu (Qj (Post.eq (XL (ds := [.int .i64 _, .int .i64 _, .int .i64 _, .str _, .str _]) (d' := .bool _) (cs := [_, _, _, _, _]) rfl rfl rfl rfl rfl ⟨rfl, rfl⟩) ?_))
      first | (simp [Qah, dOV, h1, h2, h3, h4, h5]; done) | (simp_all [Qah, dOV]; done)
     ·try rw [h5]
      try simp only [qa, qb, qc, qd, qe] at h5
      refine Qv (Qd (kp2 rfl rfl) (Qe fun K hK => QG (cs := [_, _, _, _, _]) rfl rfl rfl rfl (Q7 rfl rfl rfl rfl rfl rfl rfl rfl (Qa rfl ?_))))
      refine hK _ _ (Qb (kp2 rfl rfl) ?_)
      refine Qu (Post.eq (XL (ds := [.int .i64 _, .int .i64 _, .int .i64 _, .str _, .str _]) (d' := .bool _) (cs := [_, _, _, _, _]) rfl rfl rfl rfl rfl ⟨rfl, rfl⟩) ?_)
      first | (simp [Qah, dOV, h1, h2, h3, h4, h5]; done) | (simp_all [Qah, dOV]; done)
    ·try rw [h4]
     try simp only [qa, qb, qc, qd, qe] at h4
     refine Qe fun K hK => ZI rfl rfl (Qa rfl ?_)
     refine hK _ _ (Qb (kp4 rfl rfl rfl rfl) ?_)
     refine Qw rfl (fun h6 => ?_) (fun h6 => ?_)
     ·try rw [h6]
      try simp only [qa, qb, qc, qd, qe] at h6
      refine QN fun K hK => Qi rfl rfl (QC rfl rfl rfl (Qi rfl rfl (QC rfl rfl rfl (QY rfl rfl (Qr (by have := QcM (by simpa using h1); omega) (by have := QcM (by simpa using h1); omega)) (QU rfl rfl (Q7 rfl rfl rfl rfl rfl rfl rfl rfl (hK _ ?_)))))))
      refine Qh (Qd (kp2 rfl rfl) ?_)
      refine QD ?_ -- 2
      refine Qe fun K hK => QG (cs := [_, _, _, _, _]) rfl rfl rfl rfl (QF (Zi (by simp) (by simp)) rfl rfl (.inr rfl) (Ye rfl ?_))
      refine hK _ _ (Qb (kp3 rfl rfl rfl) ?_)
      refine Qw rfl (fun h7 => ?_) (fun h7 => ?_)
      ·try rw [h7]
       try simp only [qa, qb, qc, qd, qe] at h7
       refine Qe fun K hK => QU rfl rfl (Q7 rfl rfl rfl rfl rfl rfl rfl rfl (Qa rfl ?_))
       refine hK _ _ (Qb (kp2 rfl rfl) ?_)
       refine Qu (Qj (Post.eq (XL (ds := [.int .i64 _, .int .i64 _, .int .i64 _, .str _, .str _]) (d' := .bool _) (cs := [_, _, _, _, _]) rfl rfl rfl rfl rfl ⟨rfl, rfl⟩) ?_))
       first | (simp [Qah, dOV, h1, h2, h3, h4, h6, h7]; done) | (simp_all [Qah, dOV]; done)
      ·try rw [h7]
       try simp only [qa, qb, qc, qd, qe] at h7
       refine Qv (Qd (kp2 rfl rfl) (Qe fun K hK => QG (cs := [_, _, _, _, _]) rfl rfl rfl rfl (Q7 rfl rfl rfl rfl rfl rfl rfl rfl (Qa rfl ?_))))
       refine hK _ _ (Qb (kp2 rfl rfl) ?_)
       refine Qu (Post.eq (XL (ds := [.int .i64 _, .int .i64 _, .int .i64 _, .str _, .str _]) (d' := .bool _) (cs := [_, _, _, _, _]) rfl rfl rfl rfl rfl ⟨rfl, rfl⟩) ?_)
       first | (simp [Qah, dOV, h1, h2, h3, h4, h6, h7]; done) | (simp_all [Qah, dOV]; done)
     ·try rw [h6]
      try simp only [qa, qb, qc, qd, qe] at h6
      refine QN fun K hK => Qi rfl rfl (QC rfl rfl rfl (Qi rfl rfl (QC rfl rfl rfl (Qi rfl rfl (QC rfl rfl rfl (QY rfl rfl (Qr (by have := QcM (by simpa using h1); omega) (by have := QcM (by simpa using h1); omega)) (QU rfl rfl (Q7 rfl rfl rfl rfl rfl rfl rfl rfl (hK _ ?_)))))))))
      refine Qh (Qd (kp2 rfl rfl) ?_)
      refine QD ?_ -- 2
      refine Qe fun K hK => QG (cs := [_, _, _, _, _]) rfl rfl rfl rfl (QF (Zi (by simp) (by simp)) rfl rfl (.inr rfl) (Ye rfl ?_))
      refine hK _ _ (Qb (kp3 rfl rfl rfl) ?_)
      refine Qw rfl (fun h8 => ?_) (fun h8 => ?_)
      ·try rw [h8]
       try simp only [qa, qb, qc, qd, qe] at h8
       refine Qe fun K hK => QU rfl rfl (Q7 rfl rfl rfl rfl rfl rfl rfl rfl (Qa rfl ?_))
       refine hK _ _ (Qb (kp2 rfl rfl) ?_)
       refine Qu (Qj (Post.eq (XL (ds := [.int .i64 _, .int .i64 _, .int .i64 _, .str _, .str _]) (d' := .bool _) (cs := [_, _, _, _, _]) rfl rfl rfl rfl rfl ⟨rfl, rfl⟩) ?_))
       first | (simp [Qah, dOV, h1, h2, h3, h4, h6, h8]; done) | (simp_all [Qah, dOV]; done)
      ·try rw [h8]
       try simp only [qa, qb, qc, qd, qe] at h8
       refine Qv (Qd (kp2 rfl rfl) (Qe fun K hK => QG (cs := [_, _, _, _, _]) rfl rfl rfl rfl (Q7 rfl rfl rfl rfl rfl rfl rfl rfl (Qa rfl ?_))))
       refine hK _ _ (Qb (kp2 rfl rfl) ?_)
       refine Qu (Post.eq (XL (ds := [.int .i64 _, .int .i64 _, .int .i64 _, .str _, .str _]) (d' := .bool _) (cs := [_, _, _, _, _]) rfl rfl rfl rfl rfl ⟨rfl, rfl⟩) ?_)
       first | (simp [Qah, dOV, h1, h2, h3, h4, h6, h8]; done) | (simp_all [Qah, dOV]; done)
theorem Qdn {a b c : Int} {p q : List UInt8} (hp : p.length <= 1000000) (hq : q.length <= 1000000) : Ok Tryz.prog 95 [.agg [.int .i64 a, .int .i64 b, .int .i64 c, .str p, .str q]] (dOV (Qi7 a b c p q)) := by
 refine Ok.ofT ZQ Tryz.func95 Qua (Nat.le_of_ble_eq_true rfl) ?_
 show TW _ _ tf95.body _ _
 refine Qe fun K hK => Zo rfl rfl rfl (ZK rfl (Qa rfl ?_))
 refine hK _ _ (Qb (kp2 rfl rfl) ?_)
 refine QD ?_ -- 0
 refine Qe fun K hK => QG (cs := [_, _, _, _, _]) rfl rfl rfl rfl (QF (Zi (by omega) (by omega)) rfl rfl (.inr rfl) (Ye rfl ?_))
 refine hK _ _ (Qb (kp3 rfl rfl rfl) ?_)
 refine Qw rfl (fun h1 => ?_) (fun h1 => ?_)
 ·try rw [h1]
  try simp only [qa, qb, qc, qd, qe] at h1
  refine Qe fun K hK => QU rfl rfl (Q7 rfl rfl rfl rfl rfl rfl rfl rfl (Qa rfl ?_))
  refine hK _ _ (Qb (kp2 rfl rfl) ?_)
  refine Qu (Qj (Post.eq (XL (ds := [.int .i64 _, .int .i64 _, .int .i64 _, .str _, .str _]) (d' := .bool _) (cs := [_, _, _, _, _]) rfl rfl rfl rfl rfl ⟨rfl, rfl⟩) ?_))
  simp [Qi7, dOV, h1]
 ·try rw [h1]
  try simp only [qa, qb, qc, qd, qe] at h1
  refine Qv (Qd (kp2 rfl rfl) ?_)
  refine QD ?_ -- 1
  refine Qe fun K hK => Qi rfl rfl (QC rfl rfl rfl (Qn5 rfl rfl ?_))
  refine hK _ _ (Qb (kp3 rfl rfl rfl) ?_)
  refine Qw rfl (fun h2 => ?_) (fun h2 => ?_)
  ·try rw [h2]
   try simp only [qa, qb, qc, qd, qe] at h2
   refine Qe fun K hK => Qi rfl rfl (QC rfl rfl rfl (Qi rfl rfl (QC rfl rfl rfl (Qi rfl rfl (QC rfl rfl rfl (QU rfl rfl (Q7 rfl rfl rfl rfl rfl rfl rfl rfl (Qa rfl ?_))))))))
   refine hK _ _ (Qb (kp2 rfl rfl) ?_)
   refine Qu (Qj (Post.eq (XL (ds := [.int .i64 _, .int .i64 _, .int .i64 _, .str _, .str _]) (d' := .bool _) (cs := [_, _, _, _, _]) rfl rfl rfl rfl rfl ⟨rfl, rfl⟩) ?_))
   simp [Qi7, dOV, h1, h2]
  ·try rw [h2]
   try simp only [qa, qb, qc, qd, qe] at h2
   refine Qv (Qd (kp2 rfl rfl) ?_)
   refine QD ?_ -- 2
   refine Qe fun K hK => Qa rfl ?_
   refine hK _ _ (Qb (kp3 rfl rfl rfl) ?_)
   refine Qz ?_
   refine Zm (ι := Nat) (fun m => ⟨[(1, .ref 1 0 0), (2, .ref 2 0 0), (4, .int .i64 ((m : Int) - 1))], [(1, ⟨[[.int .i64 a, .int .i64 b, .int .i64 c, .str p, .str q]], 5, 68, true⟩), (2, ⟨[[.int .i64 0, .int .i64 0, .int .i64 0, .str [], .str []]], 5, 68, true⟩)]⟩) (fun m => m <= 3 /\ XN a b c p q 3 = XN a b c p q m) (fun m => m) 3 ?_ ?_ ?_
   ·exact Q2 (l := [1, 2, 4]) (lH := [1, 2]) (kp3 rfl rfl rfl) (Qf rfl (Qf rfl Qn)) rfl rfl rfl
   ·exact ⟨by omega, rfl⟩
   intro m hI
   obtain ⟨hI1, hI2⟩ := hI
   try dsimp only
   refine QD ?_ -- 3
   refine Qe fun K hK => Qa rfl (Qdx rfl rfl ?_)
   refine hK _ _ (Qb (kp4 rfl rfl rfl rfl) ?_)
   refine Qw rfl (fun h3 => ?_) (fun h3 => ?_)
   ·try rw [h3]
    try simp only [qa, qb, qc, qd, qe] at h3
    rcases Nat.eq_zero_or_pos m with hm | hm <;> first | omega | skip
    refine Qv (Qd (kp3 rfl rfl rfl) ?_)
    refine QD ?_ -- 4
    refine Qz (Qe fun K hK => QG (cs := [_, _, _, _, _]) rfl rfl rfl rfl (Qa rfl (QF (Qdm (by omega) (by omega)) rfl rfl (.inl rfl) (Qa rfl (Za rfl rfl (Za rfl rfl (ZK rfl (Q7 rfl rfl rfl rfl rfl rfl rfl rfl (Qa rfl ?_)))))))))
    refine hK _ _ (Qb (kp5 rfl rfl rfl rfl rfl) ?_)
    refine Qe fun K hK => Qa rfl ?_
    refine hK _ _ (Qb (kp5 rfl rfl rfl rfl rfl) ?_)
    refine Qw rfl (fun h4 => ?_) (fun h4 => ?_)
    ·try rw [h4]
     try simp only [qa, qb, qc, qd, qe] at h4
     refine Qe fun K hK => QG (cs := [_, _, _, _, _]) rfl rfl rfl rfl (Q7 rfl rfl rfl rfl rfl rfl rfl rfl (Qa rfl ?_))
     refine hK _ _ (Qb (kp2 rfl rfl) ?_)
     refine Qu (Qt (Qj (Q4 (Qt (Qj (Post.eq (XL (ds := [.int .i64 _, .int .i64 _, .int .i64 _, .str _, .str _]) (d' := .bool _) (cs := [_, _, _, _, _]) rfl rfl rfl rfl rfl ⟨rfl, rfl⟩) ?_))))))
     subst h2
     simp [Qi7, dOV, h1, hI2, QiG hm h4, h4]
    ·try rw [h4]
     try simp only [qa, qb, qc, qd, qe] at h4
     refine Qv (Qh (Qd (kp3 rfl rfl rfl) (QN fun K hK => Qa rfl (X2 rfl rfl (by first | exact Qr (by omega) (by omega) | rfl) (Qa rfl (hK _ ?_))))))
     refine Qk (m - 1) ?_ ?_ ?_
     ·refine Q2 (l := [1, 2, 4]) (lH := [1, 2]) (kp3 rfl rfl rfl) (Qf rfl (Qf rfl Qn)) ?_ rfl rfl; simp only [List.cons.injEq, Prod.mk.injEq, D.int.injEq, and_true, true_and]; omega
     ·exact ⟨by omega, by rw [hI2]; exact QjV hm h4⟩
     ·show m - 1 < m; omega
   ·try rw [h3]
    try simp only [qa, qb, qc, qd, qe] at h3
    rcases Nat.eq_zero_or_pos m with hm | hm <;> first | omega | skip
    refine Zh (QL (Qx (QE (Qd (kp1 rfl) (Qe fun K hK => QU rfl rfl (Q7 rfl rfl rfl rfl rfl rfl rfl rfl (Qa rfl ?_)))))))
    refine hK _ _ (Qb (kp2 rfl rfl) ?_)
    refine Qu (Post.eq (XL (ds := [.int .i64 _, .int .i64 _, .int .i64 _, .str _, .str _]) (d' := .bool _) (cs := [_, _, _, _, _]) rfl rfl rfl rfl rfl ⟨rfl, rfl⟩) ?_)
    subst h2
    subst hm
    have hb : XN a b c [] q 3 = none := hI2
    simp [Qi7, dOV, h1, hb]
end Go.Proofs
namespace Go.Proofs
open Go Go.Abs M3 M25
set_option linter.unusedVariables false
set_option linter.unusedSimpArgs false
theorem Qaa {e a b c : Int} {p q : List UInt8} {f : Bool} : Ok Tryz.prog 117 [.agg [.int .i64 e, .int .i64 a, .int .i64 b, .int .i64 c, .str p, .str q, .bool f]] (.bool (Qhb e a b c p q f)) := by
 refine Ok.ofT ZQ Tryz.func117 Qsw (Nat.le_of_ble_eq_true rfl) ?_
 show TW _ _ tf117.body _ _
 refine Qe fun K hK => Zo rfl rfl rfl (Qa rfl ?_)
 refine hK _ _ (Qb (kp1 rfl) ?_)
 refine Qe fun K hK => Qi rfl rfl (QC rfl rfl rfl (XJ rfl rfl (Qa rfl ?_)))
 refine QB (g := 6) rfl (fun h1 => ?_) (fun h1 => ?_)
 ·try rw [h1]
  try simp only [qa, qb, qc, qd, qe] at h1
  refine Qq rfl (Qq rfl (Qq rfl (Qq rfl (ZF rfl (ZF rfl (ZF rfl (ZF rfl (Qq rfl (Qq rfl (ZF rfl (ZF rfl ?_)))))))))))
  refine ZF rfl (ZF rfl (Qq rfl (Ql rfl rfl (Qa rfl ?_))))
  refine hK _ _ (Qb (kp1 rfl) ?_)
  refine Qu (Qs rfl ?_)
  simp_all [Qhb]
 ·try rw [h1]
  try simp only [qa, qb, qc, qd, qe] at h1
  refine Qg rfl (Qi rfl rfl (Qg rfl (QC rfl rfl rfl (Qg rfl (Ye rfl (Qg rfl (Qa rfl ?_)))))))
  refine QB (g := 10) rfl (fun h2 => ?_) (fun h2 => ?_)
  ·try rw [h2]
   try simp only [qa, qb, qc, qd, qe] at h2
   refine Qg rfl (Qi rfl rfl (Qg rfl (Qi rfl rfl (Qg rfl (QC rfl rfl rfl (Qg rfl (Qfy rfl rfl (Qg rfl (Ql rfl rfl (Qg rfl (Qa rfl ?_)))))))))))
   refine QB (g := 16) rfl (fun h3 => ?_) (fun h3 => ?_)
   ·try rw [h3]
    try simp only [qa, qb, qc, qd, qe] at h3
    refine Qg rfl (Qi rfl rfl (Qg rfl (QG (cs := [_, _, _, _, _]) rfl rfl rfl rfl (Qg rfl (QF (X9) rfl rfl (.inr rfl) (Qg rfl (Ye rfl (Qg rfl (Ql rfl rfl (Ql rfl rfl (Qa rfl ?_)))))))))))
    refine hK _ _ (Qb (kp1 rfl) ?_)
    refine Qu (Qs rfl ?_)
    simp_all [Qhb]
   ·try rw [h3]
    try simp only [qa, qb, qc, qd, qe] at h3
    refine Qq rfl (Qq rfl (Qq rfl (Qq rfl (Qg rfl (Ql rfl rfl (Ql rfl rfl (Qa rfl ?_)))))))
    refine hK _ _ (Qb (kp1 rfl) ?_)
    refine Qu (Qs rfl ?_)
    simp_all [Qhb]
  ·try rw [h2]
   try simp only [qa, qb, qc, qd, qe] at h2
   refine Qq rfl (Qq rfl (Qq rfl (Qq rfl (Qg rfl (Ql rfl rfl (Qg rfl (Qa rfl (Qq rfl (Qq rfl (Qq rfl (Qq rfl ?_)))))))))))
   refine Qg rfl (Ql rfl rfl (Ql rfl rfl (Qa rfl ?_)))
   refine hK _ _ (Qb (kp1 rfl) ?_)
   refine Qu (Qs rfl ?_)
   simp_all [Qhb]
theorem Qc7 {a b c : Int} {p q : List UInt8} : Ok Tryz.prog 71 [.agg [.int .i64 a, .int .i64 b, .int .i64 c, .str p, .str q]] (.agg (dCu (Qga a b c))) := by
 refine Ok.ofT ZQ Tryz.func71 QtO (Nat.le_of_ble_eq_true rfl) ?_
 show TW _ _ tf71.body _ _
 refine Qe fun K hK => Zo rfl rfl rfl (ZK rfl ?_)
 refine hK _ _ (Qb (kp2 rfl rfl) ?_)
 refine QD ?_ -- 0
 refine Qe fun K hK => QG (cs := [_, _, _, _, _]) rfl rfl rfl rfl (QF (X9) rfl rfl (.inr rfl) ?_)
 refine hK _ _ (Qb (kp3 rfl rfl rfl) ?_)
 refine Qw rfl (fun h1 => ?_) (fun h1 => ?_)
 ·try rw [h1]
  try simp only [qa, qb, qc, qd, qe] at h1
  refine Qe fun K hK => QF (Y2) rfl rfl (.inl rfl) (Q7 rfl rfl rfl rfl rfl rfl rfl rfl ?_)
  refine hK _ _ (Qb (kp1 rfl) ?_)
  refine Qu (Qj (Post.eq (ZH (ds := [.int .i64 _, .int .i64 _, .int .i64 _, .int .i64 _, .str _, .str _, .bool _]) (cs := [_, _, _, _, _, _, _]) rfl rfl rfl rfl rfl) ?_))
  simp [Qga, dCu, Qda, h1]
 ·try rw [h1]
  try simp only [qa, qb, qc, qd, qe] at h1
  refine Qv (Qd (kp2 rfl rfl) (Qe fun K hK => Qi rfl rfl (QC rfl rfl rfl (Qi rfl rfl (QC rfl rfl rfl (Qi rfl rfl (QC rfl rfl rfl (QU rfl rfl (QF (YR) rfl rfl (.inl rfl) (Q7 rfl rfl rfl rfl rfl rfl rfl rfl ?_))))))))))
  refine hK _ _ (Qb (kp1 rfl) ?_)
  refine Qu (Post.eq (ZH (ds := [.int .i64 _, .int .i64 _, .int .i64 _, .int .i64 _, .str _, .str _, .bool _]) (cs := [_, _, _, _, _, _, _]) rfl rfl rfl rfl rfl) ?_)
  simp [Qga, dCu, Qda, h1]
theorem Qcb {a b c : Int} {p q : List UInt8} : Ok Tryz.prog 72 [.agg [.int .i64 a, .int .i64 b, .int .i64 c, .str p, .str q]] (.agg (dCu (Qd0 a b c))) := by
 refine Ok.ofT ZQ Tryz.func72 QtP (Nat.le_of_ble_eq_true rfl) ?_
 show TW _ _ tf72.body _ _
 refine Qe fun K hK => Zo rfl rfl rfl (ZK rfl ?_)
 refine hK _ _ (Qb (kp2 rfl rfl) ?_)
 refine Qe fun K hK => Qi rfl rfl (QC rfl rfl rfl (Qi rfl rfl (QC rfl rfl rfl (Qi rfl rfl (QC rfl rfl rfl (QU rfl rfl (QF (Qdn (by simp) (by simp)) rfl rfl (.inl rfl) (Qa rfl (Za rfl rfl (Za rfl rfl ?_))))))))))
 refine ZK rfl (Q7 rfl rfl rfl rfl rfl rfl rfl rfl (Qa rfl ?_))
 refine hK _ _ (Qb (kp3 rfl rfl rfl) ?_)
 refine QD ?_ -- 0
 refine Qe fun K hK => Qa rfl (Ye rfl ?_)
 refine hK _ _ (Qb (kp3 rfl rfl rfl) ?_)
 refine Qw rfl (fun h1 => ?_) (fun h1 => ?_)
 ·try rw [h1]
  try simp only [qa, qb, qc, qd, qe] at h1
  refine Qe fun K hK => QF (Xe) rfl rfl (.inl rfl) (Q7 rfl rfl rfl rfl rfl rfl rfl rfl ?_)
  refine hK _ _ (Qb (kp1 rfl) ?_)
  refine Qu (Qj (Post.eq (ZH (ds := [.int .i64 _, .int .i64 _, .int .i64 _, .int .i64 _, .str _, .str _, .bool _]) (cs := [_, _, _, _, _, _, _]) rfl rfl rfl rfl rfl) ?_))
  cases hn : Qi7 a b c [] [] <;> simp [Qd0, dCu, QgF, hn] at *
 ·try rw [h1]
  try simp only [qa, qb, qc, qd, qe] at h1
  refine Qv (Qd (kp2 rfl rfl) (Qe fun K hK => QG (cs := [_, _, _, _, _]) rfl rfl rfl rfl (QF (YR) rfl rfl (.inl rfl) (Q7 rfl rfl rfl rfl rfl rfl rfl rfl ?_))))
  refine hK _ _ (Qb (kp1 rfl) ?_)
  refine Qu (Post.eq (ZH (ds := [.int .i64 _, .int .i64 _, .int .i64 _, .int .i64 _, .str _, .str _, .bool _]) (cs := [_, _, _, _, _, _, _]) rfl rfl rfl rfl rfl) ?_)
  cases hn : Qi7 a b c [] [] <;> simp [Qd0, dCu, QgF, hn] at *
theorem Qab  : Ok Tryz.prog 112 [] (ZJ [(Qda, QgF)]) := by
 refine Ok.ofT ZQ Tryz.func112 Qsr (Nat.le_of_ble_eq_true rfl) ?_
 show TW _ _ tf112.body _ _
 refine Qe fun K hK => Qa rfl ?_
 refine hK _ _ (Qb (Q0) ?_)
 refine Qe fun K hK => QF (Y2) rfl rfl (.inl rfl) (QF (Xe) rfl rfl (.inl rfl) (QU rfl rfl (QH rfl rfl (Qa rfl ?_))))
 refine hK _ _ (Qb (kp1 rfl) ?_)
 refine Qu (Yk rfl ?_)
 rfl
theorem Yd  : Ok Tryz.prog 68 [] (QhF ([], [])) := by
 refine Ok.ofT ZQ Tryz.func68 QtL (Nat.le_of_ble_eq_true rfl) ?_
 show TW _ _ tf68.body _ _
 refine Qe fun K hK => ZK rfl ?_
 refine hK _ _ (Qb (kp1 rfl) ?_)
 refine Qe fun K hK => QU rfl rfl (Q7 rfl rfl rfl rfl rfl rfl rfl rfl ?_)
 refine hK _ _ (Qb (kp1 rfl) ?_)
 refine Qu (Post.eq (ZH (ds := [.sl _, .sl _]) (cs := [_, _]) rfl rfl rfl rfl rfl) ?_)
 rfl
theorem QdJ  : Ok Tryz.prog 98 [] (QhF ([(Qda, QgF)], [(Qda, QgF)])) := by
 refine Ok.ofT ZQ Tryz.func98 Qud (Nat.le_of_ble_eq_true rfl) ?_
 show TW _ _ tf98.body _ _
 refine Qe fun K hK => ZK rfl ?_
 refine hK _ _ (Qb (kp1 rfl) ?_)
 refine Qe fun K hK => QF (Qab) rfl rfl (.inl rfl) (QF (Qab) rfl rfl (.inl rfl) (QU rfl rfl (Q7 rfl rfl rfl rfl rfl rfl rfl rfl ?_)))
 refine hK _ _ (Qb (kp1 rfl) ?_)
 refine Qu (Post.eq (ZH (ds := [.sl _, .sl _]) (cs := [_, _]) rfl rfl rfl rfl rfl) ?_)
 rfl
theorem X8 {a b c : Int} {p q : List UInt8} (hp : p.length <= 1000000) (hq : q.length <= 1000000) : Ok Tryz.prog 41 [.agg [.int .i64 a, .int .i64 b, .int .i64 c, .str p, .str q]] (QhF (Xi a b c p q)) := by
 refine Ok.ofT ZQ Tryz.func41 Qtn (Nat.le_of_ble_eq_true rfl) ?_
 show TW _ _ tf41.body _ _
 refine Qe fun K hK => Zo rfl rfl rfl (ZK rfl ?_)
 refine hK _ _ (Qb (kp2 rfl rfl) ?_)
 refine QD ?_ -- 0
 refine Qe fun K hK => QG (cs := [_, _, _, _, _]) rfl rfl rfl rfl (QF (Zi (by omega) (by omega)) rfl rfl (.inr rfl) (Ye rfl ?_))
 refine hK _ _ (Qb (kp3 rfl rfl rfl) ?_)
 refine Qw rfl (fun h1 => ?_) (fun h1 => ?_)
 ·try rw [h1]
  try simp only [qa, qb, qc, qd, qe] at h1
  refine Qe fun K hK => QF (Yd) rfl rfl (.inl rfl) (Q7 rfl rfl rfl rfl rfl rfl rfl rfl ?_)
  refine hK _ _ (Qb (kp1 rfl) ?_)
  refine Qu (Qj (Post.eq (ZH (ds := [.sl _, .sl _]) (cs := [_, _]) rfl rfl rfl rfl rfl) ?_))
  simp [Xi, QhF, ZJ, Qe6, dCu, h1]
 ·try rw [h1]
  try simp only [qa, qb, qc, qd, qe] at h1
  refine Qv (Qd (kp2 rfl rfl) ?_)
  refine QD ?_ -- 1
  refine Qe fun K hK => Qi rfl rfl (QC rfl rfl rfl (Qn5 rfl rfl ?_))
  refine hK _ _ (Qb (kp3 rfl rfl rfl) ?_)
  refine Qw rfl (fun h2 => ?_) (fun h2 => ?_)
  ·try rw [h2]
   try simp only [qa, qb, qc, qd, qe] at h2
   refine Qe fun K hK => QO (ds0 := [6, 3, 2, 1, 0]) (cs := [_, _, _, _, _]) rfl rfl rfl rfl rfl rfl (QS (ds0 := [3, 2, 1, 0]) (YR) rfl rfl (.inl rfl) rfl rfl (QO (ds0 := [4, 3, 2, 1, 0]) (cs := [_, _, _, _, _]) rfl rfl rfl rfl rfl rfl (QS (ds0 := [3, 2, 1, 0]) (Qca) rfl rfl (.inl rfl) rfl rfl (QU rfl rfl (QH rfl rfl (QU rfl rfl (Xn (ds0 := []) rfl rfl rfl rfl rfl rfl rfl rfl rfl rfl ?_)))))))
   refine hK _ _ (Qb (kp1 rfl) ?_)
   refine Qu (Qj (Post.eq (ZH (ds := [.sl _, .sl _]) (cs := [_, _]) rfl rfl rfl rfl rfl) ?_))
   simp [Xi, QhF, ZJ, Qe6, dCu, h1, h2]
  ·try rw [h2]
   try simp only [qa, qb, qc, qd, qe] at h2
   refine Qv (Qd (kp2 rfl rfl) (Qe fun K hK => QO (ds0 := [6, 3, 2, 1, 0]) (cs := [_, _, _, _, _]) rfl rfl rfl rfl rfl rfl (QS (ds0 := [3, 2, 1, 0]) (Qc7) rfl rfl (.inl rfl) rfl rfl (QO (ds0 := [4, 3, 2, 1, 0]) (cs := [_, _, _, _, _]) rfl rfl rfl rfl rfl rfl (QS (ds0 := [3, 2, 1, 0]) (Qcb) rfl rfl (.inl rfl) rfl rfl (QU rfl rfl (QH rfl rfl (QU rfl rfl (Xn (ds0 := []) rfl rfl rfl rfl rfl rfl rfl rfl rfl rfl ?_)))))))))
   refine hK _ _ (Qb (kp1 rfl) ?_)
   refine Qu (Post.eq (ZH (ds := [.sl _, .sl _]) (cs := [_, _]) rfl rfl rfl rfl rfl) ?_)
   subst h2
   simp [Xi, QhF, ZJ, Qe6, dCu, h1]
end Go.Proofs
namespace Go.Proofs
open Go Go.Abs M3 M25
set_option linter.unusedVariables false
set_option linter.unusedSimpArgs false
theorem ZY {l : List (Cu × Cu)} (hl : Sm l) : Ok Tryz.prog 116 [ZJ l] (.bool (QeH l)) := by
 refine Ok.ofT ZQ Tryz.func116 Qsv (Nat.le_of_ble_eq_true rfl) ?_
 show TW _ _ tf116.body _ _
 have hn := hl.1
 refine Qe fun K hK => Qa rfl ?_
 refine hK _ _ (Qb (kp1 rfl) ?_)
 refine QD ?_ -- 0
 refine Qe fun K hK => Qa rfl ?_
 refine hK _ _ (Qb (kp2 rfl rfl) ?_)
 refine Qz ?_
 refine Zm (ι := Nat) (fun i => ⟨[(0, ZJ l), (3, .int .i64 i)], []⟩) (fun i => i <= l.length /\ (List.range i).all (QqR l) = true) (fun i => l.length - i) 0 ?_ ?_ ?_
 ·exact Zf (kp2 rfl rfl)
 ·exact ⟨Nat.zero_le _, rfl⟩
 intro i hI
 try dsimp only
 refine QD ?_ -- 1
 refine Qe fun K hK => Qa rfl (Qa rfl (QR rfl rfl (Yb rfl rfl ?_)))
 refine hK _ _ (Qb (kp3 rfl rfl rfl) ?_)
 refine Qw rfl (fun h1 => ?_) (fun h1 => ?_)
 ·try rw [h1]
  try simp only [qa, qb, qc, qd, qe, List.length_map] at h1
  refine Qv (Qd (kp2 rfl rfl) ?_)
  refine QD ?_ -- 2
  refine Qz (Qe fun K hK => Qa rfl (Qa rfl (QJ rfl rfl rfl (by omega) (QT (by omega)) rfl (QO (ds0 := [20, 19, 18, 17, 16, 15, 14, 13, 12, 11, 10, 9, 8, 7, 6, 5, 4, 3, 2, 1, 0]) (cs := [_, _, _, _, _, _, _, _, _, _, _, _, _, _]) rfl rfl rfl rfl rfl rfl (QS (ds0 := [19, 18, 17, 16, 15, 14, 13, 12, 11, 10, 9, 8, 7, 6, 5, 4, 3, 2, 1, 0]) (YK (hl.at (i := i) (by omega)).1.1 (hl.at (i := i) (by omega)).1.2 (hl.at (i := i) (by omega)).2.1 (hl.at (i := i) (by omega)).2.2) rfl rfl (.inr rfl) rfl rfl (Ye rfl (Qa rfl ?_)))))))
  refine QB (g := 16) rfl (fun h2 => ?_) (fun h2 => ?_)
  ·try rw [h2]
   try simp only [qa, qb, qc, qd, qe, List.length_map] at h2
   refine Qq rfl (Qq rfl (Qq rfl (ZF rfl (ZF rfl (ZF rfl (ZF rfl (ZF rfl (ZF rfl (ZF rfl (ZF rfl (ZF rfl ?_)))))))))))
   refine ZF rfl (ZF rfl (ZF rfl (ZF rfl (Qq rfl (Ql rfl rfl ?_)))))
   refine hK _ _ (Qb (kp3 rfl rfl rfl) ?_)
   refine Zl rfl (Qe fun K hK => Qa rfl ?_)
   refine hK _ _ (Qb (kp1 rfl) ?_)
   refine Qu (Qt (Qj (Q4 (Qt (Qj (Qs rfl ?_))))))
   first
    | exact (Qfs hI.2 (by omega)).symm
    | exact (QbL (i := i) (by omega) (Qhh (by omega) (.inl h2))).symm
    | (simp only [Qec] at *; exact (QbL (i := i) (by omega) (Qhh (by omega) (.inr ⟨by omega, h4⟩))).symm)
  ·try rw [h2]
   try simp only [qa, qb, qc, qd, qe, List.length_map] at h2
   refine Qg rfl (Qa rfl (Qg rfl (Qhv rfl rfl (Qg rfl (Qa rfl ?_)))))
   refine QB (g := 19) rfl (fun h3 => ?_) (fun h3 => ?_)
   ·try rw [h3]
    try simp only [qa, qb, qc, qd, qe, List.length_map] at h3
    refine Qg rfl (Qa rfl (Qg rfl (Qa rfl (Qg rfl (X2 rfl rfl (by first | exact Qr (by omega) (by omega) | rfl) (Qg rfl (QJ rfl rfl rfl (by omega) (ZA (by omega) (by omega)) rfl (Qg rfl (Q6 rfl rfl (Qg rfl (QO (ds0 := [3, 2, 1, 0]) (cs := [_, _, _, _, _, _, _]) rfl rfl rfl rfl rfl rfl ?_)))))))))))
    refine Qg rfl (Qa rfl (Qg rfl (Qa rfl (Qg rfl (QJ rfl rfl rfl (by omega) (QT (by omega)) rfl (Qg rfl (Q6 rfl rfl (Qg rfl (QO (ds0 := [3, 2, 1, 0]) (cs := [_, _, _, _, _, _, _]) rfl rfl rfl rfl rfl rfl (Qg rfl (QS (ds0 := [2, 1, 0]) (Zz (hl.at (i := ((i : Int) - 1).toNat) (by omega)).2.1 (hl.at (i := ((i : Int) - 1).toNat) (by omega)).2.2 (hl.at (i := i) (by omega)).1.1 (hl.at (i := i) (by omega)).1.2) rfl rfl (.inr rfl) rfl rfl ?_)))))))))))
    refine Qg rfl (Qdx rfl rfl (Qg rfl (Ql rfl rfl (Ql rfl rfl ?_))))
    refine hK _ _ (Qb (kp3 rfl rfl rfl) ?_)
    refine Qw rfl (fun h4 => ?_) (fun h4 => ?_)
    ·try rw [h4]
     try simp only [qa, qb, qc, qd, qe, List.length_map] at h4
     refine Qe fun K hK => Qa rfl ?_
     refine hK _ _ (Qb (kp1 rfl) ?_)
     refine Qu (Qt (Qj (Q4 (Qt (Qj (Qs rfl ?_))))))
     first
      | exact (Qfs hI.2 (by omega)).symm
      | exact (QbL (i := i) (by omega) (Qhh (by omega) (.inl h2))).symm
      | (simp only [Qec] at *; exact (QbL (i := i) (by omega) (Qhh (by omega) (.inr ⟨by omega, h4⟩))).symm)
    ·try rw [h4]
     try simp only [qa, qb, qc, qd, qe, List.length_map] at h4
     refine Qv (Qh (Qd (kp2 rfl rfl) (QN fun K hK => Qa rfl (QY rfl rfl (by first | exact Qr (by omega) (by omega) | rfl) (Qa rfl (hK _ ?_))))))
     refine Qk (i + 1) ?_ ?_ ?_
     ·exact Zf (kp2 rfl rfl)
     ·exact ⟨by omega, Qii hI.2 (QpG (by omega) h2 (by first | exact .inl (by omega) | (simp only [Qec] at *; exact .inr (Int.not_le.1 h4))))⟩
     ·first | omega | (simp only; omega) | (dsimp only; omega)
   ·try rw [h3]
    try simp only [qa, qb, qc, qd, qe, List.length_map] at h3
    refine Qq rfl (Qq rfl (Qq rfl (Qq rfl (Qq rfl (Qq rfl (Qq rfl (Qq rfl (Qq rfl (Qq rfl (Qq rfl (Qq rfl ?_)))))))))))
    refine Qq rfl (Qg rfl (Ql rfl rfl (Ql rfl rfl ?_)))
    refine hK _ _ (Qb (kp3 rfl rfl rfl) ?_)
    refine ZM rfl (Qv (Qh (Qd (kp2 rfl rfl) (QN fun K hK => Qa rfl (QY rfl rfl (by first | exact Qr (by omega) (by omega) | rfl) (Qa rfl (hK _ ?_)))))))
    refine Qk (i + 1) ?_ ?_ ?_
    ·exact Zf (kp2 rfl rfl)
    ·exact ⟨by omega, Qii hI.2 (QpG (by omega) h2 (by first | exact .inl (by omega) | (simp only [Qec] at *; exact .inr (Int.not_le.1 h4))))⟩
    ·first | omega | (simp only; omega) | (dsimp only; omega)
 ·try rw [h1]
  try simp only [qa, qb, qc, qd, qe, List.length_map] at h1
  refine Zh (QL (Qx (QE (Qd (Q0) (Qe fun K hK => Qa rfl ?_)))))
  refine hK _ _ (Qb (kp1 rfl) ?_)
  refine Qu (Qs rfl ?_)
  first
   | exact (Qfs hI.2 (by omega)).symm
   | exact (QbL (i := i) (by omega) (Qhh (by omega) (.inl h2))).symm
   | (simp only [Qec] at *; exact (QbL (i := i) (by omega) (Qhh (by omega) (.inr ⟨by omega, h4⟩))).symm)
theorem Qbb {l : List (Cu × Cu)} (hl : Sm l) {x y : Cu} (hx : Cu.sm x) (hy : Cu.sm y) : Ok Tryz.prog 120 [ZJ l, .agg (dCu x), .agg (dCu y)] (.bool (mIn l x y)) := by
 refine Ok.ofT ZQ Tryz.func120 Qsz (Nat.le_of_ble_eq_true rfl) ?_
 show TW _ _ tf120.body _ _
 have hn := hl.1
 refine Qe fun K hK => Zo rfl rfl rfl (Zo rfl rfl rfl (Qa rfl ?_))
 refine hK _ _ (Qb (kp3 rfl rfl rfl) ?_)
 refine QD ?_ -- 0
 refine Qe fun K hK => Qa rfl ?_
 refine hK _ _ (Qb (kp4 rfl rfl rfl rfl) ?_)
 refine Qz ?_
 refine Zm (ι := Nat) (fun i => ⟨[(0, ZJ l), (4, .ref 4 0 0), (5, .ref 5 0 0), (7, .int .i64 i)], [(4, ⟨[dCu x], 7, 112, true⟩), (5, ⟨[dCu y], 7, 112, true⟩)]⟩) (fun i => i <= l.length /\ (l.take i).any (inC x y) = false) (fun i => l.length - i) 0 ?_ ?_ ?_
 ·exact Q2 (l := [0, 4, 5, 7]) (lH := [4, 5]) (kp4 rfl rfl rfl rfl) (Qf rfl (Qf rfl Qn)) rfl rfl rfl
 ·exact ⟨Nat.zero_le _, by simp⟩
 intro i hI
 try dsimp only
 refine QD ?_ -- 1
 refine Qe fun K hK => Qa rfl (Qa rfl (QR rfl rfl (Yb rfl rfl ?_)))
 refine hK _ _ (Qb (kp5 rfl rfl rfl rfl rfl) ?_)
 refine Qw rfl (fun h1 => ?_) (fun h1 => ?_)
 ·try rw [h1]
  try simp only [qa, qb, qc, qd, qe, List.length_map] at h1
  refine Qv (Qd (kp4 rfl rfl rfl rfl) ?_)
  refine QD ?_ -- 2
  refine Qz (Qe fun K hK => Qa rfl (Qa rfl (QJ rfl rfl rfl (by omega) (QT (by omega)) rfl (Q6 rfl rfl (QO (ds0 := [11, 10, 9, 8, 7, 6, 5, 4, 3, 2, 1, 0]) (cs := [_, _, _, _, _, _, _]) rfl rfl rfl rfl rfl rfl (QO (ds0 := [11, 10, 9, 8, 7, 6, 5, 4, 3, 2, 1, 0]) (cs := [_, _, _, _, _, _, _]) rfl rfl rfl rfl rfl rfl (QS (ds0 := [10, 9, 8, 7, 6, 5, 4, 3, 2, 1, 0]) (Zz (hl.at (i := i) (by omega)).1.1 (hl.at (i := i) (by omega)).1.2 hx.1 hx.2) rfl rfl (.inr rfl) rfl rfl (Qpk rfl rfl (Qa rfl ?_)))))))))
  refine QB (g := 22) rfl (fun h2 => ?_) (fun h2 => ?_)
  ·try rw [h2]
   try simp only [qa, qb, qc, qd, qe, List.length_map] at h2
   refine Qg rfl (QO (ds0 := [2, 1, 0]) (cs := [_, _, _, _, _, _, _]) rfl rfl rfl rfl rfl rfl (Qg rfl (Qa rfl (Qg rfl (Qa rfl (Qg rfl (QJ rfl rfl rfl (by omega) (QT (by omega)) rfl (Qg rfl (Q6 rfl rfl (Qg rfl (QO (ds0 := [2, 1, 0]) (cs := [_, _, _, _, _, _, _]) rfl rfl rfl rfl rfl rfl ?_)))))))))))
   refine Qg rfl (QS (ds0 := [1, 0]) (Zz hy.1 hy.2 (hl.at (i := i) (by omega)).2.1 (hl.at (i := i) (by omega)).2.2) rfl rfl (.inr rfl) rfl rfl (Qg rfl (Qpk rfl rfl (Ql rfl rfl ?_))))
   refine hK _ _ (Qb (kp5 rfl rfl rfl rfl rfl) ?_)
   refine Qw rfl (fun h3 => ?_) (fun h3 => ?_)
   ·try rw [h3]
    try simp only [qa, qb, qc, qd, qe, List.length_map] at h3
    refine Qe fun K hK => Qa rfl ?_
    refine hK _ _ (Qb (kp1 rfl) ?_)
    refine Qu (Qt (Qj (Q4 (Qt (Qj (Qs rfl ?_))))))
    first
     | exact (Qmm (i := i) (by omega) hI.2).symm
     | exact (Qhw (i := i) (by omega) (Qrl h2 h3)).symm
   ·try rw [h3]
    try simp only [qa, qb, qc, qd, qe, List.length_map] at h3
    refine Qv (Qh (Qd (kp4 rfl rfl rfl rfl) (QN fun K hK => Qa rfl (QY rfl rfl (by first | exact Qr (by omega) (by omega) | rfl) (Qa rfl (hK _ ?_))))))
    refine Qk (i + 1) ?_ ?_ ?_
    ·exact Q2 (l := [0, 4, 5, 7]) (lH := [4, 5]) (kp4 rfl rfl rfl rfl) (Qf rfl (Qf rfl Qn)) rfl rfl rfl
    ·exact ⟨by omega, QfD (by omega) hI.2 (Qrk (by first | exact .inl h2 | exact .inr h3))⟩
    ·first | omega | (simp only; omega) | (dsimp only; omega)
  ·try rw [h2]
   try simp only [qa, qb, qc, qd, qe, List.length_map] at h2
   refine Qq rfl (Qq rfl (Qq rfl (Qq rfl (Qq rfl (Qq rfl (Qq rfl (Qq rfl (Ql rfl rfl ?_))))))))
   refine hK _ _ (Qb (kp5 rfl rfl rfl rfl rfl) ?_)
   refine ZM rfl (Qv (Qh (Qd (kp4 rfl rfl rfl rfl) (QN fun K hK => Qa rfl (QY rfl rfl (by first | exact Qr (by omega) (by omega) | rfl) (Qa rfl (hK _ ?_)))))))
   refine Qk (i + 1) ?_ ?_ ?_
   ·exact Q2 (l := [0, 4, 5, 7]) (lH := [4, 5]) (kp4 rfl rfl rfl rfl) (Qf rfl (Qf rfl Qn)) rfl rfl rfl
   ·exact ⟨by omega, QfD (by omega) hI.2 (Qrk (by first | exact .inl h2 | exact .inr h3))⟩
   ·first | omega | (simp only; omega) | (dsimp only; omega)
 ·try rw [h1]
  try simp only [qa, qb, qc, qd, qe, List.length_map] at h1
  refine Zh (QL (Qx (QE (Qd (Q0) (Qe fun K hK => Qa rfl ?_)))))
  refine hK _ _ (Qb (kp1 rfl) ?_)
  refine Qu (Qs rfl ?_)
  first
   | exact (Qmm (i := i) (by omega) hI.2).symm
   | exact (Qhw (i := i) (by omega) (Qrl h2 h3)).symm
end Go.Proofs
namespace Go.Proofs
open Go Go.Abs M3 M25
set_option linter.unusedVariables false
set_option linter.unusedSimpArgs false
theorem QaI {l : List (Cu × Cu)} (hl : Sm l) {a b c : Int} {p q : List UInt8} (hp : p.length <= 1000000) (hq : q.length <= 1000000) : Ok Tryz.prog 122 [ZJ l, .agg [.int .i64 a, .int .i64 b, .int .i64 c, .str p, .str q]] (.bool (Qh7 l a b c p q)) := by
 refine Ok.ofT ZQ Tryz.func122 QsB (Nat.le_of_ble_eq_true rfl) ?_
 show TW _ _ tf122.body _ _
 have hn := hl.1
 refine Qe fun K hK => Zo rfl rfl rfl (Qa rfl ?_)
 refine hK _ _ (Qb (kp2 rfl rfl) ?_)
 refine QD ?_ -- 0
 refine Qe fun K hK => Qa rfl ?_
 refine hK _ _ (Qb (kp3 rfl rfl rfl) ?_)
 refine Qz ?_
 refine Zm (ι := Nat) (fun i => ⟨[(0, ZJ l), (3, .ref 3 0 0), (5, .int .i64 i)], [(3, ⟨[[.int .i64 a, .int .i64 b, .int .i64 c, .str p, .str q]], 5, 68, true⟩)]⟩) (fun i => i <= l.length /\ (l.take i).any (fun s => Qh8 s a b c p q) = false) (fun i => l.length - i) 0 ?_ ?_ ?_
 ·exact Q2 (l := [0, 3, 5]) (lH := [3]) (kp3 rfl rfl rfl) (Qf rfl Qn) rfl rfl rfl
 ·exact ⟨Nat.zero_le _, by simp⟩
 intro i hI
 try dsimp only
 refine QD ?_ -- 1
 refine Qe fun K hK => Qa rfl (Qa rfl (QR rfl rfl (Yb rfl rfl (Qa rfl ?_))))
 refine QB (g := 10) rfl (fun h1 => ?_) (fun h1 => ?_)
 ·try rw [h1]
  try simp only [qa, qb, qc, qd, qe, List.length_map] at h1
  refine Qg rfl (Qa rfl (Qg rfl (QF (ZY hl) rfl rfl (.inr rfl) (Ql rfl rfl ?_))))
  refine hK _ _ (Qb (kp4 rfl rfl rfl rfl) ?_)
  refine Qw rfl (fun h2 => ?_) (fun h2 => ?_)
  ·try rw [h2]
   try simp only [qa, qb, qc, qd, qe, List.length_map] at h2
   refine Qv (Qd (kp3 rfl rfl rfl) ?_)
   refine QD ?_ -- 2
   refine Qz (Qe fun K hK => Qa rfl (Qa rfl (QJ rfl rfl rfl (by omega) (QT (by omega)) rfl (QO (ds0 := [0]) (cs := [_, _, _, _, _, _, _, _, _, _, _, _, _, _]) rfl rfl rfl rfl rfl rfl (QO (ds0 := [0]) (cs := [_, _, _, _, _]) rfl rfl rfl rfl rfl rfl (QS (ds0 := []) (Qc6 (hl.at (i := i) (by omega)).1.1 (hl.at (i := i) (by omega)).1.2 (hl.at (i := i) (by omega)).2.1 (hl.at (i := i) (by omega)).2.2 hp hq) rfl rfl (.inr rfl) rfl rfl ?_))))))
   refine hK _ _ (Qb (kp4 rfl rfl rfl rfl) ?_)
   refine Qw rfl (fun h3 => ?_) (fun h3 => ?_)
   ·try rw [h3]
    try simp only [qa, qb, qc, qd, qe, List.length_map] at h3
    refine Qe fun K hK => Qa rfl ?_
    refine hK _ _ (Qb (kp1 rfl) ?_)
    refine Qu (Qt (Qj (Q4 (Qt (Qj (Qs rfl ?_))))))
    first
     | exact (QhR (i := i) (by omega) hI.2).symm
     | exact (QhS h2).symm
     | exact (QhT h2 (i := i) (by omega) h3).symm
   ·try rw [h3]
    try simp only [qa, qb, qc, qd, qe, List.length_map] at h3
    refine Qv (Qh (Qd (kp3 rfl rfl rfl) (QN fun K hK => Qa rfl (QY rfl rfl (by first | exact Qr (by omega) (by omega) | rfl) (Qa rfl (hK _ ?_))))))
    refine Qk (i + 1) ?_ ?_ ?_
    ·exact Q2 (l := [0, 3, 5]) (lH := [3]) (kp3 rfl rfl rfl) (Qf rfl Qn) rfl rfl rfl
    ·exact ⟨by omega, QfD (by omega) hI.2 h3⟩
    ·first | omega | (simp only; omega) | (dsimp only; omega)
  ·try rw [h2]
   try simp only [qa, qb, qc, qd, qe, List.length_map] at h2
   refine Zh (QL (Qx (QE (Qd (Q0) (Qe fun K hK => Qa rfl ?_)))))
   refine hK _ _ (Qb (kp1 rfl) ?_)
   refine Qu (Qs rfl ?_)
   first
    | exact (QhR (i := i) (by omega) hI.2).symm
    | exact (QhS h2).symm
    | exact (QhT h2 (i := i) (by omega) h3).symm
 ·try rw [h1]
  try simp only [qa, qb, qc, qd, qe, List.length_map] at h1
  refine Qq rfl (Qq rfl (Ql rfl rfl ?_))
  refine hK _ _ (Qb (kp4 rfl rfl rfl rfl) ?_)
  refine ZM rfl (Zh (QL (Qx (QE (Qd (Q0) (Qe fun K hK => Qa rfl ?_))))))
  refine hK _ _ (Qb (kp1 rfl) ?_)
  refine Qu (Qs rfl ?_)
  first
   | exact (QhR (i := i) (by omega) hI.2).symm
   | exact (QhS h2).symm
   | exact (QhT h2 (i := i) (by omega) h3).symm
theorem YM {s : List (Cu × Cu) × List (Cu × Cu)} (h1s : Sm s.1) (h2s : Sm s.2) : Ok Tryz.prog 110 [QhF s] (.bool (Qgb s)) := by
 refine Ok.ofT ZQ Tryz.func110 Qsp (Nat.le_of_ble_eq_true rfl) ?_
 show TW _ _ tf110.body _ _
 have hn := h1s.1
 refine Qe fun K hK => Zo rfl rfl rfl (Qa rfl ?_)
 refine hK _ _ (Qb (kp1 rfl) ?_)
 refine QD ?_ -- 0
 refine Qe fun K hK => Qi rfl rfl (QC rfl rfl rfl (QF (ZY h1s) rfl rfl (.inr rfl) (Ye rfl (Qa rfl ?_))))
 refine QB (g := 8) rfl (fun h1 => ?_) (fun h1 => ?_)
 ·try rw [h1]
  try simp only [qa, qb, qc, qd, qe, List.length_map] at h1
  refine Qq rfl (Qq rfl (Qq rfl (Qq rfl (Ql rfl rfl ?_))))
  refine hK _ _ (Qb (kp2 rfl rfl) ?_)
  refine Zl rfl (Qe fun K hK => Qa rfl ?_)
  refine hK _ _ (Qb (kp1 rfl) ?_)
  refine Qu (Qj (Qs rfl ?_))
  first
   | exact (Qd9 (i := i) h1 h2 (by omega) hI.2).symm
   | exact (Qa0 (i := i) (by omega) (.inl h4)).symm
   | exact (Qa0 (i := i) (by omega) (.inr h5)).symm
   | exact (Qa1 (.inl h1)).symm
   | exact (Qa1 (.inr h2)).symm
 ·try rw [h1]
  try simp only [qa, qb, qc, qd, qe, List.length_map] at h1
  refine Qg rfl (Qi rfl rfl (Qg rfl (QC rfl rfl rfl (Qg rfl (QF (ZY h2s) rfl rfl (.inr rfl) (Qg rfl (Ye rfl (Ql rfl rfl ?_))))))))
  refine hK _ _ (Qb (kp2 rfl rfl) ?_)
  refine Qw rfl (fun h2 => ?_) (fun h2 => ?_)
  ·try rw [h2]
   try simp only [qa, qb, qc, qd, qe, List.length_map] at h2
   refine Qe fun K hK => Qa rfl ?_
   refine hK _ _ (Qb (kp1 rfl) ?_)
   refine Qu (Qj (Qs rfl ?_))
   first
    | exact (Qd9 (i := i) h1 h2 (by omega) hI.2).symm
    | exact (Qa0 (i := i) (by omega) (.inl h4)).symm
    | exact (Qa0 (i := i) (by omega) (.inr h5)).symm
    | exact (Qa1 (.inl h1)).symm
    | exact (Qa1 (.inr h2)).symm
  ·try rw [h2]
   try simp only [qa, qb, qc, qd, qe, List.length_map] at h2
   refine Qv (Qd (kp1 rfl) ?_)
   refine QD ?_ -- 1
   refine Qe fun K hK => Qa rfl ?_
   refine hK _ _ (Qb (kp2 rfl rfl) ?_)
   refine Qz ?_
   refine Zm (ι := Nat) (fun i => ⟨[(1, .ref 1 0 0), (3, .int .i64 i)], [(1, ⟨[[ZJ s.1, ZJ s.2]], 2, 78, true⟩)]⟩) (fun i => i <= s.1.length /\ (s.1.take i).all (fun x => QbU x.1 && QbU x.2) = true) (fun i => s.1.length - i) 0 ?_ ?_ ?_
   ·exact Q2 (l := [1, 3]) (lH := [1]) (kp2 rfl rfl) (Qf rfl Qn) rfl rfl rfl
   ·exact ⟨Nat.zero_le _, by simp⟩
   intro i hI
   try dsimp only
   refine QD ?_ -- 2
   refine Qe fun K hK => Qa rfl (Qi rfl rfl (QC rfl rfl rfl (QR rfl rfl (Yb rfl rfl ?_))))
   refine hK _ _ (Qb (kp3 rfl rfl rfl) ?_)
   refine Qw rfl (fun h3 => ?_) (fun h3 => ?_)
   ·try rw [h3]
    try simp only [qa, qb, qc, qd, qe, List.length_map] at h3
    refine Qv (Qd (kp2 rfl rfl) ?_)
    refine QD ?_ -- 3
    refine Qz (Qe fun K hK => Qi rfl rfl (QC rfl rfl rfl (Qa rfl (QJ rfl rfl rfl (by omega) (QT (by omega)) rfl (Q6 rfl rfl (QG (cs := [_, _, _, _, _, _, _]) rfl rfl rfl rfl (QF (Qaa) rfl rfl (.inr rfl) (Ye rfl (Qa rfl ?_)))))))))
    refine QB (g := 29) rfl (fun h4 => ?_) (fun h4 => ?_)
    ·try rw [h4]
     try simp only [qa, qb, qc, qd, qe, List.length_map] at h4
     refine Qq rfl (Qq rfl (Qq rfl (Qq rfl (Qq rfl (Qq rfl (Qq rfl (Qq rfl (Ql rfl rfl ?_))))))))
     refine hK _ _ (Qb (kp3 rfl rfl rfl) ?_)
     refine Zl rfl (Qe fun K hK => Qa rfl ?_)
     refine hK _ _ (Qb (kp1 rfl) ?_)
     refine Qu (Qt (Qj (Q4 (Qt (Qj (Qs rfl ?_))))))
     first
      | exact (Qd9 (i := i) h1 h2 (by omega) hI.2).symm
      | exact (Qa0 (i := i) (by omega) (.inl h4)).symm
      | exact (Qa0 (i := i) (by omega) (.inr h5)).symm
      | exact (Qa1 (.inl h1)).symm
      | exact (Qa1 (.inr h2)).symm
    ·try rw [h4]
     try simp only [qa, qb, qc, qd, qe, List.length_map] at h4
     refine Qg rfl (Qi rfl rfl (Qg rfl (QC rfl rfl rfl (Qg rfl (Qa rfl (Qg rfl (QJ rfl rfl rfl (by omega) (QT (by omega)) rfl (Qg rfl (Q6 rfl rfl (Qg rfl (QG (cs := [_, _, _, _, _, _, _]) rfl rfl rfl rfl ?_)))))))))))
     refine Qg rfl (QF (Qaa) rfl rfl (.inr rfl) (Qg rfl (Ye rfl (Ql rfl rfl ?_))))
     refine hK _ _ (Qb (kp3 rfl rfl rfl) ?_)
     refine Qw rfl (fun h5 => ?_) (fun h5 => ?_)
     ·try rw [h5]
      try simp only [qa, qb, qc, qd, qe, List.length_map] at h5
      refine Qe fun K hK => Qa rfl ?_
      refine hK _ _ (Qb (kp1 rfl) ?_)
      refine Qu (Qt (Qj (Q4 (Qt (Qj (Qs rfl ?_))))))
      first
       | exact (Qd9 (i := i) h1 h2 (by omega) hI.2).symm
       | exact (Qa0 (i := i) (by omega) (.inl h4)).symm
       | exact (Qa0 (i := i) (by omega) (.inr h5)).symm
       | exact (Qa1 (.inl h1)).symm
       | exact (Qa1 (.inr h2)).symm
     ·try rw [h5]
      try simp only [qa, qb, qc, qd, qe, List.length_map] at h5
      refine Qv (Qh (Qd (kp2 rfl rfl) (QN fun K hK => Qa rfl (QY rfl rfl (by first | exact Qr (by omega) (by omega) | rfl) (Qa rfl (hK _ ?_))))))
      refine Qk (i + 1) ?_ ?_ ?_
      ·exact Q2 (l := [1, 3]) (lH := [1]) (kp2 rfl rfl) (Qf rfl Qn) rfl rfl rfl
      ·exact ⟨by omega, Ya (by omega) hI.2 (by rw [show QbU s.1[i].1 = true from h4, show QbU s.1[i].2 = true from h5]; rfl)⟩
      ·first | omega | (simp only; omega) | (dsimp only; omega)
   ·try rw [h3]
    try simp only [qa, qb, qc, qd, qe, List.length_map] at h3
    refine Zh (QL (Qx (QE (Qd (Q0) (Qe fun K hK => Qa rfl ?_)))))
    refine hK _ _ (Qb (kp1 rfl) ?_)
    refine Qu (Qs rfl ?_)
    first
     | exact (Qd9 (i := i) h1 h2 (by omega) hI.2).symm
     | exact (Qa0 (i := i) (by omega) (.inl h4)).symm
     | exact (Qa0 (i := i) (by omega) (.inr h5)).symm
     | exact (Qa1 (.inl h1)).symm
     | exact (Qa1 (.inr h2)).symm
theorem QdK {s : List (Cu × Cu) × List (Cu × Cu)} (h1s : Sm s.1) (h2s : Sm s.2) {a b c : Int} {p q : List UInt8} (hp : p.length <= 1000000) (hq : q.length <= 1000000) : Ok Tryz.prog 114 [QhF s, .agg [.int .i64 a, .int .i64 b, .int .i64 c, .str p, .str q]] (.bool (QlW s a b c p q)) := by
 refine Ok.ofT ZQ Tryz.func114 Qst (Nat.le_of_ble_eq_true rfl) ?_
 show TW _ _ tf114.body _ _
 refine Qe fun K hK => Zo rfl rfl rfl (Zo rfl rfl rfl (Qa rfl ?_))
 refine hK _ _ (Qb (kp2 rfl rfl) ?_)
 refine QD ?_ -- 0
 refine Qe fun K hK => QG (cs := [_, _]) rfl rfl rfl rfl (QF (YM h1s h2s) rfl rfl (.inr rfl) (Ye rfl (Qa rfl ?_)))
 refine QB (g := 8) rfl (fun h1 => ?_) (fun h1 => ?_)
 ·try rw [h1]
  try simp only [qa, qb, qc, qd, qe] at h1
  refine Qq rfl (Qq rfl (Qq rfl (Ql rfl rfl ?_)))
  refine hK _ _ (Qb (kp3 rfl rfl rfl) ?_)
  refine Zl rfl (Qe fun K hK => Qa rfl ?_)
  refine hK _ _ (Qb (kp1 rfl) ?_)
  refine Qu (Qj (Qs rfl ?_))
  simp_all [QlW]
 ·try rw [h1]
  try simp only [qa, qb, qc, qd, qe] at h1
  refine Qg rfl (QG (cs := [_, _, _, _, _]) rfl rfl rfl rfl (Qg rfl (QF (Zi hp hq) rfl rfl (.inr rfl) (Qg rfl (Ye rfl (Ql rfl rfl ?_))))))
  refine hK _ _ (Qb (kp3 rfl rfl rfl) ?_)
  refine Qw rfl (fun h2 => ?_) (fun h2 => ?_)
  ·try rw [h2]
   try simp only [qa, qb, qc, qd, qe] at h2
   refine Qe fun K hK => Qa rfl ?_
   refine hK _ _ (Qb (kp1 rfl) ?_)
   refine Qu (Qj (Qs rfl ?_))
   simp_all [QlW]
  ·try rw [h2]
   try simp only [qa, qb, qc, qd, qe] at h2
   refine Qv (Qd (kp2 rfl rfl) ?_)
   refine QD ?_ -- 1
   refine Qe fun K hK => Qi rfl rfl (QC rfl rfl rfl (Qfy rfl rfl ?_))
   refine hK _ _ (Qb (kp3 rfl rfl rfl) ?_)
   refine Qw rfl (fun h3 => ?_) (fun h3 => ?_)
   ·try rw [h3]
    try simp only [qa, qb, qc, qd, qe] at h3
    refine Qe fun K hK => Qi rfl rfl (QC rfl rfl rfl (QG (cs := [_, _, _, _, _]) rfl rfl rfl rfl (QF (QaI h1s hp hq) rfl rfl (.inr rfl) (Qa rfl ?_))))
    refine hK _ _ (Qb (kp1 rfl) ?_)
    refine Qu (Qj (Qs rfl ?_))
    simp_all [QlW]
   ·try rw [h3]
    try simp only [qa, qb, qc, qd, qe] at h3
    refine Qv (Qd (kp2 rfl rfl) (Qe fun K hK => Qi rfl rfl (QC rfl rfl rfl (QG (cs := [_, _, _, _, _]) rfl rfl rfl rfl (QF (QaI h2s hp hq) rfl rfl (.inr rfl) (Qa rfl ?_))))))
    refine hK _ _ (Qb (kp1 rfl) ?_)
    refine Qu (Qs rfl ?_)
    simp_all [QlW]
end Go.Proofs
namespace Go.Proofs
open Go Go.Abs M3 M25
set_option linter.unusedVariables false
set_option linter.unusedSimpArgs false
theorem QaK {l : List Cu} {c : Cu} (hl : l.length <= 3000000) (hs : ∀ x ∈ l, Cu.sm x) (hc : Cu.sm c) : Ok Tryz.prog 125 [QhE l, .agg (dCu c)] (QhE (Qct l c)) := by
 refine Ok.ofT ZQ Tryz.func125 QsE (Nat.le_of_ble_eq_true rfl) ?_
 show TW _ _ tf125.body _ _
 refine Qe fun K hK => Zo rfl rfl rfl (Qa rfl ?_)
 refine hK _ _ (Qb (kp2 rfl rfl) ?_)
 refine Qe fun K hK => Qa rfl ?_
 refine hK _ _ (Qb (kp3 rfl rfl rfl) ?_)
 refine QD ?_ -- 0
 refine Qz ?_
 refine Zm (ι := Nat) (fun k => ⟨[(0, QhE l), (3, .ref 3 0 0), (5, .int .i64 k)], [(3, ⟨[dCu c], 7, 112, true⟩)]⟩) (fun k => k <= l.length /\ Qct l c = l.take k ++ Qct (l.drop k) c) (fun k => l.length - k) 0 ?_ ?_ ?_
 ·exact Q2 (l := [0, 3, 5]) (lH := [3]) (kp3 rfl rfl rfl) (Qf rfl Qn) rfl rfl rfl
 ·exact ⟨Nat.zero_le _, by simp⟩
 intro k hI
 try dsimp only
 refine QD ?_ -- 1
 refine Qe fun K hK => Qa rfl (Qa rfl (QR rfl rfl (Yb rfl rfl (Qa rfl ?_))))
 refine QB (g := 10) rfl (fun h1 => ?_) (fun h1 => ?_)
 ·try rw [h1]
  try simp only [qa, qb, qc, qd, qe, List.length_map] at h1
  refine Qg rfl (Qa rfl (Qg rfl (Qa rfl (Qg rfl (QJ rfl rfl rfl (by omega) (QT (by omega)) rfl (Qg rfl (QO (ds0 := [2, 1, 0]) (cs := [_, _, _, _, _, _, _]) rfl rfl rfl rfl rfl rfl (Qg rfl (QO (ds0 := [2, 1, 0]) (cs := [_, _, _, _, _, _, _]) rfl rfl rfl rfl rfl rfl (Qg rfl (QS (ds0 := [1, 0]) (Zz (hs _ (List.getElem_mem (by omega))).1 (hs _ (List.getElem_mem (by omega))).2 hc.1 hc.2) rfl rfl (.inr rfl) rfl rfl ?_)))))))))))
  refine Qg rfl (Yb rfl rfl (Ql rfl rfl ?_))
  refine hK _ _ (Qb (kp4 rfl rfl rfl rfl) ?_)
  refine Qw rfl (fun h2 => ?_) (fun h2 => ?_)
  ·try rw [h2]
   try simp only [qa, qb, qc, qd, qe, List.length_map] at h2
   refine Qv (Qd (kp3 rfl rfl rfl) (Qz (QN fun K hK => Qa rfl (QY rfl rfl (by first | exact Qr (by omega) (by omega) | rfl) (Qa rfl (hK _ ?_))))))
   refine Qh ?_
   refine Qk (k + 1) ?_ ?_ ?_
   ·exact Q2 (l := [0, 3, 5]) (lH := [3]) (kp3 rfl rfl rfl) (Qf rfl Qn) rfl rfl rfl
   ·exact ⟨by omega, Qnf (by omega) h2 hI.2⟩
   ·first | omega | (simp only; omega) | (dsimp only; omega)
  ·try rw [h2]
   try simp only [qa, qb, qc, qd, qe, List.length_map] at h2
   refine Zh (QL (Qx (QE (Qd (kp3 rfl rfl rfl) ?_))))
   refine QD ?_ -- 2
   refine Qe fun K hK => Qa rfl (Qa rfl (QR rfl rfl (Yb rfl rfl (Qa rfl ?_))))
   refine QB (g := 25) rfl (fun h3 => ?_) (fun h3 => ?_)
   ·try rw [h3]
    try simp only [qa, qb, qc, qd, qe, List.length_map] at h3
    refine Qg rfl (Qa rfl (Qg rfl (Qa rfl (Qg rfl (QJ rfl rfl rfl (by omega) (QT (by omega)) rfl (Qg rfl (QO (ds0 := [2, 1, 0]) (cs := [_, _, _, _, _, _, _]) rfl rfl rfl rfl rfl rfl (Qg rfl (QO (ds0 := [2, 1, 0]) (cs := [_, _, _, _, _, _, _]) rfl rfl rfl rfl rfl rfl (Qg rfl (QS (ds0 := [1, 0]) (Zz (hs _ (List.getElem_mem (by omega))).1 (hs _ (List.getElem_mem (by omega))).2 hc.1 hc.2) rfl rfl (.inr rfl) rfl rfl ?_)))))))))))
    refine Qg rfl (ZI rfl rfl (Ql rfl rfl ?_))
    refine hK _ _ (Qb (kp4 rfl rfl rfl rfl) ?_)
    refine Qw rfl (fun h4 => ?_) (fun h4 => ?_)
    ·try rw [h4]
     try simp only [qa, qb, qc, qd, qe, List.length_map] at h4
     refine Qe fun K hK => Qa rfl (Qa rfl ?_)
     refine hK _ _ (Qb (kp1 rfl) ?_)
     refine Qu (Qj (Yk rfl ?_))
     rw [Qne (k := k) (by omega) (by assumption) hI.2]; rfl
    ·try rw [h4]
     try simp only [qa, qb, qc, qd, qe, List.length_map] at h4
     refine Qv (Qd (kp3 rfl rfl rfl) (Qe fun K hK => Qa rfl (Qa rfl (Qep rfl rfl rfl rfl (by omega) (by omega) (by simp; omega) Qjq rfl (Qeo (ds0 := [5, 1, 0]) rfl rfl (fun _ h => ⟨QoX, h⟩) rfl (.inl rfl) (by simp) (by simp; omega) (by simp; omega) rfl rfl (QO (ds0 := [6, 5, 1, 0]) (cs := [_, _, _, _, _, _, _]) rfl rfl rfl rfl rfl rfl (QH rfl rfl (Qbp (ds0 := [1, 0]) rfl rfl (by simp [D.ids, D.sid]) ⟨_, rfl, rfl, rfl, rfl, rfl⟩ rfl rfl (by simp) rfl rfl (by simp; omega) (by simp; omega) rfl rfl (Qa rfl (Qa rfl ?_))))))))))
     refine Qep rfl rfl rfl rfl (by omega) (by simp; omega) (by simp) Qjq rfl (Qbp (ds0 := [0]) rfl rfl (by simp [D.ids, D.sid]) ⟨rfl, QoX, rfl⟩ rfl rfl (by simp) rfl rfl (by simp; omega) (by simp; omega) rfl rfl (Qa rfl ?_))
     refine hK _ _ (Qb (kp1 rfl) ?_)
     refine Qu (Yk rfl ?_)
     rw [Qla (k := k) (by first | exact .inl (by omega) | exact .inr ⟨by omega, by assumption, by assumption⟩) hI.2]; simp [Qa9, D.fz, D.fzS, Qdy, lk, D.can, D.canS, QhE, D.sid, (show ∀ a b : Nat, a + 1 + b = a + (b + 1) from fun a b => by omega), List.take_of_length_le (show (l.map dCu).length <= l.length by simp)] <;> rfl
   ·try rw [h3]
    try simp only [qa, qb, qc, qd, qe, List.length_map] at h3
    exact absurd h1 h3
 ·try rw [h1]
  try simp only [qa, qb, qc, qd, qe, List.length_map] at h1
  refine Qq rfl (Qq rfl (Qq rfl (Qq rfl (Qq rfl (Qq rfl (Qq rfl (Ql rfl rfl ?_)))))))
  refine hK _ _ (Qb (kp4 rfl rfl rfl rfl) ?_)
  refine ZM rfl (Zh (QL (Qx (QE (Qd (kp3 rfl rfl rfl) ?_)))))
  refine QD ?_ -- 2
  refine Qe fun K hK => Qa rfl (Qa rfl (QR rfl rfl (Yb rfl rfl (Qa rfl ?_))))
  refine QB (g := 25) rfl (fun h5 => ?_) (fun h5 => ?_)
  ·try rw [h5]
   try simp only [qa, qb, qc, qd, qe, List.length_map] at h5
   exact absurd h5 h1
  ·try rw [h5]
   try simp only [qa, qb, qc, qd, qe, List.length_map] at h5
   refine Qq rfl (Qq rfl (Qq rfl (Qq rfl (Qq rfl (Qq rfl (Qq rfl (Ql rfl rfl ?_)))))))
   refine hK _ _ (Qb (kp4 rfl rfl rfl rfl) ?_)
   refine ZM rfl (Qv (Qd (kp3 rfl rfl rfl) (Qe fun K hK => Qa rfl (Qa rfl (Qep rfl rfl rfl rfl (by omega) (by omega) (by simp; omega) Qjq rfl (Qeo (ds0 := [5, 1, 0]) rfl rfl (fun _ h => ⟨QoX, h⟩) rfl (.inl rfl) (by simp) (by simp; omega) (by simp; omega) rfl rfl (QO (ds0 := [6, 5, 1, 0]) (cs := [_, _, _, _, _, _, _]) rfl rfl rfl rfl rfl rfl (QH rfl rfl (Qbp (ds0 := [1, 0]) rfl rfl (by simp [D.ids, D.sid]) ⟨_, rfl, rfl, rfl, rfl, rfl⟩ rfl rfl (by simp) rfl rfl (by simp; omega) (by simp; omega) rfl rfl (Qa rfl ?_))))))))))
   refine Qa rfl (Qep rfl rfl rfl rfl (by omega) (by simp; omega) (by simp) Qjq rfl (Qbp (ds0 := [0]) rfl rfl (by simp [D.ids, D.sid]) ⟨rfl, QoX, rfl⟩ rfl rfl (by simp) rfl rfl (by simp; omega) (by simp; omega) rfl rfl (Qa rfl ?_)))
   refine hK _ _ (Qb (kp1 rfl) ?_)
   refine Qu (Yk rfl ?_)
   rw [Qla (k := k) (by first | exact .inl (by omega) | exact .inr ⟨by omega, by assumption, by assumption⟩) hI.2]; simp [Qa9, D.fz, D.fzS, Qdy, lk, D.can, D.canS, QhE, D.sid, (show ∀ a b : Nat, a + 1 + b = a + (b + 1) from fun a b => by omega), List.take_of_length_le (show (l.map dCu).length <= l.length by simp)] <;> rfl
theorem Qav {l : List (Cu × Cu)} (hl : Sm l) : Ok Tryz.prog 119 [ZJ l] (QhE (YY l)) := by
 refine Ok.ofT ZQ Tryz.func119 Qsy (Nat.le_of_ble_eq_true rfl) ?_
 show TW _ _ tf119.body _ _
 have hn := hl.1
 refine Qe fun K hK => Qa rfl ?_
 refine hK _ _ (Qb (kp1 rfl) ?_)
 refine Qe fun K hK => QF (Y2) rfl rfl (.inl rfl) (QF (Xe) rfl rfl (.inl rfl) (QH rfl rfl (Qa rfl ?_)))
 refine hK _ _ (Qb (kp2 rfl rfl) ?_)
 refine QD ?_ -- 0
 refine Qe fun K hK => Qa rfl ?_
 refine hK _ _ (Qb (kp3 rfl rfl rfl) ?_)
 refine Qz ?_
 refine Zm (ι := Nat) (fun i => ⟨[(0, ZJ l), (3, QhE (YY (l.take i))), (4, .int .i64 i)], []⟩) (fun i => i <= l.length) (fun i => l.length - i) 0 ?_ ?_ ?_
 ·exact le_trans (Qi0 7 _ (by decide)) (Q2 (l := [0, 3, 4]) (lH := []) (kp3 rfl rfl rfl) Qn rfl rfl rfl)
 ·exact Nat.zero_le _
 intro i hI
 try dsimp only
 refine QD ?_ -- 1
 refine Qe fun K hK => Qa rfl (Qa rfl (QR rfl rfl (Yb rfl rfl ?_)))
 refine hK _ _ (Qb (kp4 rfl rfl rfl rfl) ?_)
 refine Qw rfl (fun h1 => ?_) (fun h1 => ?_)
 ·try rw [h1]
  try simp only [qa, qb, qc, qd, qe, List.length_map] at h1
  refine Qv (Qd (kp3 rfl rfl rfl) ?_)
  refine QD ?_ -- 2
  refine Qz (QN fun K hK => Qa rfl (Qa rfl (Qa rfl (QJ rfl rfl rfl (by omega) (QT (by omega)) rfl (Q6 rfl rfl (QO (ds0 := [7, 1, 0]) (cs := [_, _, _, _, _, _, _]) rfl rfl rfl rfl rfl rfl (QS (ds0 := [1, 0]) (QaK (Nat.le_trans (Qfm hl i).1 (by omega)) (Qfm hl i).2 (hl.2 _ (List.getElem_mem (by omega))).1) rfl rfl (.inl rfl) rfl rfl (Qa rfl (Qa rfl (QJ rfl rfl rfl (by omega) (QT (by omega)) rfl ?_))))))))))
  refine Q6 rfl rfl (QO (ds0 := [1, 0]) (cs := [_, _, _, _, _, _, _]) rfl rfl rfl rfl rfl rfl (QS (ds0 := [0]) (QaK (Nat.le_trans (Qfn _ _) (by have := (Qfm hl i).1; omega)) (Qib (Qfm hl i).2 (hl.2 _ (List.getElem_mem (by omega))).1) (hl.2 _ (List.getElem_mem (by omega))).2) rfl rfl (.inl rfl) rfl rfl (Qa rfl (hK _ ?_))))
  refine Qh (Qd (kp3 rfl rfl rfl) (QN fun K hK => Qa rfl (QY rfl rfl (by first | exact Qr (by omega) (by omega) | rfl) (Qa rfl (hK _ ?_)))))
  refine Qk (i + 1) ?_ ?_ ?_
  ·exact Q2 (l := [0, 3, 4]) (lH := []) (kp3 rfl rfl rfl) Qn (by rw [QoG (by omega)]; rfl) rfl rfl
  ·omega
  ·first | omega | (simp only; omega) | (dsimp only; omega)
 ·try rw [h1]
  try simp only [qa, qb, qc, qd, qe, List.length_map] at h1
  refine Zh (QL (Qx (QE (Qd (kp1 rfl) (Qe fun K hK => Qa rfl (Qa rfl ?_))))))
  refine hK _ _ (Qb (kp1 rfl) ?_)
  refine Qu (Yk rfl ?_)
  rw [List.take_of_length_le (show l.length <= i by omega)]; rfl
end Go.Proofs
namespace Go.Proofs
open Go Go.Abs M3 M25
set_option linter.unusedVariables false
set_option linter.unusedSimpArgs false
theorem Qaw {l : List (Cu × Cu)} {x y : Cu} (hn : l.length <= 3000000) (hl : ∀ s ∈ l, Cu.sm s.1 /\ Cu.sm s.2) (hx : Cu.sm x) (hy : Cu.sm y) : OkH Tryz.prog 121 [.osl 500000 l.length, .agg (dCu x), .agg (dCu y)] [(500000, ⟨l.map Qe6, 14, 115, true⟩)] (.osl 500000 (Qcs l x y).length) [(500000, ⟨(Qcs l x y).map Qe6, 14, 115, true⟩)] := by
 refine OkH.mv ZQ Tryz.func121 QsA (Nat.le_of_ble_eq_true rfl) rfl ?_
 show TW _ _ tf121.body _ _
 refine Qe fun K hK => Zo rfl rfl rfl (Zo rfl rfl rfl (Qa rfl ?_))
 refine hK _ _ (Qb (kp3 rfl rfl rfl) ?_)
 refine QD ?_ -- 0
 refine Qe fun K hK => Qa rfl (QR rfl rfl (X2 rfl rfl (by first | exact Qr (by omega) (by omega) | rfl) (Qa rfl ?_)))
 refine hK _ _ (Qb (kp4 rfl rfl rfl rfl) ?_)
 refine Qe fun K hK => Qa rfl (Qdx rfl rfl (Qa rfl ?_))
 refine QB (g := 13) rfl (fun h1 => ?_) (fun h1 => ?_)
 ·try rw [h1]
  try simp only [qa, qb, qc, qd, qe, List.length_map] at h1
  refine Qg rfl (Qa rfl (Qg rfl (Qa rfl (Qg rfl (XT (ds0 := [5, 4, 2, 1, 0]) rfl rfl rfl (by simp) (by omega) (by omega) rfl rfl rfl (Qg rfl (Qi rfl rfl (Qg rfl (QO (ds0 := [2, 1, 0]) (cs := [_, _, _, _, _, _, _]) rfl (Z9 rfl (ZA (by omega) (by omega))) rfl rfl rfl rfl (Qg rfl (QO (ds0 := [2, 1, 0]) (cs := [_, _, _, _, _, _, _]) rfl rfl rfl rfl rfl rfl ?_)))))))))))
  refine Qg rfl (QS (ds0 := [1, 0]) (Zz (hl _ (List.getElem_mem (by omega))).2.1 (hl _ (List.getElem_mem (by omega))).2.2 hx.1 hx.2) rfl rfl (.inr rfl) rfl rfl (Qg rfl (ZI rfl rfl (Ql rfl rfl ?_))))
  refine hK _ _ (Qb (kp5 rfl rfl rfl rfl rfl) ?_)
  refine Qw rfl (fun h2 => ?_) (fun h2 => ?_)
  ·try rw [h2]
   try simp only [qa, qb, qc, qd, qe, List.length_map] at h2
   refine Qe fun K hK => Qa rfl (Qa rfl (QG (cs := [_, _, _, _, _, _, _]) rfl rfl rfl rfl (Xm rfl rfl rfl (by simp) (by omega) (by omega) rfl (Qi rfl rfl (Q7 rfl rfl (ZA (by omega) (by omega)) rfl rfl rfl rfl rfl ?_)))))
   refine hK _ _ (Qb (kp1 rfl) ?_)
   refine Qe fun K hK => Qa rfl (Qa rfl ?_)
   refine hK _ _ (Qb (kp1 rfl) ?_)
   refine Qu (Qj ?_)
   refine Y5 rfl ?_ (QeS ?_)
   ·rw [Qi4 (i := ((l.length : Int) - 1).toNat) (by omega) h2]; simp [Qma, D.fz, D.fzS, Qfa, D.can, D.canS]
   ·rw [Qi4 (i := ((l.length : Int) - 1).toNat) (by omega) h2]; simp [lk, List.map_set, Qe6, dCu, setRow, D.sid]
  ·try rw [h2]
   try simp only [qa, qb, qc, qd, qe, List.length_map] at h2
   refine Qv (Qd (kp3 rfl rfl rfl) (Qe fun K hK => Qa rfl (QG (cs := [_, _, _, _, _, _, _]) rfl rfl rfl rfl (QG (cs := [_, _, _, _, _, _, _]) rfl rfl rfl rfl (QU rfl rfl (QH rfl rfl (Xz rfl rfl (fun _ h => Xj rfl rfl rfl h) rfl (by simp) rfl rfl rfl (by simp; omega) (by simp; omega) (Qa rfl ?_))))))))
   refine hK _ _ (Qb (kp1 rfl) ?_)
   refine Qu ?_
   refine Y5 rfl ?_ (QeS ?_)
   ·rw [Qd3 (.inr ⟨((l.length : Int) - 1).toNat, by omega, h2⟩)]; simp [Qma, D.fz, D.fzS, Qfa, D.can, D.canS]
   ·rw [Qd3 (.inr ⟨((l.length : Int) - 1).toNat, by omega, h2⟩)]; simp [lk, Qe6, dCu, D.sid]
 ·try rw [h1]
  try simp only [qa, qb, qc, qd, qe, List.length_map] at h1
  refine Qq rfl (Qq rfl (Qq rfl (Qq rfl (Qq rfl (Qq rfl (Qq rfl (Qq rfl (Ql rfl rfl ?_))))))))
  refine hK _ _ (Qb (kp5 rfl rfl rfl rfl rfl) ?_)
  refine ZM rfl (Qv (Qd (kp3 rfl rfl rfl) (Qe fun K hK => Qa rfl (QG (cs := [_, _, _, _, _, _, _]) rfl rfl rfl rfl (QG (cs := [_, _, _, _, _, _, _]) rfl rfl rfl rfl (QU rfl rfl (QH rfl rfl (Xz rfl rfl (fun _ h => Xj rfl rfl rfl h) rfl (by simp) rfl rfl rfl (by simp; omega) (by simp; omega) (Qa rfl ?_)))))))))
  refine hK _ _ (Qb (kp1 rfl) ?_)
  refine Qu ?_
  have h0 : l = [] := List.eq_nil_of_length_eq_zero (by omega)
  refine Y5 rfl ?_ (QeS ?_)
  ·rw [Qd3 (.inl h0)]; simp [Qma, D.fz, D.fzS, Qfa, D.can, D.canS]
  ·rw [Qd3 (.inl h0)]; simp [lk, Qe6, dCu, D.sid]
end Go.Proofs
namespace Go.Proofs
open Go Go.Abs M3 M25
set_option linter.unusedVariables false
set_option linter.unusedSimpArgs false
theorem Qdp {l : List (Cu × Cu)} (hl : Sm l) : Ok Tryz.prog 118 [ZJ l] (.tup [ZJ (Qkb l), .bool (l.all Qd7)]) := by
  refine Ok.ofT ZQ Tryz.func118 Qsx (Nat.le_of_ble_eq_true rfl) ?_
  show TW _ _ tf118.body _ _
  have hn := hl.1
  have hc1 := Qcq l
  refine Qe fun K hK => Qa rfl (Qa rfl ?_)
  refine hK _ _ (Qb (kp1 rfl) ?_)
  refine QD ?_ -- 0
  refine Qe fun K hK => Qa rfl ?_
  refine hK _ _ (Qb (kp2 rfl rfl) ?_)
  refine Qz ?_
  refine Zm (ι := Nat) (fun i => ⟨[(0, ZJ l), (4, .int .i64 i)], []⟩) (fun i => i <= l.length /\ (l.take i).all Qd7 = true) (fun i => l.length - i) 0 ?_ ?_ ?_
  · exact Zf (kp2 rfl rfl)
  · exact ⟨Nat.zero_le _, by simp⟩
  intro i hI
  try dsimp only
  refine QD ?_ -- 1
  refine Qe fun K hK => Qa rfl (Qa rfl (QR rfl rfl (Yb rfl rfl ?_)))
  refine hK _ _ (Qb (kp3 rfl rfl rfl) ?_)
  refine Qw rfl (fun h1 => ?_) (fun h1 => ?_)
  · try rw [h1]
    try simp only [qa, qb, qc, qd, qe, List.length_map] at h1
    refine Qv (Qd (kp2 rfl rfl) ?_)
    refine QD ?_ -- 2
    refine Qz (Qe fun K hK => Qa rfl (Qa rfl (QJ rfl rfl rfl (by omega) (QT (by omega)) rfl (QG (cs := [_, _, _, _, _, _, _, _, _, _, _, _, _, _]) rfl rfl rfl rfl (QF (YK (hl.at (i := i) (by omega)).1.1 (hl.at (i := i) (by omega)).1.2 (hl.at (i := i) (by omega)).2.1 (hl.at (i := i) (by omega)).2.2) rfl rfl (.inr rfl) (Ye rfl ?_))))))
    refine hK _ _ (Qb (kp3 rfl rfl rfl) ?_)
    refine Qw rfl (fun h2 => ?_) (fun h2 => ?_)
    · try rw [h2]
      try simp only [qa, qb, qc, qd, qe, List.length_map] at h2
      refine Qe fun K hK => Qa rfl (Qa rfl ?_)
      refine hK _ _ (Qb (kp2 rfl rfl) ?_)
      refine Qu (Qt (Qj (Q4 (Qt (Qj ?_)))))
      first
        | exact QV rfl rfl ⟨by rw [Qkb, if_neg (by rw [XA (i := i) (by omega) (by assumption)]; simp)]; rfl, by rw [XA (i := i) (by omega) (by assumption)]; rfl⟩
        | (have ha : l.all Qd7 = true := Xp (by omega) hI.2
           exact QV rfl rfl ⟨by rw [Qkb, if_pos ha, hI2.done (by omega)]; simp [Qa9, D.fz, D.fzS, Qdy, lk, D.can, D.canS, ZJ], by rw [ha]; rfl⟩)
    · try rw [h2]
      try simp only [qa, qb, qc, qd, qe, List.length_map] at h2
      refine Qv (Qh (Qd (kp2 rfl rfl) (QN fun K hK => Qa rfl (QY rfl rfl (by first | exact Qr (by omega) (by omega) | rfl) (Qa rfl (hK _ ?_))))))
      refine Qk (i + 1) ?_ ?_ ?_
      · exact Zf (kp2 rfl rfl)
      · exact ⟨by omega, Ya (by omega) hI.2 (by assumption)⟩
      · first | omega | (simp only; omega) | (dsimp only; omega)
  · try rw [h1]
    try simp only [qa, qb, qc, qd, qe, List.length_map] at h1
    refine Zh (QL (Qx (QE (Qd (kp1 rfl) (Qe fun K hK => Qa rfl ?_)))))
    refine hK _ _ (Qb (kp2 rfl rfl) ?_)
    refine Qe fun K hK => Qa rfl (QF (Qav hl) rfl rfl (.inl rfl) (Qa rfl ?_))
    refine hK _ _ (Qb (kp3 rfl rfl rfl) ?_)
    refine QD ?_ -- 3
    refine Qe fun K hK => Qa rfl ?_
    refine hK _ _ (Qb (kp4 rfl rfl rfl rfl) ?_)
    refine Qz ?_
    refine Zm (ι := Nat × List (Cu × Cu)) (fun ⟨i, out⟩ => ⟨[(0, ZJ l), (5, .osl 5 out.length), (6, QhE (YY l)), (7, .int .i64 i)], [(5, ⟨out.map Qe6, 14, 115, true⟩)]⟩) (fun ⟨i, out⟩ => i <= (YY l).length /\ FillI (mIn l) (YY l) i out) (fun ⟨i, out⟩ => (YY l).length - i) (0, []) ?_ ?_ ?_
    · exact le_trans (Yj 5 5 14 115 rfl rfl) (Q2 (l := [0, 5, 6, 7]) (lH := [5]) (kp4 rfl rfl rfl rfl) (Qf rfl Qn) rfl rfl rfl)
    · exact ⟨Nat.zero_le _, FillI.zero⟩
    intro ⟨i, out⟩ hI
    obtain ⟨hI1, hI2⟩ := hI
    have hI3 := hI2.1
    try dsimp only
    refine QD ?_ -- 4
    refine Qe fun K hK => Qa rfl (QY rfl rfl (by first | exact Qr (by omega) (by omega) | rfl) (Qa rfl (QR rfl rfl (Yb rfl rfl ?_))))
    refine hK _ _ (Qb (kp5 rfl rfl rfl rfl rfl) ?_)
    refine Qw rfl (fun h3 => ?_) (fun h3 => ?_)
    · try rw [h3]
      try simp only [qa, qb, qc, qd, qe, List.length_map] at h3
      refine Qv (Qd (kp4 rfl rfl rfl rfl) ?_)
      refine QD ?_ -- 5
      refine Qz (Qe fun K hK => Qa rfl (Qa rfl (Qa rfl (QJ rfl rfl rfl (by omega) (QT (by omega)) rfl (QO (ds0 := [0]) (cs := [_, _, _, _, _, _, _]) rfl rfl rfl rfl rfl rfl (Qa rfl (Qa rfl (QY rfl rfl (by first | exact Qr (by omega) (by omega) | rfl) (QJ rfl rfl rfl (by omega) (Qk0 (by omega)) rfl (QO (ds0 := [0]) (cs := [_, _, _, _, _, _, _]) rfl rfl rfl rfl rfl rfl ?_))))))))))
      refine QS (ds0 := []) (Qbb hl (YC hl _ (List.getElem_mem (by omega))) (YC hl _ (List.getElem_mem (by omega)))) rfl rfl (.inr rfl) rfl rfl ?_
      refine hK _ _ (Qb (kp5 rfl rfl rfl rfl rfl) ?_)
      refine Qw rfl (fun h4 => ?_) (fun h4 => ?_)
      · try rw [h4]
        try simp only [qa, qb, qc, qd, qe, List.length_map] at h4
        refine QN fun K hK => Qa rfl (Qa rfl (Qa rfl (QJ rfl rfl rfl (by omega) (QT (by omega)) rfl (QO (ds0 := [1, 0]) (cs := [_, _, _, _, _, _, _]) rfl rfl rfl rfl rfl rfl (Qa rfl (Qa rfl (QY rfl rfl (by first | exact Qr (by omega) (by omega) | rfl) (QJ rfl rfl rfl (by omega) (Qk0 (by omega)) rfl (QO (ds0 := [1, 0]) (cs := [_, _, _, _, _, _, _]) rfl rfl rfl rfl rfl rfl (QkD (ds0 := [0]) (QkM (k := 5) rfl rfl rfl (by decide) rfl (by decide) (by simp [D.ids, D.sid, dCu]) ⟨.osl 5 out.length, by simp, by simp [D.ids, D.sid]⟩ rfl rfl (Qaw (by omega) hI2.2.1 (YC hl _ (List.getElem_mem (by omega))) (YC hl _ (List.getElem_mem (by omega))))) (fun _ h => by cases h) rfl rfl ?_))))))))))
        refine Qa rfl (hK _ ?_)
        refine Qh (Qd (kp4 rfl rfl rfl rfl) (QN fun K hK => Qa rfl (QY rfl rfl (by first | exact Qr (by omega) (by omega) | rfl) (Qa rfl (hK _ ?_)))))
        refine Qk (i + 1, Qcs out (YY l)[i] (YY l)[i + 1]) ?_ ?_ ?_
        · exact le_trans (Qm0 (l := [0, 6, 7]) (t := 50) (u := 5) 5 (kp3 rfl rfl rfl) rfl rfl rfl rfl) (Q2 (l := [0, 5, 6, 7]) (lH := [5]) (kp4 rfl rfl rfl rfl) (Qf rfl Qn) rfl rfl rfl)
        · exact ⟨by omega, hI2.take (YC hl) (by omega) (by assumption)⟩
        · show (YY l).length - (i + 1) < (YY l).length - i; omega
      · try rw [h4]
        try simp only [qa, qb, qc, qd, qe, List.length_map] at h4
        refine Qv (Qh (Qd (kp4 rfl rfl rfl rfl) (QN fun K hK => Qa rfl (QY rfl rfl (by first | exact Qr (by omega) (by omega) | rfl) (Qa rfl (hK _ ?_))))))
        refine Qk (i + 1, out) ?_ ?_ ?_
        · exact Q2 (l := [0, 5, 6, 7]) (lH := [5]) (kp4 rfl rfl rfl rfl) (Qf rfl Qn) rfl rfl rfl
        · exact ⟨by omega, hI2.skip (by omega) (by assumption)⟩
        · show (YY l).length - (i + 1) < (YY l).length - i; omega
    · try rw [h3]
      try simp only [qa, qb, qc, qd, qe, List.length_map] at h3
      refine Zh (QL (Qx (QE (Qd (kp1 rfl) (Qe fun K hK => Qa rfl (Qa rfl (Qa rfl ?_)))))))
      refine hK _ _ (Qb (kp2 rfl rfl) ?_)
      refine Qu ?_
      first
        | exact QV rfl rfl ⟨by rw [Qkb, if_neg (by rw [XA (i := i) (by omega) (by assumption)]; simp)]; rfl, by rw [XA (i := i) (by omega) (by assumption)]; rfl⟩
        | (have ha : l.all Qd7 = true := Xp (by omega) hI.2
           exact QV rfl rfl ⟨by rw [Qkb, if_pos ha, hI2.done (by omega)]; simp [Qa9, D.fz, D.fzS, Qdy, lk, D.can, D.canS, ZJ], by rw [ha]; rfl⟩)
end Go.Proofs
namespace Go.Proofs
open Go Go.Abs M3 M25
set_option linter.unusedVariables false
set_option linter.unusedSimpArgs false
theorem Qba {a b : List (Cu × Cu)} (ha : Sm a) (hb : Sm b) (hab : a.length + b.length <= 1000000) : Ok Tryz.prog 111 [ZJ a, ZJ b] (ZJ (QpD a b)) := by
 refine Ok.ofT ZQ Tryz.func111 Qsq (Nat.le_of_ble_eq_true rfl) ?_
 show TW _ _ tf111.body _ _
 refine Qe fun K hK => Qa rfl ?_
 refine hK _ _ (Qb (kp2 rfl rfl) ?_)
 refine QD ?_ -- 0
 refine Qe fun K hK => Qa rfl (QF (ZY ha) rfl rfl (.inr rfl) (Ye rfl (Qa rfl ?_)))
 refine QB (g := 10) rfl (fun h1 => ?_) (fun h1 => ?_)
 ·try rw [h1]
  try simp only [qa, qb, qc, qd, qe] at h1
  refine Qq rfl (Qq rfl (Qq rfl (Ql rfl rfl ?_)))
  refine hK _ _ (Qb (kp3 rfl rfl rfl) ?_)
  refine Zl rfl (Qe fun K hK => Qa rfl ?_)
  refine hK _ _ (Qb (kp1 rfl) ?_)
  refine Qu (Qj (Yk rfl ?_))
  rw [QpD, if_neg (by simp [h1])]; rfl
 ·try rw [h1]
  try simp only [qa, qb, qc, qd, qe] at h1
  refine Qg rfl (Qa rfl (Qg rfl (QF (ZY hb) rfl rfl (.inr rfl) (Qg rfl (Ye rfl (Ql rfl rfl ?_))))))
  refine hK _ _ (Qb (kp3 rfl rfl rfl) ?_)
  refine Qw rfl (fun h2 => ?_) (fun h2 => ?_)
  ·try rw [h2]
   try simp only [qa, qb, qc, qd, qe] at h2
   refine Qe fun K hK => Qa rfl ?_
   refine hK _ _ (Qb (kp1 rfl) ?_)
   refine Qu (Qj (Yk rfl ?_))
   rw [QpD, if_neg (by simp [h1, h2])]; rfl
  ·try rw [h2]
   try simp only [qa, qb, qc, qd, qe] at h2
   refine Qv (Qd (kp2 rfl rfl) (Qe fun K hK => Qa rfl (Qpj rfl rfl (fun _ h => QnM QpI h) rfl (.inl rfl) (by simp) (by simp; omega) (by simp; omega) (Qa rfl (Xz rfl rfl (fun _ h => QnM QpI h) rfl (by simp) rfl rfl rfl (by simp; omega) (by simp; omega) ?_)))))
   apply QpS [17] (by simp)
   ·simp [St.freezeL, St.freeze, rem, D.fz, D.fzS, Box.fz, lk, D.scrub]; exact ⟨rfl, rfl⟩
   ·exact Qdp (ha.app hb hab)
   ·rfl
   ·simp [Qa9, D.fz, D.fzS, Qdy, D.can, D.canS, ZJ]
   ·exact .inl rfl
   refine Qa rfl (Za rfl rfl (Za rfl rfl (Qa rfl (Qa rfl ?_))))
   refine hK _ _ (Qb (kp1 rfl) ?_)
   refine Qe fun K hK => Qa rfl (Qa rfl ?_)
   refine hK _ _ (Qb (kp1 rfl) ?_)
   refine Qu (Yk rfl ?_)
   rw [QpD, if_pos ⟨h1, h2⟩]; rfl
theorem QaJ {a : List (Cu × Cu)} (ha : Sm a) : Ok Tryz.prog 113 [ZJ a] (ZJ (Qkc a)) := by
 refine Ok.ofT ZQ Tryz.func113 Qss (Nat.le_of_ble_eq_true rfl) ?_
 show TW _ _ tf113.body _ _
 have hn := ha.1
 have hc1 := Qcq a
 refine Qe fun K hK => Qa rfl ?_
 refine hK _ _ (Qb (kp1 rfl) ?_)
 refine QD ?_ -- 0
 refine Qe fun K hK => Qa rfl (QF (ZY ha) rfl rfl (.inr rfl) (Ye rfl ?_))
 refine hK _ _ (Qb (kp2 rfl rfl) ?_)
 refine Qw rfl (fun h1 => ?_) (fun h1 => ?_)
 ·try rw [h1]
  try simp only [qa, qb, qc, qd, qe, List.length_map] at h1
  refine Qe fun K hK => Qa rfl ?_
  refine hK _ _ (Qb (kp1 rfl) ?_)
  refine Qu (Qj (Yk rfl ?_))
  rw [Qkc, if_neg (by simp [h1])]; rfl
 ·try rw [h1]
  try simp only [qa, qb, qc, qd, qe, List.length_map] at h1
  refine Qv (Qd (kp1 rfl) (Qe fun K hK => Qa rfl ?_))
  refine hK _ _ (Qb (kp2 rfl rfl) ?_)
  refine Qe fun K hK => Qa rfl (QF (Qav ha) rfl rfl (.inl rfl) (Qa rfl ?_))
  refine hK _ _ (Qb (kp3 rfl rfl rfl) ?_)
  refine QD ?_ -- 1
  refine Qe fun K hK => Qa rfl ?_
  refine hK _ _ (Qb (kp4 rfl rfl rfl rfl) ?_)
  refine Qz ?_
  refine Zm (ι := Nat × List (Cu × Cu)) (fun ⟨i, out⟩ => ⟨[(0, ZJ a), (3, .osl 3 out.length), (4, QhE (YY a)), (5, .int .i64 i)], [(3, ⟨out.map Qe6, 14, 115, true⟩)]⟩) (fun ⟨i, out⟩ => i <= (YY a).length /\ FillI (fun x y => !mIn a x y) (YY a) i out) (fun ⟨i, out⟩ => (YY a).length - i) (0, []) ?_ ?_ ?_
  ·exact le_trans (Yj 3 3 14 115 rfl rfl) (Q2 (l := [0, 3, 4, 5]) (lH := [3]) (kp4 rfl rfl rfl rfl) (Qf rfl Qn) rfl rfl rfl)
  ·exact ⟨Nat.zero_le _, FillI.zero⟩
  intro ⟨i, out⟩ hI
  obtain ⟨hI1, hI2⟩ := hI
  have hI3 := hI2.1
  try dsimp only
  refine QD ?_ -- 2
  refine Qe fun K hK => Qa rfl (QY rfl rfl (by first | exact Qr (by omega) (by omega) | rfl) (Qa rfl (QR rfl rfl (Yb rfl rfl ?_))))
  refine hK _ _ (Qb (kp5 rfl rfl rfl rfl rfl) ?_)
  refine Qw rfl (fun h2 => ?_) (fun h2 => ?_)
  ·try rw [h2]
   try simp only [qa, qb, qc, qd, qe, List.length_map] at h2
   refine Qv (Qd (kp4 rfl rfl rfl rfl) ?_)
   refine QD ?_ -- 3
   refine Qz (Qe fun K hK => Qa rfl (Qa rfl (Qa rfl (QJ rfl rfl rfl (by omega) (QT (by omega)) rfl (QO (ds0 := [1, 0]) (cs := [_, _, _, _, _, _, _]) rfl rfl rfl rfl rfl rfl (Qa rfl (Qa rfl (QY rfl rfl (by first | exact Qr (by omega) (by omega) | rfl) (QJ rfl rfl rfl (by omega) (Qk0 (by omega)) rfl (QO (ds0 := [1, 0]) (cs := [_, _, _, _, _, _, _]) rfl rfl rfl rfl rfl rfl ?_))))))))))
   refine QS (ds0 := [0]) (Qbb ha (YC ha _ (List.getElem_mem (by omega))) (YC ha _ (List.getElem_mem (by omega)))) rfl rfl (.inr rfl) rfl rfl (Ye rfl ?_)
   refine hK _ _ (Qb (kp5 rfl rfl rfl rfl rfl) ?_)
   refine Qw rfl (fun h3 => ?_) (fun h3 => ?_)
   ·try rw [h3]
    try simp only [qa, qb, qc, qd, qe, List.length_map] at h3
    refine QN fun K hK => Qa rfl (Qa rfl (Qa rfl (QJ rfl rfl rfl (by omega) (QT (by omega)) rfl (QO (ds0 := [1, 0]) (cs := [_, _, _, _, _, _, _]) rfl rfl rfl rfl rfl rfl (Qa rfl (Qa rfl (QY rfl rfl (by first | exact Qr (by omega) (by omega) | rfl) (QJ rfl rfl rfl (by omega) (Qk0 (by omega)) rfl (QO (ds0 := [1, 0]) (cs := [_, _, _, _, _, _, _]) rfl rfl rfl rfl rfl rfl (QkD (ds0 := [0]) (QkM (k := 3) rfl rfl rfl (by decide) rfl (by decide) (by simp [D.ids, D.sid, dCu]) ⟨.osl 3 out.length, by simp, by simp [D.ids, D.sid]⟩ rfl rfl (Qaw (by omega) hI2.2.1 (YC ha _ (List.getElem_mem (by omega))) (YC ha _ (List.getElem_mem (by omega))))) (fun _ h => by cases h) rfl rfl ?_))))))))))
    refine Qa rfl (hK _ ?_)
    refine Qh (Qd (kp4 rfl rfl rfl rfl) (QN fun K hK => Qa rfl (QY rfl rfl (by first | exact Qr (by omega) (by omega) | rfl) (Qa rfl (hK _ ?_)))))
    refine Qk (i + 1, Qcs out (YY a)[i] (YY a)[i + 1]) ?_ ?_ ?_
    ·exact le_trans (Qm0 (l := [0, 4, 5]) (t := 40) (u := 3) 3 (kp3 rfl rfl rfl) rfl rfl rfl rfl) (Q2 (l := [0, 3, 4, 5]) (lH := [3]) (kp4 rfl rfl rfl rfl) (Qf rfl Qn) rfl rfl rfl)
    ·exact ⟨by omega, hI2.take (YC ha) (by omega) (by simp; assumption)⟩
    ·show (YY a).length - (i + 1) < (YY a).length - i; omega
   ·try rw [h3]
    try simp only [qa, qb, qc, qd, qe, List.length_map] at h3
    refine Qv (Qh (Qd (kp4 rfl rfl rfl rfl) (QN fun K hK => Qa rfl (QY rfl rfl (by first | exact Qr (by omega) (by omega) | rfl) (Qa rfl (hK _ ?_))))))
    refine Qk (i + 1, out) ?_ ?_ ?_
    ·exact Q2 (l := [0, 3, 4, 5]) (lH := [3]) (kp4 rfl rfl rfl rfl) (Qf rfl Qn) rfl rfl rfl
    ·exact ⟨by omega, hI2.skip (by omega) (by simp; assumption)⟩
    ·show (YY a).length - (i + 1) < (YY a).length - i; omega
  ·try rw [h2]
   try simp only [qa, qb, qc, qd, qe, List.length_map] at h2
   refine Zh (QL (Qx (QE (Qd (kp1 rfl) (Qe fun K hK => Qa rfl (Qa rfl ?_))))))
   refine hK _ _ (Qb (kp1 rfl) ?_)
   refine Qu (Yk rfl ?_)
   rw [Qkc, if_pos h1, hI2.done (by omega)]; simp [Qa9, D.fz, D.fzS, Qdy, lk, D.can, D.canS, ZJ]
end Go.Proofs
namespace Go.Proofs
open Go Go.Abs M3 M25
set_option linter.unusedVariables false
set_option linter.unusedSimpArgs false
theorem Qes {a b : Qfz} (h1a : Sm a.1) (h2a : Sm a.2) (h1b : Sm b.1) (h2b : Sm b.2) (hl1 : a.1.length + b.1.length <= 1000000) (hl2 : a.2.length + b.2.length <= 1000000) : Ok Tryz.prog 97 [QhF a, QhF b] (QhF (QpE a b)) := by
 refine Ok.ofT ZQ Tryz.func97 Quc (Nat.le_of_ble_eq_true rfl) ?_
 show TW _ _ tf97.body _ _
 refine Qe fun K hK => Zo rfl rfl rfl (Zo rfl rfl rfl (ZK rfl ?_))
 refine hK _ _ (Qb (kp3 rfl rfl rfl) ?_)
 refine QD ?_ -- 0
 refine Qe fun K hK => QG (cs := [_, _]) rfl rfl rfl rfl (QF (YM h1a h2a) rfl rfl (.inr rfl) (Ye rfl (Qa rfl ?_)))
 refine QB (g := 8) rfl (fun h1 => ?_) (fun h1 => ?_)
 ·try rw [h1]
  try simp only [qa, qb, qc, qd, qe] at h1
  refine Qq rfl (Qq rfl (Qq rfl (Ql rfl rfl ?_)))
  refine hK _ _ (Qb (kp4 rfl rfl rfl rfl) ?_)
  refine Zl rfl (Qe fun K hK => QF (Yd) rfl rfl (.inl rfl) (Q7 rfl rfl rfl rfl rfl rfl rfl rfl ?_))
  refine hK _ _ (Qb (kp1 rfl) ?_)
  refine Qu (Qj (Post.eq (ZH (ds := [.sl _, .sl _]) (cs := [_, _]) rfl rfl rfl rfl rfl) ?_))
  rw [QpE, if_neg (by simp [h1])]; rfl
 ·try rw [h1]
  try simp only [qa, qb, qc, qd, qe] at h1
  refine Qg rfl (QG (cs := [_, _]) rfl rfl rfl rfl (Qg rfl (QF (YM h1b h2b) rfl rfl (.inr rfl) (Qg rfl (Ye rfl (Ql rfl rfl ?_))))))
  refine hK _ _ (Qb (kp4 rfl rfl rfl rfl) ?_)
  refine Qw rfl (fun h2 => ?_) (fun h2 => ?_)
  ·try rw [h2]
   try simp only [qa, qb, qc, qd, qe] at h2
   refine Qe fun K hK => QF (Yd) rfl rfl (.inl rfl) (Q7 rfl rfl rfl rfl rfl rfl rfl rfl ?_)
   refine hK _ _ (Qb (kp1 rfl) ?_)
   refine Qu (Qj (Post.eq (ZH (ds := [.sl _, .sl _]) (cs := [_, _]) rfl rfl rfl rfl rfl) ?_))
   rw [QpE, if_neg (by simp [h1, h2])]; rfl
  ·try rw [h2]
   try simp only [qa, qb, qc, qd, qe] at h2
   refine Qv (Qd (kp3 rfl rfl rfl) (Qe fun K hK => Qi rfl rfl (QP (ds0 := [7, 1, 0]) rfl rfl rfl rfl rfl (Qi rfl rfl (QP (ds0 := [7, 1, 0]) rfl rfl rfl rfl rfl (QS (ds0 := [1, 0]) (Qba h1a h1b hl1) rfl rfl (.inl rfl) rfl rfl (Qi rfl rfl (QP (ds0 := [2, 1, 0]) rfl rfl rfl rfl rfl (Qi rfl rfl (QP (ds0 := [2, 1, 0]) rfl rfl rfl rfl rfl ?_))))))))))
   refine QS (ds0 := [1, 0]) (Qba h2a h2b hl2) rfl rfl (.inl rfl) rfl rfl (QU rfl rfl (Xn (ds0 := []) rfl rfl rfl rfl rfl rfl rfl rfl rfl rfl ?_))
   refine hK _ _ (Qb (kp1 rfl) ?_)
   refine Qu (Post.eq (ZH (ds := [.sl _, .sl _]) (cs := [_, _]) rfl rfl rfl rfl rfl) ?_)
   rw [QpE, if_pos ⟨h1, h2⟩]; rfl
theorem QdL {a : Qfz} (h1a : Sm a.1) (h2a : Sm a.2) : Ok Tryz.prog 99 [QhF a] (QhF (Qia a)) := by
 refine Ok.ofT ZQ Tryz.func99 Que (Nat.le_of_ble_eq_true rfl) ?_
 show TW _ _ tf99.body _ _
 refine Qe fun K hK => Zo rfl rfl rfl (ZK rfl ?_)
 refine hK _ _ (Qb (kp2 rfl rfl) ?_)
 refine QD ?_ -- 0
 refine Qe fun K hK => QG (cs := [_, _]) rfl rfl rfl rfl (QF (YM h1a h2a) rfl rfl (.inr rfl) (Ye rfl ?_))
 refine hK _ _ (Qb (kp3 rfl rfl rfl) ?_)
 refine Qw rfl (fun h1 => ?_) (fun h1 => ?_)
 ·try rw [h1]
  try simp only [qa, qb, qc, qd, qe] at h1
  refine Qe fun K hK => QF (Yd) rfl rfl (.inl rfl) (Q7 rfl rfl rfl rfl rfl rfl rfl rfl ?_)
  refine hK _ _ (Qb (kp1 rfl) ?_)
  refine Qu (Qj (Post.eq (ZH (ds := [.sl _, .sl _]) (cs := [_, _]) rfl rfl rfl rfl rfl) ?_))
  rw [Qia, if_neg (by simp [h1])]; rfl
 ·try rw [h1]
  try simp only [qa, qb, qc, qd, qe] at h1
  refine Qv (Qd (kp2 rfl rfl) (Qe fun K hK => Qi rfl rfl (QP (ds0 := [5, 1, 0]) rfl rfl rfl rfl rfl (QS (ds0 := [1, 0]) (QaJ h1a) rfl rfl (.inl rfl) rfl rfl (Qi rfl rfl (QP (ds0 := [2, 1, 0]) rfl rfl rfl rfl rfl (QS (ds0 := [1, 0]) (QaJ h2a) rfl rfl (.inl rfl) rfl rfl (QU rfl rfl (Xn (ds0 := []) rfl rfl rfl rfl rfl rfl rfl rfl rfl rfl ?_)))))))))
  refine hK _ _ (Qb (kp1 rfl) ?_)
  refine Qu (Post.eq (ZH (ds := [.sl _, .sl _]) (cs := [_, _]) rfl rfl rfl rfl rfl) ?_)
  rw [Qia, if_pos h1]; rfl
end Go.Proofs
namespace Go.Proofs
open Go Go.Abs M3 M25
set_option linter.unusedVariables false
set_option linter.unusedSimpArgs false
theorem Z3 {v n : Int} (hn : n <= 9223372036854775807) (hv : I64 v) : Ok Tryz.prog 13 [.int .i64 v, .int .i64 n] (.int .i64 (mPl v n)) := by
 refine Ok.ofT ZQ Tryz.func13 Qs2 (Nat.le_of_ble_eq_true rfl) ?_
 show TW _ _ tf13.body _ _
 refine Qe fun K hK => Qa rfl ?_
 refine hK _ _ (Qb (kp2 rfl rfl) ?_)
 refine QD ?_ -- 0
 refine Qe fun K hK => Qa rfl (Yb rfl rfl ?_)
 refine hK _ _ (Qb (kp3 rfl rfl rfl) ?_)
 refine Qw rfl (fun h1 => ?_) (fun h1 => ?_)
 ·try rw [h1]
  try simp only [qa, qb, qc, qd, qe] at h1
  refine Qe fun K hK => Qa rfl ?_
  refine hK _ _ (Qb (kp1 rfl) ?_)
  refine Qu (Qj (Qy rfl ?_))
  rw [mPl, if_pos h1]
 ·try rw [h1]
  try simp only [qa, qb, qc, qd, qe] at h1
  refine Qv (Qd (kp2 rfl rfl) (Qe fun K hK => Qa rfl (Qa rfl (Qmi rfl rfl (by omega) (Qa rfl ?_)))))
  refine hK _ _ (Qb (kp2 rfl rfl) ?_)
  refine QD ?_ -- 1
  refine Qe fun K hK => Qa rfl (Yb rfl rfl ?_)
  refine hK _ _ (Qb (kp3 rfl rfl rfl) ?_)
  refine Qw rfl (fun h2 => ?_) (fun h2 => ?_)
  ·try rw [h2]
   try simp only [qa, qb, qc, qd, qe] at h2
   refine Qe fun K hK => Qa rfl (Qa rfl (QY rfl rfl (Qr (by have := Int.lt_tmod_of_pos v (show 0 < n by omega); omega) (by have := Int.tmod_lt_of_pos v (show 0 < n by omega); omega)) (Qa rfl ?_)))
   refine hK _ _ (Qb (kp1 rfl) ?_)
   refine Qu (Qj (Qy rfl ?_))
   rw [mPl, if_neg h1, Qgd, if_pos h2]
  ·try rw [h2]
   try simp only [qa, qb, qc, qd, qe] at h2
   refine Qv (Qd (kp1 rfl) (Qe fun K hK => Qa rfl (Qa rfl ?_)))
   refine hK _ _ (Qb (kp1 rfl) ?_)
   refine Qu (Qy rfl ?_)
   rw [mPl, if_neg h1, Qgd, if_neg h2]
theorem Qeq {l : List Int} {i : Int} : Ok Tryz.prog 73 [ZC l, .int .i64 i] (.int .i64 (Qn0 l i)) := by
 refine Ok.ofT ZQ Tryz.func73 QtQ (Nat.le_of_ble_eq_true rfl) ?_
 show TW _ _ tf73.body _ _
 refine Qe fun K hK => Qa rfl ?_
 refine hK _ _ (Qb (kp2 rfl rfl) ?_)
 refine QD ?_ -- 0
 refine Qe fun K hK => Qa rfl (Yb rfl rfl (Qa rfl ?_))
 refine QB (g := 7) rfl (fun h1 => ?_) (fun h1 => ?_)
 ·try rw [h1]
  try simp only [qa, qb, qc, qd, qe, List.length_map] at h1
  refine Qq rfl (Qq rfl (Qq rfl (Qq rfl (Ql rfl rfl ?_))))
  refine hK _ _ (Qb (kp3 rfl rfl rfl) ?_)
  refine Zl rfl (Qe fun K hK => Qa rfl (Qmi rfl rfl (by omega) (Qa rfl ?_)))
  refine hK _ _ (Qb (kp1 rfl) ?_)
  refine Qu (Qj (Qy rfl ?_))
  rw [Qn0, if_pos (by omega)]
 ·try rw [h1]
  try simp only [qa, qb, qc, qd, qe, List.length_map] at h1
  refine Qg rfl (Qa rfl (Qg rfl (Qa rfl (Qg rfl (QR rfl rfl (Qg rfl (Qdx rfl rfl (Ql rfl rfl ?_))))))))
  refine hK _ _ (Qb (kp3 rfl rfl rfl) ?_)
  refine Qw rfl (fun h2 => ?_) (fun h2 => ?_)
  ·try rw [h2]
   try simp only [qa, qb, qc, qd, qe, List.length_map] at h2
   refine Qe fun K hK => Qa rfl (Qmi rfl rfl (by omega) (Qa rfl ?_))
   refine hK _ _ (Qb (kp1 rfl) ?_)
   refine Qu (Qj (Qy rfl ?_))
   rw [Qn0, if_pos (by omega)]
  ·try rw [h2]
   try simp only [qa, qb, qc, qd, qe, List.length_map] at h2
   refine Qv (Qd (kp2 rfl rfl) (Qe fun K hK => Qa rfl (Qa rfl (QJ rfl rfl rfl (by omega) (ZA (by omega) (by omega)) rfl (QC rfl rfl rfl (Qa rfl ?_))))))
   refine hK _ _ (Qb (kp1 rfl) ?_)
   refine Qu (Qy rfl ?_)
   exact (Qm8 (by omega) (by omega)).symm
theorem XV {k : Nat} {L : List Int} {I n : Int} (hk : 1000000 <= k) (hL : ∀ x ∈ L, I64 x) (hn : n <= 9223372036854775807) (et : Nat) : OkH Tryz.prog 42 [.ref k 0 0, .int .i64 n] [(k, gB L I et)] (.int .i64 (nx L I n)) ((k, gB L (nxI I) et) :: [(k, gB L I et)]) := by
 refine OkH.lent hk ZQ Tryz.func42 Qto (Nat.le_of_ble_eq_true rfl) rfl ?_
 show TW _ _ tf42.body _ _
 refine Qe fun K hK => Qa rfl ?_
 refine hK _ _ (Qb (kp2 rfl rfl) ?_)
 refine Qe fun K hK => Qa rfl (Yg rfl rfl (Qi rfl Qfl (QC rfl (Z9 QeF rfl) rfl (QY rfl rfl rfl (Yg rfl rfl (Qi rfl Qfl (Q7 rfl QeF rfl rfl rfl rfl rfl rfl ?_)))))))
 refine hK _ _ (Qb (kp2 rfl rfl) ?_)
 refine Qe fun K hK => Qa rfl (Yg rfl rfl (Qi rfl Qfl (QP (ds0 := [3, 1, 0]) rfl (Z9 QeF rfl) rfl rfl rfl (Qa rfl (Yg rfl rfl (Qi rfl Qfl (QP (ds0 := [4, 3, 1, 0]) rfl (Z9 QeF rfl) rfl rfl rfl (X2 rfl rfl rfl (QS (ds0 := [1, 0]) (Qeq) rfl rfl (.inr rfl) rfl rfl (Qa rfl ?_))))))))))
 refine QS (ds0 := [0]) (Z3 hn (QoF hL (Qgw _))) rfl rfl (.inr rfl) rfl rfl (Qa rfl ?_)
 refine hK _ _ (Qb (kp1 rfl) ?_)
 refine Qu ?_
 exact Y5 rfl rfl (QqD QeF)
end Go.Proofs
namespace Go.Proofs
open Go Go.Abs M3 M25
set_option linter.unusedVariables false
set_option linter.unusedSimpArgs false
theorem Yx {v : Int} (h0 : 0 <= v) (h1v : v <= 61) : Ok Tryz.prog 55 [.int .i64 v] (.int .i64 (2 ^ v.toNat)) := by
 refine Ok.ofT ZQ Tryz.func55 QtB (Nat.le_of_ble_eq_true rfl) ?_
 show TW _ _ tf55.body _ _
 refine Qe fun K hK => Qa rfl ?_
 refine hK _ _ (Qb (kp1 rfl) ?_)
 refine Qe fun K hK => Qa rfl ?_
 refine hK _ _ (Qb (kp2 rfl rfl) ?_)
 refine QD ?_ -- 0
 refine Qe fun K hK => Qa rfl ?_
 refine hK _ _ (Qb (kp3 rfl rfl rfl) ?_)
 refine Qz ?_
 refine Zm (ι := Nat) (fun i => ⟨[(0, .int .i64 v), (3, .int .i64 (2 ^ i)), (4, .int .i64 i)], []⟩) (fun i => (i : Int) <= v) (fun i => v.toNat - i) 0 ?_ ?_ ?_
 ·exact Zf (kp3 rfl rfl rfl)
 ·exact h0
 intro i hI
 have hp := Qig (i := i + 1) (by omega)
 rw [Int.pow_succ] at hp
 try dsimp only
 refine QD ?_ -- 1
 refine Qe fun K hK => Qa rfl (Qa rfl (Yb rfl rfl ?_))
 refine hK _ _ (Qb (kp4 rfl rfl rfl rfl) ?_)
 refine Qw rfl (fun h1 => ?_) (fun h1 => ?_)
 ·try rw [h1]
  try simp only [qa, qb, qc, qd, qe] at h1
  refine Qv (Qd (kp3 rfl rfl rfl) ?_)
  refine QD ?_ -- 2
  refine Qz (QN fun K hK => Qa rfl (Qn4 rfl rfl (Qr (by obtain ⟨p1, p2⟩ := hp; generalize (2 : Int) ^ i = z at *; omega) (by obtain ⟨p1, p2⟩ := hp; generalize (2 : Int) ^ i = z at *; omega)) (Qa rfl (hK _ ?_))))
  refine Qh (Qd (kp3 rfl rfl rfl) (QN fun K hK => Qa rfl (QY rfl rfl (Qr (by omega) (by omega)) (Qa rfl (hK _ ?_)))))
  refine Qk (i + 1) ?_ ?_ ?_
  ·exact Q2 (l := [0, 3, 4]) (lH := []) (kp3 rfl rfl rfl) Qn (by rw [Int.pow_succ]; rfl) rfl rfl
  ·show ((i + 1 : Nat) : Int) <= v; omega
  ·first | omega | (simp only; omega) | (dsimp only; omega)
 ·try rw [h1]
  try simp only [qa, qb, qc, qd, qe] at h1
  refine Zh (QL (Qx (QE (Qd (kp1 rfl) (Qe fun K hK => Qa rfl (Qa rfl ?_))))))
  refine hK _ _ (Qb (kp1 rfl) ?_)
  refine Qu (Qy rfl ?_)
  rw [show v.toNat = i by omega]
theorem XW {h m : Int} : Ok Tryz.prog 60 [.int .i64 h, .int .i64 m] (.int .i64 (XF h m)) := by
 refine Ok.ofT ZQ Tryz.func60 QtF (Nat.le_of_ble_eq_true rfl) ?_
 show TW _ _ tf60.body _ _
 refine Qe fun K hK => Qa rfl ?_
 refine hK _ _ (Qb (kp2 rfl rfl) ?_)
 refine QD ?_ -- 0
 refine Qz (Qe fun K hK => Qa rfl (Qa rfl (QcS rfl rfl (Qa rfl (ZI rfl rfl (Qa rfl ?_))))))
 refine hK _ _ (Qb (kp3 rfl rfl rfl) ?_)
 refine Qw rfl (fun h1 => ?_) (fun h1 => ?_)
 ·try rw [h1]
  try simp only [qa, qb, qc, qd, qe] at h1
  refine Qe fun K hK => Qa rfl ?_
  refine hK _ _ (Qb (kp1 rfl) ?_)
  refine Qu (Qt (Qj (Qy rfl ?_)))
  rw [XF, if_pos h1]
 ·try rw [h1]
  try simp only [qa, qb, qc, qd, qe] at h1
  refine Qe fun K hK => Qa rfl (Qa rfl (QcS rfl rfl (ZI rfl rfl (Qa rfl ?_))))
  refine hK _ _ (Qb (kp1 rfl) ?_)
  refine Qw rfl (fun h2 => ?_) (fun h2 => ?_)
  ·try rw [h2]
   try simp only [qa, qb, qc, qd, qe] at h2
   refine Qe fun K hK => Qa rfl ?_
   refine hK _ _ (Qb (kp1 rfl) ?_)
   refine Qu (Qt (Qj (Qy rfl ?_)))
   rw [XF, if_neg h1, if_pos h2]
  ·try rw [h2]
   try simp only [qa, qb, qc, qd, qe] at h2
   refine Qv (Qh (Qd (Q0) (Qe fun K hK => Qa rfl ?_)))
   refine hK _ _ (Qb (kp1 rfl) ?_)
   refine Qu (Qy rfl ?_)
   rw [XF, if_neg h1, if_neg h2]
theorem QeW {h m : Int} : Ok Tryz.prog 52 [.int .i64 h, .int .i64 m] (.int .i64 (QaZ h m)) := by
 refine Ok.ofT ZQ Tryz.func52 Qty (Nat.le_of_ble_eq_true rfl) ?_
 show TW _ _ tf52.body _ _
 refine Qe fun K hK => Qa rfl ?_
 refine hK _ _ (Qb (kp2 rfl rfl) ?_)
 refine QD ?_ -- 0
 refine Qz (Qe fun K hK => Qa rfl (Qa rfl (Qfc rfl rfl (ZI rfl rfl (Qa rfl ?_)))))
 refine hK _ _ (Qb (kp3 rfl rfl rfl) ?_)
 refine Qw rfl (fun h1 => ?_) (fun h1 => ?_)
 ·try rw [h1]
  try simp only [qa, qb, qc, qd, qe] at h1
  refine Qe fun K hK => Qa rfl ?_
  refine hK _ _ (Qb (kp1 rfl) ?_)
  refine Qu (Qt (Qj (Qy rfl ?_)))
  rw [QaZ, if_pos h1]
 ·try rw [h1]
  try simp only [qa, qb, qc, qd, qe] at h1
  refine Qe fun K hK => Qa rfl (Qa rfl (QcS rfl rfl (ZI rfl rfl (Qa rfl ?_))))
  refine hK _ _ (Qb (kp1 rfl) ?_)
  refine Qw rfl (fun h2 => ?_) (fun h2 => ?_)
  ·try rw [h2]
   try simp only [qa, qb, qc, qd, qe] at h2
   refine Qe fun K hK => Qa rfl ?_
   refine hK _ _ (Qb (kp1 rfl) ?_)
   refine Qu (Qt (Qj (Qy rfl ?_)))
   rw [QaZ, if_neg h1, if_pos h2]
  ·try rw [h2]
   try simp only [qa, qb, qc, qd, qe] at h2
   refine Qv (Qh (Qd (Q0) (Qe fun K hK => Qa rfl ?_)))
   refine hK _ _ (Qb (kp1 rfl) ?_)
   refine Qu (Qy rfl ?_)
   rw [QaZ, if_neg h1, if_neg h2]
end Go.Proofs
namespace Go.Proofs
open Go Go.Abs M3 M25
set_option linter.unusedVariables false
set_option linter.unusedSimpArgs false
theorem Xr  : Ok Tryz.prog 66 [] (.sl (versions.map dVr)) := by
 refine Ok.ofT ZQ Tryz.func66 QtJ (Nat.le_of_ble_eq_true rfl) ?_
 show TW _ _ tf66.body _ _
 refine Qe fun K hK => Qa rfl ?_
 refine hK _ _ (Qb (Q0) ?_)
 refine Qe fun K hK => QU rfl rfl (QU rfl rfl (QU rfl rfl (QU rfl rfl (QH rfl rfl (Qa rfl ?_)))))
 refine hK _ _ (Qb (kp1 rfl) ?_)
 refine Qu (Yk rfl ?_)
 rfl
end Go.Proofs
namespace M25
open Go Go.Abs M3
structure WantT where
 u : Int
 s : Qfz
structure CandT where
 v : Vr
 sh : Int
 ns : List (List WantT)
 bs : List WantT
structure Qmj where
 n : List UInt8
 f : List UInt8
 cs : List CandT
abbrev Qm := List Qmj
def Qe7 (x : WantT) : List D := [.int .i64 x.u, ZJ x.s.1, ZJ x.s.2]
def Zc (l : List WantT) : D := .sl (l.map Qe7)
def QZ (l : List (List WantT)) : D := .sl (l.map fun r => [Zc r])
def Qqb (c : CandT) : List D := [.int .i64 c.v.a, .int .i64 c.v.b, .int .i64 c.v.c, .str c.v.p, .str c.v.q, .int .i64 c.sh, QZ c.ns, Zc c.bs]
def QkO (l : List CandT) : D := .sl (l.map Qqb)
def Ym (u : Qmj) : List D := [.str u.n, .str u.f, QkO u.cs]
def ZP (w : Qm) : D := .agg [.sl (w.map Ym)]
structure TermT where
 u : Int
 m : Int
 deriving DecidableEq
structure QK where
 u : Int
 m : Int
 l : Int
 c : Int
 deriving DecidableEq
structure RowT where
 k : Int
 u : Int
 a : Int
 b : Int
 t : List TermT
def QbZ (t : TermT) : List D := [.int .i64 t.u, .int .i64 t.m]
def Zt (l : List TermT) : D := .sl (l.map QbZ)
def QfL (s : QK) : List D := [.int .i64 s.u, .int .i64 s.m, .int .i64 s.l, .int .i64 s.c]
def Zs (l : List QK) : D := .sl (l.map QfL)
def Qmw (r : RowT) : List D := [.int .i64 r.k, .int .i64 r.u, .int .i64 r.a, .int .i64 r.b, Zt r.t]
def Qrg (l : List RowT) : D := .sl (l.map Qmw)
def dDb (l : List (List TermT)) : D := .sl (l.map fun t => [Zt t])
abbrev XU (a b : Int) : Int := QaC .and .i64 a b
abbrev bor (a b : Int) : Int := QaC .or .i64 a b
abbrev Qiv (a b : Int) : Int := QaC .andNot .i64 a b
def uAt (w : Qm) (u : Int) : Option Qmj := if u < 0 then none else w[u.toNat]?
theorem Qhq {w : Qm} {u : Int} (h0 : 0 <= u) (h : u < w.length) : uAt w u = some (w[u.toNat]'(by omega)) := by
 rw [uAt, if_neg (by omega), List.getElem?_eq_getElem (by omega)]
theorem Qir {w : Qm} {u : Int} (h : u < 0 \/ (w.length : Int) <= u) : uAt w u = none := by
 unfold uAt
 split
 ·rfl
 ·rw [List.getElem?_eq_none]; omega
def Yz (w : Qm) (u : Int) : Int := match uAt w u with
 | none => 0
 | some x => 2 ^ (min x.cs.length 16 + 1) - 1
theorem Qh6 {w : Qm} {u : Int} (h0 : 0 <= u) (h : u < w.length) : Yz w u = 2 ^ (min (w[u.toNat]'(by omega)).cs.length 16 + 1) - 1 := by
 rw [Yz, Qhq h0 h]
theorem Qd2 {w : Qm} {u : Int} (h : u < 0 \/ (w.length : Int) <= u) : Yz w u = 0 := by rw [Yz, Qir h]
theorem Qd1 (w : Qm) (u : Int) : 0 <= Yz w u /\ Yz w u <= 131071 := by
 unfold Yz
 split
 ·omega
 ·rename_i x _
  have h1 : (2 : Nat) ^ (min x.cs.length 16 + 1) <= 2 ^ 17 := Nat.pow_le_pow_right (by omega) (by omega)
  have h2 : 1 <= (2 : Nat) ^ (min x.cs.length 16 + 1) := Nat.one_le_two_pow
  have h3 : ((2 ^ (min x.cs.length 16 + 1) : Nat) : Int) = (2 : Int) ^ (min x.cs.length 16 + 1) := by simp
  rw [<- h3]
  have h4 : (2 : Nat) ^ 17 = 131072 := by decide
  omega
def QgM (v : Vr) : Prop := v.p.length <= 1000000 /\ v.q.length <= 1000000
structure WSm (w : Qm) : Prop where
 len : w.length <= 48
 cs : ∀ u ∈ w, u.cs.length <= 16
 vs : ∀ u ∈ w, ∀ c ∈ u.cs, QgM c.v
 ns : ∀ u ∈ w, ∀ c ∈ u.cs, c.ns.length <= 1000 /\ c.bs.length <= 1000
 nl : ∀ u ∈ w, ∀ c ∈ u.cs, ∀ r ∈ c.ns, r.length <= 1000
 nw : ∀ u ∈ w, ∀ c ∈ u.cs, ∀ r ∈ c.ns, ∀ x ∈ r, Sm x.s.1 /\ Sm x.s.2
 bw : ∀ u ∈ w, ∀ c ∈ u.cs, ∀ x ∈ c.bs, Sm x.s.1 /\ Sm x.s.2
def Qr6 (s : Qfz) (v : Vr) : Bool := QlW s v.a v.b v.c v.p v.q
def Qb1 (s : Qfz) (l : List CandT) : Nat -> Int
 | 0 => 0
 | n + 1 => Qb1 s l n + match l[n]? with
  | some c => if Qr6 s c.v = true then 2 ^ (n + 1) else 0
  | none => 0
theorem Qle (s : Qfz) (l : List CandT) : ∀ n, 0 <= Qb1 s l n /\ Qb1 s l n <= 2 ^ (n + 1) - 2
 | 0 => by simp [Qb1]
 | n + 1 => by
  obtain ⟨h1, h2⟩ := Qle s l n
  have h3 : (2 : Int) ^ (n + 1 + 1) = 2 ^ (n + 1) * 2 := Int.pow_succ ..
  have h4 : (0 : Int) < 2 ^ (n + 1) := Int.pow_pos (by omega)
  rw [Qb1, h3]
  generalize (2 : Int) ^ (n + 1) = z at *
  split
  ·split <;> omega
  ·omega
theorem Qnj {s : Qfz} {l : List CandT} {i : Nat} (h : i < l.length) (hp : Qr6 s l[i].v = true) : Qb1 s l (i + 1) = Qb1 s l i + 2 ^ (i + 1) := by
 rw [Qb1, List.getElem?_eq_getElem h]; simp only [hp, if_true]
theorem QoL {s : Qfz} {l : List CandT} {i : Nat} (h : i < l.length) (hp : Qr6 s l[i].v = false) : Qb1 s l (i + 1) = Qb1 s l i := by
 rw [Qb1, List.getElem?_eq_getElem h]; simp only [hp, Bool.false_eq_true, if_false, Int.add_zero]
def QjL (w : Qm) (x : WantT) : Int := match uAt w x.u with
 | none => 0
 | some un => Qb1 x.s un.cs (min un.cs.length 16)
theorem Qnd {w : Qm} {x : WantT} (h0 : 0 <= x.u) (h : x.u < w.length) : QjL w x = Qb1 x.s (w[x.u.toNat]'(by omega)).cs (min (w[x.u.toNat]'(by omega)).cs.length 16) := by
 rw [QjL, Qhq h0 h]
theorem Qk9 {w : Qm} {x : WantT} (h : x.u < 0 \/ (w.length : Int) <= x.u) : QjL w x = 0 := by rw [QjL, Qir h]
theorem QoU {n : Nat} (h : n <= 17) : 1 <= (2 : Int) ^ n /\ (2 : Int) ^ n <= 131072 := by
 have h1 : (2 : Nat) ^ n <= 2 ^ 17 := Nat.pow_le_pow_right (by omega) h
 have h2 : 1 <= (2 : Nat) ^ n := Nat.one_le_two_pow
 have h3 : ((2 ^ n : Nat) : Int) = (2 : Int) ^ n := by simp
 rw [<- h3]
 have h4 : (2 : Nat) ^ 17 = 131072 := by decide
 omega
theorem Qld (s : Qfz) (l : List CandT) {n : Nat} (h : n <= 16) : 0 <= Qb1 s l n /\ Qb1 s l n <= 131070 := by
 obtain ⟨h1, h2⟩ := Qle s l n
 have := QoU (n := n + 1) (by omega)
 omega
theorem Qqp (w : Qm) (x : WantT) : 0 <= QjL w x /\ QjL w x <= 131070 := by
 unfold QjL
 split
 ·omega
 ·exact Qld _ _ (by omega)
def Qac (w : Qm) (c : List Int) (u : Int) : Int := match uAt w u with
 | none => 0
 | some x => if (c.length : Int) <= u then 0 else if c.getD u.toNat 0 < -1 \/ ((min x.cs.length 16 : Nat) : Int) <= c.getD u.toNat 0 then 0 else 2 ^ (c.getD u.toNat 0 + 1).toNat
def Qh9 (w : Qm) (t : TermT) (c : List Int) : Bool := !decide (XU (Qac w c t.u) t.m = 0)
def XY (m : Int) : Nat -> List Int
 | 0 => []
 | n + 1 => XY m n ++ if XU m (2 ^ n) = 0 then [] else [(n : Int) - 1]
def Qb0 (m : Int) : List Int := XY m 17
theorem QeA (m : Int) : ∀ n, (XY m n).length <= n
 | 0 => Nat.le_refl _
 | n + 1 => by
  have := QeA m n
  rw [XY, List.length_append]
  split <;> simp <;> omega
def Qd6 (f : Int) (u : Int) : List TermT -> Int
 | [] => f
 | t :: r => if t.u = u then t.m else Qd6 f u r
def Qd5 (w : Qm) (l : List TermT) (u : Int) : Int := Qd6 (Yz w u) u l
theorem Ql2 {f u : Int} {l : List TermT} {i : Nat} (h : i < l.length) (hn : ¬ l[i].u = u) : Qd6 f u (l.drop i) = Qd6 f u (l.drop (i + 1)) := by
 rw [List.drop_eq_getElem_cons h, Qd6, if_neg hn]
theorem Qni {f u : Int} {l : List TermT} {i : Nat} (h : i < l.length) (hn : l[i].u = u) : Qd6 f u (l.drop i) = l[i].m := by
 rw [List.drop_eq_getElem_cons h, Qd6, if_pos hn]
def Qcg (w : Qm) : Nat -> List Int
 | 0 => []
 | n + 1 => Qcg w n ++ [Yz w n]
theorem Qdr (w : Qm) : ∀ n, (Qcg w n).length = n
 | 0 => rfl
 | n + 1 => by rw [Qcg, List.length_append, Qdr w n]; rfl
def Qbg (w : Qm) : List Int := Qcg w w.length
def XG (w : Qm) (ms : List Int) : Nat -> List TermT
 | 0 => []
 | n + 1 => XG w ms n ++ if ms.getD n 0 = Yz w n then [] else [⟨n, ms.getD n 0⟩]
theorem Qhc (w : Qm) (ms : List Int) : ∀ n, (XG w ms n).length <= n
 | 0 => Nat.le_refl _
 | n + 1 => by
  have := Qhc w ms n
  rw [XG, List.length_append]
  split <;> simp <;> omega
def Qi6 (w : Qm) (ms : List Int) : Option (List TermT) := if ms.all (fun m => !decide (m = 0)) = true then some (XG w ms ms.length) else none
def dOT (o : Option (List TermT)) : D := .tup [Zt (o.getD []), .bool o.isSome]
def XE (ms : List Int) (l : List TermT) : List Int := l.foldl (fun ms t => ms.set t.u.toNat (XU (ms.getD t.u.toNat 0) t.m)) ms
def inW (w : Qm) (u : Int) : Bool := decide (0 <= u) && decide (u < w.length)
def Qdf (w : Qm) (l : List TermT) : Option (List TermT) := if l.all (fun t => inW w t.u) = true then Qi6 w (XE (Qbg w) l) else none
def QlX (w : Qm) (l : List TermT) (c : List Int) : Bool := l.all fun t => Qh9 w t c
def Qg6 (l : List TermT) (u : Int) : List TermT := l.filter fun t => !decide (t.u = u)
def Yo (l : List TermT) : Nat -> List TermT
 | 0 => []
 | n + 1 => Yo l n ++ l.filter fun t => decide (t.u = ((n : Nat) : Int))
def Qic (l : List TermT) : List TermT := Yo l 48
def Yn (w : Qm) (u : Int) (p : Nat) (l : List WantT) (bar : Bool) : Option (List TermT) :=
 Qdf w (⟨u, XU (Yz w u) (2 * 2 ^ p)⟩ :: l.map fun x => ⟨x.u, if bar = true then QjL w x else Yz w x.u - QjL w x⟩)
def Qj8 (r x : RowT) : Bool := decide (x.k = r.k) && decide (x.u = r.u) && decide (Qg6 x.t r.u = Qg6 r.t r.u)
def Qoz (w : Qm) (r x : RowT) : RowT := { x with t := Qic (⟨r.u, bor (Qd5 w x.t r.u) (Qd5 w r.t r.u)⟩ :: Qg6 x.t r.u) }
def Xl (w : Qm) (r : RowT) : List RowT -> List RowT
 | [] => [r]
 | x :: l => if Qj8 r x = true then Qoz w r x :: l else x :: Xl w r l
def YV (w : Qm) (u : Int) (p : Nat) (l : List (List WantT)) (rows : List RowT) : List RowT := l.foldl (fun rows n => match Yn w u p n false with
 | some t => Xl w ⟨2, u, 0, 0, t⟩ rows
 | none => rows) rows
def QbV (w : Qm) (u : Int) (p : Nat) (l : List WantT) (rows : List RowT) : List RowT := l.foldl (fun rows n => match Yn w u p [n] true with
 | some t => Xl w ⟨3, u, 0, 0, t⟩ rows
 | none => rows) rows
def YN (w : Qm) (u : Int) (cs : List CandT) : Nat -> List RowT -> List RowT
 | 0, rows => rows
 | n + 1, rows => match cs[n]? with
  | some c => QbV w u n c.bs (YV w u n c.ns (YN w u cs n rows))
  | none => YN w u cs n rows
def Yv (w : Qm) : Nat -> List RowT
 | 0 => [⟨1, 0, 0, 0, [⟨0, 1⟩]⟩]
 | n + 1 => match w[n]? with
  | some u => YN w n u.cs u.cs.length (Yv w n)
  | none => Yv w n
def QdZ (w : Qm) : List RowT := Yv w w.length
def mDB (w : Qm) : List (List TermT) := (QdZ w).map RowT.t
/-! ### Trails -/
def Q8 (w : Qm) (l : List QK) (u : Int) : Int := l.foldl (fun a s => if s.u = u /\ inW w u = true then s.m else a) (Yz w u)
def YZ (l : List QK) : Int := match l.getLast? with
 | none => 0
 | some s => s.l
def Xt (l : List QK) (u : Int) : Bool := l.any fun s => decide (s.u = u) && decide (s.c = -1)
def Ql3 : List Int -> Int
 | [x] => x
 | _ => -1
def X3 (m : Int) : Int := Ql3 (Qb0 m)
def Qbh (w : Qm) (l : List QK) (s : QK) : Bool :=
 inW w s.u && decide (-1 <= s.c) && decide (XU s.m (Q8 w l s.u) = s.m) &&
  if s.c = -1 then decide (0 <= X3 s.m) && !Xt l s.u && decide (s.l = IntKind.i64.wrap (YZ l + 1))
  else !decide (s.m = 0) && !decide (s.m = Q8 w l s.u) && decide (s.l = YZ l)
def Y3 (w : Qm) (l : List QK) : Bool := (List.range l.length).all fun i => match l[i]? with
 | some s => Qbh w (l.take i) s
 | none => true
def XK (w : Qm) (l : List QK) (inc : List TermT) : Bool := inc.all fun t => decide (XF (Q8 w l t.u) t.m = 2)
def Xu (have_ : Int -> Int) : List TermT -> Int -> Int
 | [], at_ => at_
 | t :: r, at_ => if XF (have_ t.u) t.m = 0 then -1 else if XF (have_ t.u) t.m = 1 then (if 0 <= at_ then -1 else Xu have_ r t.u) else Xu have_ r at_
def Qgc (w : Qm) (l : List QK) (inc : List TermT) : Int := Xu (Q8 w l) inc (-1)
def Xb (w : Qm) (l : List QK) : Nat -> List (List TermT) -> Int × Int
 | _, [] => (-1, -1)
 | i, x :: r => if XK w l x = true then (i, -1) else if 0 <= Qgc w l x then (i, Qgc w l x) else Xb w l (i + 1) r
def Yr (w : Qm) (db : List (List TermT)) (l : List QK) : Int × Int := Xb w l 0 db
def Yq (w : Qm) (l : List QK) (t : TermT) (c : Int) : Option (List QK) :=
 if c < 0 \/ inW w t.u = false then none
 else if IntKind.i64.wrap (Q8 w l t.u - XU (Q8 w l t.u) t.m) = 0 \/ IntKind.i64.wrap (Q8 w l t.u - XU (Q8 w l t.u) t.m) = Q8 w l t.u then none
 else some (l ++ [⟨t.u, IntKind.i64.wrap (Q8 w l t.u - XU (Q8 w l t.u) t.m), YZ l, c⟩])
def YL (w : Qm) (l : List QK) (u p : Int) : Option (List QK) := match uAt w u with
 | none => none
 | some x => if p < 0 \/ (x.cs.length : Int) <= p then none
  else if Qbh w l ⟨u, IntKind.i64.wrap (2 * 2 ^ min p.toNat 64), IntKind.i64.wrap (YZ l + 1), -1⟩ = true then some (l ++ [⟨u, IntKind.i64.wrap (2 * 2 ^ min p.toNat 64), IntKind.i64.wrap (YZ l + 1), -1⟩]) else none
def dOS (o : Option (List QK)) : D := .tup [Zs (o.getD []), .bool o.isSome]
def Qe9 (w : Qm) (db : List (List TermT)) : Nat -> List QK -> List QK × Int
 | 0, out => (out, -1)
 | n + 1, out => if (Yr w db out).2 < 0 then (out, (Yr w db out).1)
  else Qe9 w db n ((Yq w out ⟨(Yr w db out).2, Qd5 w (db.getD (Yr w db out).1.toNat []) (Yr w db out).2⟩ (Yr w db out).1).getD [])
def Qge (w : Qm) (db : List (List TermT)) (l : List QK) : List QK × Int := Qe9 w db (w.length * 18 + 1) l
end M25
namespace M25
open Go Go.Abs M3
section
variable {fr : List (Nat × D)} {H : List (Nat × Box)} {t u : Nat}
theorem QkG {k n : Nat} {b : Box} {d : D} (hb : lk H k = some b) (hp : b.pr = true) (hn : n = b.rows.length) (hd : .sl b.rows = d) : Qa9 ⟨fr, H⟩ (.osl k n) = d := by
 unfold Qa9; rw [Qr5 (S := Qdy) rfl hb hp hn]; exact hd
theorem QbJ {e : YH} {k n : Nat} {b : Box} {d : D} (h : lk fr t = some (.osl k n)) (hb : lk H k = some b) (hp : b.pr = true) (hn : n = b.rows.length) (hd : .sl b.rows = d) (he : e = .ret \/ e = .normal := by first | exact .inl rfl | exact .inr rfl) : Post [.tmp t] d e ⟨fr, H⟩ :=
 Yk h (QkG hb hp hn hd) he
theorem Qgk {e : YH} {k n : Nat} {b : Box} {q d d' : D} (h : lk fr t = some (.osl k n)) (hb : lk H k = some b) (hp : b.pr = true) (hn : n = b.rows.length) (hd : .sl b.rows = d) (h2 : lk fr u = some q) (hd2 : Qa9 ⟨fr, H⟩ q = d') (he : e = .ret \/ e = .normal := by first | exact .inl rfl | exact .inr rfl) : Post [.tmp t, .tmp u] (.tup [d, d']) e ⟨fr, H⟩ :=
 QV h h2 ⟨QkG hb hp hn hd, hd2⟩ he
end
theorem Qr8 (n : Nat) : (min (n : Int) 16 + 1).toNat = min n 16 + 1 := by omega
theorem QjI {n : Nat} (h : n <= 62) : IntKind.i64.wrap ((2 : Int) ^ n - 1) = 2 ^ n - 1 := by
 have := Qig h; exact Qr (by omega) (by omega)
theorem Qrx (i : Nat) : (2 : Int) ^ ((i : Int) + 1).toNat = 2 ^ (i + 1) := by rw [QnW]
theorem Qph (s : Qfz) (l : List CandT) {i : Nat} (h : i < 16) : IntKind.i64.wrap (Qb1 s l i + (2 : Int) ^ ((i : Int) + 1).toNat) = Qb1 s l i + 2 ^ (i + 1) := by
 rw [Qrx]
 have h1 := Qld s l (n := i) (by omega)
 have h2 := QoU (n := i + 1) (by omega)
 exact Qr (by omega) (by omega)
theorem Qao {w : Qm} {c : List Int} {u : Int} (h : (u < 0 \/ (w.length : Int) <= u) \/ (c.length : Int) <= u) : Qac w c u = 0 := by
 unfold Qac
 split
 ·rfl
 ·rename_i x hx
  rcases h with h | h
  ·rw [Qir h] at hx; cases hx
  ·rw [if_pos h]
theorem Qan {w : Qm} {c : List Int} {u : Int} (h0 : 0 <= u) (h1 : u < w.length) (h2 : u < c.length) (h : c[u.toNat]'(by omega) < -1 \/ min (((w[u.toNat]'(by omega)).cs.length : Nat) : Int) 16 <= c[u.toNat]'(by omega)) : Qac w c u = 0 := by
 rw [Qac, Qhq h0 h1]
 simp only []
 rw [if_neg (by omega), List.getD_eq_getElem?_getD, List.getElem?_eq_getElem (by omega)]
 simp only [Option.getD_some]
 rw [if_pos]
 rcases h with h | h
 ·exact .inl h
 ·right; omega
theorem Qbi {w : Qm} {c : List Int} {u : Int} (h0 : 0 <= u) (h1 : u < w.length) (h2 : u < c.length) (h : ¬ c[u.toNat]'(by omega) < -1) (h' : ¬ min (((w[u.toNat]'(by omega)).cs.length : Nat) : Int) 16 <= c[u.toNat]'(by omega)) : Qac w c u = 2 ^ (c[u.toNat]'(by omega) + 1).toNat := by
 rw [Qac, Qhq h0 h1]
 simp only []
 rw [if_neg (by omega), List.getD_eq_getElem?_getD, List.getElem?_eq_getElem (by omega)]
 simp only [Option.getD_some]
 rw [if_neg]
 omega
theorem Qaf {m : Int} {n : Nat} (h : ¬ XU m (2 ^ n) = 0) : XY m (n + 1) = XY m n ++ [(n : Int) - 1] := by rw [XY, if_neg h]
theorem Qbx {m : Int} {n : Nat} (h : XU m (2 ^ n) = 0) : XY m (n + 1) = XY m n := by rw [XY, if_pos h, List.append_nil]
theorem Qpr {l : List TermT} {u : Int} {i : Nat} (h : i < l.length) : Qg6 (l.take (i + 1)) u = Qg6 (l.take i) u ++ if l[i].u = u then [] else [l[i]] := by
 rw [List.take_succ_eq_append_getElem h, Qg6, List.filter_append]
 congr 1
 simp only [List.filter_cons, List.filter_nil]
 by_cases hu : l[i].u = u <;> simp [hu]
theorem Qbr {l : List TermT} {u : Int} {i : Nat} (h : i < l.length) (hn : ¬ l[i].u = u) : Qg6 (l.take (i + 1)) u = Qg6 (l.take i) u ++ [l[i]] := by rw [Qpr h, if_neg hn]
theorem QdE {l : List TermT} {u : Int} {i : Nat} (h : i < l.length) (hn : l[i].u = u) : Qg6 (l.take (i + 1)) u = Qg6 (l.take i) u := by rw [Qpr h, if_pos hn, List.append_nil]
theorem QfH (l : List TermT) (u : Int) : (Qg6 l u).length <= l.length := List.length_filter_le ..
theorem Qod (l : List TermT) (u : Int) (i : Nat) : (Qg6 (l.take i) u).length <= l.length := Nat.le_trans (QfH ..) (List.length_take_le' ..)
def QeQ (l : List TermT) (u : Nat) (i : Nat) : List TermT := (l.take i).filter fun t => decide (t.u = ((u : Nat) : Int))
theorem QqA {l : List TermT} {u i : Nat} (h : i < l.length) (hn : l[i].u = ((u : Nat) : Int)) : QeQ l u (i + 1) = QeQ l u i ++ [l[i]] := by
 rw [QeQ, List.take_succ_eq_append_getElem h, List.filter_append]; simp [hn, QeQ]
theorem Qrz {l : List TermT} {u i : Nat} (h : i < l.length) (hn : ¬ l[i].u = ((u : Nat) : Int)) : QeQ l u (i + 1) = QeQ l u i := by
 rw [QeQ, List.take_succ_eq_append_getElem h, List.filter_append]; simp [hn, QeQ]
theorem QnH (l : List TermT) (u i : Nat) : (QeQ l u i).length <= l.length := Nat.le_trans (List.length_filter_le ..) (List.length_take_le' ..)
theorem Qjz (l : List TermT) (u : Nat) : Yo l (u + 1) = Yo l u ++ QeQ l u l.length := by rw [Yo, QeQ, List.take_length]
theorem Qho (l : List TermT) : ∀ n, (Yo l n).length <= n * l.length
 | 0 => by simp [Yo]
 | n + 1 => by
  have := Qho l n
  rw [Qjz, List.length_append, Nat.succ_mul]
  have := QnH l n l.length
  omega
theorem Qag (w : Qm) (n : Nat) : Qcg w (n + 1) = Qcg w n ++ [Yz w n] := rfl
theorem Qai {w : Qm} {ms : List Int} {n : Nat} (h : n < ms.length) (hn : ¬ ms[n] = Yz w n) : XG w ms (n + 1) = XG w ms n ++ [⟨n, ms[n]⟩] := by
 rw [XG, List.getD_eq_getElem?_getD, List.getElem?_eq_getElem h]; simp [hn]
theorem QbH {w : Qm} {ms : List Int} {n : Nat} (h : n < ms.length) (hn : ms[n] = Yz w n) : XG w ms (n + 1) = XG w ms n := by
 rw [XG, List.getD_eq_getElem?_getD, List.getElem?_eq_getElem h]; simp [hn]
theorem QlZ {w : Qm} {ms : List Int} {i : Nat} (h : i < ms.length) (hz : ms[i] = 0) : Qi6 w ms = none := by
 rw [Qi6, if_neg]
 rw [XA h (by simp [hz])]; simp
theorem Qnb {w : Qm} {ms : List Int} {i : Nat} (hi : ms.length <= i) (h : (ms.take i).all (fun m => !decide (m = 0)) = true) : Qi6 w ms = some (XG w ms ms.length) := by
 rw [List.take_of_length_le hi] at h; rw [Qi6, if_pos h]
theorem QdV {w : Qm} {u : Int} (h0 : 0 <= u) (h : u < w.length) : inW w u = true := by simp [inW, h0, h]
theorem Qds {w : Qm} {u : Int} (h : u < 0 \/ (w.length : Int) <= u) : inW w u = false := by
 simp only [inW, Bool.and_eq_false_iff, decide_eq_false_iff_not]; omega
theorem Qch {w : Qm} {u : Int} : inW w u = true ↔ 0 <= u /\ u < w.length := by simp [inW]
theorem Ql0 (l : List TermT) : ∀ ms : List Int, (XE ms l).length = ms.length := by
 induction l with
 | nil => intro ms; rfl
 | cons t l ih => intro ms; rw [XE, List.foldl_cons]; exact (ih _).trans (List.length_set ..)
theorem QoJ {ms : List Int} {l : List TermT} {i : Nat} (h : i < l.length) : XE ms (l.take (i + 1)) = (XE ms (l.take i)).set l[i].u.toNat (XU ((XE ms (l.take i)).getD l[i].u.toNat 0) l[i].m) := by
 rw [List.take_succ_eq_append_getElem h, XE, List.foldl_append]; rfl
theorem Qlb {ms : List Int} {l : List TermT} {i : Nat} (h : i < l.length) (hu : l[i].u.toNat < (XE ms (l.take i)).length) : XE ms (l.take (i + 1)) = (XE ms (l.take i)).set l[i].u.toNat (XU ((XE ms (l.take i))[l[i].u.toNat]) l[i].m) := by
 rw [QoJ h, List.getD_eq_getElem?_getD, List.getElem?_eq_getElem hu]; rfl
theorem QnV {x y : TermT} : Qa7 [0, 0] (QbZ x) (QbZ y) = some (decide (x = y)) := by
 obtain ⟨a, b⟩ := x
 obtain ⟨c, d⟩ := y
 simp only [QbZ, Qa7, if_true, Option.map_some, Bool.and_true, Option.some.injEq]
 rw [Bool.eq_iff_iff]
 simp only [Bool.and_eq_true, decide_eq_true_eq, TermT.mk.injEq]
theorem QnS {α : Type} {a b : List α} {i : Nat} (ha : i < a.length) (hb : i < b.length) (h : a.take i = b.take i) (he : a[i] = b[i]) : a.take (i + 1) = b.take (i + 1) := by
 rw [List.take_succ_eq_append_getElem ha, List.take_succ_eq_append_getElem hb, h, he]
theorem Qqz {α : Type} [DecidableEq α] {a b : List α} {i : Nat} (ha : i < a.length) (hb : i < b.length) (he : ¬ a[i] = b[i]) : decide (a = b) = false := decide_eq_false fun e => he (by subst e; rfl)
theorem Qfw {e : Int} (h1 : 0 <= e) (h2 : e <= 18446744073709551615) : IntKind.u64.wrap e = e := by
 unfold IntKind.wrap
 simp only [IntKind.bits, IntKind.signed, Bool.false_and, Bool.false_eq_true, if_false]
 omega
theorem QnY {p : Nat} (h : p <= 60) : IntKind.i64.wrap ((2 : Int) * 2 ^ min ((p : Nat) : Int).toNat IntKind.i64.bits) = 2 * 2 ^ p := by
 rw [show min ((p : Nat) : Int).toNat IntKind.i64.bits = p from by simp only [IntKind.bits, Int.toNat_natCast]; omega]
 have := Qig (i := p + 1) (by omega)
 rw [Int.pow_succ] at this
 exact Qr (by omega) (by omega)
theorem QqJ (w : Qm) (u : Int) (x : WantT) : IntKind.i64.wrap (Yz w u - QjL w x) = Yz w u - QjL w x := by
 have h1 := Qd1 w u
 have h2 := Qqp w x
 exact Qr (by omega) (by omega)
def clF (w : Qm) (bar : Bool) (x : WantT) : TermT := ⟨x.u, if bar = true then QjL w x else Yz w x.u - QjL w x⟩
def clT (w : Qm) (u : Int) (p : Nat) (bar : Bool) (l : List WantT) : List TermT := ⟨u, XU (Yz w u) (2 * 2 ^ p)⟩ :: l.map (clF w bar)
theorem Qbv {w : Qm} {u : Int} {p : Nat} {bar : Bool} {l : List WantT} {i : Nat} (h : i < l.length) (hb : bar = false) : clT w u p bar (l.take (i + 1)) = clT w u p bar (l.take i) ++ [⟨l[i].u, Yz w l[i].u - QjL w l[i]⟩] := by
 rw [clT, List.take_succ_eq_append_getElem h, List.map_append, <- List.cons_append]; simp [clT, clF, hb]
theorem Qbu {w : Qm} {u : Int} {p : Nat} {bar : Bool} {l : List WantT} {i : Nat} (h : i < l.length) (hb : bar = true) : clT w u p bar (l.take (i + 1)) = clT w u p bar (l.take i) ++ [⟨l[i].u, QjL w l[i]⟩] := by
 rw [clT, List.take_succ_eq_append_getElem h, List.map_append, <- List.cons_append]; simp [clT, clF, hb]
theorem Qmu (w : Qm) (u : Int) (p : Nat) (bar : Bool) (l : List WantT) : (clT w u p bar l).length = l.length + 1 := by simp [clT]
theorem Qha {w : Qm} {l : List TermT} {i : Nat} (h : i < l.length) (hu : inW w l[i].u = false) : Qdf w l = none := by
 rw [Qdf, XA h hu]; rfl
theorem Qnc {w : Qm} {l : List TermT} (h : l.all (fun t => inW w t.u) = true) : Qdf w l = Qi6 w (XE (Qbg w) l) := by
 rw [Qdf, if_pos h]
theorem QfT (w : Qm) (l : List TermT) : (XE (Qbg w) l).length = w.length := by rw [Ql0, Qbg, Qdr]
def srt (l : List TermT) (u i : Nat) : List TermT := Yo l u ++ QeQ l u i
theorem QbO {l : List TermT} {u i : Nat} (h : i < l.length) (hn : l[i].u = ((u : Nat) : Int)) : srt l u (i + 1) = srt l u i ++ [l[i]] := by rw [srt, QqA h hn, <- List.append_assoc]; rfl
theorem Qel {l : List TermT} {u i : Nat} (h : i < l.length) (hn : ¬ l[i].u = ((u : Nat) : Int)) : srt l u (i + 1) = srt l u i := by rw [srt, Qrz h hn]; rfl
theorem Qal (l : List TermT) (u : Nat) : srt l u 0 = Yo l u := by simp [srt, QeQ]
theorem QbN (l : List TermT) (u : Nat) {i : Nat} (h : l.length = i) : Yo l (u + 1) = srt l u i := by rw [Qjz, h]; rfl
theorem QqB (l : List TermT) (u i : Nat) : (srt l u i).length <= u * l.length + l.length := by
 have h1 := Qho l u
 have h2 := QnH l u i
 rw [srt, List.length_append]; omega
end M25
namespace Go.Proofs
open Go Go.Abs M3 M25
set_option linter.unusedVariables false
set_option linter.unusedSimpArgs false
theorem ZD {w : Qm} (hw : WSm w) {u : Int} : Ok Tryz.prog 48 [ZP w, .int .i64 u] (.int .i64 (Yz w u)) := by
 refine Ok.ofT ZQ Tryz.func48 Qtu (Nat.le_of_ble_eq_true rfl) ?_
 show TW _ _ tf48.body _ _
 refine Qe fun K hK => Zo rfl rfl rfl (Qa rfl ?_)
 refine hK _ _ (Qb (kp2 rfl rfl) ?_)
 refine QD ?_ -- 0
 refine Qe fun K hK => Qa rfl (Yb rfl rfl (Qa rfl ?_))
 refine QB (g := 7) rfl (fun h1 => ?_) (fun h1 => ?_)
 ·try rw [h1]
  try simp only [qa, qb, qc, qd, qe, List.length_map] at h1
  refine Qq rfl (Qq rfl (Qq rfl (Qq rfl (Qq rfl (Ql rfl rfl ?_)))))
  refine hK _ _ (Qb (kp3 rfl rfl rfl) ?_)
  refine Zl rfl (Qe fun K hK => Qa rfl ?_)
  refine hK _ _ (Qb (kp1 rfl) ?_)
  refine Qu (Qj (Qy rfl ?_))
  rw [Qd2 (by omega)]
 ·try rw [h1]
  try simp only [qa, qb, qc, qd, qe, List.length_map] at h1
  refine Qg rfl (Qa rfl (Qg rfl (Qi rfl rfl (Qg rfl (QC rfl rfl rfl (Qg rfl (QR rfl rfl (Qg rfl (Qdx rfl rfl (Ql rfl rfl ?_))))))))))
  refine hK _ _ (Qb (kp3 rfl rfl rfl) ?_)
  refine Qw rfl (fun h2 => ?_) (fun h2 => ?_)
  ·try rw [h2]
   try simp only [qa, qb, qc, qd, qe, List.length_map] at h2
   refine Qe fun K hK => Qa rfl ?_
   refine hK _ _ (Qb (kp1 rfl) ?_)
   refine Qu (Qj (Qy rfl ?_))
   rw [Qd2 (by omega)]
  ·try rw [h2]
   try simp only [qa, qb, qc, qd, qe, List.length_map] at h2
   refine Qv (Qd (kp2 rfl rfl) (Qe fun K hK => Qi rfl rfl (QC rfl rfl rfl (Qa rfl (QJ rfl rfl rfl (by omega) (ZA (by omega) (by omega)) rfl (Q6 rfl rfl (QC rfl rfl rfl (QR rfl rfl (Qq2 rfl rfl (QY rfl rfl (by first | exact Qr (by omega) (by omega) | rfl) ?_))))))))))
   refine QF (Yx (by omega) (by omega)) rfl rfl (.inr rfl) (X2 rfl rfl (QjI (by omega)) (Qa rfl ?_))
   refine hK _ _ (Qb (kp1 rfl) ?_)
   refine Qu (Qy rfl ?_)
   rw [Qh6 (by omega) (by omega), List.length_map, Qr8]
theorem Y1 {w : Qm} (hw : WSm w) {l : List TermT} (hl : l.length <= 1000000) {u : Int} : Ok Tryz.prog 76 [ZP w, Zt l, .int .i64 u] (.int .i64 (Qd5 w l u)) := by
 refine Ok.ofT ZQ Tryz.func76 QtT (Nat.le_of_ble_eq_true rfl) ?_
 show TW _ _ tf76.body _ _
 refine Qe fun K hK => Zo rfl rfl rfl (Qa rfl ?_)
 refine hK _ _ (Qb (kp3 rfl rfl rfl) ?_)
 refine QD ?_ -- 0
 refine Qe fun K hK => Qa rfl ?_
 refine hK _ _ (Qb (kp4 rfl rfl rfl rfl) ?_)
 refine Qz ?_
 refine Zm (ι := Nat) (fun i => ⟨[(1, Zt l), (2, .int .i64 u), (3, .ref 3 0 0), (7, .int .i64 i)], [(3, ⟨[[.sl ((w).map Ym)]], 1, 26, true⟩)]⟩) (fun i => i <= l.length /\ Qd6 (Yz w u) u l = Qd6 (Yz w u) u (l.drop i)) (fun i => l.length - i) 0 ?_ ?_ ?_
 ·exact Q2 (l := [1, 2, 3, 7]) (lH := [3]) (kp4 rfl rfl rfl rfl) (Qf rfl Qn) rfl rfl rfl
 ·exact ⟨Nat.zero_le _, by simp⟩
 intro i hI
 try dsimp only
 refine QD ?_ -- 1
 refine Qe fun K hK => Qa rfl (Qa rfl (QR rfl rfl (Yb rfl rfl ?_)))
 refine hK _ _ (Qb (kp5 rfl rfl rfl rfl rfl) ?_)
 refine Qw rfl (fun h1 => ?_) (fun h1 => ?_)
 ·try rw [h1]
  try simp only [qa, qb, qc, qd, qe, List.length_map] at h1
  refine Qv (Qd (kp4 rfl rfl rfl rfl) ?_)
  refine QD ?_ -- 2
  refine Qz (Qe fun K hK => Qa rfl (Qa rfl (QJ rfl rfl rfl (by omega) (QT (by omega)) rfl (Q6 rfl rfl (QC rfl rfl rfl (Qa rfl (ZI rfl rfl ?_)))))))
  refine hK _ _ (Qb (kp5 rfl rfl rfl rfl rfl) ?_)
  refine Qw rfl (fun h2 => ?_) (fun h2 => ?_)
  ·try rw [h2]
   try simp only [qa, qb, qc, qd, qe, List.length_map] at h2
   refine Qe fun K hK => Qa rfl (Qa rfl (QJ rfl rfl rfl (by omega) (QT (by omega)) rfl (Q6 rfl rfl (QC rfl rfl rfl (Qa rfl ?_)))))
   refine hK _ _ (Qb (kp1 rfl) ?_)
   refine Qu (Qt (Qj (Q4 (Qt (Qj (Qy rfl ?_))))))
   rw [Qd5, hI.2, Qni (by omega) h2]
  ·try rw [h2]
   try simp only [qa, qb, qc, qd, qe, List.length_map] at h2
   refine Qv (Qh (Qd (kp4 rfl rfl rfl rfl) (QN fun K hK => Qa rfl (QY rfl rfl (by first | exact Qr (by omega) (by omega) | rfl) (Qa rfl (hK _ ?_))))))
   refine Qk (i + 1) ?_ ?_ ?_
   ·exact Q2 (l := [1, 2, 3, 7]) (lH := [3]) (kp4 rfl rfl rfl rfl) (Qf rfl Qn) rfl rfl rfl
   ·exact ⟨by omega, by rw [hI.2, Ql2 (by omega) (by assumption)]⟩
   ·first | omega | (simp only; omega) | (dsimp only; omega)
 ·try rw [h1]
  try simp only [qa, qb, qc, qd, qe, List.length_map] at h1
  refine Zh (QL (Qx (QE (Qd (kp2 rfl rfl) (Qe fun K hK => QG (cs := [_]) rfl rfl rfl rfl (Qa rfl (QF (ZD hw) rfl rfl (.inr rfl) (Qa rfl ?_))))))))
  refine hK _ _ (Qb (kp1 rfl) ?_)
  refine Qu (Qy rfl ?_)
  rw [Qd5, hI.2, List.drop_eq_nil_of_le (by omega)]; rfl
theorem XX {w : Qm} (hw : WSm w) {c : List Int} {u : Int} : Ok Tryz.prog 23 [ZP w, ZC c, .int .i64 u] (.int .i64 (Qac w c u)) := by
 refine Ok.ofT ZQ Tryz.func23 Qtc (Nat.le_of_ble_eq_true rfl) ?_
 show TW _ _ tf23.body _ _
 refine Qe fun K hK => Zo rfl rfl rfl (Qa rfl ?_)
 refine hK _ _ (Qb (kp3 rfl rfl rfl) ?_)
 refine QD ?_ -- 0
 refine Qe fun K hK => Qa rfl (Yb rfl rfl (Qa rfl ?_))
 refine QB (g := 9) rfl (fun h1 => ?_) (fun h1 => ?_)
 ·try rw [h1]
  try simp only [qa, qb, qc, qd, qe, List.length_map] at h1
  refine Qq rfl (Qq rfl (Qq rfl (Qq rfl (Qq rfl (Ql rfl rfl (Qa rfl (Qq rfl (Qq rfl (Qq rfl (Qq rfl (Ql rfl rfl ?_)))))))))))
  refine hK _ _ (Qb (kp4 rfl rfl rfl rfl) ?_)
  refine Zl rfl (Qe fun K hK => Qa rfl ?_)
  refine hK _ _ (Qb (kp1 rfl) ?_)
  refine Qu (Qj (Qy rfl ?_))
  first | rw [Qao (by omega)] | rw [Qan (by omega) (by omega) (by omega) (by first | exact .inl (by assumption) | exact .inr (by simpa using h5))] | rw [Qbi (by omega) (by omega) (by omega) (by assumption) (by simpa using h5)]
 ·try rw [h1]
  try simp only [qa, qb, qc, qd, qe, List.length_map] at h1
  refine Qg rfl (Qa rfl (Qg rfl (Qi rfl rfl (Qg rfl (QC rfl rfl rfl (Qg rfl (QR rfl rfl (Qg rfl (Qdx rfl rfl (Ql rfl rfl (Qa rfl ?_)))))))))))
  refine QB (g := 16) rfl (fun h2 => ?_) (fun h2 => ?_)
  ·try rw [h2]
   try simp only [qa, qb, qc, qd, qe, List.length_map] at h2
   refine Qq rfl (Qq rfl (Qq rfl (Qq rfl (Ql rfl rfl ?_))))
   refine hK _ _ (Qb (kp4 rfl rfl rfl rfl) ?_)
   refine Zl rfl (Qe fun K hK => Qa rfl ?_)
   refine hK _ _ (Qb (kp1 rfl) ?_)
   refine Qu (Qj (Qy rfl ?_))
   first | rw [Qao (by omega)] | rw [Qan (by omega) (by omega) (by omega) (by first | exact .inl (by assumption) | exact .inr (by simpa using h5))] | rw [Qbi (by omega) (by omega) (by omega) (by assumption) (by simpa using h5)]
  ·try rw [h2]
   try simp only [qa, qb, qc, qd, qe, List.length_map] at h2
   refine Qg rfl (Qa rfl (Qg rfl (Qa rfl (Qg rfl (QR rfl rfl (Qg rfl (Qdx rfl rfl (Ql rfl rfl ?_))))))))
   refine hK _ _ (Qb (kp4 rfl rfl rfl rfl) ?_)
   refine Qw rfl (fun h3 => ?_) (fun h3 => ?_)
   ·try rw [h3]
    try simp only [qa, qb, qc, qd, qe, List.length_map] at h3
    refine Qe fun K hK => Qa rfl ?_
    refine hK _ _ (Qb (kp1 rfl) ?_)
    refine Qu (Qj (Qy rfl ?_))
    first | rw [Qao (by omega)] | rw [Qan (by omega) (by omega) (by omega) (by first | exact .inl (by assumption) | exact .inr (by simpa using h5))] | rw [Qbi (by omega) (by omega) (by omega) (by assumption) (by simpa using h5)]
   ·try rw [h3]
    try simp only [qa, qb, qc, qd, qe, List.length_map] at h3
    refine Qv (Qd (kp3 rfl rfl rfl) ?_)
    refine QD ?_ -- 1
    refine Qe fun K hK => Qa rfl (Qa rfl (QJ rfl rfl rfl (by omega) (ZA (by omega) (by omega)) rfl (QP (ds0 := [15, 14, 13, 12, 11, 10, 9, 8, 7, 6, 5, 4, 3, 2, 1, 0]) rfl rfl rfl rfl rfl (Yb rfl rfl (Qa rfl ?_)))))
    refine QB (g := 27) rfl (fun h4 => ?_) (fun h4 => ?_)
    ·try rw [h4]
     try simp only [qa, qb, qc, qd, qe, List.length_map] at h4
     refine Qq rfl (Qq rfl (Qq rfl (Qq rfl (Qq rfl (Qq rfl (Qq rfl (Qq rfl (Qq rfl (Qq rfl (Qq rfl (Qq rfl ?_)))))))))))
     refine Qq rfl (Ql rfl rfl ?_)
     refine hK _ _ (Qb (kp3 rfl rfl rfl) ?_)
     refine Zl rfl (Qe fun K hK => Qa rfl ?_)
     refine hK _ _ (Qb (kp1 rfl) ?_)
     refine Qu (Qj (Qy rfl ?_))
     first | rw [Qao (by omega)] | rw [Qan (by omega) (by omega) (by omega) (by first | exact .inl (by assumption) | exact .inr (by simpa using h5))] | rw [Qbi (by omega) (by omega) (by omega) (by assumption) (by simpa using h5)]
    ·try rw [h4]
     try simp only [qa, qb, qc, qd, qe, List.length_map] at h4
     refine Qg rfl (Qa rfl (Qg rfl (Qa rfl (Qg rfl (QJ rfl rfl rfl (by omega) (ZA (by omega) (by omega)) rfl (Qg rfl (QP (ds0 := [1, 0]) rfl rfl rfl rfl rfl (Qg rfl (Qi rfl rfl (Qg rfl (QP (ds0 := [6, 5, 4, 3, 2, 1, 0]) rfl rfl rfl rfl rfl ?_)))))))))))
     refine Qg rfl (Qa rfl (Qg rfl (QJ rfl rfl rfl (by omega) (ZA (by omega) (by omega)) rfl (Qg rfl (Q6 rfl rfl (Qg rfl (QP (ds0 := [3, 2, 1, 0]) rfl rfl rfl rfl rfl (Qg rfl (QR rfl rfl (Qg rfl (Qq2 rfl rfl ?_)))))))))))
     refine Qg rfl (Qdx rfl rfl (Ql rfl rfl ?_))
     refine hK _ _ (Qb (kp3 rfl rfl rfl) ?_)
     refine Qw rfl (fun h5 => ?_) (fun h5 => ?_)
     ·try rw [h5]
      try simp only [qa, qb, qc, qd, qe, List.length_map] at h5
      refine Qe fun K hK => Qa rfl ?_
      refine hK _ _ (Qb (kp1 rfl) ?_)
      refine Qu (Qj (Qy rfl ?_))
      first | rw [Qao (by omega)] | rw [Qan (by omega) (by omega) (by omega) (by first | exact .inl (by assumption) | exact .inr (by simpa using h5))] | rw [Qbi (by omega) (by omega) (by omega) (by assumption) (by simpa using h5)]
     ·try rw [h5]
      try simp only [qa, qb, qc, qd, qe, List.length_map] at h5
      refine Qv (Qd (kp2 rfl rfl) (Qe fun K hK => Qa rfl (Qa rfl (QJ rfl rfl rfl (by omega) (ZA (by omega) (by omega)) rfl (QC rfl rfl rfl (QY rfl rfl (by first | exact Qr (by omega) (by omega) | rfl) (QF (Yx (by omega) (by omega)) rfl rfl (.inr rfl) (Qa rfl ?_))))))))
      refine hK _ _ (Qb (kp1 rfl) ?_)
      refine Qu (Qy rfl ?_)
      first | rw [Qao (by omega)] | rw [Qan (by omega) (by omega) (by omega) (by first | exact .inl (by assumption) | exact .inr (by simpa using h5))] | rw [Qbi (by omega) (by omega) (by omega) (by assumption) (by simpa using h5)]
theorem Qb7 {w : Qm} (hw : WSm w) {t : TermT} {c : List Int} : Ok Tryz.prog 56 [ZP w, .agg (QbZ t), ZC c] (.bool (Qh9 w t c)) := by
 refine Ok.ofT ZQ Tryz.func56 QtC (Nat.le_of_ble_eq_true rfl) ?_
 show TW _ _ tf56.body _ _
 refine Qe fun K hK => Zo rfl rfl rfl (Zo rfl rfl rfl (Qa rfl ?_))
 refine hK _ _ (Qb (kp3 rfl rfl rfl) ?_)
 refine Qe fun K hK => QO (ds0 := [5, 2, 1, 0]) (cs := [_]) rfl rfl rfl rfl rfl rfl (Qa rfl (Qi rfl rfl (QP (ds0 := [5, 2, 1, 0]) rfl rfl rfl rfl rfl (QS (ds0 := [2, 1, 0]) (XX hw) rfl rfl (.inr rfl) rfl rfl (Qi rfl rfl (QP (ds0 := [2, 1, 0]) rfl rfl rfl rfl rfl (QcS rfl rfl (XJ rfl rfl (Qa rfl ?_)))))))))
 refine hK _ _ (Qb (kp1 rfl) ?_)
 refine Qu (Qs rfl ?_)
 rfl
theorem QcY {w : Qm} (hw : WSm w) {l : List TermT} (hl : l.length <= 1000000) {c : List Int} : Ok Tryz.prog 24 [ZP w, Zt l, ZC c] (.bool (QlX w l c)) := by
 refine Ok.ofT ZQ Tryz.func24 Qtd (Nat.le_of_ble_eq_true rfl) ?_
 show TW _ _ tf24.body _ _
 refine Qe fun K hK => Zo rfl rfl rfl (Qa rfl ?_)
 refine hK _ _ (Qb (kp3 rfl rfl rfl) ?_)
 refine QD ?_ -- 0
 refine Qe fun K hK => Qa rfl ?_
 refine hK _ _ (Qb (kp4 rfl rfl rfl rfl) ?_)
 refine Qz ?_
 refine Zm (ι := Nat) (fun i => ⟨[(1, Zt l), (2, ZC c), (3, .ref 3 0 0), (7, .int .i64 i)], [(3, ⟨[[.sl ((w).map Ym)]], 1, 26, true⟩)]⟩) (fun i => i <= l.length /\ (l.take i).all (fun t => Qh9 w t c) = true) (fun i => l.length - i) 0 ?_ ?_ ?_
 ·exact Q2 (l := [1, 2, 3, 7]) (lH := [3]) (kp4 rfl rfl rfl rfl) (Qf rfl Qn) rfl rfl rfl
 ·exact ⟨Nat.zero_le _, by simp⟩
 intro i hI
 try dsimp only
 refine QD ?_ -- 1
 refine Qe fun K hK => Qa rfl (Qa rfl (QR rfl rfl (Yb rfl rfl ?_)))
 refine hK _ _ (Qb (kp5 rfl rfl rfl rfl rfl) ?_)
 refine Qw rfl (fun h1 => ?_) (fun h1 => ?_)
 ·try rw [h1]
  try simp only [qa, qb, qc, qd, qe, List.length_map] at h1
  refine Qv (Qd (kp4 rfl rfl rfl rfl) ?_)
  refine QD ?_ -- 2
  refine Qz (Qe fun K hK => QO (ds0 := [1, 0]) (cs := [_]) rfl rfl rfl rfl rfl rfl (Qa rfl (Qa rfl (QJ rfl rfl rfl (by omega) (QT (by omega)) rfl (QO (ds0 := [1, 0]) (cs := [_, _]) rfl rfl rfl rfl rfl rfl (Qa rfl (QS (ds0 := [0]) (Qb7 hw) rfl rfl (.inr rfl) rfl rfl (Ye rfl ?_))))))))
  refine hK _ _ (Qb (kp5 rfl rfl rfl rfl rfl) ?_)
  refine Qw rfl (fun h2 => ?_) (fun h2 => ?_)
  ·try rw [h2]
   try simp only [qa, qb, qc, qd, qe, List.length_map] at h2
   refine Qe fun K hK => Qa rfl ?_
   refine hK _ _ (Qb (kp1 rfl) ?_)
   refine Qu (Qt (Qj (Q4 (Qt (Qj (Qs rfl ?_))))))
   rw [QlX, XA (i := i) (by omega) (by assumption)]
  ·try rw [h2]
   try simp only [qa, qb, qc, qd, qe, List.length_map] at h2
   refine Qv (Qh (Qd (kp4 rfl rfl rfl rfl) (QN fun K hK => Qa rfl (QY rfl rfl (by first | exact Qr (by omega) (by omega) | rfl) (Qa rfl (hK _ ?_))))))
   refine Qk (i + 1) ?_ ?_ ?_
   ·exact Q2 (l := [1, 2, 3, 7]) (lH := [3]) (kp4 rfl rfl rfl rfl) (Qf rfl Qn) rfl rfl rfl
   ·exact ⟨by omega, Ya (by omega) hI.2 (by assumption)⟩
   ·first | omega | (simp only; omega) | (dsimp only; omega)
 ·try rw [h1]
  try simp only [qa, qb, qc, qd, qe, List.length_map] at h1
  refine Zh (QL (Qx (QE (Qd (Q0) (Qe fun K hK => Qa rfl ?_)))))
  refine hK _ _ (Qb (kp1 rfl) ?_)
  refine Qu (Qs rfl ?_)
  rw [QlX, Xp (i := i) (by omega) hI.2]
theorem Qdj {w : Qm} (hw : WSm w) {x : WantT} (hx : Sm x.s.1 /\ Sm x.s.2) : Ok Tryz.prog 101 [ZP w, .agg (Qe7 x)] (.int .i64 (QjL w x)) := by
 refine Ok.ofT ZQ Tryz.func101 Qsg (Nat.le_of_ble_eq_true rfl) ?_
 show TW _ _ tf101.body _ _
 refine Qe fun K hK => Zo rfl rfl rfl (Zo rfl rfl rfl (Qa rfl ?_))
 refine hK _ _ (Qb (kp2 rfl rfl) ?_)
 refine QD ?_ -- 0
 refine Qe fun K hK => Qi rfl rfl (QC rfl rfl rfl (Yb rfl rfl (Qa rfl ?_)))
 refine QB (g := 11) rfl (fun h1 => ?_) (fun h1 => ?_)
 ·try rw [h1]
  try simp only [qa, qb, qc, qd, qe, List.length_map] at h1
  refine Qq rfl (Qq rfl (Qq rfl (Qq rfl (Qq rfl (Qq rfl (Ql rfl rfl ?_))))))
  refine hK _ _ (Qb (kp3 rfl rfl rfl) ?_)
  refine Zl rfl (Qe fun K hK => Qa rfl ?_)
  refine hK _ _ (Qb (kp1 rfl) ?_)
  refine Qu (Qj (Qy rfl ?_))
  rw [Qk9 (by omega)]
 ·try rw [h1]
  try simp only [qa, qb, qc, qd, qe, List.length_map] at h1
  refine Qg rfl (Qi rfl rfl (Qg rfl (QC rfl rfl rfl (Qg rfl (Qi rfl rfl (Qg rfl (QC rfl rfl rfl (Qg rfl (QR rfl rfl (Qg rfl (Qdx rfl rfl ?_)))))))))))
  refine Ql rfl rfl ?_
  refine hK _ _ (Qb (kp3 rfl rfl rfl) ?_)
  refine Qw rfl (fun h2 => ?_) (fun h2 => ?_)
  ·try rw [h2]
   try simp only [qa, qb, qc, qd, qe, List.length_map] at h2
   refine Qe fun K hK => Qa rfl ?_
   refine hK _ _ (Qb (kp1 rfl) ?_)
   refine Qu (Qj (Qy rfl ?_))
   rw [Qk9 (by omega)]
  ·try rw [h2]
   try simp only [qa, qb, qc, qd, qe, List.length_map] at h2
   refine Qv (Qd (kp2 rfl rfl) (Qe fun K hK => Qa rfl ?_))
   refine hK _ _ (Qb (kp3 rfl rfl rfl) ?_)
   refine Qe fun K hK => Qi rfl rfl (QC rfl rfl rfl (Qi rfl rfl (QC rfl rfl rfl (QJ rfl rfl rfl (by omega) (ZA (by omega) (by omega)) rfl (Q6 rfl rfl (QC rfl rfl rfl (Qa rfl ?_)))))))
   refine hK _ _ (Qb (kp3 rfl rfl rfl) ?_)
   refine QD ?_ -- 1
   refine Qe fun K hK => Qa rfl ?_
   refine hK _ _ (Qb (kp4 rfl rfl rfl rfl) ?_)
   refine Qz ?_
   refine Zm (ι := Nat) (fun i => ⟨[(3, .ref 3 0 0), (5, .int .i64 (Qb1 x.s (w[x.u.toNat]'(by omega)).cs i)), (6, QkO (w[x.u.toNat]'(by omega)).cs), (7, .int .i64 i)], [(3, ⟨[[.int .i64 (x).u, ZJ (x).s.1, ZJ (x).s.2]], 3, 81, true⟩)]⟩) (fun i => i <= (min (w[x.u.toNat]'(by omega)).cs.length 16)) (fun i => (min (w[x.u.toNat]'(by omega)).cs.length 16) - i) 0 ?_ ?_ ?_
   ·exact Q2 (l := [3, 5, 6, 7]) (lH := [3]) (kp4 rfl rfl rfl rfl) (Qf rfl Qn) rfl rfl rfl
   ·exact Nat.zero_le _
   intro i hI
   try dsimp only
   refine QD ?_ -- 2
   refine Qe fun K hK => Qa rfl (Qa rfl (QR rfl rfl (Yb rfl rfl (Qa rfl ?_))))
   refine QB (g := 30) rfl (fun h3 => ?_) (fun h3 => ?_)
   ·try rw [h3]
    try simp only [qa, qb, qc, qd, qe, List.length_map] at h3
    refine Qg rfl (Qa rfl (Qg rfl (Yb rfl rfl (Ql rfl rfl ?_))))
    refine hK _ _ (Qb (kp5 rfl rfl rfl rfl rfl) ?_)
    refine Qw rfl (fun h4 => ?_) (fun h4 => ?_)
    ·try rw [h4]
     try simp only [qa, qb, qc, qd, qe, List.length_map] at h4
     refine Qv (Qd (kp4 rfl rfl rfl rfl) ?_)
     refine QD ?_ -- 3
     refine Qz (Qe fun K hK => Qi rfl rfl (QO (ds0 := [0]) (cs := [_, _]) rfl rfl rfl rfl rfl rfl (Qa rfl (Qa rfl (QJ rfl rfl rfl (by omega) (QT (by omega)) rfl (Q6 rfl rfl (QO (ds0 := [0]) (cs := [_, _, _, _, _]) rfl rfl rfl rfl rfl rfl (QS (ds0 := []) (QdK hx.1 hx.2 (hw.vs _ (List.getElem_mem _) _ (List.getElem_mem (by omega))).1 (hw.vs _ (List.getElem_mem _) _ (List.getElem_mem (by omega))).2) rfl rfl (.inr rfl) rfl rfl ?_))))))))
     refine hK _ _ (Qb (kp5 rfl rfl rfl rfl rfl) ?_)
     refine Qw rfl (fun h5 => ?_) (fun h5 => ?_)
     ·try rw [h5]
      try simp only [qa, qb, qc, qd, qe, List.length_map] at h5
      refine QN fun K hK => Qa rfl (Qa rfl (QY rfl rfl (by first | exact Qr (by omega) (by omega) | rfl) (QF (Yx (by omega) (by omega)) rfl rfl (.inr rfl) (QY rfl rfl (Qph _ _ (by omega)) (Qa rfl (hK _ ?_))))))
      refine Qh (Qd (kp4 rfl rfl rfl rfl) (QN fun K hK => Qa rfl (QY rfl rfl (by first | exact Qr (by omega) (by omega) | rfl) (Qa rfl (hK _ ?_)))))
      refine Qk (i + 1) ?_ ?_ ?_
      ·exact Q2 (l := [3, 5, 6, 7]) (lH := [3]) (kp4 rfl rfl rfl rfl) (Qf rfl Qn) (by rw [Qnj (by omega) (by assumption)]; rfl) rfl rfl
      ·omega
      ·first | omega | (simp only; omega) | (dsimp only; omega)
     ·try rw [h5]
      try simp only [qa, qb, qc, qd, qe, List.length_map] at h5
      refine Qv (Qh (Qd (kp4 rfl rfl rfl rfl) (QN fun K hK => Qa rfl (QY rfl rfl (by first | exact Qr (by omega) (by omega) | rfl) (Qa rfl (hK _ ?_))))))
      refine Qk (i + 1) ?_ ?_ ?_
      ·exact Q2 (l := [3, 5, 6, 7]) (lH := [3]) (kp4 rfl rfl rfl rfl) (Qf rfl Qn) (by rw [QoL (by omega) (by assumption)]; rfl) rfl rfl
      ·omega
      ·first | omega | (simp only; omega) | (dsimp only; omega)
    ·try rw [h4]
     try simp only [qa, qb, qc, qd, qe, List.length_map] at h4
     refine Zh (QL (Qx (QE (Qd (kp1 rfl) (Qe fun K hK => Qa rfl (Qa rfl ?_))))))
     refine hK _ _ (Qb (kp1 rfl) ?_)
     refine Qu (Qy rfl ?_)
     rw [Qnd (by omega) (by omega), show i = min (w[x.u.toNat]'(by omega)).cs.length 16 by omega]
   ·try rw [h3]
    try simp only [qa, qb, qc, qd, qe, List.length_map] at h3
    refine Qq rfl (Qq rfl (Ql rfl rfl ?_))
    refine hK _ _ (Qb (kp5 rfl rfl rfl rfl rfl) ?_)
    refine ZM rfl (Zh (QL (Qx (QE (Qd (kp1 rfl) (Qe fun K hK => Qa rfl (Qa rfl ?_)))))))
    refine hK _ _ (Qb (kp1 rfl) ?_)
    refine Qu (Qy rfl ?_)
    rw [Qnd (by omega) (by omega), show i = min (w[x.u.toNat]'(by omega)).cs.length 16 by omega]
theorem X5 {m : Int} : Ok Tryz.prog 45 [.int .i64 m] (ZC (Qb0 m)) := by
 refine Ok.ofT ZQ Tryz.func45 Qtr (Nat.le_of_ble_eq_true rfl) ?_
 show TW _ _ tf45.body _ _
 refine Qe fun K hK => Qa rfl ?_
 refine hK _ _ (Qb (kp1 rfl) ?_)
 refine Qe fun K hK => Qa rfl ?_
 refine hK _ _ (Qb (kp2 rfl rfl) ?_)
 refine QD ?_ -- 0
 refine Qe fun K hK => Qa rfl ?_
 refine hK _ _ (Qb (kp3 rfl rfl rfl) ?_)
 refine Qz ?_
 refine Zm (ι := Nat) (fun i => ⟨[(0, .int .i64 m), (3, .osl 3 (XY m i).length), (4, .int .i64 i)], [(3, ⟨(XY m i).map (fun x => [.int .i64 x]), 1, 3, true⟩)]⟩) (fun i => i <= 17) (fun i => 17 - i) 0 ?_ ?_ ?_
 ·exact le_trans (Yj 3 3 1 3 rfl rfl) (Q2 (l := [0, 3, 4]) (lH := [3]) (kp3 rfl rfl rfl) (Qf rfl Qn) rfl rfl rfl)
 ·exact Nat.zero_le _
 intro i hI
 have hlen := QeA m i
 try dsimp only
 refine QD ?_ -- 1
 refine Qe fun K hK => Qa rfl (Qpk rfl rfl ?_)
 refine hK _ _ (Qb (kp4 rfl rfl rfl rfl) ?_)
 refine Qw rfl (fun h1 => ?_) (fun h1 => ?_)
 ·try rw [h1]
  try simp only [qa, qb, qc, qd, qe] at h1
  refine Qv (Qd (kp3 rfl rfl rfl) ?_)
  refine QD ?_ -- 2
  refine Qz (Qe fun K hK => Qa rfl (Qa rfl (QF (Yx (by omega) (by omega)) rfl rfl (.inr rfl) (QcS rfl rfl (XJ rfl rfl ?_)))))
  refine hK _ _ (Qb (kp4 rfl rfl rfl rfl) ?_)
  refine Qw rfl (fun h2 => ?_) (fun h2 => ?_)
  ·try rw [h2]
   try simp only [qa, qb, qc, qd, qe] at h2
   refine QN fun K hK => Qa rfl (Qa rfl (X2 rfl rfl (by first | exact Qr (by omega) (by omega) | rfl) (QH rfl rfl (Xz rfl rfl (fun _ h => Xj rfl rfl rfl h) rfl (by simp) rfl rfl rfl (by simp; omega) (by simp; omega) (Qa rfl (hK _ ?_))))))
   refine Qh (Qd (kp3 rfl rfl rfl) (QN fun K hK => Qa rfl (QY rfl rfl (by first | exact Qr (by omega) (by omega) | rfl) (Qa rfl (hK _ ?_)))))
   refine Qk (i + 1) ?_ ?_ ?_
   ·exact Q2 (l := [0, 3, 4]) (lH := [3]) (kp3 rfl rfl rfl) (Qf rfl Qn) (by first | (rw [Qaf (m := m) (n := i) h2]; done) | (rw [Qaf (m := m) (n := i) h2]; rfl) | (rw [Qaf (m := m) (n := i) h2, List.length_append]; rfl) | (simp [Qaf (m := m) (n := i) h2]; done) | (simp [Qaf (m := m) (n := i) h2]; omega) | rfl) (by first | (rw [Qaf (m := m) (n := i) h2]; done) | (rw [Qaf (m := m) (n := i) h2]; rfl) | (rw [Qaf (m := m) (n := i) h2, List.map_append]; rfl) | (simp [Qaf (m := m) (n := i) h2]; done) | rfl) rfl
   ·omega
   ·first | omega | (simp only; omega) | (dsimp only; omega)
  ·try rw [h2]
   try simp only [qa, qb, qc, qd, qe] at h2
   refine Qv (Qh (Qd (kp3 rfl rfl rfl) (QN fun K hK => Qa rfl (QY rfl rfl (by first | exact Qr (by omega) (by omega) | rfl) (Qa rfl (hK _ ?_))))))
   refine Qk (i + 1) ?_ ?_ ?_
   ·exact Q2 (l := [0, 3, 4]) (lH := [3]) (kp3 rfl rfl rfl) (Qf rfl Qn) (by first | (rw [Qbx (m := m) (n := i) h2]; done) | (rw [Qbx (m := m) (n := i) h2]; rfl) | (rw [Qbx (m := m) (n := i) h2, List.length_append]; rfl) | (simp [Qbx (m := m) (n := i) h2]; done) | (simp [Qbx (m := m) (n := i) h2]; omega) | rfl) (by first | (rw [Qbx (m := m) (n := i) h2]; done) | (rw [Qbx (m := m) (n := i) h2]; rfl) | (rw [Qbx (m := m) (n := i) h2, List.map_append]; rfl) | (simp [Qbx (m := m) (n := i) h2]; done) | rfl) rfl
   ·omega
   ·first | omega | (simp only; omega) | (dsimp only; omega)
 ·try rw [h1]
  try simp only [qa, qb, qc, qd, qe] at h1
  refine Zh (QL (Qx (QE (Qd (kp1 rfl) (Qe fun K hK => Qa rfl (Qa rfl ?_))))))
  refine hK _ _ (Qb (kp1 rfl) ?_)
  refine Qu ?_
  exact QbJ rfl rfl rfl (by simp) (by rw [Qb0, show (17 : Nat) = i by omega]; rfl)
theorem QcZ {a b : List TermT} (ha : a.length <= 1000000) : Ok Tryz.prog 102 [Zt a, Zt b] (.bool (decide (a = b))) := by
 refine Ok.ofT ZQ Tryz.func102 Qsh (Nat.le_of_ble_eq_true rfl) ?_
 show TW _ _ tf102.body _ _
 refine Qe fun K hK => Qa rfl ?_
 refine hK _ _ (Qb (kp2 rfl rfl) ?_)
 refine QD ?_ -- 0
 refine Qe fun K hK => Qa rfl (QR rfl rfl (Qa rfl (QR rfl rfl (XJ rfl rfl ?_))))
 refine hK _ _ (Qb (kp3 rfl rfl rfl) ?_)
 refine Qw rfl (fun h1 => ?_) (fun h1 => ?_)
 ·try rw [h1]
  try simp only [qa, qb, qc, qd, qe, List.length_map] at h1
  refine Qe fun K hK => Qa rfl ?_
  refine hK _ _ (Qb (kp1 rfl) ?_)
  refine Qu (Qj (Qs rfl ?_))
  rw [decide_eq_false fun e => h1 (by rw [e])]
 ·try rw [h1]
  try simp only [qa, qb, qc, qd, qe, List.length_map] at h1
  refine Qv (Qd (kp2 rfl rfl) ?_)
  refine QD ?_ -- 1
  refine Qe fun K hK => Qa rfl ?_
  refine hK _ _ (Qb (kp3 rfl rfl rfl) ?_)
  refine Qz ?_
  refine Zm (ι := Nat) (fun i => ⟨[(0, Zt a), (1, Zt b), (5, .int .i64 i)], []⟩) (fun i => i <= a.length /\ a.take i = b.take i) (fun i => a.length - i) 0 ?_ ?_ ?_
  ·exact Zf (kp3 rfl rfl rfl)
  ·exact ⟨Nat.zero_le _, by simp⟩
  intro i hI
  try dsimp only
  refine QD ?_ -- 2
  refine Qe fun K hK => Qa rfl (Qa rfl (QR rfl rfl (Yb rfl rfl ?_)))
  refine hK _ _ (Qb (kp4 rfl rfl rfl rfl) ?_)
  refine Qw rfl (fun h2 => ?_) (fun h2 => ?_)
  ·try rw [h2]
   try simp only [qa, qb, qc, qd, qe, List.length_map] at h2
   refine Qv (Qd (kp3 rfl rfl rfl) ?_)
   refine QD ?_ -- 3
   refine Qz (Qe fun K hK => Qa rfl (Qa rfl (QJ rfl rfl rfl (by omega) (QT (by omega)) rfl (QO (ds0 := [0]) (cs := [_, _]) rfl rfl rfl rfl rfl rfl (Qa rfl (Qa rfl (QJ rfl rfl rfl (by omega) (QT (by omega)) rfl (QO (ds0 := [0]) (cs := [_, _]) rfl rfl rfl rfl rfl rfl (Qq0 rfl rfl QnV ?_)))))))))
   refine hK _ _ (Qb (kp4 rfl rfl rfl rfl) ?_)
   refine Qw rfl (fun h3 => ?_) (fun h3 => ?_)
   ·try rw [h3]
    try simp only [qa, qb, qc, qd, qe, List.length_map] at h3
    refine Qe fun K hK => Qa rfl ?_
    refine hK _ _ (Qb (kp1 rfl) ?_)
    refine Qu (Qt (Qj (Q4 (Qt (Qj (Qs rfl ?_))))))
    rw [Qqz (i := i) (by omega) (by omega) h3]
   ·try rw [h3]
    try simp only [qa, qb, qc, qd, qe, List.length_map] at h3
    refine Qv (Qh (Qd (kp3 rfl rfl rfl) (QN fun K hK => Qa rfl (QY rfl rfl (by first | exact Qr (by omega) (by omega) | rfl) (Qa rfl (hK _ ?_))))))
    refine Qk (i + 1) ?_ ?_ ?_
    ·exact Zf (kp3 rfl rfl rfl)
    ·exact ⟨by omega, QnS (by omega) (by omega) hI.2 h3⟩
    ·first | omega | (simp only; omega) | (dsimp only; omega)
  ·try rw [h2]
   try simp only [qa, qb, qc, qd, qe, List.length_map] at h2
   refine Zh (QL (Qx (QE (Qd (Q0) (Qe fun K hK => Qa rfl ?_)))))
   refine hK _ _ (Qb (kp1 rfl) ?_)
   refine Qu (Qs rfl ?_)
   rw [List.take_of_length_le (by omega), List.take_of_length_le (by omega)] at hI; exact (decide_eq_true hI.2).symm
end Go.Proofs
namespace Go.Proofs
open Go Go.Abs M3 M25
set_option linter.unusedVariables false
set_option linter.unusedSimpArgs false
theorem Qb8 {w : Qm} (hw : WSm w) (et : Nat) (het : et = 3) : OkH Tryz.prog 79 [ZP w] [] (.osl 500000 (Qbg w).length) [(500000, ⟨(Qbg w).map (fun x => [.int .i64 x]), 1, et, true⟩)] := by
 subst het
 refine OkH.new ZQ Tryz.func79 QtW (Nat.le_of_ble_eq_true rfl) rfl ?_
 show TW _ _ tf79.body _ _
 have hn := hw.len
 refine Qe fun K hK => Zo rfl rfl rfl (Qa rfl ?_)
 refine hK _ _ (Qb (kp1 rfl) ?_)
 refine Qe fun K hK => Qa rfl ?_
 refine hK _ _ (Qb (kp2 rfl rfl) ?_)
 refine QD ?_ -- 0
 refine Qe fun K hK => Qa rfl ?_
 refine hK _ _ (Qb (kp3 rfl rfl rfl) ?_)
 refine Qz ?_
 refine Zm (ι := Nat) (fun i => ⟨[(1, .ref 1 0 0), (3, .osl 500000 (Qcg w i).length), (4, .int .i64 i)], [(1, ⟨[[.sl ((w).map Ym)]], 1, 26, true⟩), (500000, ⟨(Qcg w i).map (fun x => [.int .i64 x]), 1, 3, true⟩)]⟩) (fun i => i <= w.length) (fun i => w.length - i) 0 ?_ ?_ ?_
 ·exact le_trans (Yj 3 500000 1 3 rfl rfl) (Q2 (l := [1, 3, 4]) (lH := [1, 500000]) (kp3 rfl rfl rfl) (Qf rfl (Qf rfl Qn)) rfl rfl rfl)
 ·exact Nat.zero_le _
 intro i hI
 have hlen := Qdr w i
 try dsimp only
 refine QD ?_ -- 1
 refine Qe fun K hK => Qa rfl (Qi rfl rfl (QC rfl rfl rfl (QR rfl rfl (Yb rfl rfl ?_))))
 refine hK _ _ (Qb (kp4 rfl rfl rfl rfl) ?_)
 refine Qw rfl (fun h1 => ?_) (fun h1 => ?_)
 ·try rw [h1]
  try simp only [qa, qb, qc, qd, qe, List.length_map] at h1
  refine Qv (Qd (kp3 rfl rfl rfl) ?_)
  refine QD ?_ -- 2
  refine Qz (QN fun K hK => Qa rfl (QG (cs := [_]) rfl rfl rfl rfl (Qa rfl (QF (ZD hw) rfl rfl (.inr rfl) (QH rfl rfl (Xz rfl rfl (fun _ h => Xj rfl rfl rfl h) rfl (by simp) rfl rfl rfl (by simp; omega) (by simp; omega) (Qa rfl (hK _ ?_))))))))
  refine Qh (Qd (kp3 rfl rfl rfl) (QN fun K hK => Qa rfl (QY rfl rfl (by first | exact Qr (by omega) (by omega) | rfl) (Qa rfl (hK _ ?_)))))
  refine Qk (i + 1) ?_ ?_ ?_
  ·exact Q2 (l := [1, 3, 4]) (lH := [1, 500000]) (kp3 rfl rfl rfl) (Qf rfl (Qf rfl Qn)) (by first | (rw [Qag]; done) | (rw [Qag]; rfl) | (rw [Qag, List.length_append]; rfl) | (simp [Qag]; done) | (simp [Qag]; omega) | rfl) (by first | (rw [Qag]; done) | (rw [Qag]; rfl) | (rw [Qag, List.map_append]; rfl) | (simp [Qag]; done) | rfl) rfl
  ·omega
  ·first | omega | (simp only; omega) | (dsimp only; omega)
 ·try rw [h1]
  try simp only [qa, qb, qc, qd, qe, List.length_map] at h1
  refine Zh (QL (Qx (QE (Qd (kp1 rfl) (Qe fun K hK => Qa rfl (Qa rfl ?_))))))
  refine hK _ _ (Qb (kp1 rfl) ?_)
  refine Qu ?_
  refine Y5 rfl ?_ (QeS ?_)
  ·rw [Qbg, show w.length = i by omega]; rfl
  ·rw [Qbg, show w.length = i by omega]; rfl
theorem Qc0 {w : Qm} (hw : WSm w) {ms : List Int} (hm : ms.length <= 1000000) : Ok Tryz.prog 80 [ZP w, ZC ms] (dOT (Qi6 w ms)) := by
 refine Ok.ofT ZQ Tryz.func80 QtX (Nat.le_of_ble_eq_true rfl) ?_
 show TW _ _ tf80.body _ _
 refine Qe fun K hK => Zo rfl rfl rfl (Qa rfl (Qa rfl ?_))
 refine hK _ _ (Qb (kp2 rfl rfl) ?_)
 refine Qe fun K hK => Qa rfl ?_
 refine hK _ _ (Qb (kp3 rfl rfl rfl) ?_)
 refine QD ?_ -- 0
 refine Qe fun K hK => Qa rfl ?_
 refine hK _ _ (Qb (kp4 rfl rfl rfl rfl) ?_)
 refine Qz ?_
 refine Zm (ι := Nat) (fun i => ⟨[(1, ZC ms), (2, .ref 2 0 0), (6, .osl 6 (XG w ms i).length), (7, .int .i64 i)], [(2, ⟨[[.sl ((w).map Ym)]], 1, 26, true⟩), (6, ⟨(XG w ms i).map QbZ, 2, 35, true⟩)]⟩) (fun i => i <= ms.length /\ (ms.take i).all (fun m => !decide (m = 0)) = true) (fun i => ms.length - i) 0 ?_ ?_ ?_
 ·exact le_trans (Yj 6 6 2 35 rfl rfl) (Q2 (l := [1, 2, 6, 7]) (lH := [2, 6]) (kp4 rfl rfl rfl rfl) (Qf rfl (Qf rfl Qn)) rfl rfl rfl)
 ·exact ⟨Nat.zero_le _, by simp⟩
 intro i hI
 have hlen := Qhc w ms i
 try dsimp only
 refine QD ?_ -- 1
 refine Qe fun K hK => Qa rfl (Qa rfl (QR rfl rfl (Yb rfl rfl ?_)))
 refine hK _ _ (Qb (kp5 rfl rfl rfl rfl rfl) ?_)
 refine Qw rfl (fun h1 => ?_) (fun h1 => ?_)
 ·try rw [h1]
  try simp only [qa, qb, qc, qd, qe, List.length_map] at h1
  refine Qv (Qd (kp4 rfl rfl rfl rfl) ?_)
  refine QD ?_ -- 2
  refine Qz ?_
  refine QD ?_ -- 3
  refine Qe fun K hK => Qa rfl (Qa rfl (QJ rfl rfl rfl (by omega) (QT (by omega)) rfl (QC rfl rfl rfl (ZI rfl rfl ?_))))
  refine hK _ _ (Qb (kp5 rfl rfl rfl rfl rfl) ?_)
  refine Qw rfl (fun h2 => ?_) (fun h2 => ?_)
  ·try rw [h2]
   try simp only [qa, qb, qc, qd, qe, List.length_map] at h2
   refine Qe fun K hK => Qa rfl (Qa rfl ?_)
   refine hK _ _ (Qb (kp2 rfl rfl) ?_)
   refine Qu (Qj (Qt (Qj (Q4 (Qt (Qj ?_))))))
   rw [QlZ (i := i) (by omega) h2]
   exact QV rfl rfl ⟨rfl, rfl⟩
  ·try rw [h2]
   try simp only [qa, qb, qc, qd, qe, List.length_map] at h2
   refine Qv (Qd (kp4 rfl rfl rfl rfl) (Qe fun K hK => Qa rfl (Qa rfl (QJ rfl rfl rfl (by omega) (QT (by omega)) rfl (QP (ds0 := [0]) rfl rfl rfl rfl rfl (QO (ds0 := [1, 0]) (cs := [_]) rfl rfl rfl rfl rfl rfl (Qa rfl (QS (ds0 := [0]) (ZD hw) rfl rfl (.inr rfl) rfl rfl (XJ rfl rfl ?_)))))))))
   refine hK _ _ (Qb (kp5 rfl rfl rfl rfl rfl) ?_)
   refine Qw rfl (fun h3 => ?_) (fun h3 => ?_)
   ·try rw [h3]
    try simp only [qa, qb, qc, qd, qe, List.length_map] at h3
    refine QN fun K hK => Qa rfl (Qa rfl (Qa rfl (Qa rfl (QJ rfl rfl rfl (by omega) (QT (by omega)) rfl (QC rfl rfl rfl (QU rfl rfl (QH rfl rfl (Xz rfl rfl (fun _ h => Xj rfl rfl rfl h) rfl (by simp) rfl rfl rfl (by simp; omega) (by simp; omega) (Qa rfl (hK _ ?_))))))))))
    refine Qh (Qd (kp4 rfl rfl rfl rfl) (QN fun K hK => Qa rfl (QY rfl rfl (by first | exact Qr (by omega) (by omega) | rfl) (Qa rfl (hK _ ?_)))))
    refine Qk (i + 1) ?_ ?_ ?_
    ·exact Q2 (l := [1, 2, 6, 7]) (lH := [2, 6]) (kp4 rfl rfl rfl rfl) (Qf rfl (Qf rfl Qn)) (by first | (rw [Qai (by omega) h3]; done) | (rw [Qai (by omega) h3]; rfl) | (rw [Qai (by omega) h3, List.length_append]; rfl) | (simp [Qai (by omega) h3]; done) | (simp [Qai (by omega) h3]; omega) | rfl) (by first | (rw [Qai (by omega) h3]; done) | (rw [Qai (by omega) h3]; rfl) | (rw [Qai (by omega) h3, List.map_append]; rfl) | (simp [Qai (by omega) h3]; done) | rfl) rfl
    ·exact ⟨by omega, Ya (by omega) hI.2 (by simpa using h2)⟩
    ·first | omega | (simp only; omega) | (dsimp only; omega)
   ·try rw [h3]
    try simp only [qa, qb, qc, qd, qe, List.length_map] at h3
    refine Qv (Qh (Qd (kp4 rfl rfl rfl rfl) (QN fun K hK => Qa rfl (QY rfl rfl (by first | exact Qr (by omega) (by omega) | rfl) (Qa rfl (hK _ ?_))))))
    refine Qk (i + 1) ?_ ?_ ?_
    ·exact Q2 (l := [1, 2, 6, 7]) (lH := [2, 6]) (kp4 rfl rfl rfl rfl) (Qf rfl (Qf rfl Qn)) (by first | (rw [QbH (by omega) h3]; done) | (rw [QbH (by omega) h3]; rfl) | (rw [QbH (by omega) h3, List.length_append]; rfl) | (simp [QbH (by omega) h3]; done) | (simp [QbH (by omega) h3]; omega) | rfl) (by first | (rw [QbH (by omega) h3]; done) | (rw [QbH (by omega) h3]; rfl) | (rw [QbH (by omega) h3, List.map_append]; rfl) | (simp [QbH (by omega) h3]; done) | rfl) rfl
    ·exact ⟨by omega, Ya (by omega) hI.2 (by simpa using h2)⟩
    ·first | omega | (simp only; omega) | (dsimp only; omega)
 ·try rw [h1]
  try simp only [qa, qb, qc, qd, qe, List.length_map] at h1
  refine Zh (QL (Qx (QE (Qd (kp1 rfl) (Qe fun K hK => Qa rfl (Qa rfl (Qa rfl ?_)))))))
  refine hK _ _ (Qb (kp2 rfl rfl) ?_)
  refine Qu ?_
  rw [Qnb (i := i) (by omega) hI.2]
  exact Qgk rfl rfl rfl (by simp) (by show D.sl _ = Zt (XG w ms ms.length); rw [show ms.length = i by omega]; rfl) rfl rfl
theorem X6 {w : Qm} (hw : WSm w) {l : List TermT} (hl : l.length <= 2000000) : Ok Tryz.prog 47 [ZP w, Zt l] (dOT (Qdf w l)) := by
 refine Ok.ofT ZQ Tryz.func47 Qtt (Nat.le_of_ble_eq_true rfl) ?_
 show TW _ _ tf47.body _ _
 have hn := hw.len
 refine Qe fun K hK => Zo rfl rfl rfl (Qa rfl (Qa rfl ?_))
 refine hK _ _ (Qb (kp2 rfl rfl) ?_)
 refine Qe fun K hK => QG (cs := [_]) rfl rfl rfl rfl (YI (Qrc rfl (by intro x hx; simp at hx; subst hx; rfl) rfl rfl rfl (Qb8 hw _ rfl)) (Qa rfl ?_))
 refine hK _ _ (Qb (kp3 rfl rfl rfl) ?_)
 refine QgL (ι := Unit) (fun _ => ⟨[(2, .ref 2 0 0), (6, ZC (XE (Qbg w) l))], [(2, ⟨[[.sl ((w).map Ym)]], 1, 26, true⟩)]⟩) (fun _ => l.all (fun t => inW w t.u) = true) ?_ ?_
 ·skip
  refine Qe fun K hK => Qa rfl ?_
  refine hK _ _ (Qb (kp4 rfl rfl rfl rfl) ?_)
  refine Qz ?_
  refine Zm (ι := Nat) (fun i => ⟨[(1, Zt l), (2, .ref 2 0 0), (6, .osl 500000 (XE (Qbg w) (l.take i)).length), (7, .int .i64 i)], [(2, ⟨[[.sl ((w).map Ym)]], 1, 26, true⟩), (500000, ⟨(XE (Qbg w) (l.take i)).map (fun x => [.int .i64 x]), 1, 3, true⟩)]⟩) (fun i => i <= l.length /\ (l.take i).all (fun t => inW w t.u) = true) (fun i => l.length - i) 0 ?_ ?_ ?_
  ·exact Q2 (l := [1, 2, 6, 7]) (lH := [2, 500000]) (kp4 rfl rfl rfl rfl) (Qf rfl (Qf rfl Qn)) rfl rfl rfl
  ·exact ⟨Nat.zero_le _, by simp⟩
  intro i hI
  have hlen := QfT w (l.take i)
  try dsimp only
  refine QD ?_ -- 1
  refine Qe fun K hK => Qa rfl (Qa rfl (QR rfl rfl (Yb rfl rfl ?_)))
  refine hK _ _ (Qb (kp5 rfl rfl rfl rfl rfl) ?_)
  refine Qw rfl (fun h1 => ?_) (fun h1 => ?_)
  ·try rw [h1]
   try simp only [qa, qb, qc, qd, qe, List.length_map] at h1
   refine Qv (Qd (kp4 rfl rfl rfl rfl) ?_)
   refine QD ?_ -- 2
   refine Qz ?_
   refine QD ?_ -- 3
   refine Qe fun K hK => Qa rfl (Qa rfl (QJ rfl rfl rfl (by omega) (QT (by omega)) rfl (Q6 rfl rfl (QC rfl rfl rfl (Yb rfl rfl (Qa rfl ?_))))))
   refine QB (g := 22) rfl (fun h2 => ?_) (fun h2 => ?_)
   ·try rw [h2]
    try simp only [qa, qb, qc, qd, qe, List.length_map] at h2
    refine Qq rfl (Qq rfl (Qq rfl (Qq rfl (Qq rfl (Qq rfl (Qq rfl (Qq rfl (Ql rfl rfl ?_))))))))
    refine hK _ _ (Qb (kp5 rfl rfl rfl rfl rfl) ?_)
    refine Zl rfl (Qe fun K hK => Qa rfl (Qa rfl ?_))
    refine hK _ _ (Qb (kp2 rfl rfl) ?_)
    refine Qu (Qj (Qt (Qj (Q4 (Qt (QdX ?_))))))
    rw [Qha (i := i) (by omega) (Qds (by omega))]
    exact QV rfl rfl ⟨rfl, rfl⟩
   ·try rw [h2]
    try simp only [qa, qb, qc, qd, qe, List.length_map] at h2
    refine Qg rfl (Qa rfl (Qg rfl (Qa rfl (Qg rfl (QJ rfl rfl rfl (by omega) (QT (by omega)) rfl (Qg rfl (Q6 rfl rfl (Qg rfl (QC rfl rfl rfl (Qg rfl (Qa rfl ?_)))))))))))
    refine Qg rfl (QR rfl rfl (Qg rfl (Qdx rfl rfl (Ql rfl rfl ?_))))
    refine hK _ _ (Qb (kp5 rfl rfl rfl rfl rfl) ?_)
    refine Qw rfl (fun h3 => ?_) (fun h3 => ?_)
    ·try rw [h3]
     try simp only [qa, qb, qc, qd, qe, List.length_map] at h3
     refine Qe fun K hK => Qa rfl (Qa rfl ?_)
     refine hK _ _ (Qb (kp2 rfl rfl) ?_)
     refine Qu (Qj (Qt (Qj (Q4 (Qt (QdX ?_))))))
     rw [Qha (i := i) (by omega) (Qds (by omega))]
     exact QV rfl rfl ⟨rfl, rfl⟩
    ·try rw [h3]
     try simp only [qa, qb, qc, qd, qe, List.length_map] at h3
     refine Qv (Qd (kp4 rfl rfl rfl rfl) (QN fun K hK => Qa rfl (Qa rfl (Qa rfl (QJ rfl rfl rfl (by omega) (QT (by omega)) rfl (Q6 rfl rfl (QP (ds0 := [1, 0]) rfl rfl rfl rfl rfl (Qa rfl (Qa rfl (Qa rfl ?_))))))))))
     refine QJ rfl rfl rfl (by omega) (QT (by omega)) rfl (Q6 rfl rfl (QP (ds0 := [9, 8, 2, 0]) rfl rfl rfl rfl rfl (XT (ds0 := [8, 2, 0]) rfl rfl rfl (by simp) (by omega) (by omega) rfl rfl rfl (QP (ds0 := [2, 0]) rfl (Z9 rfl (ZA (by omega) (by omega))) rfl rfl rfl (Qa rfl (Qa rfl (QJ rfl rfl rfl (by omega) (QT (by omega)) rfl (Q6 rfl rfl (QP (ds0 := [2, 0]) rfl rfl rfl rfl rfl (QcS rfl rfl (XT (ds0 := [0]) rfl rfl rfl (by simp) (by omega) (by omega) rfl rfl rfl ?_)))))))))))
     refine Xn (ds0 := []) rfl rfl (ZA (by omega) (by omega)) rfl rfl rfl rfl rfl rfl rfl (hK _ ?_)
     refine Qh (Qd (kp4 rfl rfl rfl rfl) (QN fun K hK => Qa rfl (QY rfl rfl (by first | exact Qr (by omega) (by omega) | rfl) (Qa rfl (hK _ ?_)))))
     refine Qk (i + 1) ?_ ?_ ?_
     ·exact Q2 (l := [1, 2, 6, 7]) (lH := [2, 500000]) (kp4 rfl rfl rfl rfl) (Qf rfl (Qf rfl Qn)) (by rw [Qlb (by omega) (by omega), List.length_set]; rfl) (by rw [Qlb (by omega) (by omega), List.map_set]; rfl) rfl
     ·exact ⟨by omega, Ya (by omega) hI.2 (QdV (by omega) (by omega))⟩
     ·first | omega | (simp only; omega) | (dsimp only; omega)
  ·try rw [h1]
   try simp only [qa, qb, qc, qd, qe, List.length_map] at h1
   refine Zh (QL (Qx (QE ?_)))
   refine Z0 () ?_ ?_
   ·exact le_trans (Qg2 (l := [2]) (lH := [2]) 500000 6 (kp1 rfl) (Qf rfl Qn) rfl rfl rfl (by first | (simp; done) | (simp; omega)) rfl rfl rfl rfl) (Q2 (l := [2, 6]) (lH := [2]) (kp2 rfl rfl) (Qf rfl Qn) (by rw [List.take_of_length_le (show l.length <= i by omega)]; rfl) rfl rfl)
   ·exact Xp (by omega) hI.2
 intro _ hJ
 try dsimp only
 refine Qe fun K hK => QG (cs := [_]) rfl rfl rfl rfl (Qa rfl (QF (Qc0 hw (by rw [QfT]; omega)) rfl rfl (.inl rfl) (Za rfl rfl (Za rfl rfl (Qa rfl (Qa rfl ?_))))))
 refine hK _ _ (Qb (kp2 rfl rfl) ?_)
 refine Qu ?_
 rw [Qnc hJ]
 exact QV rfl rfl ⟨rfl, rfl⟩
theorem Xd {l : List TermT} (hl : l.length <= 2000000) {u : Int} : Ok Tryz.prog 103 [Zt l, .int .i64 u] (Zt (Qg6 l u)) := by
 refine Ok.ofT ZQ Tryz.func103 Qsi (Nat.le_of_ble_eq_true rfl) ?_
 show TW _ _ tf103.body _ _
 refine Qe fun K hK => Qa rfl ?_
 refine hK _ _ (Qb (kp2 rfl rfl) ?_)
 refine Qe fun K hK => Qa rfl ?_
 refine hK _ _ (Qb (kp3 rfl rfl rfl) ?_)
 refine QD ?_ -- 0
 refine Qe fun K hK => Qa rfl ?_
 refine hK _ _ (Qb (kp4 rfl rfl rfl rfl) ?_)
 refine Qz ?_
 refine Zm (ι := Nat) (fun i => ⟨[(0, Zt l), (1, .int .i64 u), (5, .osl 5 (Qg6 (l.take i) u).length), (6, .int .i64 i)], [(5, ⟨(Qg6 (l.take i) u).map QbZ, 2, 35, true⟩)]⟩) (fun i => i <= l.length) (fun i => l.length - i) 0 ?_ ?_ ?_
 ·exact le_trans (Yj 5 5 2 35 rfl rfl) (Q2 (l := [0, 1, 5, 6]) (lH := [5]) (kp4 rfl rfl rfl rfl) (Qf rfl Qn) rfl rfl rfl)
 ·exact Nat.zero_le _
 intro i hI
 have hlen := Qod l u i
 try dsimp only
 refine QD ?_ -- 1
 refine Qe fun K hK => Qa rfl (Qa rfl (QR rfl rfl (Yb rfl rfl ?_)))
 refine hK _ _ (Qb (kp5 rfl rfl rfl rfl rfl) ?_)
 refine Qw rfl (fun h1 => ?_) (fun h1 => ?_)
 ·try rw [h1]
  try simp only [qa, qb, qc, qd, qe, List.length_map] at h1
  refine Qv (Qd (kp4 rfl rfl rfl rfl) ?_)
  refine QD ?_ -- 2
  refine Qz (Qe fun K hK => Qa rfl (Qa rfl (QJ rfl rfl rfl (by omega) (QT (by omega)) rfl (Q6 rfl rfl (QC rfl rfl rfl (Qa rfl (XJ rfl rfl ?_)))))))
  refine hK _ _ (Qb (kp5 rfl rfl rfl rfl rfl) ?_)
  refine Qw rfl (fun h2 => ?_) (fun h2 => ?_)
  ·try rw [h2]
   try simp only [qa, qb, qc, qd, qe, List.length_map] at h2
   refine QN fun K hK => Qa rfl (Qa rfl (Qa rfl (QJ rfl rfl rfl (by omega) (QT (by omega)) rfl (QG (cs := [_, _]) rfl rfl rfl rfl (QH rfl rfl (Xz rfl rfl (fun _ h => Xj rfl rfl rfl h) rfl (by simp) rfl rfl rfl (by simp; omega) (by simp; omega) (Qa rfl (hK _ ?_))))))))
   refine Qh (Qd (kp4 rfl rfl rfl rfl) (QN fun K hK => Qa rfl (QY rfl rfl (by first | exact Qr (by omega) (by omega) | rfl) (Qa rfl (hK _ ?_)))))
   refine Qk (i + 1) ?_ ?_ ?_
   ·exact Q2 (l := [0, 1, 5, 6]) (lH := [5]) (kp4 rfl rfl rfl rfl) (Qf rfl Qn) (by first | (rw [Qbr (by omega) h2]; done) | (rw [Qbr (by omega) h2]; rfl) | (rw [Qbr (by omega) h2, List.length_append]; rfl) | (simp [Qbr (by omega) h2]; done) | (simp [Qbr (by omega) h2]; omega) | rfl) (by first | (rw [Qbr (by omega) h2]; done) | (rw [Qbr (by omega) h2]; rfl) | (rw [Qbr (by omega) h2, List.map_append]; rfl) | (simp [Qbr (by omega) h2]; done) | rfl) rfl
   ·omega
   ·first | omega | (simp only; omega) | (dsimp only; omega)
  ·try rw [h2]
   try simp only [qa, qb, qc, qd, qe, List.length_map] at h2
   refine Qv (Qh (Qd (kp4 rfl rfl rfl rfl) (QN fun K hK => Qa rfl (QY rfl rfl (by first | exact Qr (by omega) (by omega) | rfl) (Qa rfl (hK _ ?_))))))
   refine Qk (i + 1) ?_ ?_ ?_
   ·exact Q2 (l := [0, 1, 5, 6]) (lH := [5]) (kp4 rfl rfl rfl rfl) (Qf rfl Qn) (by first | (rw [QdE (by omega) h2]; done) | (rw [QdE (by omega) h2]; rfl) | (rw [QdE (by omega) h2, List.length_append]; rfl) | (simp [QdE (by omega) h2]; done) | (simp [QdE (by omega) h2]; omega) | rfl) (by first | (rw [QdE (by omega) h2]; done) | (rw [QdE (by omega) h2]; rfl) | (rw [QdE (by omega) h2, List.map_append]; rfl) | (simp [QdE (by omega) h2]; done) | rfl) rfl
   ·omega
   ·first | omega | (simp only; omega) | (dsimp only; omega)
 ·try rw [h1]
  try simp only [qa, qb, qc, qd, qe, List.length_map] at h1
  refine Zh (QL (Qx (QE (Qd (kp1 rfl) (Qe fun K hK => Qa rfl (Qa rfl ?_))))))
  refine hK _ _ (Qb (kp1 rfl) ?_)
  refine Qu ?_
  exact QbJ rfl rfl rfl (by simp) (by rw [List.take_of_length_le (show l.length <= i by omega)]; rfl)
theorem QbW {l : List TermT} (hl : l.length <= 3000000) : Ok Tryz.prog 104 [Zt l] (Zt (Qic l)) := by
 refine Ok.ofT ZQ Tryz.func104 Qsj (Nat.le_of_ble_eq_true rfl) ?_
 show TW _ _ tf104.body _ _
 refine Qe fun K hK => Qa rfl ?_
 refine hK _ _ (Qb (kp1 rfl) ?_)
 refine Qe fun K hK => Qa rfl ?_
 refine hK _ _ (Qb (kp2 rfl rfl) ?_)
 refine QD ?_ -- 0
 refine Qe fun K hK => Qa rfl ?_
 refine hK _ _ (Qb (kp3 rfl rfl rfl) ?_)
 refine Qz ?_
 refine Zm (ι := Nat) (fun u => ⟨[(0, Zt l), (3, .osl 3 (Yo l u).length), (4, .int .i64 u)], [(3, ⟨(Yo l u).map QbZ, 2, 35, true⟩)]⟩) (fun u => u <= 48) (fun u => 48 - u) 0 ?_ ?_ ?_
 ·exact le_trans (Yj 3 3 2 35 rfl rfl) (Q2 (l := [0, 3, 4]) (lH := [3]) (kp3 rfl rfl rfl) (Qf rfl Qn) rfl rfl rfl)
 ·exact Nat.zero_le _
 intro u hU
 have hlen2 : u * l.length <= 48 * 3000000 := Nat.mul_le_mul (by omega) hl
 try dsimp only
 refine QD ?_ -- 1
 refine Qe fun K hK => Qa rfl (Yb rfl rfl ?_)
 refine hK _ _ (Qb (kp4 rfl rfl rfl rfl) ?_)
 refine Qw rfl (fun h1 => ?_) (fun h1 => ?_)
 ·try rw [h1]
  try simp only [qa, qb, qc, qd, qe, List.length_map] at h1
  refine Qv (Qd (kp3 rfl rfl rfl) ?_)
  refine QD ?_ -- 2
  refine Qz (Qe fun K hK => Qa rfl ?_)
  refine hK _ _ (Qb (kp4 rfl rfl rfl rfl) ?_)
  refine Qz ?_
  refine Zm (ι := Nat) (fun i => ⟨[(0, Zt l), (3, .osl 3 (srt l u i).length), (4, .int .i64 u), (5, .int .i64 i)], [(3, ⟨(srt l u i).map QbZ, 2, 35, true⟩)]⟩) (fun i => i <= l.length) (fun i => l.length - i) 0 ?_ ?_ ?_
  ·exact Q2 (l := [0, 3, 4, 5]) (lH := [3]) (kp4 rfl rfl rfl rfl) (Qf rfl Qn) (by first | (rw [Qal]; done) | (rw [Qal]; rfl) | (rw [Qal, List.length_append]; rfl) | (simp [Qal]; done) | (simp [Qal]; omega) | rfl) (by first | (rw [Qal]; done) | (rw [Qal]; rfl) | (rw [Qal, List.map_append]; rfl) | (simp [Qal]; done) | rfl) rfl
  ·exact Nat.zero_le _
  intro i hI
  have hlen3 := QqB l u i
  try dsimp only
  refine QD ?_ -- 3
  refine Qe fun K hK => Qa rfl (Qa rfl (QR rfl rfl (Yb rfl rfl ?_)))
  refine hK _ _ (Qb (kp5 rfl rfl rfl rfl rfl) ?_)
  refine Qw rfl (fun h2 => ?_) (fun h2 => ?_)
  ·try rw [h2]
   try simp only [qa, qb, qc, qd, qe, List.length_map] at h2
   refine Qv (Qd (kp4 rfl rfl rfl rfl) ?_)
   refine QD ?_ -- 4
   refine Qz (Qe fun K hK => Qa rfl (Qa rfl (QJ rfl rfl rfl (by omega) (QT (by omega)) rfl (Q6 rfl rfl (QC rfl rfl rfl (Qa rfl (ZI rfl rfl ?_)))))))
   refine hK _ _ (Qb (kp5 rfl rfl rfl rfl rfl) ?_)
   refine Qw rfl (fun h3 => ?_) (fun h3 => ?_)
   ·try rw [h3]
    try simp only [qa, qb, qc, qd, qe, List.length_map] at h3
    refine QN fun K hK => Qa rfl (Qa rfl (Qa rfl (QJ rfl rfl rfl (by omega) (QT (by omega)) rfl (QG (cs := [_, _]) rfl rfl rfl rfl (QH rfl rfl (Xz rfl rfl (fun _ h => Xj rfl rfl rfl h) rfl (by simp) rfl rfl rfl (by simp; omega) (by simp; omega) (Qa rfl (hK _ ?_))))))))
    refine Qh (Qd (kp4 rfl rfl rfl rfl) (QN fun K hK => Qa rfl (QY rfl rfl (by first | exact Qr (by omega) (by omega) | rfl) (Qa rfl (hK _ ?_)))))
    refine Qk (i + 1) ?_ ?_ ?_
    ·exact Q2 (l := [0, 3, 4, 5]) (lH := [3]) (kp4 rfl rfl rfl rfl) (Qf rfl Qn) (by first | (rw [QbO (by omega) h3]; done) | (rw [QbO (by omega) h3]; rfl) | (rw [QbO (by omega) h3, List.length_append]; rfl) | (simp [QbO (by omega) h3]; done) | (simp [QbO (by omega) h3]; omega) | rfl) (by first | (rw [QbO (by omega) h3]; done) | (rw [QbO (by omega) h3]; rfl) | (rw [QbO (by omega) h3, List.map_append]; rfl) | (simp [QbO (by omega) h3]; done) | rfl) rfl
    ·omega
    ·first | omega | (simp only; omega) | (dsimp only; omega)
   ·try rw [h3]
    try simp only [qa, qb, qc, qd, qe, List.length_map] at h3
    refine Qv (Qh (Qd (kp4 rfl rfl rfl rfl) (QN fun K hK => Qa rfl (QY rfl rfl (by first | exact Qr (by omega) (by omega) | rfl) (Qa rfl (hK _ ?_))))))
    refine Qk (i + 1) ?_ ?_ ?_
    ·exact Q2 (l := [0, 3, 4, 5]) (lH := [3]) (kp4 rfl rfl rfl rfl) (Qf rfl Qn) (by first | (rw [Qel (by omega) h3]; done) | (rw [Qel (by omega) h3]; rfl) | (rw [Qel (by omega) h3, List.length_append]; rfl) | (simp [Qel (by omega) h3]; done) | (simp [Qel (by omega) h3]; omega) | rfl) (by first | (rw [Qel (by omega) h3]; done) | (rw [Qel (by omega) h3]; rfl) | (rw [Qel (by omega) h3, List.map_append]; rfl) | (simp [Qel (by omega) h3]; done) | rfl) rfl
    ·omega
    ·first | omega | (simp only; omega) | (dsimp only; omega)
  ·try rw [h2]
   try simp only [qa, qb, qc, qd, qe, List.length_map] at h2
   refine Zh (QL (Qx (QE (Qh (Qd (kp3 rfl rfl rfl) (QN fun K hK => Qa rfl (QY rfl rfl (by first | exact Qr (by omega) (by omega) | rfl) (Qa rfl (hK _ ?_)))))))))
   refine Qk (u + 1) ?_ ?_ ?_
   ·exact Q2 (l := [0, 3, 4]) (lH := [3]) (kp3 rfl rfl rfl) (Qf rfl Qn) (by first | (rw [QbN l u (show l.length = i by omega)]; done) | (rw [QbN l u (show l.length = i by omega)]; rfl) | (rw [QbN l u (show l.length = i by omega), List.length_append]; rfl) | (simp [QbN l u (show l.length = i by omega)]; done) | (simp [QbN l u (show l.length = i by omega)]; omega) | rfl) (by first | (rw [QbN l u (show l.length = i by omega)]; done) | (rw [QbN l u (show l.length = i by omega)]; rfl) | (rw [QbN l u (show l.length = i by omega), List.map_append]; rfl) | (simp [QbN l u (show l.length = i by omega)]; done) | rfl) rfl
   ·omega
   ·first | omega | (simp only; omega) | (dsimp only; omega)
 ·try rw [h1]
  try simp only [qa, qb, qc, qd, qe, List.length_map] at h1
  refine Zh (QL (Qx (QE (Qd (kp1 rfl) (Qe fun K hK => Qa rfl (Qa rfl ?_))))))
  refine hK _ _ (Qb (kp1 rfl) ?_)
  refine Qu ?_
  exact QbJ rfl rfl rfl (by simp) (by rw [Qic, show (48 : Nat) = u by omega]; rfl)
theorem XB {w : Qm} (hw : WSm w) {u : Int} {p : Nat} (hp : p <= 60) {l : List WantT} (hl : l.length <= 1000000) (hx : ∀ x ∈ l, Sm x.s.1 /\ Sm x.s.2) {bar : Bool} : Ok Tryz.prog 77 [ZP w, .int .i64 u, .int .i64 (p : Nat), Zc l, .bool bar] (dOT (Yn w u p l bar)) := by
 refine Ok.ofT ZQ Tryz.func77 QtU (Nat.le_of_ble_eq_true rfl) ?_
 show TW _ _ tf77.body _ _
 refine Qe fun K hK => Zo rfl rfl rfl (Qa rfl (Qa rfl ?_))
 refine hK _ _ (Qb (kp5 rfl rfl rfl rfl rfl) ?_)
 refine Qe fun K hK => Qa rfl (QG (cs := [_]) rfl rfl rfl rfl (Qa rfl (QF (ZD hw) rfl rfl (.inr rfl) (Qa rfl (QiA rfl (Qfw (by omega) (by omega)) (Qn6 rfl rfl (by omega) (QnY hp) (QcS rfl rfl (QU rfl rfl (QH rfl rfl (Qa rfl ?_))))))))))
 refine hK _ _ (Qb (kp4 rfl rfl rfl rfl) ?_)
 refine QgL (ι := Unit) (fun _ => ⟨[(5, .ref 5 0 0), (12, Zt (clT w u p bar l))], [(5, ⟨[[.sl ((w).map Ym)]], 1, 26, true⟩)]⟩) (fun _ => True) ?_ ?_
 ·skip
  refine Qe fun K hK => Qa rfl ?_
  refine hK _ _ (Qb (kp5 rfl rfl rfl rfl rfl) ?_)
  refine Qz ?_
  refine Zm (ι := Nat) (fun i => ⟨[(3, Zc l), (4, .bool bar), (5, .ref 5 0 0), (12, .osl 24 (clT w u p bar (l.take i)).length), (13, .int .i64 i)], [(5, ⟨[[.sl ((w).map Ym)]], 1, 26, true⟩), (24, ⟨(clT w u p bar (l.take i)).map QbZ, 2, 35, true⟩)]⟩) (fun i => i <= l.length) (fun i => l.length - i) 0 ?_ ?_ ?_
  ·exact Q2 (l := [3, 4, 5, 12, 13]) (lH := [5, 24]) (kp5 rfl rfl rfl rfl rfl) (Qf rfl (Qf rfl Qn)) rfl rfl rfl
  ·exact Nat.zero_le _
  intro i hI
  have hlen := Qmu w u p bar (l.take i)
  have hlen2 : (l.take i).length <= l.length := List.length_take_le' ..
  try dsimp only
  refine QD ?_ -- 1
  refine Qe fun K hK => Qa rfl (Qa rfl (QR rfl rfl (Yb rfl rfl ?_)))
  refine hK _ _ (Qb (kp6 rfl rfl rfl rfl rfl rfl) ?_)
  refine Qw rfl (fun h1 => ?_) (fun h1 => ?_)
  ·try rw [h1]
   try simp only [qa, qb, qc, qd, qe, List.length_map] at h1
   refine Qv (Qd (kp5 rfl rfl rfl rfl rfl) ?_)
   refine QD ?_ -- 2
   refine Qz (Qe fun K hK => QO (ds0 := [1, 0]) (cs := [_]) rfl rfl rfl rfl rfl rfl (Qa rfl (Qa rfl (QJ rfl rfl rfl (by omega) (QT (by omega)) rfl (QO (ds0 := [1, 0]) (cs := [_, _, _]) rfl rfl rfl rfl rfl rfl (QS (ds0 := [0]) (Qdj hw (hx _ (List.getElem_mem (by omega)))) rfl rfl (.inr rfl) rfl rfl (Qa rfl ?_)))))))
   refine hK _ _ (Qb (kp6 rfl rfl rfl rfl rfl rfl) ?_)
   refine QD ?_ -- 3
   refine Qe fun K hK => Qa rfl (Ye rfl ?_)
   refine hK _ _ (Qb (kp7 rfl rfl rfl rfl rfl rfl rfl) ?_)
   refine Qw rfl (fun h2 => ?_) (fun h2 => ?_)
   ·try rw [h2]
    try simp only [qa, qb, qc, qd, qe, List.length_map] at h2
    refine QN fun K hK => QO (ds0 := [3, 1, 0]) (cs := [_]) rfl rfl rfl rfl rfl rfl (Qa rfl (Qa rfl (QJ rfl rfl rfl (by omega) (QT (by omega)) rfl (Q6 rfl rfl (QP (ds0 := [3, 1, 0]) rfl rfl rfl rfl rfl (QS (ds0 := [1, 0]) (ZD hw) rfl rfl (.inr rfl) rfl rfl (Qa rfl (X2 rfl rfl (QqJ w _ _) (Qa rfl (hK _ ?_))))))))))
    refine Qd (kp6 rfl rfl rfl rfl rfl rfl) (QN fun K hK => Qa rfl (Qa rfl (Qa rfl (QJ rfl rfl rfl (by omega) (QT (by omega)) rfl (Q6 rfl rfl (QC rfl rfl rfl (Qa rfl (QU rfl rfl (QH rfl rfl (Xz rfl rfl (fun _ h => Xj rfl rfl rfl h) rfl (by simp) rfl rfl rfl (by simp; omega) (by simp; omega) ?_))))))))))
    refine Qa rfl (hK _ ?_)
    refine Qh (Qd (kp5 rfl rfl rfl rfl rfl) (QN fun K hK => Qa rfl (QY rfl rfl (by first | exact Qr (by omega) (by omega) | rfl) (Qa rfl (hK _ ?_)))))
    refine Qk (i + 1) ?_ ?_ ?_
    ·exact Q2 (l := [3, 4, 5, 12, 13]) (lH := [5, 24]) (kp5 rfl rfl rfl rfl rfl) (Qf rfl (Qf rfl Qn)) (by first | (rw [Qbv (by omega) h2]; done) | (rw [Qbv (by omega) h2]; rfl) | (rw [Qbv (by omega) h2, List.length_append]; rfl) | (simp [Qbv (by omega) h2]; done) | (simp [Qbv (by omega) h2]; omega) | rfl) (by first | (rw [Qbv (by omega) h2]; done) | (rw [Qbv (by omega) h2]; rfl) | (rw [Qbv (by omega) h2, List.map_append]; rfl) | (simp [Qbv (by omega) h2]; done) | rfl) rfl
    ·omega
    ·first | omega | (simp only; omega) | (dsimp only; omega)
   ·try rw [h2]
    try simp only [qa, qb, qc, qd, qe, List.length_map] at h2
    refine Qv (Qd (kp6 rfl rfl rfl rfl rfl rfl) (QN fun K hK => Qa rfl (Qa rfl (Qa rfl (QJ rfl rfl rfl (by omega) (QT (by omega)) rfl (Q6 rfl rfl (QC rfl rfl rfl (Qa rfl (QU rfl rfl (QH rfl rfl ?_))))))))))
    refine Xz rfl rfl (fun _ h => Xj rfl rfl rfl h) rfl (by simp) rfl rfl rfl (by simp; omega) (by simp; omega) (Qa rfl (hK _ ?_))
    refine Qh (Qd (kp5 rfl rfl rfl rfl rfl) (QN fun K hK => Qa rfl (QY rfl rfl (by first | exact Qr (by omega) (by omega) | rfl) (Qa rfl (hK _ ?_)))))
    refine Qk (i + 1) ?_ ?_ ?_
    ·exact Q2 (l := [3, 4, 5, 12, 13]) (lH := [5, 24]) (kp5 rfl rfl rfl rfl rfl) (Qf rfl (Qf rfl Qn)) (by first | (rw [Qbu (by omega) h2]; done) | (rw [Qbu (by omega) h2]; rfl) | (rw [Qbu (by omega) h2, List.length_append]; rfl) | (simp [Qbu (by omega) h2]; done) | (simp [Qbu (by omega) h2]; omega) | rfl) (by first | (rw [Qbu (by omega) h2]; done) | (rw [Qbu (by omega) h2]; rfl) | (rw [Qbu (by omega) h2, List.map_append]; rfl) | (simp [Qbu (by omega) h2]; done) | rfl) rfl
    ·omega
    ·first | omega | (simp only; omega) | (dsimp only; omega)
  ·try rw [h1]
   try simp only [qa, qb, qc, qd, qe, List.length_map] at h1
   refine Zh (QL (Qx (QE ?_)))
   refine Z0 () ?_ ?_
   ·exact le_trans (Qg2 (l := [5]) (lH := [5]) 24 12 (kp1 rfl) (Qf rfl Qn) rfl rfl rfl (by first | (simp; done) | (simp; omega)) rfl rfl rfl rfl) (Q2 (l := [5, 12]) (lH := [5]) (kp2 rfl rfl) (Qf rfl Qn) (by rw [List.take_of_length_le (show l.length <= i by omega)]; rfl) rfl rfl)
   ·exact trivial
 intro _ hJ
 try dsimp only
 refine Qe fun K hK => QG (cs := [_]) rfl rfl rfl rfl (Qa rfl (QF (X6 hw (by rw [Qmu]; omega)) rfl rfl (.inl rfl) (Za rfl rfl (Za rfl rfl (Qa rfl (Qa rfl ?_))))))
 refine hK _ _ (Qb (kp2 rfl rfl) ?_)
 refine Qu ?_
 exact QV rfl rfl ⟨rfl, rfl⟩
end Go.Proofs
namespace M25
open Go Go.Abs M3
def IncOk (w : Qm) (l : List TermT) : Prop := l.Pairwise (fun a b => a.u < b.u) /\ ∀ t ∈ l, 0 <= t.u /\ t.u < w.length
theorem Qhl : ∀ (l : List TermT) (a b : Int), l.Pairwise (fun x y => x.u < y.u) -> (∀ t ∈ l, a <= t.u /\ t.u < b) -> a <= b -> (l.length : Int) <= b - a
 | [], a, b, _, _, h => by simp; omega
 | t :: l, a, b, hp, hb, h => by
  rw [List.pairwise_cons] at hp
  have h1 := hb t (by simp)
  have := Qhl l (t.u + 1) b hp.2 (fun s hs => ⟨by have := hp.1 s hs; omega, (hb s (by simp [hs])).2⟩) (by omega)
  simp only [List.length_cons]; omega
theorem IncOk.len {w : Qm} {l : List TermT} (h : IncOk w l) : l.length <= w.length := by
 have := Qhl l 0 w.length h.1 h.2 (by omega)
 omega
theorem IncOk.nil (w : Qm) : IncOk w [] := ⟨List.Pairwise.nil, by simp⟩
theorem Qjb (w : Qm) (ms : List Int) : ∀ n, (XG w ms n).Pairwise (fun a b => a.u < b.u) /\ ∀ t ∈ XG w ms n, 0 <= t.u /\ t.u < n
 | 0 => ⟨List.Pairwise.nil, by simp [XG]⟩
 | n + 1 => by
  obtain ⟨h1, h2⟩ := Qjb w ms n
  rw [XG]
  split
  ·rw [List.append_nil]; exact ⟨h1, fun t ht => by have := h2 t ht; omega⟩
  ·refine ⟨List.pairwise_append.2 ⟨h1, List.pairwise_singleton _ _, fun a ha b hb => ?_⟩, fun t ht => ?_⟩
   ·simp only [List.mem_singleton] at hb; subst hb; exact (h2 a ha).2
   ·rcases List.mem_append.1 ht with ht | ht
    ·have := h2 t ht; omega
    ·simp only [List.mem_singleton] at ht; subst ht; simp only; omega
theorem Qd4 {w : Qm} {l t : List TermT} (h : Qdf w l = some t) : IncOk w t := by
 unfold Qdf at h
 split at h
 ·unfold Qi6 at h
  split at h
  ·cases h
   obtain ⟨h1, h2⟩ := Qjb w (XE (Qbg w) l) (XE (Qbg w) l).length
   refine ⟨h1, fun t ht => ?_⟩
   have := h2 t ht
   rw [QfT] at this
   exact this
  ·cases h
 ·cases h
theorem IncOk.ne {w : Qm} {l : List TermT} (h : IncOk w l) : l.Pairwise (fun a b => a.u ≠ b.u) := h.1.imp fun h => by omega
theorem Qgs {l : List TermT} (hl : l.Pairwise (fun a b => a.u ≠ b.u)) : ∀ n, (Yo l n).Pairwise (fun a b => a.u < b.u) /\ ∀ t ∈ Yo l n, t ∈ l /\ 0 <= t.u /\ t.u < n
 | 0 => ⟨List.Pairwise.nil, by simp [Yo]⟩
 | n + 1 => by
  obtain ⟨h1, h2⟩ := Qgs hl n
  rw [Yo]
  have hf : ∀ t ∈ l.filter (fun t => decide (t.u = ((n : Nat) : Int))), t ∈ l /\ t.u = n := fun t ht => by
   simpa using List.mem_filter.1 ht
  refine ⟨List.pairwise_append.2 ⟨h1, ?_, fun a ha b hb => ?_⟩, fun t ht => ?_⟩
  ·refine List.Pairwise.imp_of_mem (fun {a b} ha hb hab => ?_) (hl.filter _)
   have := (hf a ha).2
   have := (hf b hb).2
   omega
  ·rw [(hf b hb).2]; exact (h2 a ha).2.2
  ·rcases List.mem_append.1 ht with ht | ht
   ·have := h2 t ht; exact ⟨this.1, by omega, by omega⟩
   ·have := hf t ht; exact ⟨this.1, by omega, by omega⟩
theorem Ql1 {w : Qm} {l : List TermT} (hl : l.Pairwise (fun a b => a.u ≠ b.u)) (hb : ∀ t ∈ l, 0 <= t.u /\ t.u < w.length) : IncOk w (Qic l) := by
 obtain ⟨h1, h2⟩ := Qgs hl 48
 exact ⟨h1, fun t ht => hb t (h2 t ht).1⟩
theorem QoA {w : Qm} {r x : RowT} (hx : IncOk w x.t) (h0 : 0 <= r.u) (h1 : r.u < w.length) : IncOk w (Qoz w r x).t := by
 refine Ql1 (List.pairwise_cons.2 ⟨fun t ht => ?_, hx.ne.filter _⟩) fun t ht => ?_
 ·have := (List.mem_filter.1 ht).2
  simp only [Bool.not_eq_true', decide_eq_false_iff_not] at this
  exact fun e => this e.symm
 ·rcases List.mem_cons.1 ht with rfl | ht
  ·exact ⟨h0, h1⟩
  ·exact hx.2 t (List.mem_filter.1 ht).1
def Qa8 (w : Qm) (rows : List RowT) : Prop := ∀ x ∈ rows, IncOk w x.t
theorem Qki {w : Qm} {r : RowT} (hr : IncOk w r.t) (h0 : 0 <= r.u) (h1 : r.u < w.length) : ∀ {rows : List RowT}, Qa8 w rows -> Qa8 w (Xl w r rows)
 | [], _ => fun x hx => by
  simp only [Xl, List.mem_singleton] at hx; subst hx; exact hr
 | y :: rows, h => fun x hx => by
  rw [Xl] at hx
  split at hx
  ·rcases List.mem_cons.1 hx with rfl | hx
   ·exact QoA (h y (by simp)) h0 h1
   ·exact h x (by simp [hx])
  ·rcases List.mem_cons.1 hx with rfl | hx
   ·exact h x (by simp)
   ·exact Qki hr h0 h1 (fun z hz => h z (by simp [hz])) x hx
theorem Qih (w : Qm) (r : RowT) : ∀ rows : List RowT, (Xl w r rows).length <= rows.length + 1
 | [] => by simp [Xl]
 | x :: rows => by
  have := Qih w r rows
  rw [Xl]; split <;> simp <;> omega
theorem Qj9 {r x : RowT} (h : ¬ x.k = r.k \/ ¬ x.u = r.u \/ ¬ Qg6 x.t r.u = Qg6 r.t r.u) : Qj8 r x = false := by
 simp only [Qj8, Bool.and_eq_false_iff, decide_eq_false_iff_not]
 rcases h with h | h | h
 ·exact .inl (.inl h)
 ·exact .inl (.inr h)
 ·exact .inr h
theorem Qm6 {r x : RowT} (h1 : x.k = r.k) (h2 : x.u = r.u) (h3 : Qg6 x.t r.u = Qg6 r.t r.u) : Qj8 r x = true := by simp [Qj8, h1, h2, h3]
theorem Qgl {w : Qm} {r : RowT} {rows : List RowT} {i : Nat} (h : i < rows.length) (hn : Qj8 r rows[i] = false) (hi : Xl w r rows = rows.take i ++ Xl w r (rows.drop i)) : Xl w r rows = rows.take (i + 1) ++ Xl w r (rows.drop (i + 1)) := by
 rw [hi, List.drop_eq_getElem_cons h, Xl, if_neg (by rw [hn]; simp), List.take_succ_eq_append_getElem h, List.append_assoc]; rfl
theorem Qll {w : Qm} {r : RowT} {rows : List RowT} {i : Nat} (h : i < rows.length) (hn : Qj8 r rows[i] = true) (hi : Xl w r rows = rows.take i ++ Xl w r (rows.drop i)) : Xl w r rows = rows.set i (Qoz w r rows[i]) := by
 rw [hi, List.drop_eq_getElem_cons h, Xl, if_pos hn, List.set_eq_take_append_cons_drop, if_pos h]
theorem Qlm {w : Qm} {r : RowT} {rows : List RowT} {i : Nat} (h : rows.length <= i) (hi : Xl w r rows = rows.take i ++ Xl w r (rows.drop i)) : Xl w r rows = rows ++ [r] := by
 rw [hi, List.drop_eq_nil_of_le h, List.take_of_length_le h, Xl]
theorem Qlj {w : Qm} {u : Int} {p : Nat} {l : List (List WantT)} {rows : List RowT} {i : Nat} (h : i < l.length) : YV w u p (l.take (i + 1)) rows = match Yn w u p l[i] false with
  | some t => Xl w ⟨2, u, 0, 0, t⟩ (YV w u p (l.take i) rows)
  | none => YV w u p (l.take i) rows := by
 rw [List.take_succ_eq_append_getElem h, YV, List.foldl_append]; rfl
theorem Qjf {w : Qm} {u : Int} {p : Nat} {l : List (List WantT)} {rows : List RowT} {i : Nat} (h : i < l.length) (ho : (Yn w u p l[i] false).isSome = true) : YV w u p (l.take (i + 1)) rows = Xl w ⟨2, u, 0, 0, (Yn w u p l[i] false).getD []⟩ (YV w u p (l.take i) rows) := by
 rw [Qlj h]
 cases hc : Yn w u p l[i] false with
 | none => rw [hc] at ho; cases ho
 | some t => rfl
theorem Qli {w : Qm} {u : Int} {p : Nat} {l : List (List WantT)} {rows : List RowT} {i : Nat} (h : i < l.length) (ho : (Yn w u p l[i] false).isSome = false) : YV w u p (l.take (i + 1)) rows = YV w u p (l.take i) rows := by
 rw [Qlj h]
 cases hc : Yn w u p l[i] false with
 | none => rfl
 | some t => rw [hc] at ho; cases ho
theorem Qmo {w : Qm} {u : Int} {p : Nat} {l : List WantT} {rows : List RowT} {i : Nat} (h : i < l.length) : QbV w u p (l.take (i + 1)) rows = match Yn w u p [l[i]] true with
  | some t => Xl w ⟨3, u, 0, 0, t⟩ (QbV w u p (l.take i) rows)
  | none => QbV w u p (l.take i) rows := by
 rw [List.take_succ_eq_append_getElem h, QbV, List.foldl_append]; rfl
theorem QkJ {w : Qm} {u : Int} {p : Nat} {l : List WantT} {rows : List RowT} {i : Nat} (h : i < l.length) (ho : (Yn w u p [l[i]] true).isSome = true) : QbV w u p (l.take (i + 1)) rows = Xl w ⟨3, u, 0, 0, (Yn w u p [l[i]] true).getD []⟩ (QbV w u p (l.take i) rows) := by
 rw [Qmo h]
 cases hc : Yn w u p [l[i]] true with
 | none => rw [hc] at ho; cases ho
 | some t => rfl
theorem Qmn {w : Qm} {u : Int} {p : Nat} {l : List WantT} {rows : List RowT} {i : Nat} (h : i < l.length) (ho : (Yn w u p [l[i]] true).isSome = false) : QbV w u p (l.take (i + 1)) rows = QbV w u p (l.take i) rows := by
 rw [Qmo h]
 cases hc : Yn w u p [l[i]] true with
 | none => rfl
 | some t => rw [hc] at ho; cases ho
theorem QmO {w : Qm} {u : Int} {p : Nat} {l : List WantT} {b : Bool} : IncOk w ((Yn w u p l b).getD []) := by
 cases hc : Yn w u p l b with
 | none => exact IncOk.nil w
 | some t => exact Qd4 hc
theorem Qeb {w : Qm} {u : Int} {p : Nat} (h0 : 0 <= u) (h1 : u < w.length) : ∀ {l : List (List WantT)} {rows : List RowT}, Qa8 w rows -> Qa8 w (YV w u p l rows) /\ (YV w u p l rows).length <= rows.length + l.length
 | [], rows, h => ⟨h, Nat.le_refl _⟩
 | x :: l, rows, h => by
  rw [YV, List.foldl_cons]
  cases hc : Yn w u p x false with
  | none =>
   obtain ⟨q1, q2⟩ := Qeb h0 h1 (l := l) h
   exact ⟨q1, Nat.le_trans q2 (by simp)⟩
  | some t =>
   obtain ⟨q1, q2⟩ := Qeb (p := p) h0 h1 (l := l) (Qki (r := ⟨2, u, 0, 0, t⟩) (Qd4 hc) h0 h1 h)
   have := Qih w ⟨2, u, 0, 0, t⟩ rows
   exact ⟨q1, Nat.le_trans q2 (by simp only [List.length_cons]; omega)⟩
theorem Qfe {w : Qm} {u : Int} {p : Nat} (h0 : 0 <= u) (h1 : u < w.length) : ∀ {l : List WantT} {rows : List RowT}, Qa8 w rows -> Qa8 w (QbV w u p l rows) /\ (QbV w u p l rows).length <= rows.length + l.length
 | [], rows, h => ⟨h, Nat.le_refl _⟩
 | x :: l, rows, h => by
  rw [QbV, List.foldl_cons]
  cases hc : Yn w u p [x] true with
  | none =>
   obtain ⟨q1, q2⟩ := Qfe h0 h1 (l := l) h
   exact ⟨q1, Nat.le_trans q2 (by simp)⟩
  | some t =>
   obtain ⟨q1, q2⟩ := Qfe (p := p) h0 h1 (l := l) (Qki (r := ⟨3, u, 0, 0, t⟩) (Qd4 hc) h0 h1 h)
   have := Qih w ⟨3, u, 0, 0, t⟩ rows
   exact ⟨q1, Nat.le_trans q2 (by simp only [List.length_cons]; omega)⟩
theorem QhD {w : Qm} {u : Int} {cs : List CandT} {n : Nat} {rows : List RowT} (h : n < cs.length) : YN w u cs (n + 1) rows = QbV w u n cs[n].bs (YV w u n cs[n].ns (YN w u cs n rows)) := by
 rw [YN, List.getElem?_eq_getElem h]
theorem QfJ {w : Qm} {u : Int} {cs : List CandT} (h0 : 0 <= u) (h1 : u < w.length) (hc : ∀ c ∈ cs, c.ns.length <= 1000 /\ c.bs.length <= 1000) {rows : List RowT} (h : Qa8 w rows) : ∀ n, n <= cs.length -> Qa8 w (YN w u cs n rows) /\ (YN w u cs n rows).length <= rows.length + n * 2000
 | 0, _ => ⟨h, by simp [YN]⟩
 | n + 1, hn => by
  obtain ⟨q1, q2⟩ := QfJ h0 h1 hc h n (by omega)
  rw [QhD (by omega)]
  obtain ⟨q3, q4⟩ := Qeb (p := n) h0 h1 (l := cs[n].ns) q1
  obtain ⟨q5, q6⟩ := Qfe (p := n) h0 h1 (l := cs[n].bs) q3
  have := hc cs[n] (List.getElem_mem _)
  exact ⟨q5, by omega⟩
theorem Qkn {w : Qm} {n : Nat} (h : n < w.length) : Yv w (n + 1) = YN w n w[n].cs w[n].cs.length (Yv w n) := by
 rw [Yv, List.getElem?_eq_getElem h]
theorem Qcz {w : Qm} (hw : WSm w) (h0 : 0 < w.length) : ∀ n, n <= w.length -> Qa8 w (Yv w n) /\ (Yv w n).length <= 1 + n * 32000
 | 0, _ => ⟨fun x hx => by
   simp only [Yv, List.mem_singleton] at hx; subst hx
   exact ⟨List.pairwise_singleton _ _, fun t ht => by simp only [List.mem_singleton] at ht; subst ht; exact ⟨Int.le_refl _, by simp only; omega⟩⟩, by simp [Yv]⟩
 | n + 1, hn => by
  obtain ⟨q1, q2⟩ := Qcz hw h0 n (by omega)
  rw [Qkn (by omega)]
  obtain ⟨q3, q4⟩ := QfJ (u := n) (by omega) (by omega) (fun c hc => hw.ns w[n] (List.getElem_mem _) c hc) q1 w[n].cs.length (Nat.le_refl _)
  have := hw.cs w[n] (List.getElem_mem _)
  refine ⟨q3, ?_⟩
  have h5 : w[n].cs.length * 2000 <= 16 * 2000 := Nat.mul_le_mul_right _ this
  omega
theorem Qrr {w : Qm} (hw : WSm w) (h0 : 0 < w.length) : ∀ t ∈ mDB w, IncOk w t := fun t ht => by
 obtain ⟨r, hr, rfl⟩ := List.mem_map.1 ht
 exact (Qcz hw h0 w.length (Nat.le_refl _)).1 r hr
theorem Qqn {w : Qm} (hw : WSm w) (h0 : 0 < w.length) : (mDB w).length <= 1600000 := by
 have := (Qcz hw h0 w.length (Nat.le_refl _)).2
 have := hw.len
 rw [mDB, List.length_map, QdZ]; omega
theorem Qsb {l : List TermT} : ∀ r ∈ l.map QbZ, r.length = 2 := fun r hr => by obtain ⟨x, _, rfl⟩ := List.mem_map.1 hr; rfl
theorem Qsc {l : List WantT} : ∀ r ∈ l.map Qe7, r.length = 3 := fun r hr => by obtain ⟨x, _, rfl⟩ := List.mem_map.1 hr; rfl
theorem Qkm {l : List QK} : ∀ r ∈ l.map QfL, r.length = 4 := fun r hr => by obtain ⟨x, _, rfl⟩ := List.mem_map.1 hr; rfl
theorem QnK {α : Type} {f : α -> List D} {l : List α} {i : Nat} (h : i < l.length) : ((l.map f).take ((i : Int) + 1).toNat).drop ((i : Nat) : Int).toNat = [l[i]].map f := by
 rw [QnW, Int.toNat_natCast, List.drop_take, show i + 1 - i = 1 by omega, List.drop_eq_getElem_cons (by simpa using h)]
 simp
theorem WSm.nsLen {w : Qm} (hw : WSm w) {u i : Nat} (hu : u < w.length) (hi : i < w[u].cs.length) : w[u].cs[i].ns.length <= 1000 := (hw.ns _ (List.getElem_mem _) _ (List.getElem_mem _)).1
theorem WSm.bsLen {w : Qm} (hw : WSm w) {u i : Nat} (hu : u < w.length) (hi : i < w[u].cs.length) : w[u].cs[i].bs.length <= 1000 := (hw.ns _ (List.getElem_mem _) _ (List.getElem_mem _)).2
theorem WSm.csLen {w : Qm} (hw : WSm w) {u : Nat} (hu : u < w.length) : w[u].cs.length <= 16 := hw.cs _ (List.getElem_mem _)
theorem Qqm {w : Qm} (hw : WSm w) {u i : Nat} (hu : u < w.length) (hi : i <= w[u].cs.length) : Qa8 w (YN w u w[u].cs i (Yv w u)) /\ (YN w u w[u].cs i (Yv w u)).length <= 10000000 := by
 obtain ⟨q1, q2⟩ := Qcz hw (by omega) u (by omega)
 obtain ⟨q3, q4⟩ := QfJ (u := u) (by omega) (by omega) (fun c hc => hw.ns w[u] (List.getElem_mem _) c hc) q1 i hi
 have := hw.csLen hu
 have := hw.len
 have h5 : i * 2000 <= 16 * 2000 := Nat.mul_le_mul_right _ (by omega)
 have h6 : u * 32000 <= 48 * 32000 := Nat.mul_le_mul_right _ (by omega)
 exact ⟨q3, by omega⟩
theorem Qh4 {w : Qm} (hw : WSm w) {u i : Nat} (hu : u < w.length) (hi : i < w[u].cs.length) (k : Nat) : Qa8 w (YV w u i (w[u].cs[i].ns.take k) (YN w u w[u].cs i (Yv w u))) /\ (YV w u i (w[u].cs[i].ns.take k) (YN w u w[u].cs i (Yv w u))).length <= 20000000 := by
 obtain ⟨q1, q2⟩ := Qqm hw hu (Nat.le_of_lt hi)
 obtain ⟨q3, q4⟩ := Qeb (u := u) (p := i) (by omega) (by omega) (l := w[u].cs[i].ns.take k) q1
 have := hw.nsLen hu hi
 have h2 : (w[u].cs[i].ns.take k).length <= w[u].cs[i].ns.length := List.length_take_le' ..
 exact ⟨q3, by omega⟩
theorem Qk5 {w : Qm} (hw : WSm w) {u i : Nat} (hu : u < w.length) (hi : i < w[u].cs.length) (k : Nat) : Qa8 w (QbV w u i (w[u].cs[i].bs.take k) (YV w u i w[u].cs[i].ns (YN w u w[u].cs i (Yv w u)))) /\ (QbV w u i (w[u].cs[i].bs.take k) (YV w u i w[u].cs[i].ns (YN w u w[u].cs i (Yv w u)))).length <= 30000000 := by
 obtain ⟨q1, q2⟩ := Qh4 hw hu hi w[u].cs[i].ns.length
 rw [List.take_length] at q1 q2
 obtain ⟨q3, q4⟩ := Qfe (u := u) (p := i) (by omega) (by omega) (l := w[u].cs[i].bs.take k) q1
 have := hw.bsLen hu hi
 have h2 : (w[u].cs[i].bs.take k).length <= w[u].cs[i].bs.length := List.length_take_le' ..
 exact ⟨q3, by omega⟩
end M25
namespace Go.Proofs
open Go Go.Abs M3 M25
set_option linter.unusedVariables false
set_option linter.unusedSimpArgs false
theorem Qas {w : Qm} (hw : WSm w) {r : RowT} {rows : List RowT} (hr : Qa8 w rows) (hrr : IncOk w r.t) (hl : rows.length <= 100000000) : OkH Tryz.prog 78 [ZP w, .osl 500000 rows.length, .agg (Qmw r)] [(500000, ⟨(rows).map Qmw, 5, 89, true⟩)] (.osl 500000 (Xl w r rows).length) [(500000, ⟨(Xl w r rows).map Qmw, 5, 89, true⟩)] := by
 refine OkH.mv ZQ Tryz.func78 QtV (Nat.le_of_ble_eq_true rfl) rfl ?_
 show TW _ _ tf78.body _ _
 have hn := hw.len
 refine Qe fun K hK => Zo rfl rfl rfl (Zo rfl rfl rfl (Qa rfl ?_))
 refine hK _ _ (Qb (kp3 rfl rfl rfl) ?_)
 refine QD ?_ -- 0
 refine Qe fun K hK => Qa rfl ?_
 refine hK _ _ (Qb (kp4 rfl rfl rfl rfl) ?_)
 refine Qz ?_
 refine Zm (ι := Nat) (fun i => ⟨[(1, .osl 500000 rows.length), (3, .ref 3 0 0), (5, .ref 5 0 0), (7, .int .i64 i)], [(3, ⟨[[.sl ((w).map Ym)]], 1, 26, true⟩), (5, ⟨[[.int .i64 (r).k, .int .i64 (r).u, .int .i64 (r).a, .int .i64 (r).b, Zt (r).t]], 5, 89, true⟩), (500000, ⟨(rows).map Qmw, 5, 89, true⟩)]⟩) (fun i => i <= rows.length /\ Xl w r rows = rows.take i ++ Xl w r (rows.drop i)) (fun i => rows.length - i) 0 ?_ ?_ ?_
 ·exact Q2 (l := [1, 3, 5, 7]) (lH := [3, 5, 500000]) (kp4 rfl rfl rfl rfl) (Qf rfl (Qf rfl (Qf rfl Qn))) rfl rfl rfl
 ·exact ⟨Nat.zero_le _, by simp⟩
 intro i hI
 try dsimp only
 refine QD ?_ -- 1
 refine Qe fun K hK => Qa rfl (Qa rfl (QR rfl rfl (Yb rfl rfl ?_)))
 refine hK _ _ (Qb (kp5 rfl rfl rfl rfl rfl) ?_)
 refine Qw rfl (fun h1 => ?_) (fun h1 => ?_)
 ·try rw [h1]
  try simp only [qa, qb, qc, qd, qe, List.length_map] at h1
  refine Qv (Qd (kp4 rfl rfl rfl rfl) ?_)
  refine QD ?_ -- 2
  refine Qz (Qe fun K hK => Qa rfl (Qa rfl (Xm rfl rfl rfl (by simp) (by omega) (by omega) rfl (QG (cs := [_, _, _, _, _]) rfl (Z9 rfl (QT (by omega))) rfl rfl (ZK rfl (Q7 rfl rfl rfl rfl rfl rfl rfl rfl ?_))))))
  refine hK _ _ (Qb (kp5 rfl rfl rfl rfl rfl) ?_)
  refine Qe fun K hK => Qi rfl rfl (QP (ds0 := [20, 19, 18, 17, 16, 15, 14, 13, 12, 11, 10, 9, 8, 7, 6, 5, 4, 3, 2, 1, 0]) rfl rfl rfl rfl rfl (Qi rfl rfl (QP (ds0 := [20, 19, 18, 17, 16, 15, 14, 13, 12, 11, 10, 9, 8, 7, 6, 5, 4, 3, 2, 1, 0]) rfl rfl rfl rfl rfl ?_)))
  first | refine ZI rfl rfl ?_ | refine Qfy rfl rfl ?_
  refine Qa rfl ?_
  refine QB (g := 25) rfl (fun h2 => ?_) (fun h2 => ?_)
  ·try rw [h2]
   try simp only [qa, qb, qc, qd, qe, List.length_map] at h2
   refine Qg rfl (Qi rfl rfl (Qg rfl (QP (ds0 := [14, 13, 12, 11, 10, 9, 8, 7, 6, 5, 4, 3, 2, 1, 0]) rfl rfl rfl rfl rfl (Qg rfl (Qi rfl rfl (Qg rfl (QP (ds0 := [14, 13, 12, 11, 10, 9, 8, 7, 6, 5, 4, 3, 2, 1, 0]) rfl rfl rfl rfl rfl (Qg rfl ?_))))))))
   first | refine ZI rfl rfl ?_ | refine Qfy rfl rfl ?_
   refine Ql rfl rfl (Qa rfl ?_)
   refine QB (g := 32) rfl (fun h3 => ?_) (fun h3 => ?_)
   ·try rw [h3]
    try simp only [qa, qb, qc, qd, qe, List.length_map] at h3
    refine Qg rfl (Qi rfl rfl (Qg rfl (QP (ds0 := [7, 1, 0]) rfl rfl rfl rfl rfl (Qg rfl (Qi rfl rfl (Qg rfl (QP (ds0 := [7, 1, 0]) rfl rfl rfl rfl rfl (Qg rfl (QS (ds0 := [1, 0]) (Xd (Nat.le_trans (hr _ (List.getElem_mem (by omega))).len (by omega))) rfl rfl (.inl rfl) rfl rfl (Qg rfl (Qi rfl rfl ?_)))))))))))
    refine Qg rfl (QP (ds0 := [2, 1, 0]) rfl rfl rfl rfl rfl (Qg rfl (Qi rfl rfl (Qg rfl (QP (ds0 := [2, 1, 0]) rfl rfl rfl rfl rfl (Qg rfl (QS (ds0 := [1, 0]) (Xd (Nat.le_trans hrr.len (by omega))) rfl rfl (.inl rfl) rfl rfl (Qg rfl (QS (ds0 := [0]) (QcZ (Nat.le_trans (QfH _ _) (Nat.le_trans (hr _ (List.getElem_mem (by omega))).len (by omega)))) rfl rfl (.inr rfl) rfl rfl (Ql rfl rfl ?_))))))))))
    refine hK _ _ (Qb (kp6 rfl rfl rfl rfl rfl rfl) ?_)
    refine Qw rfl (fun h4 => ?_) (fun h4 => ?_)
    ·try rw [h4]
     try simp only [qa, qb, qc, qd, qe, List.length_map] at h4
     refine Qe fun K hK => Qi rfl rfl (QP (ds0 := [8, 7, 1, 0]) rfl rfl rfl rfl rfl (QO (ds0 := [16, 9, 8, 7, 1, 0]) (cs := [_]) rfl rfl rfl rfl rfl rfl (Qi rfl rfl (QP (ds0 := [16, 9, 8, 7, 1, 0]) rfl rfl rfl rfl rfl (Qi rfl rfl (QP (ds0 := [16, 9, 8, 7, 1, 0]) rfl rfl rfl rfl rfl (QS (ds0 := [9, 8, 7, 1, 0]) (Y1 hw (Nat.le_trans (hr _ (List.getElem_mem (by omega))).len (by omega))) rfl rfl (.inr rfl) rfl rfl (QO (ds0 := [10, 9, 8, 7, 1, 0]) (cs := [_]) rfl rfl rfl rfl rfl rfl (Qi rfl rfl (QP (ds0 := [10, 9, 8, 7, 1, 0]) rfl rfl rfl rfl rfl ?_))))))))))
     refine Qi rfl rfl (QP (ds0 := [10, 9, 8, 7, 1, 0]) rfl rfl rfl rfl rfl (QS (ds0 := [9, 8, 7, 1, 0]) (Y1 hw (Nat.le_trans hrr.len (by omega))) rfl rfl (.inr rfl) rfl rfl (QsU rfl rfl (QU rfl rfl (QH rfl rfl (Qi rfl rfl (QP (ds0 := [2, 1, 0]) rfl rfl rfl rfl rfl (Qi rfl rfl (QP (ds0 := [2, 1, 0]) rfl rfl rfl rfl rfl (QS (ds0 := [1, 0]) (Xd (Nat.le_trans (hr _ (List.getElem_mem (by omega))).len (by omega))) rfl rfl (.inl rfl) rfl rfl (Qbp (ds0 := [0]) rfl rfl (by simp [D.ids, D.sid, Zt]) ⟨rfl, Qsb, rfl⟩ rfl rfl (by simp) rfl rfl (by have q1 := QfH (rows[i]'(by omega)).t r.u; have q2 := (hr _ (List.getElem_mem (show i < rows.length by omega))).len; simp; omega) (by have q1 := QfH (rows[i]'(by omega)).t r.u; have q2 := (hr _ (List.getElem_mem (show i < rows.length by omega))).len; simp; omega) rfl rfl ?_)))))))))))
     refine Qa rfl ?_
     refine hK _ _ (Qb (kp3 rfl rfl rfl) ?_)
     refine QpV (Qg2 (l := [1, 7]) (lH := [500000]) 67 9 (kp2 rfl rfl) (Qf rfl Qn) rfl rfl rfl (by first | (simp; done) | (simp; omega)) rfl rfl rfl rfl) (Qe fun K hK => Qa rfl (Qa rfl (Qa rfl (QF (QbW (l := ⟨r.u, bor (Qd5 w (rows[i]'(by omega)).t r.u) (Qd5 w r.t r.u)⟩ :: Qg6 (rows[i]'(by omega)).t r.u) (by have q1 := QfH (rows[i]'(by omega)).t r.u; have q2 := (hr _ (List.getElem_mem (show i < rows.length by omega))).len; simp; omega)) rfl rfl (.inl rfl) (Xm rfl rfl rfl (by simp) (by omega) (by omega) rfl (Qi rfl rfl (Q7 rfl rfl (QT (by omega)) rfl rfl rfl rfl rfl ?_)))))))
     refine hK _ _ (Qb (kp1 rfl) ?_)
     refine Qe fun K hK => Qa rfl (Qa rfl ?_)
     refine hK _ _ (Qb (kp1 rfl) ?_)
     refine Qu (Qt (Qj (Q4 (Qt (Qj ?_)))))
     refine Y5 rfl ?_ (QeS ?_)
     ·rw [Qll (i := i) (by omega) (Qm6 h2 h3 h4) hI.2]; simp [Qma, D.fz, D.fzS, Qfa, D.can, D.canS]
     ·rw [Qll (i := i) (by omega) (Qm6 h2 h3 h4) hI.2]; simp [lk, List.map_set, Qmw, Qoz, setRow, D.sid, Zt]
    ·try rw [h4]
     try simp only [qa, qb, qc, qd, qe, List.length_map] at h4
     refine Qv (Qh (Qd (kp4 rfl rfl rfl rfl) (QN fun K hK => Qa rfl (QY rfl rfl (by first | exact Qr (by omega) (by omega) | rfl) (Qa rfl (hK _ ?_))))))
     refine Qk (i + 1) ?_ ?_ ?_
     ·exact Q2 (l := [1, 3, 5, 7]) (lH := [3, 5, 500000]) (kp4 rfl rfl rfl rfl) (Qf rfl (Qf rfl (Qf rfl Qn))) rfl rfl rfl
     ·exact ⟨by omega, Qgl (by omega) (Qj9 (by first | exact .inl h2 | exact .inr (.inl h3) | exact .inr (.inr h4))) hI.2⟩
     ·first | omega | (simp only; omega) | (dsimp only; omega)
   ·try rw [h3]
    try simp only [qa, qb, qc, qd, qe, List.length_map] at h3
    refine Qq rfl (Qq rfl (Qq rfl (Qq rfl (Qq rfl (Qq rfl (Qq rfl (Qq rfl (Qq rfl (Qq rfl (Qq rfl (Ql rfl rfl ?_)))))))))))
    refine hK _ _ (Qb (kp6 rfl rfl rfl rfl rfl rfl) ?_)
    refine ZM rfl (Qv (Qh (Qd (kp4 rfl rfl rfl rfl) (QN fun K hK => Qa rfl (QY rfl rfl (by first | exact Qr (by omega) (by omega) | rfl) (Qa rfl (hK _ ?_)))))))
    refine Qk (i + 1) ?_ ?_ ?_
    ·exact Q2 (l := [1, 3, 5, 7]) (lH := [3, 5, 500000]) (kp4 rfl rfl rfl rfl) (Qf rfl (Qf rfl (Qf rfl Qn))) rfl rfl rfl
    ·exact ⟨by omega, Qgl (by omega) (Qj9 (by first | exact .inl h2 | exact .inr (.inl h3) | exact .inr (.inr h4))) hI.2⟩
    ·first | omega | (simp only; omega) | (dsimp only; omega)
  ·try rw [h2]
   try simp only [qa, qb, qc, qd, qe, List.length_map] at h2
   refine Qq rfl (Qq rfl (Qq rfl (Qq rfl (Qq rfl (Ql rfl rfl (Qa rfl (Qq rfl (Qq rfl (Qq rfl (Qq rfl (Qq rfl ?_)))))))))))
   refine Qq rfl (Qq rfl (Qq rfl (Qq rfl (Qq rfl (Qq rfl (Ql rfl rfl ?_))))))
   refine hK _ _ (Qb (kp6 rfl rfl rfl rfl rfl rfl) ?_)
   refine ZM rfl (Qv (Qh (Qd (kp4 rfl rfl rfl rfl) (QN fun K hK => Qa rfl (QY rfl rfl (by first | exact Qr (by omega) (by omega) | rfl) (Qa rfl (hK _ ?_)))))))
   refine Qk (i + 1) ?_ ?_ ?_
   ·exact Q2 (l := [1, 3, 5, 7]) (lH := [3, 5, 500000]) (kp4 rfl rfl rfl rfl) (Qf rfl (Qf rfl (Qf rfl Qn))) rfl rfl rfl
   ·exact ⟨by omega, Qgl (by omega) (Qj9 (by first | exact .inl h2 | exact .inr (.inl h3) | exact .inr (.inr h4))) hI.2⟩
   ·first | omega | (simp only; omega) | (dsimp only; omega)
 ·try rw [h1]
  try simp only [qa, qb, qc, qd, qe, List.length_map] at h1
  refine Zh (QL (Qx (QE (Qd (kp2 rfl rfl) (Qe fun K hK => Qa rfl (QG (cs := [_, _, _, _, _]) rfl rfl rfl rfl (QH rfl rfl (Xz rfl rfl (fun _ h => Xj rfl rfl rfl h) rfl (by simp) rfl rfl rfl (by simp; omega) (by simp; omega) (Qa rfl ?_)))))))))
  refine hK _ _ (Qb (kp1 rfl) ?_)
  refine Qu ?_
  refine Y5 rfl ?_ (QeS ?_)
  ·rw [Qlm (i := i) (by omega) hI.2]; simp [Qma, D.fz, D.fzS, Qfa, D.can, D.canS]
  ·rw [Qlm (i := i) (by omega) hI.2]; simp [lk, Qmw, D.sid, Zt]
theorem Qdk {w : Qm} (hw : WSm w) : Ok Tryz.prog 46 [ZP w] (Qrg (QdZ w)) := by
 refine Ok.ofT ZQ Tryz.func46 Qts (Nat.le_of_ble_eq_true rfl) ?_
 show TW _ _ tf46.body _ _
 have hn := hw.len
 refine Qe fun K hK => Zo rfl rfl rfl (Qa rfl ?_)
 refine hK _ _ (Qb (kp1 rfl) ?_)
 refine Qe fun K hK => QU rfl rfl (QH rfl rfl (QU rfl rfl (QH rfl rfl (Qa rfl ?_))))
 refine hK _ _ (Qb (kp2 rfl rfl) ?_)
 refine QD ?_ -- 0
 refine Qe fun K hK => Qa rfl ?_
 refine hK _ _ (Qb (kp3 rfl rfl rfl) ?_)
 refine Qz ?_
 refine Zm (ι := Nat) (fun j => ⟨[(1, .ref 1 0 0), (3, .osl 3 (Yv w j).length), (4, .int .i64 j)], [(1, ⟨[[.sl ((w).map Ym)]], 1, 26, true⟩), (3, ⟨(Yv w j).map Qmw, 5, 89, true⟩)]⟩) (fun j => j <= w.length) (fun j => w.length - j) 0 ?_ ?_ ?_
 ·exact le_trans (Qi0 14 _ (by decide)) (le_trans (QfZ (k := 16) (b := ⟨[[.int .i64 1, .int .i64 0, .int .i64 0, .int .i64 0, .sl [[.int .i64 0, .int .i64 1]]]], 5, 89, false⟩) rfl (by simp) (by simp [D.sid])) (le_trans (QhX (l := [1, 4]) (lH := [1]) 16 3 3 (kp2 rfl rfl) (Qf rfl Qn) rfl rfl rfl rfl rfl rfl rfl) (Q2 (l := [1, 3, 4]) (lH := [1, 3]) (kp3 rfl rfl rfl) (Qf rfl (Qf rfl Qn)) rfl rfl rfl)))
 ·exact Nat.zero_le _
 intro j hU
 try dsimp only
 refine QD ?_ -- 1
 refine Qe fun K hK => Qa rfl (Qi rfl rfl (QC rfl rfl rfl (QR rfl rfl (Yb rfl rfl ?_))))
 refine hK _ _ (Qb (kp4 rfl rfl rfl rfl) ?_)
 refine Qw rfl (fun h1 => ?_) (fun h1 => ?_)
 ·try rw [h1]
  try simp only [qa, qb, qc, qd, qe, List.length_map] at h1
  refine Qv (Qd (kp3 rfl rfl rfl) ?_)
  refine QD ?_ -- 2
  refine Qz (Qe fun K hK => Qa rfl ?_)
  refine hK _ _ (Qb (kp4 rfl rfl rfl rfl) ?_)
  refine Qz ?_
  refine Zm (ι := Nat) (fun i => ⟨[(1, .ref 1 0 0), (3, .osl 3 (YN w j (w[j]'(by omega)).cs i (Yv w j)).length), (4, .int .i64 j), (5, .int .i64 i)], [(1, ⟨[[.sl ((w).map Ym)]], 1, 26, true⟩), (3, ⟨(YN w j (w[j]'(by omega)).cs i (Yv w j)).map Qmw, 5, 89, true⟩)]⟩) (fun i => i <= (w[j]'(by omega)).cs.length) (fun i => (w[j]'(by omega)).cs.length - i) 0 ?_ ?_ ?_
  ·exact Q2 (l := [1, 3, 4, 5]) (lH := [1, 3]) (kp4 rfl rfl rfl rfl) (Qf rfl (Qf rfl Qn)) rfl rfl rfl
  ·exact Nat.zero_le _
  intro i hI
  have hcs := hw.csLen (u := j) (by omega)
  try dsimp only
  refine QD ?_ -- 3
  refine Qe fun K hK => Qa rfl (Qi rfl rfl (QC rfl rfl rfl (Qa rfl (QJ rfl rfl rfl (by omega) (QT (by omega)) rfl (Q6 rfl rfl (QC rfl rfl rfl (QR rfl rfl (Yb rfl rfl ?_))))))))
  refine hK _ _ (Qb (kp5 rfl rfl rfl rfl rfl) ?_)
  refine Qw rfl (fun h2 => ?_) (fun h2 => ?_)
  ·try rw [h2]
   try simp only [qa, qb, qc, qd, qe, List.length_map] at h2
   refine Qv (Qd (kp4 rfl rfl rfl rfl) ?_)
   refine QD ?_ -- 4
   refine Qz (Qe fun K hK => Qi rfl rfl (QC rfl rfl rfl (Qa rfl (QJ rfl rfl rfl (by omega) (QT (by omega)) rfl (Q6 rfl rfl (QC rfl rfl rfl (Qa rfl (QJ rfl rfl rfl (by omega) (QT (by omega)) rfl (QG (cs := [_, _, _, _, _, _, _, _]) rfl rfl rfl rfl (ZK rfl ?_))))))))))
   refine Q7 rfl rfl rfl rfl rfl rfl rfl rfl ?_
   refine hK _ _ (Qb (kp5 rfl rfl rfl rfl rfl) ?_)
   refine QD ?_ -- 5
   refine Qe fun K hK => Qa rfl ?_
   refine hK _ _ (Qb (kp6 rfl rfl rfl rfl rfl rfl) ?_)
   refine Qz ?_
   refine Zm (ι := Nat) (fun k => ⟨[(1, .ref 1 0 0), (3, .osl 3 (YV w j i (((w[j]'(by omega)).cs[i]'(by omega)).ns.take k) (YN w j (w[j]'(by omega)).cs i (Yv w j))).length), (4, .int .i64 j), (5, .int .i64 i), (6, .ref 6 0 0), (7, .int .i64 k)], [(1, ⟨[[.sl ((w).map Ym)]], 1, 26, true⟩), (3, ⟨(YV w j i (((w[j]'(by omega)).cs[i]'(by omega)).ns.take k) (YN w j (w[j]'(by omega)).cs i (Yv w j))).map Qmw, 5, 89, true⟩), (6, ⟨[Qqb ((w[j]'(by omega)).cs[i]'(by omega))], 8, 71, true⟩)]⟩) (fun k => k <= ((w[j]'(by omega)).cs[i]'(by omega)).ns.length) (fun k => ((w[j]'(by omega)).cs[i]'(by omega)).ns.length - k) 0 ?_ ?_ ?_
   ·exact Q2 (l := [1, 3, 4, 5, 6, 7]) (lH := [1, 3, 6]) (kp6 rfl rfl rfl rfl rfl rfl) (Qf rfl (Qf rfl (Qf rfl Qn))) rfl rfl rfl
   ·exact Nat.zero_le _
   intro k hK1
   have hnl := hw.nsLen (u := j) (i := i) (by omega) (by omega)
   try dsimp only
   refine QD ?_ -- 6
   refine Qe fun K hK => Qa rfl (Qi rfl rfl (QC rfl rfl rfl (QR rfl rfl (Yb rfl rfl ?_))))
   refine hK _ _ (Qb (kp7 rfl rfl rfl rfl rfl rfl rfl) ?_)
   refine Qw rfl (fun h3 => ?_) (fun h3 => ?_)
   ·try rw [h3]
    try simp only [qa, qb, qc, qd, qe, List.length_map] at h3
    refine Qv (Qd (kp6 rfl rfl rfl rfl rfl rfl) ?_)
    refine QD ?_ -- 7
    refine Qz (Qe fun K hK => QO (ds0 := [5, 4, 3, 2, 1, 0]) (cs := [_]) rfl rfl rfl rfl rfl rfl (Qa rfl (Qa rfl (Qi rfl rfl (QP (ds0 := [7, 6, 5, 4, 3, 2, 1, 0]) rfl rfl rfl rfl rfl (Qa rfl (QJ rfl rfl rfl (by omega) (QT (by omega)) rfl (QP (ds0 := [5, 4, 3, 2, 1, 0]) rfl rfl rfl rfl rfl (QS (ds0 := [4, 3, 2, 1, 0]) (XB hw (p := i) (by omega) (Nat.le_trans (hw.nl _ (List.getElem_mem (by omega)) _ (List.getElem_mem (by omega)) _ (List.getElem_mem (by omega))) (by omega)) (hw.nw _ (List.getElem_mem (by omega)) _ (List.getElem_mem (by omega)) _ (List.getElem_mem (by omega)))) rfl rfl (.inl rfl) rfl rfl (Qa rfl ?_))))))))))
    refine Za rfl rfl (Za rfl rfl (Qa rfl (Qa rfl ?_)))
    refine hK _ _ (Qb (kp8 rfl rfl rfl rfl rfl rfl rfl rfl) ?_)
    refine Qe fun K hK => Qa rfl ?_
    refine hK _ _ (Qb (kp8 rfl rfl rfl rfl rfl rfl rfl rfl) ?_)
    refine Qw rfl (fun h4 => ?_) (fun h4 => ?_)
    ·try rw [h4]
     try simp only [qa, qb, qc, qd, qe, List.length_map] at h4
     refine QN fun K hK => QG (cs := [_]) rfl rfl rfl rfl (Qa rfl (Qa rfl (Qa rfl (QU rfl rfl (Qmg (QkM (k := 3) rfl rfl rfl (by decide) rfl (by decide) (by simp [D.ids, D.sid, Zt]) ⟨.osl 3 (YV w j i (((w[j]'(by omega)).cs[i]'(by omega)).ns.take k) (YN w j (w[j]'(by omega)).cs i (Yv w j))).length, by simp, by simp [D.ids, D.sid]⟩ rfl rfl (Qas hw (r := ⟨2, j, 0, 0, (Yn w j i (((w[j]'(by omega)).cs[i]'(by omega)).ns[k]'(by omega)) false).getD []⟩) (Qh4 hw (by omega) (by omega) _).1 QmO (Nat.le_trans (Qh4 hw (by omega) (by omega) _).2 (by omega)))) (Qa rfl (hK _ ?_)))))))
     refine Qh (Qd (kp6 rfl rfl rfl rfl rfl rfl) (QN fun K hK => Qa rfl (QY rfl rfl (by first | exact Qr (by omega) (by omega) | rfl) (Qa rfl (hK _ ?_)))))
     refine Qk (k + 1) ?_ ?_ ?_
     ·exact le_trans (QhX (l := [1, 4, 5, 6, 7]) (lH := [1, 6]) 69 3 3 (kp5 rfl rfl rfl rfl rfl) (Qf rfl (Qf rfl Qn)) rfl rfl rfl rfl rfl rfl rfl) (Q2 (l := [1, 3, 4, 5, 6, 7]) (lH := [1, 3, 6]) (kp6 rfl rfl rfl rfl rfl rfl) (Qf rfl (Qf rfl (Qf rfl Qn))) (by rw [Qjf (by omega) h4] <;> rfl) (by rw [Qjf (by omega) h4] <;> rfl) rfl)
     ·omega
     ·first | omega | (simp only; omega) | (dsimp only; omega)
    ·try rw [h4]
     try simp only [qa, qb, qc, qd, qe, List.length_map] at h4
     refine Qv (Qh (Qd (kp6 rfl rfl rfl rfl rfl rfl) (QN fun K hK => Qa rfl (QY rfl rfl (by first | exact Qr (by omega) (by omega) | rfl) (Qa rfl (hK _ ?_))))))
     refine Qk (k + 1) ?_ ?_ ?_
     ·exact Q2 (l := [1, 3, 4, 5, 6, 7]) (lH := [1, 3, 6]) (kp6 rfl rfl rfl rfl rfl rfl) (Qf rfl (Qf rfl (Qf rfl Qn))) (by rw [Qli (by omega) h4] <;> rfl) (by rw [Qli (by omega) h4] <;> rfl) rfl
     ·omega
     ·first | omega | (simp only; omega) | (dsimp only; omega)
   ·try rw [h3]
    try simp only [qa, qb, qc, qd, qe, List.length_map] at h3
    refine Zh (QL (Qx (QE (Qd (kp5 rfl rfl rfl rfl rfl) (Qe fun K hK => Qa rfl ?_)))))
    refine hK _ _ (Qb (kp6 rfl rfl rfl rfl rfl rfl) ?_)
    refine Qz ?_
    refine Zm (ι := Nat) (fun m => ⟨[(1, .ref 1 0 0), (3, .osl 3 (QbV w j i (((w[j]'(by omega)).cs[i]'(by omega)).bs.take m) (YV w j i ((w[j]'(by omega)).cs[i]'(by omega)).ns (YN w j (w[j]'(by omega)).cs i (Yv w j)))).length), (4, .int .i64 j), (5, .int .i64 i), (6, .ref 6 0 0), (10, .int .i64 m)], [(1, ⟨[[.sl ((w).map Ym)]], 1, 26, true⟩), (3, ⟨(QbV w j i (((w[j]'(by omega)).cs[i]'(by omega)).bs.take m) (YV w j i ((w[j]'(by omega)).cs[i]'(by omega)).ns (YN w j (w[j]'(by omega)).cs i (Yv w j)))).map Qmw, 5, 89, true⟩), (6, ⟨[Qqb ((w[j]'(by omega)).cs[i]'(by omega))], 8, 71, true⟩)]⟩) (fun m => m <= ((w[j]'(by omega)).cs[i]'(by omega)).bs.length) (fun m => ((w[j]'(by omega)).cs[i]'(by omega)).bs.length - m) 0 ?_ ?_ ?_
    ·exact Q2 (l := [1, 3, 4, 5, 6, 10]) (lH := [1, 3, 6]) (kp6 rfl rfl rfl rfl rfl rfl) (Qf rfl (Qf rfl (Qf rfl Qn))) (by rw [List.take_of_length_le (show ((w[j]'(by omega)).cs[i]'(by omega)).ns.length <= k by omega)] <;> rfl) (by rw [List.take_of_length_le (show ((w[j]'(by omega)).cs[i]'(by omega)).ns.length <= k by omega)] <;> rfl) rfl
    ·exact Nat.zero_le _
    intro m hM
    have hbl := hw.bsLen (u := j) (i := i) (by omega) (by omega)
    try dsimp only
    refine QD ?_ -- 8
    refine Qe fun K hK => Qa rfl (Qi rfl rfl (QC rfl rfl rfl (QR rfl rfl (Yb rfl rfl ?_))))
    refine hK _ _ (Qb (kp7 rfl rfl rfl rfl rfl rfl rfl) ?_)
    refine Qw rfl (fun h5 => ?_) (fun h5 => ?_)
    ·try rw [h5]
     try simp only [qa, qb, qc, qd, qe, List.length_map] at h5
     refine Qv (Qd (kp6 rfl rfl rfl rfl rfl rfl) ?_)
     refine QD ?_ -- 9
     refine Qz (Qe fun K hK => QO (ds0 := [5, 4, 3, 2, 1, 0]) (cs := [_]) rfl rfl rfl rfl rfl rfl (Qa rfl (Qa rfl (Qi rfl rfl (QP (ds0 := [6, 5, 4, 3, 2, 1, 0]) rfl rfl rfl rfl rfl (Qa rfl (Qa rfl (QY rfl rfl (by first | exact Qr (by omega) (by omega) | rfl) (Qep rfl rfl rfl rfl (by omega) (by omega) (by simp; omega) Qsc (QnK (by omega)) (QS (ds0 := [4, 3, 2, 1, 0]) (XB hw (p := i) (l := [((w[j]'(by omega)).cs[i]'(by omega)).bs[m]'(by omega)]) (by omega) (by simp) (by intro x hx; simp only [List.mem_singleton] at hx; subst hx; exact hw.bw _ (List.getElem_mem (by omega)) _ (List.getElem_mem (by omega)) _ (List.getElem_mem (by omega)))) rfl rfl (.inl rfl) rfl rfl ?_))))))))))
     refine Qa rfl (Za rfl rfl (Za rfl rfl (Qa rfl (Qa rfl ?_))))
     refine hK _ _ (Qb (kp8 rfl rfl rfl rfl rfl rfl rfl rfl) ?_)
     refine Qe fun K hK => Qa rfl ?_
     refine hK _ _ (Qb (kp8 rfl rfl rfl rfl rfl rfl rfl rfl) ?_)
     refine Qw rfl (fun h6 => ?_) (fun h6 => ?_)
     ·try rw [h6]
      try simp only [qa, qb, qc, qd, qe, List.length_map] at h6
      refine QN fun K hK => QG (cs := [_]) rfl rfl rfl rfl (Qa rfl (Qa rfl (Qa rfl (QU rfl rfl (Qmg (QkM (k := 3) rfl rfl rfl (by decide) rfl (by decide) (by simp [D.ids, D.sid, Zt]) ⟨.osl 3 (QbV w j i (((w[j]'(by omega)).cs[i]'(by omega)).bs.take m) (YV w j i ((w[j]'(by omega)).cs[i]'(by omega)).ns (YN w j (w[j]'(by omega)).cs i (Yv w j)))).length, by simp, by simp [D.ids, D.sid]⟩ rfl rfl (Qas hw (r := ⟨3, j, 0, 0, (Yn w j i [((w[j]'(by omega)).cs[i]'(by omega)).bs[m]'(by omega)] true).getD []⟩) (Qk5 hw (by omega) (by omega) _).1 QmO (Nat.le_trans (Qk5 hw (by omega) (by omega) _).2 (by omega)))) (Qa rfl (hK _ ?_)))))))
      refine Qh (Qd (kp6 rfl rfl rfl rfl rfl rfl) (QN fun K hK => Qa rfl (QY rfl rfl (by first | exact Qr (by omega) (by omega) | rfl) (Qa rfl (hK _ ?_)))))
      refine Qk (m + 1) ?_ ?_ ?_
      ·exact le_trans (QhX (l := [1, 4, 5, 6, 10]) (lH := [1, 6]) 96 3 3 (kp5 rfl rfl rfl rfl rfl) (Qf rfl (Qf rfl Qn)) rfl rfl rfl rfl rfl rfl rfl) (Q2 (l := [1, 3, 4, 5, 6, 10]) (lH := [1, 3, 6]) (kp6 rfl rfl rfl rfl rfl rfl) (Qf rfl (Qf rfl (Qf rfl Qn))) (by rw [QkJ (by omega) h6] <;> rfl) (by rw [QkJ (by omega) h6] <;> rfl) rfl)
      ·omega
      ·first | omega | (simp only; omega) | (dsimp only; omega)
     ·try rw [h6]
      try simp only [qa, qb, qc, qd, qe, List.length_map] at h6
      refine Qv (Qh (Qd (kp6 rfl rfl rfl rfl rfl rfl) (QN fun K hK => Qa rfl (QY rfl rfl (by first | exact Qr (by omega) (by omega) | rfl) (Qa rfl (hK _ ?_))))))
      refine Qk (m + 1) ?_ ?_ ?_
      ·exact Q2 (l := [1, 3, 4, 5, 6, 10]) (lH := [1, 3, 6]) (kp6 rfl rfl rfl rfl rfl rfl) (Qf rfl (Qf rfl (Qf rfl Qn))) (by rw [Qmn (by omega) h6] <;> rfl) (by rw [Qmn (by omega) h6] <;> rfl) rfl
      ·omega
      ·first | omega | (simp only; omega) | (dsimp only; omega)
    ·try rw [h5]
     try simp only [qa, qb, qc, qd, qe, List.length_map] at h5
     refine Zh (QL (Qx (QE (Qh (Qd (kp4 rfl rfl rfl rfl) (QN fun K hK => Qa rfl (QY rfl rfl (by first | exact Qr (by omega) (by omega) | rfl) (Qa rfl (hK _ ?_)))))))))
     refine Qk (i + 1) ?_ ?_ ?_
     ·exact Q2 (l := [1, 3, 4, 5]) (lH := [1, 3]) (kp4 rfl rfl rfl rfl) (Qf rfl (Qf rfl Qn)) (by rw [QhD (by omega), List.take_of_length_le (show ((w[j]'(by omega)).cs[i]'(by omega)).bs.length <= m by omega)] <;> rfl) (by rw [QhD (by omega), List.take_of_length_le (show ((w[j]'(by omega)).cs[i]'(by omega)).bs.length <= m by omega)] <;> rfl) rfl
     ·omega
     ·first | omega | (simp only; omega) | (dsimp only; omega)
  ·try rw [h2]
   try simp only [qa, qb, qc, qd, qe, List.length_map] at h2
   refine Zh (QL (Qx (QE (Qh (Qd (kp3 rfl rfl rfl) (QN fun K hK => Qa rfl (QY rfl rfl (by first | exact Qr (by omega) (by omega) | rfl) (Qa rfl (hK _ ?_)))))))))
   refine Qk (j + 1) ?_ ?_ ?_
   ·exact Q2 (l := [1, 3, 4]) (lH := [1, 3]) (kp3 rfl rfl rfl) (Qf rfl (Qf rfl Qn)) (by rw [Qkn (by omega), show (w[j]'(by omega)).cs.length = i by omega] <;> rfl) (by rw [Qkn (by omega), show (w[j]'(by omega)).cs.length = i by omega] <;> rfl) rfl
   ·omega
   ·first | omega | (simp only; omega) | (dsimp only; omega)
 ·try rw [h1]
  try simp only [qa, qb, qc, qd, qe, List.length_map] at h1
  refine Zh (QL (Qx (QE (Qd (kp1 rfl) (Qe fun K hK => Qa rfl (Qa rfl ?_))))))
  refine hK _ _ (Qb (kp1 rfl) ?_)
  refine Qu ?_
  exact QbJ rfl rfl rfl (by simp) (by rw [QdZ, show w.length = j by omega] <;> rfl)
end Go.Proofs
namespace M25
open Go Go.Abs M3
/-! ### Bits of numbers -/
theorem Qit (e : Int) : IntKind.i64.wrap e = (BitVec.ofInt 64 e).toInt := by
 have hb : (BitVec.ofInt 64 e).toInt = if e % 18446744073709551616 < 9223372036854775808 then e % 18446744073709551616 else e % 18446744073709551616 - 18446744073709551616 := by
  rw [BitVec.toInt_ofInt]; rfl
 rw [hb]
 unfold IntKind.wrap
 simp only [IntKind.bits, IntKind.signed, Bool.true_and]
 split
 ·rename_i h
  have := of_decide_eq_true h
  split <;> omega
 ·rename_i h
  have : ¬ (e % 2 ^ 64 >= 2 ^ (64 - 1)) := fun hh => h (decide_eq_true hh)
  split <;> omega
theorem Qgi (b : BitVec 64) : BitVec.ofInt 64 (b.toNat : Int) = b := by
 rw [BitVec.ofInt_natCast, BitVec.ofNat_toNat, BitVec.setWidth_eq]
theorem Qps (x y : Int) : BitVec.ofInt 64 (XU x y) = BitVec.ofInt 64 x &&& BitVec.ofInt 64 y := by
 show BitVec.ofInt 64 (IntKind.i64.wrap ((BitVec.ofInt 64 x &&& BitVec.ofInt 64 y).toNat : Int)) = _
 rw [Qit, BitVec.ofInt_toInt, Qgi]
theorem Qpt (x y : Int) : BitVec.ofInt 64 (Qiv x y) = BitVec.ofInt 64 x &&& ~~~ BitVec.ofInt 64 y := by
 show BitVec.ofInt 64 (IntKind.i64.wrap ((BitVec.ofInt 64 x &&& ~~~ BitVec.ofInt 64 y).toNat : Int)) = _
 rw [Qit, BitVec.ofInt_toInt, Qgi]
theorem QkZ {x : Int} (h : I64 x) : IntKind.i64.wrap x = x := Qr h.1 h.2
theorem QkK {x : Int} (h : I64 x) : (BitVec.ofInt 64 x).toInt = x := by rw [<- Qit, QkZ h]
theorem QhU (x y : Int) : I64 (XU x y) := Qgw _
theorem QhV (x y : Int) : I64 (Qiv x y) := Qgw _
def tb (x : Int) (i : Nat) : Bool := (BitVec.ofInt 64 x).getLsbD i
theorem QjE (x y : Int) (i : Nat) : tb (XU x y) i = (tb x i && tb y i) := by rw [tb, Qps, BitVec.getLsbD_and]; rfl
theorem Qls (x y : Int) {i : Nat} : tb (Qiv x y) i = (tb x i && !tb y i) := by
 rw [tb, Qpt, BitVec.getLsbD_and, BitVec.getLsbD_not]
 by_cases h : i < 64
 ·simp [h, tb]
 ·simp [tb, BitVec.getLsbD_of_ge _ i (by omega : 64 <= i)]
theorem QnT (x : Int) {i : Nat} (h : 64 <= i) : tb x i = false := BitVec.getLsbD_of_ge _ i h
theorem QjF {x y : Int} (hx : I64 x) (hy : I64 y) (h : ∀ i, tb x i = tb y i) : x = y := by
 rw [<- QkK hx, <- QkK hy]
 congr 1
 exact BitVec.eq_of_getLsbD_eq fun i _ => h i
theorem Qkv (i : Nat) : tb 0 i = false := by
 show (BitVec.ofInt 64 0).getLsbD i = false
 rw [show BitVec.ofInt 64 0 = 0#64 from rfl, BitVec.getLsbD_zero]
theorem QfN {x : Int} (hx : I64 x) : x = 0 ↔ ∀ i, tb x i = false := by
 constructor
 ·rintro rfl i; exact Qkv i
 ·intro h; exact QjF hx ⟨by omega, by omega⟩ fun i => by rw [h i, Qkv]
theorem QjG (n : Nat) {i : Nat} (h : i < 64) : tb (n : Int) i = n.testBit i := by
 rw [tb, BitVec.ofInt_natCast, BitVec.getLsbD_ofNat]; simp [h]
theorem Qhp {k : Nat} (hk : k < 64) (i : Nat) : tb ((2 : Int) ^ k) i = decide (i = k) := by
 have e : ((2 ^ k : Nat) : Int) = (2 : Int) ^ k := by simp
 by_cases h : i < 64
 ·rw [<- e, QjG _ h, Nat.testBit_two_pow]
  exact decide_eq_decide.2 eq_comm
 ·rw [QnT _ (by omega)]; exact (decide_eq_false (by omega)).symm
theorem Qdw (x m : Int) : IntKind.i64.wrap (x - XU x m) = Qiv x m := by
 have h : BitVec.ofInt 64 (x - XU x m) = BitVec.ofInt 64 x &&& ~~~ BitVec.ofInt 64 m := by
  rw [Int.sub_eq_add_neg, BitVec.ofInt_add, BitVec.ofInt_neg, <- BitVec.sub_eq_add_neg, Qps]
  generalize BitVec.ofInt 64 x = a
  generalize BitVec.ofInt 64 m = b
  have h1 : (a &&& ~~~b) + (a &&& b) = a := by
   rw [BitVec.add_eq_or_of_and_eq_zero]
   ·ext i hi; simp; cases a[i] <;> cases b[i] <;> rfl
   ·ext i hi; simp
    cases a[i] <;> cases b[i] <;> simp
  exact (BitVec.sub_eq_iff_eq_add).2 h1.symm
 have e : Qiv x m = (BitVec.ofInt 64 (Qiv x m)).toInt := (QkK (QhV x m)).symm
 rw [e, Qit, h, Qpt]
theorem QcC {x m : Int} : XU x m = 0 ↔ ∀ i, tb x i = true -> tb m i = false := by
 rw [QfN (QhU x m)]
 refine forall_congr' fun i => ?_
 rw [QjE]; cases tb x i <;> cases tb m i <;> simp
theorem not_zero {x m : Int} : Qiv x m = 0 ↔ ∀ i, tb x i = true -> tb m i = true := by
 rw [QfN (QhV x m)]
 refine forall_congr' fun i => ?_
 rw [Qls]; cases tb x i <;> cases tb m i <;> simp
theorem Yu {x m : Int} (hx : I64 x) : XU x m = x ↔ ∀ i, tb x i = true -> tb m i = true := by
 constructor
 ·intro h i hi
  have := congrArg (fun z => tb z i) h
  simp only [QjE, hi, Bool.true_and] at this
  exact this
 ·intro h
  refine QjF (QhU x m) hx fun i => ?_
  rw [QjE]
  cases hx2 : tb x i
  ·rfl
  ·rw [h i hx2]; rfl
theorem Qe1 {x m : Int} (hx : I64 x) : Qiv x m = x ↔ ∀ i, tb x i = true -> tb m i = false := by
 constructor
 ·intro h i hi
  have := congrArg (fun z => tb z i) h
  simp only [Qls, hi, Bool.true_and] at this
  simpa using this
 ·intro h
  refine QjF (QhV x m) hx fun i => ?_
  rw [Qls]
  cases hx2 : tb x i
  ·rfl
  ·rw [h i hx2]; rfl
def Lo (x : Int) : Prop := 0 <= x /\ x < 131072
theorem Lo.i64 {x : Int} (h : Lo x) : I64 x := ⟨by have := h.1; omega, by have := h.2; omega⟩
theorem Lo.hi {x : Int} (h : Lo x) {i : Nat} (hi : 17 <= i) : tb x i = false := by
 obtain ⟨n, rfl⟩ := Int.eq_ofNat_of_zero_le h.1
 by_cases h6 : i < 64
 ·rw [QjG _ h6, Nat.testBit_lt_two_pow]
  have h1 : (2 : Nat) ^ 17 <= 2 ^ i := Nat.pow_le_pow_right (by omega) hi
  have h2 : (2 : Nat) ^ 17 = 131072 := by decide
  have := h.2
  omega
 ·exact QnT _ (by omega)
theorem Lo.of {x : Int} (hx : I64 x) (h : ∀ i, 17 <= i -> tb x i = false) : Lo x := by
 have hb : (BitVec.ofInt 64 x).toNat < 2 ^ 17 := by
  refine Nat.lt_pow_two_of_testBit _ fun i hi => ?_
  exact h i hi
 have h2 : (2 : Nat) ^ 17 = 131072 := by decide
 have e := QkK hx
 rw [BitVec.toInt_eq_toNat_of_lt (by omega)] at e
 exact ⟨by omega, by omega⟩
theorem Qm7 {k : Nat} (h : k <= 16) : Lo ((2 : Int) ^ k) := by
 have := QoU (n := k) (by omega)
 refine ⟨by omega, ?_⟩
 have h1 : (2 : Nat) ^ k <= 2 ^ 16 := Nat.pow_le_pow_right (by omega) h
 have h2 : (2 : Nat) ^ 16 = 65536 := by decide
 have h3 : ((2 ^ k : Nat) : Int) = (2 : Int) ^ k := by simp
 omega
theorem Qql (w : Qm) (u : Int) : Lo (Yz w u) := ⟨(Qd1 w u).1, by have := (Qd1 w u).2; omega⟩
theorem Qlt {x : Int} (hx : I64 x) (m : Int) : QaZ x m = XF x m := by
 unfold XF QaZ
 have : (QaC .andNot .i64 x m = 0) ↔ (QaC .and .i64 x m = x) := (not_zero (x := x) (m := m)).trans (Yu hx).symm
 by_cases h : QaC .andNot .i64 x m = 0
 ·rw [if_pos h, if_pos (this.1 h)]
 ·rw [if_neg h, if_neg (fun e => h (this.2 e))]
theorem QhA {x : Int} {k : Nat} (hk : k < 64) : XU x (2 ^ k) = 0 ↔ tb x k = false := by
 rw [QcC]
 constructor
 ·intro h
  cases hx : tb x k
  ·rfl
  ·have := h k hx; rw [Qhp hk] at this; simp at this
 ·intro h i hi
  rw [Qhp hk]
  by_cases e : i = k
  ·subst e; rw [h] at hi; cases hi
  ·exact decide_eq_false e
end M25
namespace M25
open Go Go.Abs M3
/-! ### Trails: the loops' laws -/
theorem Qcn (w : Qm) (l : List QK) (s : QK) (u : Int) : Q8 w (l ++ [s]) u = if s.u = u /\ inW w u = true then s.m else Q8 w l u := by
 rw [Q8, List.foldl_append]; rfl
theorem QcB {α : Type} {l : List α} {i k : Nat} (hk : k + 1 = i) (h : k < l.length) : l.take i = l.take k ++ [l[k]] := by
 subst hk; rw [List.take_succ_eq_append_getElem h]
theorem QoC {w : Qm} {l : List QK} {u : Int} {i k : Nat} (hk : k + 1 = i) (h : k < l.length) (hu : l[k].u = u) (hw : inW w u = true) : Q8 w (l.take i) u = l[k].m := by
 rw [QcB hk h, Qcn, if_pos ⟨hu, hw⟩]
theorem Qf3 {w : Qm} {l : List QK} {u : Int} {i k : Nat} (hk : k + 1 = i) (h : k < l.length) (hu : ¬ l[k].u = u \/ ¬ 0 <= u \/ ¬ u < w.length) : Q8 w (l.take i) u = Q8 w (l.take (i - 1)) u := by
 rw [QcB hk h, Qcn, if_neg, show i - 1 = k by omega]
 rintro ⟨h1, h2⟩
 rw [Qch] at h2
 rcases hu with hu | hu | hu
 ·exact hu h1
 ·exact hu h2.1
 ·exact hu h2.2
theorem Qh2 {w : Qm} {l : List QK} {u : Int} (h : inW w u = false) : Q8 w l u = 0 := by
 have hf : Yz w u = 0 := Qd2 (by
  refine Classical.byContradiction fun hn => ?_
  rw [QdV (by omega) (by omega)] at h; cases h)
 suffices hs : ∀ a, l.foldl (fun a s => if s.u = u /\ inW w u = true then s.m else a) a = a by rw [Q8, hs, hf]
 induction l with
 | nil => intro a; rfl
 | cons s l ih => intro a; rw [List.foldl_cons, if_neg (by rw [h]; simp), ih]
def QaR (w : Qm) (l : List QK) (u : Int) : Int := l.foldl (fun a s => if s.u = u then s.m else a) (Yz w u)
theorem Qh1 {w : Qm} {l : List QK} {u : Int} (h : inW w u = true) : QaR w l u = Q8 w l u := by
 unfold QaR Q8
 simp only [h, and_true]
theorem Qg3 (w : Qm) (l : List QK) (s : QK) (u : Int) : QaR w (l ++ [s]) u = if s.u = u then s.m else QaR w l u := by
 rw [QaR, List.foldl_append]; rfl
theorem Qm4 {w : Qm} {l : List QK} {u : Int} {i k : Nat} (hk : k + 1 = i) (h : k < l.length) (hu : l[k].u = u) : QaR w (l.take i) u = l[k].m := by
 rw [QcB hk h, Qg3, if_pos hu]
theorem QlV {w : Qm} {l : List QK} {u : Int} {i k : Nat} (hk : k + 1 = i) (h : k < l.length) (hu : ¬ l[k].u = u) : QaR w (l.take i) u = QaR w (l.take (i - 1)) u := by
 rw [QcB hk h, Qg3, if_neg hu, show i - 1 = k by omega]
theorem XZ {w : Qm} {u : Int} : Yz w u = 0 ↔ inW w u = false := by
 constructor
 ·intro h
  cases hw : inW w u
  ·rfl
  ·rw [Qch] at hw
   rw [Qh6 hw.1 hw.2] at h
   have h2 : 2 <= (2 : Int) ^ (min (w[u.toNat]'(by omega)).cs.length 16 + 1) := by
    rw [Int.pow_succ]
    have := QoU (n := min (w[u.toNat]'(by omega)).cs.length 16) (by omega)
    omega
   omega
 ·intro h
  refine Qd2 (Classical.byContradiction fun hn => ?_)
  rw [QdV (by omega) (by omega)] at h; cases h
theorem Qi1 {l : List QK} (h : (l.length : Int) = 0) : YZ l = 0 := by
 have e : l = [] := List.eq_nil_of_length_eq_zero (by omega)
 subst e; rfl
theorem Qk2 {l : List QK} {k : Nat} (hk : k + 1 = l.length) : YZ l = (l[k]'(by omega)).l := by
 rw [YZ, List.getLast?_eq_getElem?, show l.length - 1 = k by omega, List.getElem?_eq_getElem (by omega)]
theorem QoO : ∀ {l : List Int}, ¬ (l.length : Int) = 1 -> Ql3 l = -1
 | [], _ => rfl
 | [x], h => by simp at h
 | x :: y :: l, _ => rfl
theorem Qno : ∀ {l : List Int} (h : (l.length : Int) = 1), Ql3 l = l[(0 : Int).toNat]'(by simp; omega)
 | [], h => by simp at h
 | [x], _ => rfl
 | x :: y :: l, h => by simp at h; omega
theorem QoT {m : Int} (h : ¬ ((Qb0 m).length : Int) = 1) : X3 m = -1 := QoO h
theorem Qnt {m : Int} (h : ((Qb0 m).length : Int) = 1) : X3 m = (Qb0 m)[(0 : Int).toNat]'(by simp; omega) := Qno h
theorem Qhn {α : Type} {f : α -> List D} {l : List α} {i : Nat} : ((l.map f).take ((i : Nat) : Int).toNat).drop (((0 : Nat) : Int)).toNat = (l.take i).map f := by simp [List.map_take]
def Qqr (w : Qm) (l : List QK) (i : Nat) : Bool := match l[i]? with
 | some s => Qbh w (l.take i) s
 | none => true
theorem Qea {w : Qm} {l : List QK} {i : Nat} (h : i < l.length) : Qqr w l i = Qbh w (l.take i) l[i] := by
 rw [Qqr, List.getElem?_eq_getElem h]
theorem Qk8 (w : Qm) (l : List QK) : Y3 w l = (List.range l.length).all (Qqr w l) := rfl
theorem Xc {w : Qm} {l : List QK} {s : QK} (h : s.u < 0 \/ (w.length : Int) <= s.u \/ s.c < -1) : Qbh w l s = false := by
 unfold Qbh
 rcases h with h | h | h
 ·rw [Qds (.inl h)]; rfl
 ·rw [Qds (.inr h)]; rfl
 ·rw [decide_eq_false (show ¬ -1 <= s.c by omega)]; simp
theorem Z1 {w : Qm} {l : List QK} {s : QK} (h0 : 0 <= s.u) (h1 : s.u < w.length) (h2 : -1 <= s.c) : Qbh w l s = (decide (XU s.m (Q8 w l s.u) = s.m) &&
  if s.c = -1 then decide (0 <= X3 s.m) && !Xt l s.u && decide (s.l = IntKind.i64.wrap (YZ l + 1))
  else !decide (s.m = 0) && !decide (s.m = Q8 w l s.u) && decide (s.l = YZ l)) := by
 rw [Qbh, QdV h0 h1, decide_eq_true h2]; rfl
theorem QcF {w : Qm} {l : List QK} {t : TermT} {c : Int} (h : c < 0 \/ t.u < 0 \/ (w.length : Int) <= t.u) : Yq w l t c = none := by
 rw [Yq, if_pos]
 rcases h with h | h
 ·exact .inl h
 ·exact .inr (Qds h)
theorem Qbw {w : Qm} {l : List QK} {t : TermT} {c : Int} (h : IntKind.i64.wrap (Q8 w l t.u - XU (Q8 w l t.u) t.m) = 0 \/ IntKind.i64.wrap (Q8 w l t.u - XU (Q8 w l t.u) t.m) = Q8 w l t.u) : Yq w l t c = none := by
 rw [Yq]
 split
 ·rfl
 ·first | rfl | rw [if_pos h]
theorem QgR {w : Qm} {l : List QK} {t : TermT} {c : Int} (h0 : ¬ c < 0) (h1 : inW w t.u = true) (h2 : ¬ IntKind.i64.wrap (Q8 w l t.u - XU (Q8 w l t.u) t.m) = 0) (h3 : ¬ IntKind.i64.wrap (Q8 w l t.u - XU (Q8 w l t.u) t.m) = Q8 w l t.u) :
  Yq w l t c = some (l ++ [⟨t.u, IntKind.i64.wrap (Q8 w l t.u - XU (Q8 w l t.u) t.m), YZ l, c⟩]) := by
 rw [Yq, if_neg (by rw [h1]; simp [h0]), if_neg (by simp [h2, h3])]
theorem QgQ (w : Qm) (l : List QK) (t : TermT) (c : Int) : ((Yq w l t c).getD []).length <= l.length + 1 := by
 unfold Yq
 split
 ·simp
 ·split <;> simp
def Plain (w : Qm) (l : List QK) : Prop := ∀ s ∈ l, Lo s.m
theorem QaY {w : Qm} {l : List QK} (h : Plain w l) (u : Int) : Lo (Q8 w l u) := by
 suffices hs : ∀ (l : List QK) a, (∀ s ∈ l, Lo s.m) -> Lo a -> Lo (l.foldl (fun a s => if s.u = u /\ inW w u = true then s.m else a) a) from hs l _ h (Qql w u)
 intro l
 induction l with
 | nil => intro a _ h; exact h
 | cons s l ih =>
  intro a hl ha
  rw [List.foldl_cons]
  refine ih _ (fun t ht => hl t (by simp [ht])) ?_
  split
  ·exact hl s (by simp)
  ·exact ha
theorem Qmz {w : Qm} {l : List QK} {t : TermT} {c : Int} (hl : Plain w l) (h : XU (Q8 w l t.u) t.m = 0) : Yq w l t c = none :=
 Qbw (.inr (by rw [Qdw, Qe1 (QaY hl _).i64, <- QcC]; exact h))
theorem QmA {w : Qm} {l : List QK} {t : TermT} {c : Int} (h : Qiv (Q8 w l t.u) t.m = 0) : Yq w l t c = none :=
 Qbw (.inl (by rw [Qdw]; exact h))
theorem QmB {w : Qm} {l : List QK} {t : TermT} {c : Int} (hl : Plain w l) (h0 : ¬ c < 0) (h1 : ¬ XU (Q8 w l t.u) t.m = 0) (h2 : ¬ Qiv (Q8 w l t.u) t.m = 0) : Yq w l t c = some (l ++ [⟨t.u, Qiv (Q8 w l t.u) t.m, YZ l, c⟩]) := by
 have hin : inW w t.u = true := by
  cases hw : inW w t.u
  ·rw [Qh2 hw] at h1
   exact absurd (QcC.2 fun i hi => by rw [Qkv] at hi; cases hi) h1
  ·rfl
 rw [QgR h0 hin (by rw [Qdw]; exact h2) (by rw [Qdw, Qe1 (QaY hl _).i64, <- QcC]; exact h1), Qdw]
theorem Qez {w : Qm} {l : List QK} {u p : Int} (h : (u < 0 \/ (w.length : Int) <= u) \/ p < 0) : YL w l u p = none := by
 unfold YL
 split
 ·rfl
 ·rename_i x hx
  rcases h with h | h
  ·rw [Qir h] at hx; cases hx
  ·rw [if_pos (.inl h)]
theorem QlH {w : Qm} {l : List QK} {u p : Int} (h0 : 0 <= u) (h1 : u < w.length) (h : ((w[u.toNat]'(by omega)).cs.length : Int) <= p) : YL w l u p = none := by
 rw [YL, Qhq h0 h1]
 simp only []
 rw [if_pos (.inr h)]
def Qqd (l : List QK) (u p : Int) : QK := ⟨u, IntKind.i64.wrap (2 * 2 ^ min p.toNat 64), IntKind.i64.wrap (YZ l + 1), -1⟩
theorem Qmy {w : Qm} {l : List QK} {u p : Int} (h : Qbh w l (Qqd l u p) = false) : YL w l u p = none := by
 unfold YL
 split
 ·rfl
 ·split
  ·rfl
  ·simp only [Qqd] at h
   rw [if_neg (by rw [h]; simp)]
theorem QlK {w : Qm} {l : List QK} {u p : Int} (h0 : 0 <= u) (h1 : u < w.length) (h2 : ¬ p < 0) (h3 : ¬ ((w[u.toNat]'(by omega)).cs.length : Int) <= p) (h : Qbh w l (Qqd l u p) = true) : YL w l u p = some (l ++ [Qqd l u p]) := by
 rw [YL, Qhq h0 h1]
 simp only []
 rw [if_neg (by omega)]
 simp only [Qqd] at h ⊢
 rw [if_pos h]
theorem QbI {h : Int -> Int} {inc : List TermT} {a : Int} {i : Nat} (hi : i < inc.length) : Xu h (inc.drop i) a = if XF (h inc[i].u) inc[i].m = 0 then -1 else if XF (h inc[i].u) inc[i].m = 1 then (if 0 <= a then -1 else Xu h (inc.drop (i + 1)) inc[i].u) else Xu h (inc.drop (i + 1)) a := by
 rw [List.drop_eq_getElem_cons hi, Xu]
theorem Qjg {h : Int -> Int} {inc : List TermT} {a : Int} {i : Nat} (hi : inc.length <= i) : Xu h (inc.drop i) a = a := by
 rw [List.drop_eq_nil_of_le hi, Xu]
theorem Qko {w : Qm} {l : List QK} {db : List (List TermT)} {i : Nat} (hi : i < db.length) : Xb w l i (db.drop i) = if XK w l db[i] = true then ((i : Int), -1) else if 0 <= Qgc w l db[i] then ((i : Int), Qgc w l db[i]) else Xb w l (i + 1) (db.drop (i + 1)) := by
 rw [List.drop_eq_getElem_cons hi, Xb]
theorem Qo1 {w : Qm} {l : List QK} {db : List (List TermT)} {i : Nat} (hi : db.length <= i) : Xb w l i (db.drop i) = (-1, -1) := by
 rw [List.drop_eq_nil_of_le hi, Xb]
theorem Qlq (w : Qm) (l : List QK) : ∀ (db : List (List TermT)) (i : Nat), (Xb w l i db = (-1, -1)) \/ ∃ k, i <= k /\ ∃ hk : k - i < db.length, (Xb w l i db = ((k : Int), -1) /\ XK w l db[k - i] = true) \/ (XK w l db[k - i] = false /\ 0 <= Qgc w l db[k - i] /\ Xb w l i db = ((k : Int), Qgc w l db[k - i]))
 | [], i => .inl rfl
 | x :: db, i => by
  rw [Xb]
  by_cases h1 : XK w l x = true
  ·rw [if_pos h1]; exact .inr ⟨i, Nat.le_refl _, by simp, .inl ⟨rfl, by simpa using h1⟩⟩
  ·rw [if_neg h1]
   by_cases h2 : 0 <= Qgc w l x
   ·rw [if_pos h2]; exact .inr ⟨i, Nat.le_refl _, by simp, .inr ⟨by simpa using h1, by simpa using h2, by simp⟩⟩
   ·rw [if_neg h2]
    rcases Qlq w l db (i + 1) with h | ⟨k, hk, hlt, h⟩
    ·exact .inl h
    ·refine .inr ⟨k, by omega, by simp only [List.length_cons]; omega, ?_⟩
     have e : (x :: db)[k - i]'(by simp only [List.length_cons]; omega) = db[k - (i + 1)] := by
      obtain ⟨j, hj⟩ : ∃ j, k - i = j + 1 := ⟨k - i - 1, by omega⟩
      simp only [hj, List.getElem_cons_succ]
      congr 1; omega
     rw [e]; exact h
theorem Qjr {w : Qm} {l : List QK} {db : List (List TermT)} (h : ¬ (Yr w db l).2 < 0) : 0 <= (Yr w db l).1 /\ (Yr w db l).1 < db.length := by
 unfold Yr at h ⊢
 rcases Qlq w l db 0 with e | ⟨k, _, hk, ⟨e, _⟩ | ⟨_, _, e⟩⟩
 ·rw [e] at h; simp at h
 ·rw [e] at h; simp at h
 ·rw [e]; simp only; omega
theorem Ql6 {w : Qm} {db : List (List TermT)} {n : Nat} {out : List QK} (h : (Yr w db out).2 < 0) (hn : 0 < n) : Qe9 w db n out = (out, (Yr w db out).1) := by
 obtain ⟨m, rfl⟩ : ∃ m, n = m + 1 := ⟨n - 1, by omega⟩
 rw [Qe9, if_pos h]
theorem QoZ {w : Qm} {db : List (List TermT)} {n : Nat} {out : List QK} (h : ¬ (Yr w db out).2 < 0) (hn : 0 < n) (hd : (Yr w db out).1.toNat < db.length) : Qe9 w db n out = Qe9 w db (n - 1) ((Yq w out ⟨(Yr w db out).2, Qd5 w db[(Yr w db out).1.toNat] (Yr w db out).2⟩ (Yr w db out).1).getD []) := by
 obtain ⟨m, rfl⟩ : ∃ m, n = m + 1 := ⟨n - 1, by omega⟩
 rw [Qe9, if_neg h, List.getD_eq_getElem?_getD, List.getElem?_eq_getElem hd]; rfl
end M25
