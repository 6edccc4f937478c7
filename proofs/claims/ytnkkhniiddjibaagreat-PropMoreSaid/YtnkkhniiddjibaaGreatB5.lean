/- Part 5 of the means of the proof: a verified abstract evaluator, the prepared functions, and contracts of functions. It states nothing of the claim by itself. -/
import Derived.Test.YtnkkhniiddjibaaGreatB4
set_option linter.unusedSimpArgs false
set_option linter.unusedVariables false
namespace Go.Proofs
open Go Go.Abs M3 M25
set_option linter.unusedVariables false
set_option linter.unusedSimpArgs false
theorem ZC {w : Qp} (hw : WSm w) {l : List QO} (hl : l.length <= 10000000) {u : Int} : Ok Tryz.prog 26 [Z1 w, Zz l, .int .i64 u] (.int .i64 (Zd w l u)) := by
 refine Ok.ofT ZY Tryz.func26 Qru (Nat.le_of_ble_eq_true rfl) ?_
 show TW _ _ tf26.body _ _
 refine Qf fun K hK => Zv rfl rfl rfl (Qa rfl ?_)
 refine hK _ _ (Qb (kp3 rfl rfl rfl) ?_)
 refine QB ?_ -- 0
 refine Qf fun K hK => Qa rfl ?_
 first | refine QQ rfl QW ?_ | refine QQ rfl rfl ?_
 refine QaD rfl rfl (by first | exact Qq (by omega) (by omega) | rfl) (Qa rfl ?_)
 refine hK _ _ (Qb (kp4 rfl rfl rfl rfl) ?_)
 refine Qz ?_
 refine Zj (ι := Nat) (fun i => ⟨[(1, Zz l), (2, .int .i64 u), (3, .ref 3 0 0), (7, .int .i64 ((i : Int) - 1))], [(3, ⟨[[.sl ((w).map Yn)]], 1, 26, true⟩)]⟩) (fun i => i <= l.length /\ Zd w l u = Zd w (l.take i) u) (fun i => i) l.length ?_ ?_ ?_
 ·exact Q1 (l := [1, 2, 3, 7]) (lH := [3]) (kp4 rfl rfl rfl rfl) (Qe rfl Ql) rfl rfl rfl
 ·exact ⟨Nat.le_refl _, by rw [List.take_length]⟩
 intro i hI
 try dsimp only
 refine QB ?_ -- 1
 refine Qf fun K hK => Qa rfl (QeS rfl rfl ?_)
 refine hK _ _ (Qb (kp5 rfl rfl rfl rfl rfl) ?_)
 refine Qw rfl (fun h1 => ?_) (fun h1 => ?_)
 ·try rw [h1]
  try simp only [qa, qb, qc, qd, qe, List.length_map] at h1
  refine Qv (Qd (kp4 rfl rfl rfl rfl) ?_)
  refine QB ?_ -- 2
  refine Qz (Qf fun K hK => Qa rfl (Qa rfl (QK rfl rfl rfl (by omega) (ZE (by omega) (by omega)) rfl (Q9 rfl rfl (QA rfl rfl rfl (Qa rfl (ZO rfl rfl (Qa rfl ?_))))))))
  refine QE (g := 22) rfl (fun h2 => ?_) (fun h2 => ?_)
  ·try rw [h2]
   try simp only [qa, qb, qc, qd, qe, List.length_map] at h2
   refine Qk rfl (Qa rfl (Qk rfl (QeS rfl rfl (Qo rfl rfl (Qa rfl ?_)))))
   refine QE (g := 26) rfl (fun h3 => ?_) (fun h3 => ?_)
   ·try rw [h3]
    try simp only [qa, qb, qc, qd, qe, List.length_map] at h3
    refine Qk rfl (Qa rfl (Qk rfl (Qh rfl rfl (Qk rfl (QA rfl rfl rfl (Qk rfl ?_))))))
    first | refine QQ rfl QW ?_ | refine QQ rfl rfl ?_
    refine Qk rfl (Z6 rfl rfl (Qo rfl rfl ?_))
    refine hK _ _ (Qb (kp5 rfl rfl rfl rfl rfl) ?_)
    refine Qw rfl (fun h4 => ?_) (fun h4 => ?_)
    ·try rw [h4]
     try simp only [qa, qb, qc, qd, qe, List.length_map] at h4
     refine Qf fun K hK => Qa rfl (Qa rfl (QK rfl rfl rfl (by omega) (ZE (by omega) (by omega)) rfl (Q9 rfl rfl (QA rfl rfl rfl (Qa rfl ?_)))))
     refine hK _ _ (Qb (kp1 rfl) ?_)
     refine Qu (Qr (Qj (Q4 (Qr (Qj (QG rfl ?_))))))
     rw [hI.2, QnO (k := ((i : Int) - 1).toNat) (by omega) (by omega) h2 (QfH (by omega) (by omega))]
    ·try rw [h4]
     try simp only [qa, qb, qc, qd, qe, List.length_map] at h4
     refine Qv (Qg (Qd (kp4 rfl rfl rfl rfl) (QL fun K hK => Qa rfl (QaD rfl rfl (by first | exact Qq (by omega) (by omega) | rfl) (Qa rfl (hK _ ?_))))))
     refine Qi (i - 1) ?_ ?_ ?_
     ·exact Q1 (l := [1, 2, 3, 7]) (lH := [3]) (kp4 rfl rfl rfl rfl) (Qe rfl Ql) (by simp only [List.cons.injEq, Prod.mk.injEq, D.int.injEq, and_true, true_and]; omega) rfl rfl
     ·exact ⟨by omega, by rw [hI.2, QfN (k := ((i : Int) - 1).toNat) (by omega) (by omega) (by first | exact .inl h2 | exact .inr (.inl h3) | exact .inr (.inr h4))]⟩
     ·first | omega | (simp only; omega) | (dsimp only; omega)
   ·try rw [h3]
    try simp only [qa, qb, qc, qd, qe, List.length_map] at h3
    refine Qt rfl (Qt rfl (Qt rfl (Qt rfl (Qt rfl (Qo rfl rfl ?_)))))
    refine hK _ _ (Qb (kp5 rfl rfl rfl rfl rfl) ?_)
    refine ZG rfl (Qv (Qg (Qd (kp4 rfl rfl rfl rfl) (QL fun K hK => Qa rfl (QaD rfl rfl (by first | exact Qq (by omega) (by omega) | rfl) (Qa rfl (hK _ ?_)))))))
    refine Qi (i - 1) ?_ ?_ ?_
    ·exact Q1 (l := [1, 2, 3, 7]) (lH := [3]) (kp4 rfl rfl rfl rfl) (Qe rfl Ql) (by simp only [List.cons.injEq, Prod.mk.injEq, D.int.injEq, and_true, true_and]; omega) rfl rfl
    ·exact ⟨by omega, by rw [hI.2, QfN (k := ((i : Int) - 1).toNat) (by omega) (by omega) (by first | exact .inl h2 | exact .inr (.inl h3) | exact .inr (.inr h4))]⟩
    ·first | omega | (simp only; omega) | (dsimp only; omega)
  ·try rw [h2]
   try simp only [qa, qb, qc, qd, qe, List.length_map] at h2
   refine Qt rfl (Qt rfl (Qo rfl rfl (Qa rfl (Qt rfl (Qt rfl (Qt rfl (Qt rfl (Qt rfl (Qo rfl rfl ?_)))))))))
   refine hK _ _ (Qb (kp5 rfl rfl rfl rfl rfl) ?_)
   refine ZG rfl (Qv (Qg (Qd (kp4 rfl rfl rfl rfl) (QL fun K hK => Qa rfl (QaD rfl rfl (by first | exact Qq (by omega) (by omega) | rfl) (Qa rfl (hK _ ?_)))))))
   refine Qi (i - 1) ?_ ?_ ?_
   ·exact Q1 (l := [1, 2, 3, 7]) (lH := [3]) (kp4 rfl rfl rfl rfl) (Qe rfl Ql) (by simp only [List.cons.injEq, Prod.mk.injEq, D.int.injEq, and_true, true_and]; omega) rfl rfl
   ·exact ⟨by omega, by rw [hI.2, QfN (k := ((i : Int) - 1).toNat) (by omega) (by omega) (by first | exact .inl h2 | exact .inr (.inl h3) | exact .inr (.inr h4))]⟩
   ·first | omega | (simp only; omega) | (dsimp only; omega)
 ·try rw [h1]
  try simp only [qa, qb, qc, qd, qe, List.length_map] at h1
  refine Zh (QJ (Qx (QD (Qd (kp2 rfl rfl) (Qf fun K hK => QH (cs := [_]) rfl rfl rfl rfl (Qa rfl (QI (ZB hw) rfl rfl (.inr rfl) (Qa rfl ?_))))))))
  refine hK _ _ (Qb (kp1 rfl) ?_)
  refine Qu (QG rfl ?_)
  rw [hI.2, show i = 0 by omega]; rfl
theorem Yd {l : List QO} (hl : l.length <= 10000000) : Ok Tryz.prog 25 [Zz l] (.int .i64 (Xs l)) := by
 refine Ok.ofT ZY Tryz.func25 Qrt (Nat.le_of_ble_eq_true rfl) ?_
 show TW _ _ tf25.body _ _
 refine Qf fun K hK => Qa rfl ?_
 refine hK _ _ (Qb (kp1 rfl) ?_)
 refine QB ?_ -- 0
 refine Qf fun K hK => Qa rfl ?_
 first | refine QQ rfl QW ?_ | refine QQ rfl rfl ?_
 refine ZO rfl rfl ?_
 refine hK _ _ (Qb (kp2 rfl rfl) ?_)
 refine Qw rfl (fun h1 => ?_) (fun h1 => ?_)
 ·try rw [h1]
  try simp only [qa, qb, qc, qd, qe, List.length_map] at h1
  refine Qf fun K hK => Qa rfl ?_
  refine hK _ _ (Qb (kp1 rfl) ?_)
  refine Qu (Qj (QG rfl ?_))
  rw [Qiv h1]
 ·try rw [h1]
  try simp only [qa, qb, qc, qd, qe, List.length_map] at h1
  refine Qv (Qd (kp1 rfl) (Qf fun K hK => Qa rfl (Qa rfl ?_)))
  first | refine QQ rfl QW ?_ | refine QQ rfl rfl ?_
  refine QaD rfl rfl (by first | exact Qq (by omega) (by omega) | rfl) (QK rfl rfl rfl (by omega) (ZE (by omega) (by omega)) rfl (Q9 rfl rfl (QA rfl rfl rfl (Qa rfl ?_))))
  refine hK _ _ (Qb (kp1 rfl) ?_)
  refine Qu (QG rfl ?_)
  rw [Qkl (k := ((l.length : Int) - 1).toNat) (by omega)]
theorem Qa4 {l : List QO} (hl : l.length <= 10000000) {u : Int} : Ok Tryz.prog 69 [Zz l, .int .i64 u] (.bool (QdE l u)) := by
 refine Ok.ofT ZY Tryz.func69 Qr8 (Nat.le_of_ble_eq_true rfl) ?_
 show TW _ _ tf69.body _ _
 refine Qf fun K hK => Qa rfl ?_
 refine hK _ _ (Qb (kp2 rfl rfl) ?_)
 refine QB ?_ -- 0
 refine Qf fun K hK => Qa rfl ?_
 refine hK _ _ (Qb (kp3 rfl rfl rfl) ?_)
 refine Qz ?_
 refine Zj (ι := Nat) (fun i => ⟨[(0, Zz l), (1, .int .i64 u), (5, .int .i64 i)], []⟩) (fun i => i <= l.length /\ (l.take i).any (fun s => decide (s.u = u) && decide (s.c = -1)) = false) (fun i => l.length - i) 0 ?_ ?_ ?_
 ·exact Zg (kp3 rfl rfl rfl)
 ·exact ⟨Nat.zero_le _, by simp⟩
 intro i hI
 try dsimp only
 refine QB ?_ -- 1
 refine Qf fun K hK => Qa rfl (Qa rfl ?_)
 first | refine QQ rfl QW ?_ | refine QQ rfl rfl ?_
 refine Z6 rfl rfl ?_
 refine hK _ _ (Qb (kp4 rfl rfl rfl rfl) ?_)
 refine Qw rfl (fun h1 => ?_) (fun h1 => ?_)
 ·try rw [h1]
  try simp only [qa, qb, qc, qd, qe, List.length_map] at h1
  refine Qv (Qd (kp3 rfl rfl rfl) ?_)
  refine QB ?_ -- 2
  refine Qz (Qf fun K hK => Qa rfl (Qa rfl (QK rfl rfl rfl (by omega) (QV (by omega)) rfl (Q9 rfl rfl (QA rfl rfl rfl (Qa rfl (ZO rfl rfl (Qa rfl ?_))))))))
  refine QE (g := 19) rfl (fun h2 => ?_) (fun h2 => ?_)
  ·try rw [h2]
   try simp only [qa, qb, qc, qd, qe, List.length_map] at h2
   refine Qk rfl (Qa rfl (Qk rfl (Qa rfl (Qk rfl (QK rfl rfl rfl (by omega) (QV (by omega)) rfl (Qk rfl (Q9 rfl rfl (Qk rfl (QA rfl rfl rfl (Qk rfl (ZO rfl rfl ?_)))))))))))
   refine Qo rfl rfl ?_
   refine hK _ _ (Qb (kp4 rfl rfl rfl rfl) ?_)
   refine Qw rfl (fun h3 => ?_) (fun h3 => ?_)
   ·try rw [h3]
    try simp only [qa, qb, qc, qd, qe, List.length_map] at h3
    refine Qf fun K hK => Qa rfl ?_
    refine hK _ _ (Qb (kp1 rfl) ?_)
    refine Qu (Qr (Qj (Q4 (Qr (Qj (Qs rfl ?_))))))
    rw [QdE, Qjc (i := i) (by omega) (by simp [h2, h3])]
   ·try rw [h3]
    try simp only [qa, qb, qc, qd, qe, List.length_map] at h3
    refine Qv (Qg (Qd (kp3 rfl rfl rfl) (QL fun K hK => Qa rfl (Q2 rfl rfl (by first | exact Qq (by omega) (by omega) | rfl) (Qa rfl (hK _ ?_))))))
    refine Qi (i + 1) ?_ ?_ ?_
    ·exact Zg (kp3 rfl rfl rfl)
    ·exact ⟨by omega, Qh0 (by omega) hI.2 (by first | (simp [h2, h3]; done) | (simp [h2]; done))⟩
    ·first | omega | (simp only; omega) | (dsimp only; omega)
  ·try rw [h2]
   try simp only [qa, qb, qc, qd, qe, List.length_map] at h2
   refine Qt rfl (Qt rfl (Qt rfl (Qt rfl (Qt rfl (Qt rfl (Qo rfl rfl ?_))))))
   refine hK _ _ (Qb (kp4 rfl rfl rfl rfl) ?_)
   refine ZG rfl (Qv (Qg (Qd (kp3 rfl rfl rfl) (QL fun K hK => Qa rfl (Q2 rfl rfl (by first | exact Qq (by omega) (by omega) | rfl) (Qa rfl (hK _ ?_)))))))
   refine Qi (i + 1) ?_ ?_ ?_
   ·exact Zg (kp3 rfl rfl rfl)
   ·exact ⟨by omega, Qh0 (by omega) hI.2 (by first | (simp [h2, h3]; done) | (simp [h2]; done))⟩
   ·first | omega | (simp only; omega) | (dsimp only; omega)
 ·try rw [h1]
  try simp only [qa, qb, qc, qd, qe, List.length_map] at h1
  refine Zh (QJ (Qx (QD (Qd (Q6) (Qf fun K hK => Qa rfl ?_)))))
  refine hK _ _ (Qb (kp1 rfl) ?_)
  refine Qu (Qs rfl ?_)
  rw [QdE, QlF (i := i) (by omega) hI.2]
theorem QbL {m : Int} : Ok Tryz.prog 68 [.int .i64 m] (.int .i64 (QfW m)) := by
 refine Ok.ofT ZY Tryz.func68 Qr7 (Nat.le_of_ble_eq_true rfl) ?_
 show TW _ _ tf68.body _ _
 refine Qf fun K hK => Qa rfl ?_
 refine hK _ _ (Qb (kp1 rfl) ?_)
 refine Qf fun K hK => Qa rfl (QI (XO) rfl rfl (.inl rfl) (Qa rfl ?_))
 refine hK _ _ (Qb (kp1 rfl) ?_)
 refine QB ?_ -- 0
 refine Qf fun K hK => Qa rfl ?_
 first | refine QQ rfl QW ?_ | refine QQ rfl rfl ?_
 refine X8 rfl rfl ?_
 refine hK _ _ (Qb (kp2 rfl rfl) ?_)
 refine Qw rfl (fun h1 => ?_) (fun h1 => ?_)
 ·try rw [h1]
  try simp only [qa, qb, qc, qd, qe, List.length_map] at h1
  refine Qf fun K hK => Qa rfl ?_
  refine hK _ _ (Qb (kp1 rfl) ?_)
  refine Qu (Qj (QG rfl ?_))
  rw [Qn2 h1]
 ·try rw [h1]
  try simp only [qa, qb, qc, qd, qe, List.length_map] at h1
  refine Qv (Qd (kp1 rfl) (Qf fun K hK => Qa rfl (QK rfl rfl rfl (by omega) (ZE (by omega) (by omega)) rfl (QA rfl rfl rfl (Qa rfl ?_)))))
  refine hK _ _ (Qb (kp1 rfl) ?_)
  refine Qu (QG rfl ?_)
  rw [QmH h1]
theorem QcJ {w : Qp} (hw : WSm w) {l : List QO} (hl : l.length <= 10000000) {s : QO} : Ok Tryz.prog 47 [Z1 w, Zz l, .agg (Qid s)] (.bool (QdL w l s)) := by
 refine Ok.ofT ZY Tryz.func47 QrO (Nat.le_of_ble_eq_true rfl) ?_
 show TW _ _ tf47.body _ _
 refine Qf fun K hK => Zv rfl rfl rfl (Zv rfl rfl rfl (Qa rfl ?_))
 refine hK _ _ (Qb (kp3 rfl rfl rfl) ?_)
 refine QB ?_ -- 0
 refine Qf fun K hK => Qh rfl rfl (QA rfl rfl rfl (Z6 rfl rfl (Qa rfl ?_)))
 refine QE (g := 11) rfl (fun h1 => ?_) (fun h1 => ?_)
 ·try rw [h1]
  try simp only [qa, qb, qc, qd, qe, List.length_map] at h1
  refine Qt rfl (Qt rfl (Qt rfl (Qt rfl (Qt rfl (Qt rfl (Qo rfl rfl (Qa rfl (Qt rfl (Qt rfl (Qt rfl (Qo rfl rfl ?_)))))))))))
  refine hK _ _ (Qb (kp4 rfl rfl rfl rfl) ?_)
  refine Zt rfl (Qf fun K hK => Qa rfl ?_)
  refine hK _ _ (Qb (kp1 rfl) ?_)
  refine Qu (Qj (Qs rfl ?_))
  first | (rw [Xn (by omega)]; done) | (rw [Z9 (by omega) (by omega) (by omega)]; simp_all; done) | (rw [Z9 (by omega) (by omega) (by omega)]; simp_all; omega)
 ·try rw [h1]
  try simp only [qa, qb, qc, qd, qe, List.length_map] at h1
  refine Qk rfl (Qh rfl rfl (Qk rfl (QA rfl rfl rfl (Qk rfl (Qh rfl rfl (Qk rfl (QA rfl rfl rfl (Qk rfl ?_))))))))
  first | refine QQ rfl QW ?_ | refine QQ rfl rfl ?_
  refine Qk rfl (QeS rfl rfl (Qo rfl rfl (Qa rfl ?_)))
  refine QE (g := 19) rfl (fun h2 => ?_) (fun h2 => ?_)
  ·try rw [h2]
   try simp only [qa, qb, qc, qd, qe, List.length_map] at h2
   refine Qt rfl (Qt rfl (Qt rfl (Qo rfl rfl ?_)))
   refine hK _ _ (Qb (kp4 rfl rfl rfl rfl) ?_)
   refine Zt rfl (Qf fun K hK => Qa rfl ?_)
   refine hK _ _ (Qb (kp1 rfl) ?_)
   refine Qu (Qj (Qs rfl ?_))
   first | (rw [Xn (by omega)]; done) | (rw [Z9 (by omega) (by omega) (by omega)]; simp_all; done) | (rw [Z9 (by omega) (by omega) (by omega)]; simp_all; omega)
  ·try rw [h2]
   try simp only [qa, qb, qc, qd, qe, List.length_map] at h2
   refine Qk rfl (Qh rfl rfl (Qk rfl (QA rfl rfl rfl (Qk rfl (Z6 rfl rfl (Qo rfl rfl ?_))))))
   refine hK _ _ (Qb (kp4 rfl rfl rfl rfl) ?_)
   refine Qw rfl (fun h3 => ?_) (fun h3 => ?_)
   ·try rw [h3]
    try simp only [qa, qb, qc, qd, qe, List.length_map] at h3
    refine Qf fun K hK => Qa rfl ?_
    refine hK _ _ (Qb (kp1 rfl) ?_)
    refine Qu (Qj (Qs rfl ?_))
    first | (rw [Xn (by omega)]; done) | (rw [Z9 (by omega) (by omega) (by omega)]; simp_all; done) | (rw [Z9 (by omega) (by omega) (by omega)]; simp_all; omega)
   ·try rw [h3]
    try simp only [qa, qb, qc, qd, qe, List.length_map] at h3
    refine Qv (Qd (kp3 rfl rfl rfl) (Qf fun K hK => QH (cs := [_]) rfl rfl rfl rfl (Qa rfl (Qh rfl rfl (QA rfl rfl rfl (QI (ZC hw hl) rfl rfl (.inr rfl) (Qa rfl ?_)))))))
    refine hK _ _ (Qb (kp3 rfl rfl rfl) ?_)
    refine QB ?_ -- 1
    refine Qf fun K hK => Qh rfl rfl (QA rfl rfl rfl (ZO rfl rfl ?_))
    refine hK _ _ (Qb (kp4 rfl rfl rfl rfl) ?_)
    refine Qw rfl (fun h4 => ?_) (fun h4 => ?_)
    ·try rw [h4]
     try simp only [qa, qb, qc, qd, qe, List.length_map] at h4
     refine Qf fun K hK => Qh rfl rfl (QU (ds0 := [26, 25, 24, 23, 22, 21, 20, 19, 18, 17, 16, 15, 14, 13, 12, 11, 10, 9, 8, 7, 6, 5, 4, 3, 2, 1, 0]) rfl rfl rfl rfl rfl (QT (ds0 := [25, 24, 23, 22, 21, 20, 19, 18, 17, 16, 15, 14, 13, 12, 11, 10, 9, 8, 7, 6, 5, 4, 3, 2, 1, 0]) (QbL) rfl rfl (.inr rfl) rfl rfl (QeS rfl rfl (Qa rfl ?_))))
     refine QE (g := 36) rfl (fun h5 => ?_) (fun h5 => ?_)
     ·try rw [h5]
      try simp only [qa, qb, qc, qd, qe, List.length_map] at h5
      refine Qk rfl (Qh rfl rfl (Qk rfl (QU (ds0 := [20, 17, 16, 15, 14, 13, 12, 11, 10, 9, 8, 7, 6, 5, 4, 3, 2, 1, 0]) rfl rfl rfl rfl rfl (Qk rfl (Qa rfl (Qk rfl (Qd8 rfl rfl (Qk rfl (Qh rfl rfl (Qk rfl (QU (ds0 := [17, 16, 15, 14, 13, 12, 11, 10, 9, 8, 7, 6, 5, 4, 3, 2, 1, 0]) rfl rfl rfl rfl rfl ?_)))))))))))
      refine Qk rfl (ZO rfl rfl (Qo rfl rfl (Qa rfl ?_)))
      refine QE (g := 45) rfl (fun h6 => ?_) (fun h6 => ?_)
      ·try rw [h6]
       try simp only [qa, qb, qc, qd, qe, List.length_map] at h6
       refine Qk rfl (Qa rfl (Qk rfl (Qh rfl rfl (Qk rfl (QU (ds0 := [11, 10, 9, 8, 7, 6, 5, 4, 3, 2, 1, 0]) rfl rfl rfl rfl rfl (Qk rfl (QT (ds0 := [10, 9, 8, 7, 6, 5, 4, 3, 2, 1, 0]) (Qa4 hl) rfl rfl (.inr rfl) rfl rfl (Qk rfl (Ym rfl (Qo rfl rfl (Qa rfl ?_)))))))))))
       refine QE (g := 52) rfl (fun h7 => ?_) (fun h7 => ?_)
       ·try rw [h7]
        try simp only [qa, qb, qc, qd, qe, List.length_map] at h7
        refine Qk rfl (Qh rfl rfl (Qk rfl (QU (ds0 := [2, 1, 0]) rfl rfl rfl rfl rfl (Qk rfl (Qa rfl (Qk rfl (QT (ds0 := [3, 2, 1, 0]) (Yd hl) rfl rfl (.inr rfl) rfl rfl (Qk rfl (Q2 rfl rfl rfl (Qk rfl (ZO rfl rfl ?_)))))))))))
        refine Qo rfl rfl (Qa rfl ?_)
        refine hK _ _ (Qb (kp1 rfl) ?_)
        refine Qu (Qj (Qs rfl ?_))
        first | (rw [Xn (by omega)]; done) | (rw [Z9 (by omega) (by omega) (by omega)]; simp_all; done) | (rw [Z9 (by omega) (by omega) (by omega)]; simp_all; omega)
       ·try rw [h7]
        try simp only [qa, qb, qc, qd, qe, List.length_map] at h7
        refine Qt rfl (Qt rfl (Qt rfl (Qt rfl (Qt rfl (Qt rfl (Qo rfl rfl (Qa rfl ?_)))))))
        refine hK _ _ (Qb (kp1 rfl) ?_)
        refine Qu (Qj (Qs rfl ?_))
        first | (rw [Xn (by omega)]; done) | (rw [Z9 (by omega) (by omega) (by omega)]; simp_all; done) | (rw [Z9 (by omega) (by omega) (by omega)]; simp_all; omega)
      ·try rw [h6]
       try simp only [qa, qb, qc, qd, qe, List.length_map] at h6
       refine Qt rfl (Qt rfl (Qt rfl (Qt rfl (Qt rfl (Qo rfl rfl (Qa rfl (Qt rfl (Qt rfl (Qt rfl (Qt rfl (Qt rfl ?_)))))))))))
       refine Qt rfl (Qo rfl rfl (Qa rfl ?_))
       refine hK _ _ (Qb (kp1 rfl) ?_)
       refine Qu (Qj (Qs rfl ?_))
       first | (rw [Xn (by omega)]; done) | (rw [Z9 (by omega) (by omega) (by omega)]; simp_all; done) | (rw [Z9 (by omega) (by omega) (by omega)]; simp_all; omega)
     ·try rw [h5]
      try simp only [qa, qb, qc, qd, qe, List.length_map] at h5
      refine Qt rfl (Qt rfl (Qt rfl (Qt rfl (Qt rfl (Qt rfl (Qt rfl (Qo rfl rfl (Qa rfl (Qt rfl (Qt rfl (Qt rfl ?_)))))))))))
      refine Qt rfl (Qt rfl (Qo rfl rfl (Qa rfl (Qt rfl (Qt rfl (Qt rfl (Qt rfl (Qt rfl (Qt rfl (Qo rfl rfl (Qa rfl ?_)))))))))))
      refine hK _ _ (Qb (kp1 rfl) ?_)
      refine Qu (Qj (Qs rfl ?_))
      first | (rw [Xn (by omega)]; done) | (rw [Z9 (by omega) (by omega) (by omega)]; simp_all; done) | (rw [Z9 (by omega) (by omega) (by omega)]; simp_all; omega)
    ·try rw [h4]
     try simp only [qa, qb, qc, qd, qe, List.length_map] at h4
     refine Qv (Qd (kp3 rfl rfl rfl) (Qf fun K hK => Qh rfl rfl (QU (ds0 := [23, 22, 21, 20, 19, 18, 17, 16, 15, 14, 13, 12, 11, 10, 9, 8, 7, 6, 5, 4, 3, 2, 1, 0]) rfl rfl rfl rfl rfl (X8 rfl rfl (Qa rfl ?_)))))
     refine QE (g := 63) rfl (fun h8 => ?_) (fun h8 => ?_)
     ·try rw [h8]
      try simp only [qa, qb, qc, qd, qe, List.length_map] at h8
      refine Qk rfl (Qh rfl rfl (Qk rfl (QU (ds0 := [18, 15, 14, 13, 12, 11, 10, 9, 8, 7, 6, 5, 4, 3, 2, 1, 0]) rfl rfl rfl rfl rfl (Qk rfl (Qa rfl (Qk rfl (Qd8 rfl rfl (Qk rfl (Qh rfl rfl (Qk rfl (QU (ds0 := [15, 14, 13, 12, 11, 10, 9, 8, 7, 6, 5, 4, 3, 2, 1, 0]) rfl rfl rfl rfl rfl ?_)))))))))))
      refine Qk rfl (ZO rfl rfl (Qo rfl rfl (Qa rfl ?_)))
      refine QE (g := 72) rfl (fun h9 => ?_) (fun h9 => ?_)
      ·try rw [h9]
       try simp only [qa, qb, qc, qd, qe, List.length_map] at h9
       refine Qk rfl (Qh rfl rfl (Qk rfl (QU (ds0 := [9, 8, 7, 6, 5, 4, 3, 2, 1, 0]) rfl rfl rfl rfl rfl (Qk rfl (Qa rfl (Qk rfl (X8 rfl rfl (Qo rfl rfl (Qa rfl ?_)))))))))
       refine QE (g := 78) rfl (fun h10 => ?_) (fun h10 => ?_)
       ·try rw [h10]
        try simp only [qa, qb, qc, qd, qe, List.length_map] at h10
        refine Qk rfl (Qh rfl rfl (Qk rfl (QU (ds0 := [2, 1, 0]) rfl rfl rfl rfl rfl (Qk rfl (Qa rfl (Qk rfl (QT (ds0 := [2, 1, 0]) (Yd hl) rfl rfl (.inr rfl) rfl rfl (Qk rfl (ZO rfl rfl (Qo rfl rfl (Qa rfl ?_)))))))))))
        refine hK _ _ (Qb (kp1 rfl) ?_)
        refine Qu (Qs rfl ?_)
        first | (rw [Xn (by omega)]; done) | (rw [Z9 (by omega) (by omega) (by omega)]; simp_all; done) | (rw [Z9 (by omega) (by omega) (by omega)]; simp_all; omega)
       ·try rw [h10]
        try simp only [qa, qb, qc, qd, qe, List.length_map] at h10
        refine Qt rfl (Qt rfl (Qt rfl (Qt rfl (Qt rfl (Qo rfl rfl (Qa rfl ?_))))))
        refine hK _ _ (Qb (kp1 rfl) ?_)
        refine Qu (Qs rfl ?_)
        first | (rw [Xn (by omega)]; done) | (rw [Z9 (by omega) (by omega) (by omega)]; simp_all; done) | (rw [Z9 (by omega) (by omega) (by omega)]; simp_all; omega)
      ·try rw [h9]
       try simp only [qa, qb, qc, qd, qe, List.length_map] at h9
       refine Qt rfl (Qt rfl (Qt rfl (Qt rfl (Qo rfl rfl (Qa rfl (Qt rfl (Qt rfl (Qt rfl (Qt rfl (Qt rfl (Qo rfl rfl ?_)))))))))))
       refine Qa rfl ?_
       refine hK _ _ (Qb (kp1 rfl) ?_)
       refine Qu (Qs rfl ?_)
       first | (rw [Xn (by omega)]; done) | (rw [Z9 (by omega) (by omega) (by omega)]; simp_all; done) | (rw [Z9 (by omega) (by omega) (by omega)]; simp_all; omega)
     ·try rw [h8]
      try simp only [qa, qb, qc, qd, qe, List.length_map] at h8
      refine Qt rfl (Qt rfl (Qt rfl (Qt rfl (Qt rfl (Qt rfl (Qt rfl (Qo rfl rfl (Qa rfl (Qt rfl (Qt rfl (Qt rfl ?_)))))))))))
      refine Qt rfl (Qo rfl rfl (Qa rfl (Qt rfl (Qt rfl (Qt rfl (Qt rfl (Qt rfl (Qo rfl rfl (Qa rfl ?_)))))))))
      refine hK _ _ (Qb (kp1 rfl) ?_)
      refine Qu (Qs rfl ?_)
      first | (rw [Xn (by omega)]; done) | (rw [Z9 (by omega) (by omega) (by omega)]; simp_all; done) | (rw [Z9 (by omega) (by omega) (by omega)]; simp_all; omega)
theorem QbD {w : Qp} (hw : WSm w) {l : List QO} (hl : l.length <= 10000000) {t : TermT} {c : Int} : Ok Tryz.prog 44 [Z1 w, Zz l, .agg (Qdr t), .int .i64 c] (dOS (Yl w l t c)) := by
 refine Ok.ofT ZY Tryz.func44 QrL (Nat.le_of_ble_eq_true rfl) ?_
 show TW _ _ tf44.body _ _
 refine Qf fun K hK => Zv rfl rfl rfl (Zv rfl rfl rfl (Qa rfl (Qa rfl ?_)))
 refine hK _ _ (Qb (kp4 rfl rfl rfl rfl) ?_)
 refine QB ?_ -- 0
 refine Qf fun K hK => Qa rfl (Z6 rfl rfl (Qa rfl ?_))
 refine QE (g := 14) rfl (fun h1 => ?_) (fun h1 => ?_)
 ·try rw [h1]
  try simp only [qa, qb, qc, qd, qe, List.length_map] at h1
  refine Qt rfl (Qt rfl (Qt rfl (Qo rfl rfl (Qa rfl (Qt rfl (Qt rfl (Qt rfl (Qt rfl (Qt rfl (Qt rfl (Qo rfl rfl ?_)))))))))))
  refine hK _ _ (Qb (kp5 rfl rfl rfl rfl rfl) ?_)
  refine Zt rfl (Qf fun K hK => Qa rfl (Qa rfl ?_))
  refine hK _ _ (Qb (kp2 rfl rfl) ?_)
  refine Qu (Qj ?_)
  rw [Qcf (by omega)]
  exact QS rfl rfl ⟨rfl, rfl⟩
 ·try rw [h1]
  try simp only [qa, qb, qc, qd, qe, List.length_map] at h1
  refine Qk rfl (Qh rfl rfl (Qk rfl (QA rfl rfl rfl (Qk rfl (Z6 rfl rfl (Qo rfl rfl (Qa rfl ?_)))))))
  refine QE (g := 19) rfl (fun h2 => ?_) (fun h2 => ?_)
  ·try rw [h2]
   try simp only [qa, qb, qc, qd, qe, List.length_map] at h2
   refine Qt rfl (Qt rfl (Qt rfl (Qt rfl (Qt rfl (Qt rfl (Qo rfl rfl ?_))))))
   refine hK _ _ (Qb (kp5 rfl rfl rfl rfl rfl) ?_)
   refine Zt rfl (Qf fun K hK => Qa rfl (Qa rfl ?_))
   refine hK _ _ (Qb (kp2 rfl rfl) ?_)
   refine Qu (Qj ?_)
   rw [Qcf (by omega)]
   exact QS rfl rfl ⟨rfl, rfl⟩
  ·try rw [h2]
   try simp only [qa, qb, qc, qd, qe, List.length_map] at h2
   refine Qk rfl (Qh rfl rfl (Qk rfl (QA rfl rfl rfl (Qk rfl (Qh rfl rfl (Qk rfl (QA rfl rfl rfl (Qk rfl ?_))))))))
   first | refine QQ rfl QW ?_ | refine QQ rfl rfl ?_
   refine Qk rfl (QeS rfl rfl (Qo rfl rfl ?_))
   refine hK _ _ (Qb (kp5 rfl rfl rfl rfl rfl) ?_)
   refine Qw rfl (fun h3 => ?_) (fun h3 => ?_)
   ·try rw [h3]
    try simp only [qa, qb, qc, qd, qe, List.length_map] at h3
    refine Qf fun K hK => Qa rfl (Qa rfl ?_)
    refine hK _ _ (Qb (kp2 rfl rfl) ?_)
    refine Qu (Qj ?_)
    rw [Qcf (by omega)]
    exact QS rfl rfl ⟨rfl, rfl⟩
   ·try rw [h3]
    try simp only [qa, qb, qc, qd, qe, List.length_map] at h3
    refine Qv (Qd (kp4 rfl rfl rfl rfl) (Qf fun K hK => QH (cs := [_]) rfl rfl rfl rfl (Qa rfl (Qh rfl rfl (QA rfl rfl rfl (QI (ZC hw hl) rfl rfl (.inr rfl) (Qa rfl ?_)))))))
    refine hK _ _ (Qb (kp4 rfl rfl rfl rfl) ?_)
    refine Qf fun K hK => Qh rfl rfl (QU (ds0 := [2, 0]) rfl rfl rfl rfl rfl (Qa rfl (Qa rfl (Qh rfl rfl (QU (ds0 := [7, 6, 2, 0]) rfl rfl rfl rfl rfl (Qd8 rfl rfl (QaD rfl rfl rfl (Qa rfl (QT (ds0 := [2, 0]) (Yd hl) rfl rfl (.inr rfl) rfl rfl (Qa rfl ?_))))))))))
    refine QX rfl rfl (ZL rfl (YZ (ds0 := []) rfl rfl rfl rfl rfl rfl rfl rfl rfl rfl ?_))
    refine hK _ _ (Qb (kp3 rfl rfl rfl) ?_)
    refine QB ?_ -- 1
    refine Qf fun K hK => Qh rfl rfl (QA rfl rfl rfl (ZO rfl rfl (Qa rfl ?_)))
    refine QE (g := 47) rfl (fun h4 => ?_) (fun h4 => ?_)
    ·try rw [h4]
     try simp only [qa, qb, qc, qd, qe, List.length_map] at h4
     refine Qt rfl (Qt rfl (Qt rfl (Qt rfl (Qo rfl rfl ?_))))
     refine hK _ _ (Qb (kp3 rfl rfl rfl) ?_)
     refine Zt rfl (Qf fun K hK => Qa rfl (Qa rfl ?_))
     refine hK _ _ (Qb (kp2 rfl rfl) ?_)
     refine Qu (Qj ?_)
     rw [Qa8 (by first | exact .inl h4 | exact .inr h5)]
     exact QS rfl rfl ⟨rfl, rfl⟩
    ·try rw [h4]
     try simp only [qa, qb, qc, qd, qe, List.length_map] at h4
     refine Qk rfl (Qh rfl rfl (Qk rfl (QA rfl rfl rfl (Qk rfl (Qa rfl (Qk rfl (ZO rfl rfl (Qo rfl rfl ?_))))))))
     refine hK _ _ (Qb (kp3 rfl rfl rfl) ?_)
     refine Qw rfl (fun h5 => ?_) (fun h5 => ?_)
     ·try rw [h5]
      try simp only [qa, qb, qc, qd, qe, List.length_map] at h5
      refine Qf fun K hK => Qa rfl (Qa rfl ?_)
      refine hK _ _ (Qb (kp2 rfl rfl) ?_)
      refine Qu (Qj ?_)
      rw [Qa8 (by first | exact .inl h4 | exact .inr h5)]
      exact QS rfl rfl ⟨rfl, rfl⟩
     ·try rw [h5]
      try simp only [qa, qb, qc, qd, qe, List.length_map] at h5
      refine Qv (Qd (kp2 rfl rfl) (Qf fun K hK => Qa rfl (Qd9 (ds0 := [2, 1]) rfl rfl (fun _ h => ⟨Qlo, h⟩) rfl (.inl rfl) (by simp) (by simp; omega) (by simp; omega) rfl rfl (QN (ds0 := [3, 2, 1]) (cs := [_, _, _, _]) rfl rfl rfl rfl rfl rfl (QC rfl rfl (Qa0 (ds0 := [1]) rfl rfl (by simp [D.ids, D.sid]) ⟨_, rfl, rfl, rfl, rfl, rfl⟩ rfl rfl (by simp) rfl rfl (by simp; omega) (by simp; omega) rfl rfl (Qa rfl (Qa rfl ?_))))))))
      refine hK _ _ (Qb (kp2 rfl rfl) ?_)
      refine Qu ?_
      rw [Qgt (by omega) (QfH (by omega) (by omega)) h4 h5]
      exact Qf2 rfl rfl rfl (by simp) (by simp [Zz, Qid]) rfl rfl
theorem QbC {w : Qp} (hw : WSm w) {l : List QO} (hl : l.length <= 10000000) {u p : Int} : Ok Tryz.prog 40 [Z1 w, Zz l, .int .i64 u, .int .i64 p] (dOS (Xj w l u p)) := by
 refine Ok.ofT ZY Tryz.func40 QrH (Nat.le_of_ble_eq_true rfl) ?_
 show TW _ _ tf40.body _ _
 refine Qf fun K hK => Zv rfl rfl rfl (Qa rfl (Qa rfl ?_))
 refine hK _ _ (Qb (kp4 rfl rfl rfl rfl) ?_)
 refine QB ?_ -- 0
 refine Qf fun K hK => Qa rfl (Z6 rfl rfl (Qa rfl ?_))
 refine QE (g := 13) rfl (fun h1 => ?_) (fun h1 => ?_)
 ·try rw [h1]
  try simp only [qa, qb, qc, qd, qe, List.length_map] at h1
  refine Qt rfl (Qt rfl (Qt rfl (Qt rfl (Qt rfl (Qo rfl rfl (Qa rfl (Qt rfl (Qt rfl (Qo rfl rfl (Qa rfl (Qt rfl ?_)))))))))))
  refine Qt rfl (Qt rfl (Qt rfl (Qt rfl (Qt rfl (Qt rfl (Qt rfl (Qt rfl (Qo rfl rfl ?_))))))))
  refine hK _ _ (Qb (kp5 rfl rfl rfl rfl rfl) ?_)
  refine Zt rfl (Qf fun K hK => Qa rfl (Qa rfl ?_))
  refine hK _ _ (Qb (kp2 rfl rfl) ?_)
  refine Qu (Qj ?_)
  rw [Qej (by omega)]
  exact QS rfl rfl ⟨rfl, rfl⟩
 ·try rw [h1]
  try simp only [qa, qb, qc, qd, qe, List.length_map] at h1
  refine Qk rfl (Qa rfl (Qk rfl (Qh rfl rfl (Qk rfl (QA rfl rfl rfl (Qk rfl ?_))))))
  first | refine QQ rfl QW ?_ | refine QQ rfl rfl ?_
  refine Qk rfl (QeS rfl rfl (Qo rfl rfl (Qa rfl ?_)))
  refine QE (g := 20) rfl (fun h2 => ?_) (fun h2 => ?_)
  ·try rw [h2]
   try simp only [qa, qb, qc, qd, qe, List.length_map] at h2
   refine Qt rfl (Qt rfl (Qo rfl rfl (Qa rfl (Qt rfl (Qt rfl (Qt rfl (Qt rfl (Qt rfl (Qt rfl (Qt rfl (Qt rfl ?_)))))))))))
   refine Qt rfl (Qo rfl rfl ?_)
   refine hK _ _ (Qb (kp5 rfl rfl rfl rfl rfl) ?_)
   refine Zt rfl (Qf fun K hK => Qa rfl (Qa rfl ?_))
   refine hK _ _ (Qb (kp2 rfl rfl) ?_)
   refine Qu (Qj ?_)
   rw [Qej (by omega)]
   exact QS rfl rfl ⟨rfl, rfl⟩
  ·try rw [h2]
   try simp only [qa, qb, qc, qd, qe, List.length_map] at h2
   refine Qk rfl (Qa rfl (Qk rfl (Z6 rfl rfl (Qo rfl rfl (Qa rfl ?_)))))
   refine QE (g := 24) rfl (fun h3 => ?_) (fun h3 => ?_)
   ·try rw [h3]
    try simp only [qa, qb, qc, qd, qe, List.length_map] at h3
    refine Qt rfl (Qt rfl (Qt rfl (Qt rfl (Qt rfl (Qt rfl (Qt rfl (Qt rfl (Qt rfl (Qo rfl rfl ?_)))))))))
    refine hK _ _ (Qb (kp5 rfl rfl rfl rfl rfl) ?_)
    refine Zt rfl (Qf fun K hK => Qa rfl (Qa rfl ?_))
    refine hK _ _ (Qb (kp2 rfl rfl) ?_)
    refine Qu (Qj ?_)
    rw [Qej (by omega)]
    exact QS rfl rfl ⟨rfl, rfl⟩
   ·try rw [h3]
    try simp only [qa, qb, qc, qd, qe, List.length_map] at h3
    refine Qk rfl (Qa rfl (Qk rfl (Qh rfl rfl (Qk rfl (QA rfl rfl rfl (Qk rfl (Qa rfl (Qk rfl (QK rfl rfl rfl (by omega) (ZE (by omega) (by omega)) rfl (Qk rfl (Q9 rfl rfl ?_)))))))))))
    refine Qk rfl (QA rfl rfl rfl (Qk rfl ?_))
    first | refine QQ rfl QW ?_ | refine QQ rfl rfl ?_
    refine Qk rfl (QeS rfl rfl (Qo rfl rfl ?_))
    refine hK _ _ (Qb (kp5 rfl rfl rfl rfl rfl) ?_)
    refine Qw rfl (fun h4 => ?_) (fun h4 => ?_)
    ·try rw [h4]
     try simp only [qa, qb, qc, qd, qe, List.length_map] at h4
     refine Qf fun K hK => Qa rfl (Qa rfl ?_)
     refine hK _ _ (Qb (kp2 rfl rfl) ?_)
     refine Qu (Qj ?_)
     rw [Qk2 (by omega) (by omega) (by omega)]
     exact QS rfl rfl ⟨rfl, rfl⟩
    ·try rw [h4]
     try simp only [qa, qb, qc, qd, qe, List.length_map] at h4
     refine Qv (Qd (kp4 rfl rfl rfl rfl) (Qf fun K hK => Qa rfl (Qa rfl (QhX rfl (Qfh (by omega) (by have := hw.cs _ (List.getElem_mem (show u.toNat < w.length by omega)); omega)) (QoT rfl rfl (by omega) rfl (Qa rfl (QI (Yd hl) rfl rfl (.inr rfl) (Q2 rfl rfl rfl (QX rfl rfl (ZL rfl ?_))))))))))
     refine Q7 rfl rfl rfl rfl rfl rfl rfl rfl ?_
     refine hK _ _ (Qb (kp3 rfl rfl rfl) ?_)
     refine QB ?_ -- 1
     refine Qf fun K hK => QH (cs := [_]) rfl rfl rfl rfl (Qa rfl (QH (cs := [_, _, _, _]) rfl rfl rfl rfl (QI (QcJ (s := Qpa l u p) hw hl) rfl rfl (.inr rfl) (Ym rfl ?_))))
     refine hK _ _ (Qb (kp3 rfl rfl rfl) ?_)
     refine Qw rfl (fun h5 => ?_) (fun h5 => ?_)
     ·try rw [h5]
      try simp only [qa, qb, qc, qd, qe, List.length_map] at h5
      refine Qf fun K hK => Qa rfl (Qa rfl ?_)
      refine hK _ _ (Qb (kp2 rfl rfl) ?_)
      refine Qu (Qj ?_)
      rw [QlO h5]
      exact QS rfl rfl ⟨rfl, rfl⟩
     ·try rw [h5]
      try simp only [qa, qb, qc, qd, qe, List.length_map] at h5
      refine Qv (Qd (kp2 rfl rfl) (Qf fun K hK => Qa rfl (Qd9 (ds0 := [2, 1]) rfl rfl (fun _ h => ⟨Qlo, h⟩) rfl (.inl rfl) (by simp) (by simp; omega) (by simp; omega) rfl rfl (QN (ds0 := [3, 2, 1]) (cs := [_, _, _, _]) rfl rfl rfl rfl rfl rfl (QC rfl rfl (Qa0 (ds0 := [1]) rfl rfl (by simp [D.ids, D.sid]) ⟨_, rfl, rfl, rfl, rfl, rfl⟩ rfl rfl (by simp) rfl rfl (by simp; omega) (by simp; omega) rfl rfl (Qa rfl (Qa rfl ?_))))))))
      refine hK _ _ (Qb (kp2 rfl rfl) ?_)
      refine Qu ?_
      rw [Qk5 (by omega) (by omega) (by omega) (by omega) h5]
      exact Qf2 rfl rfl rfl (by simp) (by simp [Zz, Qid, Qpa]; rfl) rfl rfl
theorem QcH {w : Qp} (hw : WSm w) {l : List QO} (hl : l.length <= 10000000) {inc : List TermT} (hi : inc.length <= 1000000) : Ok Tryz.prog 45 [Z1 w, Zz l, ZK inc] (.bool (Qc7 w l inc)) := by
 refine Ok.ofT ZY Tryz.func45 QrM (Nat.le_of_ble_eq_true rfl) ?_
 show TW _ _ tf45.body _ _
 refine Qf fun K hK => Zv rfl rfl rfl (Qa rfl ?_)
 refine hK _ _ (Qb (kp3 rfl rfl rfl) ?_)
 refine QB ?_ -- 0
 refine Qf fun K hK => Qa rfl ?_
 refine hK _ _ (Qb (kp4 rfl rfl rfl rfl) ?_)
 refine Qz ?_
 refine Zj (ι := Nat) (fun i => ⟨[(1, Zz l), (2, ZK inc), (3, .ref 3 0 0), (7, .int .i64 i)], [(3, ⟨[[.sl ((w).map Yn)]], 1, 26, true⟩)]⟩) (fun i => i <= inc.length /\ (inc.take i).all (fun t => decide (Zw (Zd w l t.u) t.m = 2)) = true) (fun i => inc.length - i) 0 ?_ ?_ ?_
 ·exact Q1 (l := [1, 2, 3, 7]) (lH := [3]) (kp4 rfl rfl rfl rfl) (Qe rfl Ql) rfl rfl rfl
 ·exact ⟨Nat.zero_le _, by simp⟩
 intro i hI
 try dsimp only
 refine QB ?_ -- 1
 refine Qf fun K hK => Qa rfl (Qa rfl ?_)
 first | refine QQ rfl QW ?_ | refine QQ rfl rfl ?_
 refine Z6 rfl rfl ?_
 refine hK _ _ (Qb (kp5 rfl rfl rfl rfl rfl) ?_)
 refine Qw rfl (fun h1 => ?_) (fun h1 => ?_)
 ·try rw [h1]
  try simp only [qa, qb, qc, qd, qe, List.length_map] at h1
  refine Qv (Qd (kp4 rfl rfl rfl rfl) ?_)
  refine QB ?_ -- 2
  refine Qz (Qf fun K hK => QN (ds0 := [7, 1, 0]) (cs := [_]) rfl rfl rfl rfl rfl rfl (Qa rfl (Qa rfl (Qa rfl (QK rfl rfl rfl (by omega) (QV (by omega)) rfl (Q9 rfl rfl (QU (ds0 := [7, 1, 0]) rfl rfl rfl rfl rfl (QT (ds0 := [1, 0]) (ZC hw hl) rfl rfl (.inr rfl) rfl rfl (Qa rfl (Qa rfl ?_))))))))))
  refine QK rfl rfl rfl (by omega) (QV (by omega)) rfl (Q9 rfl rfl (QU (ds0 := [1, 0]) rfl rfl rfl rfl rfl (QT (ds0 := [0]) (XJ) rfl rfl (.inr rfl) rfl rfl (X8 rfl rfl ?_))))
  refine hK _ _ (Qb (kp5 rfl rfl rfl rfl rfl) ?_)
  refine Qw rfl (fun h2 => ?_) (fun h2 => ?_)
  ·try rw [h2]
   try simp only [qa, qb, qc, qd, qe, List.length_map] at h2
   refine Qf fun K hK => Qa rfl ?_
   refine hK _ _ (Qb (kp1 rfl) ?_)
   refine Qu (Qr (Qj (Q4 (Qr (Qj (Qs rfl ?_))))))
   rw [Qc7, XH (i := i) (by omega) (by simpa using h2)]
  ·try rw [h2]
   try simp only [qa, qb, qc, qd, qe, List.length_map] at h2
   refine Qv (Qg (Qd (kp4 rfl rfl rfl rfl) (QL fun K hK => Qa rfl (Q2 rfl rfl (by first | exact Qq (by omega) (by omega) | rfl) (Qa rfl (hK _ ?_))))))
   refine Qi (i + 1) ?_ ?_ ?_
   ·exact Q1 (l := [1, 2, 3, 7]) (lH := [3]) (kp4 rfl rfl rfl rfl) (Qe rfl Ql) rfl rfl rfl
   ·exact ⟨by omega, Ya (by omega) hI.2 (by simpa using h2)⟩
   ·first | omega | (simp only; omega) | (dsimp only; omega)
 ·try rw [h1]
  try simp only [qa, qb, qc, qd, qe, List.length_map] at h1
  refine Zh (QJ (Qx (QD (Qd (Q6) (Qf fun K hK => Qa rfl ?_)))))
  refine hK _ _ (Qb (kp1 rfl) ?_)
  refine Qu (Qs rfl ?_)
  rw [Qc7, Xx (i := i) (by omega) hI.2]
theorem QcI {w : Qp} (hw : WSm w) {l : List QO} (hl : l.length <= 10000000) {inc : List TermT} (hi : inc.length <= 1000000) : Ok Tryz.prog 46 [Z1 w, Zz l, ZK inc] (.int .i64 (Qc6 w l inc)) := by
 refine Ok.ofT ZY Tryz.func46 QrN (Nat.le_of_ble_eq_true rfl) ?_
 show TW _ _ tf46.body _ _
 refine Qf fun K hK => Zv rfl rfl rfl (Qa rfl ?_)
 refine hK _ _ (Qb (kp3 rfl rfl rfl) ?_)
 refine Qf fun K hK => Qa rfl ?_
 refine hK _ _ (Qb (kp4 rfl rfl rfl rfl) ?_)
 refine QB ?_ -- 0
 refine Qf fun K hK => Qa rfl ?_
 refine hK _ _ (Qb (kp5 rfl rfl rfl rfl rfl) ?_)
 refine Qz ?_
 refine Zj (ι := Nat × Int) (fun ⟨i, a⟩ => ⟨[(1, Zz l), (2, ZK inc), (3, .ref 3 0 0), (7, .int .i64 a), (8, .int .i64 i)], [(3, ⟨[[.sl ((w).map Yn)]], 1, 26, true⟩)]⟩) (fun ⟨i, a⟩ => i <= inc.length /\ ZF (Zd w l) inc (-1) = ZF (Zd w l) (inc.drop i) a) (fun ⟨i, a⟩ => inc.length - i) (0, -1) ?_ ?_ ?_
 ·exact Q1 (l := [1, 2, 3, 7, 8]) (lH := [3]) (kp5 rfl rfl rfl rfl rfl) (Qe rfl Ql) rfl rfl rfl
 ·exact ⟨Nat.zero_le _, by simp⟩
 intro ⟨i, a⟩ hI
 dsimp only at hI
 try dsimp only
 refine QB ?_ -- 1
 refine Qf fun K hK => Qa rfl (Qa rfl ?_)
 first | refine QQ rfl QW ?_ | refine QQ rfl rfl ?_
 refine Z6 rfl rfl ?_
 refine hK _ _ (Qb (kp6 rfl rfl rfl rfl rfl rfl) ?_)
 refine Qw rfl (fun h1 => ?_) (fun h1 => ?_)
 ·try rw [h1]
  try simp only [qa, qb, qc, qd, qe, List.length_map] at h1
  refine Qv (Qd (kp5 rfl rfl rfl rfl rfl) ?_)
  refine QB ?_ -- 2
  refine Qz (Qf fun K hK => QN (ds0 := [6, 0]) (cs := [_]) rfl rfl rfl rfl rfl rfl (Qa rfl (Qa rfl (Qa rfl (QK rfl rfl rfl (by omega) (QV (by omega)) rfl (Q9 rfl rfl (QU (ds0 := [6, 0]) rfl rfl rfl rfl rfl (QT (ds0 := [0]) (ZC hw hl) rfl rfl (.inr rfl) rfl rfl (Qa rfl (Qa rfl ?_))))))))))
  refine QK rfl rfl rfl (by omega) (QV (by omega)) rfl (Q9 rfl rfl (QU (ds0 := [0]) rfl rfl rfl rfl rfl (QT (ds0 := []) (XJ) rfl rfl (.inr rfl) rfl rfl ?_)))
  refine hK _ _ (Qb (kp6 rfl rfl rfl rfl rfl rfl) ?_)
  refine Qz (Qf fun K hK => ZO rfl rfl (Qa rfl ?_))
  refine hK _ _ (Qb (kp7 rfl rfl rfl rfl rfl rfl rfl) ?_)
  refine Qw rfl (fun h2 => ?_) (fun h2 => ?_)
  ·try rw [h2]
   try simp only [qa, qb, qc, qd, qe, List.length_map] at h2
   refine Qf fun K hK => Qa rfl ?_
   refine hK _ _ (Qb (kp1 rfl) ?_)
   refine Qu (Qr (Qr (Qj (Q4 (Qr (Qj (QG rfl ?_)))))))
   rw [Qc6, hI.2, Qbm (by omega), if_pos h2]
  ·try rw [h2]
   try simp only [qa, qb, qc, qd, qe, List.length_map] at h2
   refine Qf fun K hK => ZO rfl rfl (Qa rfl ?_)
   refine hK _ _ (Qb (kp6 rfl rfl rfl rfl rfl rfl) ?_)
   refine Qw rfl (fun h3 => ?_) (fun h3 => ?_)
   ·try rw [h3]
    try simp only [qa, qb, qc, qd, qe, List.length_map] at h3
    refine QB ?_ -- 3
    refine Qf fun K hK => Qa rfl (QeS rfl rfl ?_)
    refine hK _ _ (Qb (kp5 rfl rfl rfl rfl rfl) ?_)
    refine Qw rfl (fun h4 => ?_) (fun h4 => ?_)
    ·try rw [h4]
     try simp only [qa, qb, qc, qd, qe, List.length_map] at h4
     refine Qf fun K hK => Qa rfl ?_
     refine hK _ _ (Qb (kp1 rfl) ?_)
     refine Qu (Qj (Qr (Qr (Qj (Q4 (Qr (Qj (QG rfl ?_))))))))
     rw [Qc6, hI.2, Qbm (by omega), if_neg h2, if_pos h3, if_pos h4]
    ·try rw [h4]
     try simp only [qa, qb, qc, qd, qe, List.length_map] at h4
     refine Qv (Qd (kp4 rfl rfl rfl rfl) (QL fun K hK => Qa rfl (Qa rfl (QK rfl rfl rfl (by omega) (QV (by omega)) rfl (Q9 rfl rfl (QA rfl rfl rfl (Qa rfl (hK _ ?_))))))))
     refine Qg (Qg (Qd (kp5 rfl rfl rfl rfl rfl) (QL fun K hK => Qa rfl (Q2 rfl rfl (by first | exact Qq (by omega) (by omega) | rfl) (Qa rfl (hK _ ?_))))))
     refine Qi (i + 1, (inc[i]'(by omega)).u) ?_ ?_ ?_
     ·exact Q1 (l := [1, 2, 3, 7, 8]) (lH := [3]) (kp5 rfl rfl rfl rfl rfl) (Qe rfl Ql) rfl rfl rfl
     ·exact ⟨by omega, by rw [hI.2, Qbm (by omega), if_neg h2, if_pos h3, if_neg h4]⟩
     ·show inc.length - (i + 1) < inc.length - i; omega
   ·try rw [h3]
    try simp only [qa, qb, qc, qd, qe, List.length_map] at h3
    refine Qv (Qg (Qg (Qd (kp5 rfl rfl rfl rfl rfl) (QL fun K hK => Qa rfl (Q2 rfl rfl (by first | exact Qq (by omega) (by omega) | rfl) (Qa rfl (hK _ ?_)))))))
    refine Qi (i + 1, a) ?_ ?_ ?_
    ·exact Q1 (l := [1, 2, 3, 7, 8]) (lH := [3]) (kp5 rfl rfl rfl rfl rfl) (Qe rfl Ql) rfl rfl rfl
    ·exact ⟨by omega, by rw [hI.2, Qbm (by omega), if_neg h2, if_neg h3]⟩
    ·show inc.length - (i + 1) < inc.length - i; omega
 ·try rw [h1]
  try simp only [qa, qb, qc, qd, qe, List.length_map] at h1
  refine Zh (QJ (Qx (QD (Qd (kp1 rfl) (Qf fun K hK => Qa rfl (Qa rfl ?_))))))
  refine hK _ _ (Qb (kp1 rfl) ?_)
  refine Qu (QG rfl ?_)
  rw [Qc6, hI.2, QiI (by omega)]
theorem QcG {w : Qp} (hw : WSm w) {db : List (List TermT)} (hd : db.length <= 100000000) (hi : ∀ x ∈ db, x.length <= 1000000) {l : List QO} (hl : l.length <= 10000000) : Ok Tryz.prog 17 [Z1 w, dDb db, Zz l] (.tup [.int .i64 (Zy w db l).1, .int .i64 (Zy w db l).2]) := by
 refine Ok.ofT ZY Tryz.func17 Qrr (Nat.le_of_ble_eq_true rfl) ?_
 show TW _ _ tf17.body _ _
 refine Qf fun K hK => Zv rfl rfl rfl (Qa rfl (Qa rfl ?_))
 refine hK _ _ (Qb (kp3 rfl rfl rfl) ?_)
 refine QB ?_ -- 0
 refine Qf fun K hK => Qa rfl ?_
 refine hK _ _ (Qb (kp4 rfl rfl rfl rfl) ?_)
 refine Qz ?_
 refine Zj (ι := Nat) (fun i => ⟨[(1, dDb db), (2, Zz l), (3, .ref 3 0 0), (8, .int .i64 i)], [(3, ⟨[[.sl ((w).map Yn)]], 1, 26, true⟩)]⟩) (fun i => i <= db.length /\ Zy w db l = Yo w l i (db.drop i)) (fun i => db.length - i) 0 ?_ ?_ ?_
 ·exact Q1 (l := [1, 2, 3, 8]) (lH := [3]) (kp4 rfl rfl rfl rfl) (Qe rfl Ql) rfl rfl rfl
 ·exact ⟨Nat.zero_le _, rfl⟩
 intro i hI
 try dsimp only
 refine QB ?_ -- 1
 refine Qf fun K hK => Qa rfl (Qa rfl ?_)
 first | refine QQ rfl QW ?_ | refine QQ rfl rfl ?_
 refine Z6 rfl rfl ?_
 refine hK _ _ (Qb (kp5 rfl rfl rfl rfl rfl) ?_)
 refine Qw rfl (fun h1 => ?_) (fun h1 => ?_)
 ·try rw [h1]
  try simp only [qa, qb, qc, qd, qe, List.length_map] at h1
  refine Qv (Qd (kp4 rfl rfl rfl rfl) ?_)
  refine QB ?_ -- 2
  refine Qz ?_
  refine QB ?_ -- 3
  refine Qf fun K hK => QN (ds0 := [0]) (cs := [_]) rfl rfl rfl rfl rfl rfl (Qa rfl (Qa rfl (Qa rfl (QK rfl rfl rfl (by omega) (QV (by omega)) rfl (QU (ds0 := [0]) rfl rfl rfl rfl rfl (QT (ds0 := []) (QcH hw hl (hi _ (List.getElem_mem (by omega)))) rfl rfl (.inr rfl) rfl rfl ?_))))))
  refine hK _ _ (Qb (kp5 rfl rfl rfl rfl rfl) ?_)
  refine Qw rfl (fun h2 => ?_) (fun h2 => ?_)
  ·try rw [h2]
   try simp only [qa, qb, qc, qd, qe, List.length_map] at h2
   refine Qf fun K hK => Qa rfl (Qa rfl (Qa rfl ?_))
   refine hK _ _ (Qb (kp2 rfl rfl) ?_)
   refine Qu (Qj (Qr (Qj (Q4 (Qr (Qj ?_))))))
   rw [hI.2, QjI (by omega), if_pos h2]
   exact QS rfl rfl ⟨rfl, rfl⟩
  ·try rw [h2]
   try simp only [qa, qb, qc, qd, qe, List.length_map] at h2
   refine Qv (Qd (kp4 rfl rfl rfl rfl) (Qf fun K hK => QN (ds0 := [1, 0]) (cs := [_]) rfl rfl rfl rfl rfl rfl (Qa rfl (Qa rfl (Qa rfl (QK rfl rfl rfl (by omega) (QV (by omega)) rfl (QU (ds0 := [1, 0]) rfl rfl rfl rfl rfl (QT (ds0 := [0]) (QcI hw hl (hi _ (List.getElem_mem (by omega)))) rfl rfl (.inr rfl) rfl rfl (Qa rfl ?_)))))))))
   refine hK _ _ (Qb (kp5 rfl rfl rfl rfl rfl) ?_)
   refine Qf fun K hK => Qa rfl (QeS rfl rfl ?_)
   refine hK _ _ (Qb (kp6 rfl rfl rfl rfl rfl rfl) ?_)
   refine Qw rfl (fun h3 => ?_) (fun h3 => ?_)
   ·try rw [h3]
    try simp only [qa, qb, qc, qd, qe, List.length_map] at h3
    refine Qf fun K hK => Qa rfl (Qa rfl (Qa rfl (Qa rfl ?_)))
    refine hK _ _ (Qb (kp2 rfl rfl) ?_)
    refine Qu (Qr (Qj (Q4 (Qr (Qj ?_)))))
    rw [hI.2, QjI (by omega), if_neg (by rw [h2]; simp), if_pos h3]
    exact QS rfl rfl ⟨rfl, rfl⟩
   ·try rw [h3]
    try simp only [qa, qb, qc, qd, qe, List.length_map] at h3
    refine Qv (Qg (Qd (kp4 rfl rfl rfl rfl) (QL fun K hK => Qa rfl (Q2 rfl rfl (by first | exact Qq (by omega) (by omega) | rfl) (Qa rfl (hK _ ?_))))))
    refine Qi (i + 1) ?_ ?_ ?_
    ·exact Q1 (l := [1, 2, 3, 8]) (lH := [3]) (kp4 rfl rfl rfl rfl) (Qe rfl Ql) rfl rfl rfl
    ·exact ⟨by omega, by rw [hI.2, QjI (by omega), if_neg (by rw [h2]; simp), if_neg h3]⟩
    ·first | omega | (simp only; omega) | (dsimp only; omega)
 ·try rw [h1]
  try simp only [qa, qb, qc, qd, qe, List.length_map] at h1
  refine Zh (QJ (Qx (QD (Qd (Q6) (Qf fun K hK => Qa rfl (Qa rfl ?_))))))
  refine hK _ _ (Qb (kp2 rfl rfl) ?_)
  refine Qu ?_
  rw [hI.2, Qn7 (by omega)]
  exact QS rfl rfl ⟨rfl, rfl⟩
end Go.Proofs
namespace M25
open Go Go.Abs M3
def QlN (w : Qp) (i : Nat) : List (List TermT) := ((QbY w).take i).map RowT.t
theorem QbE {w : Qp} {i : Nat} (h : i < (QbY w).length) : QlN w (i + 1) = QlN w i ++ [(QbY w)[i].t] := by
 rw [QlN, List.take_succ_eq_append_getElem h, List.map_append]; rfl
theorem Qj6 {w : Qp} {i : Nat} (h : (QbY w).length <= i) : QlN w i = mDB w := by rw [QlN, List.take_of_length_le h]; rfl
theorem Qj5 (w : Qp) (i : Nat) : (QlN w i).length <= (QbY w).length := by rw [QlN, List.length_map]; exact List.length_take_le' ..
theorem QjW {w : Qp} (hw : WSm w) (h0 : 0 < w.length) : (QbY w).length <= 1600000 := by
 have := (Qca hw h0 w.length (Nat.le_refl _)).2
 have := hw.len
 rw [QbY]; omega
def Qpc (w : Qp) (l : List Int) (j : Nat) : TermT := ⟨mPl (l.getD (2 * j) 0) w.length, 1 + mPl (l.getD (2 * j + 1) 0) (YW w (mPl (l.getD (2 * j) 0) w.length))⟩
def Qgj (w : Qp) (l : List Int) : Nat -> List TermT
 | 0 => []
 | j + 1 => Qgj w l j ++ [Qpc w l j]
theorem QbS (w : Qp) (l : List Int) : ∀ j, (Qgj w l j).length = j
 | 0 => rfl
 | j + 1 => by rw [Qgj, List.length_append, QbS w l j]; rfl
theorem Qp3 (w : Qp) (l : List Int) (j : Nat) : Qgj w l (j + 1) = Qgj w l j ++ [Qpc w l j] := rfl
def QnS (w : Qp) (l : List Int) : List TermT := (QcS w (Qgj w l (min 4 (l.length / 2)))).getD []
theorem Qpi (w : Qp) (l : List Int) : IncOk w (QnS w l) := by
 unfold QnS
 cases h : QcS w (Qgj w l (min 4 (l.length / 2))) with
 | none => exact IncOk.nil w
 | some t => exact QdI h
theorem QlY {l : List Int} {k : Int} {j : Nat} (e : k.toNat = j) (h : j < l.length) : l[k.toNat]'(by omega) = l.getD j 0 := by
 subst e; rw [List.getD_eq_getElem?_getD, List.getElem?_eq_getElem h]; rfl
theorem QnH {w : Qp} {l : List Int} {j : Nat} (h : 2 * j + 1 < l.length) : Qpc w l j = ⟨mPl (l[(2 * (j : Int)).toNat]'(by omega)) w.length, 1 + mPl (l[(2 * (j : Int) + 1).toNat]'(by omega)) (YW w (mPl (l[(2 * (j : Int)).toNat]'(by omega)) w.length))⟩ := by
 rw [QlY (j := 2 * j) (by omega) (by omega), QlY (j := 2 * j + 1) (by omega) (by omega)]; rfl
theorem Qoh (v : Int) {n : Int} (h : n <= 131071) : IntKind.i64.wrap (1 + mPl v n) = 1 + mPl v n := by
 have h0 := QiD (v := v) (n := n)
 by_cases h1 : 1 <= n
 ·have := QiC (v := v) h1; exact Qq (by omega) (by omega)
 ·have : mPl v n = 0 := by rw [mPl, if_pos (by omega)]
  rw [this]; rfl
theorem QmR {w : Qp} {db : List (List TermT)} : ∀ (n : Nat) (out : List QO), (Qbo w db n out).1.length <= out.length + n
 | 0, out => Nat.le_refl _
 | n + 1, out => by
  rw [Qbo]
  split
  ·simp
  ·refine Nat.le_trans (QmR n _) ?_
   have := Qgs w out ⟨(Zy w db out).2, Qc5 w (db.getD (Zy w db out).1.toNat []) (Zy w db out).2⟩ (Zy w db out).1
   omega
theorem Qnd {v : Int} (h : (v + 1).toNat <= 61) : IntKind.i64.wrap ((1 : Int) * 2 ^ min (v + 1).toNat IntKind.i64.bits) = 2 ^ (v + 1).toNat := by
 rw [show min (v + 1).toNat IntKind.i64.bits = (v + 1).toNat from by simp only [IntKind.bits]; omega, Int.one_mul]
 have := QhD (i := (v + 1).toNat) (by omega)
 exact Qq (by omega) (by omega)
theorem Qm0 {α : Type} {f : α -> List D} {l : List α} {k : Int} (h : k = (l.length : Int)) : ((l.map f).take k.toNat).drop (((0 : Nat) : Int)).toNat = l.map f := by
 subst h; rw [Int.toNat_natCast, List.take_of_length_le (by simp)]; rfl
end M25
namespace Go.Proofs
open Go Go.Abs M3 M25
set_option linter.unusedVariables false
set_option linter.unusedSimpArgs false
theorem QcW {w : Qp} (hw : WSm w) {db : List (List TermT)} (hd : db.length <= 100000000) (hi : ∀ x ∈ db, x.length <= 1000000) {l : List QO} (hl : l.length <= 1000000) : Ok Tryz.prog 15 [Z1 w, dDb db, Zz l] (.tup [Zz (QaH w db l).1, .int .i64 (QaH w db l).2]) := by
 refine Ok.ofT ZY Tryz.func15 Qrp (Nat.le_of_ble_eq_true rfl) ?_
 show TW _ _ tf15.body _ _
 have hn := hw.len
 refine Qf fun K hK => Zv rfl rfl rfl (Qa rfl (Qa rfl ?_))
 refine hK _ _ (Qb (kp3 rfl rfl rfl) ?_)
 refine Qf fun K hK => Qa rfl (QlA rfl rfl (fun _ h => QkN Qlo h) rfl (.inl rfl) (by simp) (by simp; omega) (by simp; omega) (Qa rfl ?_))
 refine hK _ _ (Qb (kp3 rfl rfl rfl) ?_)
 refine QB ?_ -- 0
 refine Qf fun K hK => Qa rfl ?_
 refine hK _ _ (Qb (kp4 rfl rfl rfl rfl) ?_)
 refine Qz ?_
 refine Zj (ι := Nat × List QO) (fun ⟨n, out⟩ => ⟨[(1, dDb db), (3, .ref 3 0 0), (8, Zz out), (9, .int .i64 n)], [(3, ⟨[[.sl ((w).map Yn)]], 1, 26, true⟩)]⟩) (fun ⟨n, out⟩ => n <= w.length * 18 + 1 /\ out.length <= l.length + n /\ QaH w db l = Qbo w db (w.length * 18 + 1 - n) out) (fun ⟨n, out⟩ => w.length * 18 + 1 - n) (0, l) ?_ ?_ ?_
 ·exact le_trans (QfI (l := [1, 3, 9]) (lH := [3]) 13 8 (kp3 rfl rfl rfl) (Qe rfl Ql) rfl rfl rfl (by simp) rfl rfl rfl rfl) (Q1 (l := [1, 3, 8, 9]) (lH := [3]) (kp4 rfl rfl rfl rfl) (Qe rfl Ql) rfl rfl rfl)
 ·exact ⟨Nat.zero_le _, Nat.le_refl _, rfl⟩
 intro ⟨n, out⟩ hI
 obtain ⟨hI1, hI2, hI3⟩ := hI
 try dsimp only at hI1 hI2 hI3
 try dsimp only
 refine QB ?_ -- 1
 refine Qf fun K hK => Qa rfl (Qh rfl rfl (QA rfl rfl rfl ?_))
 first | refine QQ rfl QW ?_ | refine QQ rfl rfl ?_
 refine QoS rfl rfl (by first | exact Qq (by omega) (by omega) | rfl) (Qok rfl rfl ?_)
 refine hK _ _ (Qb (kp5 rfl rfl rfl rfl rfl) ?_)
 refine Qw rfl (fun h1 => ?_) (fun h1 => ?_)
 ·try rw [h1]
  try simp only [qa, qb, qc, qd, qe, List.length_map] at h1
  refine Qv (Qd (kp4 rfl rfl rfl rfl) ?_)
  refine QB ?_ -- 2
  refine Qz (Qf fun K hK => QH (cs := [_]) rfl rfl rfl rfl (Qa rfl (Qa rfl (QI (QcG hw hd hi (by omega)) rfl rfl (.inl rfl) (Qa rfl (QR rfl rfl (QR rfl rfl (Qa rfl (Qa rfl ?_)))))))))
  refine hK _ _ (Qb (kp6 rfl rfl rfl rfl rfl rfl) ?_)
  refine QB ?_ -- 3
  refine Qf fun K hK => Qa rfl (Z6 rfl rfl ?_)
  refine hK _ _ (Qb (kp7 rfl rfl rfl rfl rfl rfl rfl) ?_)
  refine Qw rfl (fun h2 => ?_) (fun h2 => ?_)
  ·try rw [h2]
   try simp only [qa, qb, qc, qd, qe, List.length_map] at h2
   try have hu := QiS h2
   refine Qf fun K hK => Qa rfl (Qa rfl (Qa rfl (Qa rfl ?_)))
   refine hK _ _ (Qb (kp2 rfl rfl) ?_)
   refine Qu (Qj (Qr (Qj (Q4 (Qr (Qj ?_))))))
   rw [hI3, Qcr h2 (by omega)]
   exact QS rfl rfl ⟨rfl, rfl⟩
  ·try rw [h2]
   try simp only [qa, qb, qc, qd, qe, List.length_map] at h2
   try have hu := QiS h2
   refine Qv (Qd (kp6 rfl rfl rfl rfl rfl rfl) (QL fun K hK => QN (ds0 := [4, 3, 2, 1, 0]) (cs := [_]) rfl rfl rfl rfl rfl rfl (Qa rfl (Qa rfl (QN (ds0 := [7, 6, 4, 3, 2, 1, 0]) (cs := [_]) rfl rfl rfl rfl rfl rfl (Qa rfl (Qa rfl (QK rfl rfl rfl (by omega) (ZE (by omega) (by omega)) rfl (QU (ds0 := [7, 6, 4, 3, 2, 1, 0]) rfl rfl rfl rfl rfl (Qa rfl ?_))))))))))
   refine QT (ds0 := [6, 4, 3, 2, 1, 0]) (YU hw (hi _ (List.getElem_mem (by omega)))) rfl rfl (.inr rfl) rfl rfl (QX rfl rfl (Qa rfl (QT (ds0 := [3, 2, 1, 0]) (QbD (t := ⟨(Zy w db out).2, Qc5 w (db[(Zy w db out).1.toNat]'(by omega)) (Zy w db out).2⟩) hw (by omega)) rfl rfl (.inl rfl) rfl rfl (Qa rfl (QR rfl rfl (QR rfl rfl (Qa rfl (hK _ ?_))))))))
   refine Qg (Qd (kp4 rfl rfl rfl rfl) (QL fun K hK => Qa rfl (Q2 rfl rfl (by first | exact Qq (by omega) (by omega) | rfl) (Qa rfl (hK _ ?_)))))
   refine Qi (n + 1, (Yl w out ⟨(Zy w db out).2, Qc5 w (db[(Zy w db out).1.toNat]'(by omega)) (Zy w db out).2⟩ (Zy w db out).1).getD []) ?_ ?_ ?_
   ·exact Q1 (l := [1, 3, 8, 9]) (lH := [3]) (kp4 rfl rfl rfl rfl) (Qe rfl Ql) rfl rfl rfl
   ·exact ⟨by omega, by have := Qgs w out ⟨(Zy w db out).2, Qc5 w (db[(Zy w db out).1.toNat]'(by omega)) (Zy w db out).2⟩ (Zy w db out).1; simp only; omega, by rw [hI3, QkJ h2 (by omega) (by omega), show w.length * 18 + 1 - (n + 1) = w.length * 18 + 1 - n - 1 by omega]⟩
   ·show w.length * 18 + 1 - (n + 1) < w.length * 18 + 1 - n; omega
 ·try rw [h1]
  try simp only [qa, qb, qc, qd, qe, List.length_map] at h1
  refine Zh (QJ (Qx (QD (Qd (kp1 rfl) (Qf fun K hK => Qa rfl (Qa rfl (Qa rfl ?_)))))))
  refine hK _ _ (Qb (kp2 rfl rfl) ?_)
  refine Qu ?_
  rw [hI3, show w.length * 18 + 1 - n = 0 by omega]
  exact QS rfl rfl ⟨rfl, rfl⟩
theorem Qdj {w : Qp} (hw : WSm w) {l : List Int} (hL : ∀ x ∈ l, I64 x) (hl : l.length <= 1000000) : Ok Tryz.prog 38 [Z1 w, Zo l] (ZK (QnS w l)) := by
 refine Ok.ofT ZY Tryz.func38 QrF (Nat.le_of_ble_eq_true rfl) ?_
 show TW _ _ tf38.body _ _
 have hn := hw.len
 refine Qf fun K hK => Zv rfl rfl rfl (Qa rfl ?_)
 refine hK _ _ (Qb (kp2 rfl rfl) ?_)
 refine Qf fun K hK => Qa rfl ?_
 refine hK _ _ (Qb (kp3 rfl rfl rfl) ?_)
 refine Qfj (ι := Unit) (fun _ => ⟨[(2, .ref 2 0 0), (5, ZK (Qgj w l (min 4 (l.length / 2))))], [(2, ⟨[[.sl ((w).map Yn)]], 1, 26, true⟩)]⟩) (fun _ => True) ?_ ?_
 ·skip
  refine Qf fun K hK => Qa rfl ?_
  refine hK _ _ (Qb (kp4 rfl rfl rfl rfl) ?_)
  refine Qz ?_
  refine Zj (ι := Nat) (fun j => ⟨[(1, Zo l), (2, .ref 2 0 0), (5, .osl 5 (Qgj w l j).length), (6, .int .i64 (2 * (j : Int)))], [(2, ⟨[[.sl ((w).map Yn)]], 1, 26, true⟩), (5, ⟨(Qgj w l j).map Qdr, 2, 56, true⟩)]⟩) (fun j => j <= min 4 (l.length / 2)) (fun j => min 4 (l.length / 2) - j) 0 ?_ ?_ ?_
  ·exact le_trans (Yf 5 5 2 56 rfl rfl) (Q1 (l := [1, 2, 5, 6]) (lH := [2, 5]) (kp4 rfl rfl rfl rfl) (Qe rfl (Qe rfl Ql)) rfl rfl rfl)
  ·exact Nat.zero_le _
  intro j hI
  have hlen := QbS w l j
  try dsimp only
  refine QB ?_ -- 1
  refine Qf fun K hK => Qa rfl (Q2 rfl rfl (by first | exact Qq (by omega) (by omega) | rfl) (Qa rfl ?_))
  first | refine QQ rfl QW ?_ | refine QQ rfl rfl ?_
  refine Z6 rfl rfl (Qa rfl ?_)
  refine QE (g := 15) rfl (fun h1 => ?_) (fun h1 => ?_)
  ·try rw [h1]
   try simp only [qa, qb, qc, qd, qe, List.length_map] at h1
   refine Qk rfl (Qa rfl (Qk rfl (Z6 rfl rfl (Qo rfl rfl ?_))))
   refine hK _ _ (Qb (kp5 rfl rfl rfl rfl rfl) ?_)
   refine Qw rfl (fun h2 => ?_) (fun h2 => ?_)
   ·try rw [h2]
    try simp only [qa, qb, qc, qd, qe, List.length_map] at h2
    refine Qv (Qd (kp4 rfl rfl rfl rfl) ?_)
    refine QB ?_ -- 2
    refine Qz (Qf fun K hK => Qa rfl (Qa rfl (QK rfl rfl rfl (by omega) (ZE (by omega) (by omega)) rfl (QU (ds0 := [1, 0]) rfl rfl rfl rfl rfl (Qh rfl rfl (QU (ds0 := [2, 1, 0]) rfl rfl rfl rfl rfl ?_))))))
    first | refine QQ rfl QW ?_ | refine QQ rfl rfl ?_
    refine QT (ds0 := [0]) (Z0 (by omega) (hL _ (List.getElem_mem (by omega)))) rfl rfl (.inr rfl) rfl rfl (Qa rfl ?_)
    refine hK _ _ (Qb (kp5 rfl rfl rfl rfl rfl) ?_)
    refine QL fun K hK => Qa rfl (Qa rfl (Qa rfl (Qa rfl (Q2 rfl rfl (by first | exact Qq (by omega) (by omega) | rfl) (QK rfl rfl rfl (by omega) (ZE (by omega) (by omega)) rfl (QU (ds0 := [5, 4, 3, 2, 1, 0]) rfl rfl rfl rfl rfl (QN (ds0 := [6, 5, 4, 3, 2, 1, 0]) (cs := [_]) rfl rfl rfl rfl rfl rfl (Qa rfl (QT (ds0 := [5, 4, 3, 2, 1, 0]) (ZB hw) rfl rfl (.inr rfl) rfl rfl (QT (ds0 := [4, 3, 2, 1, 0]) (Z0 (by have := QdF w (mPl (l[(2 * (j : Int)).toNat]'(by omega)) w.length); omega) (hL _ (List.getElem_mem (by omega)))) rfl rfl (.inr rfl) rfl rfl ?_))))))))))
    refine Q2 rfl rfl (Qoh _ (QdF _ _).2) (QX rfl rfl (QC rfl rfl (Qa0 (ds0 := [0]) rfl rfl (by simp [D.ids, D.sid]) ⟨_, rfl, rfl, rfl, rfl, rfl⟩ rfl rfl (by simp) rfl rfl (by simp; omega) (by simp; omega) rfl rfl (Qa rfl (hK _ ?_)))))
    refine Qg (Qd (kp4 rfl rfl rfl rfl) (QL fun K hK => Qa rfl (Q2 rfl rfl (by first | exact Qq (by omega) (by omega) | rfl) (Qa rfl (hK _ ?_)))))
    refine Qi (j + 1) ?_ ?_ ?_
    ·exact le_trans (QfJ (l := [1, 2, 6]) (lH := [2]) 43 5 5 (kp3 rfl rfl rfl) (Qe rfl Ql) rfl rfl rfl rfl rfl rfl rfl) (Q1 (l := [1, 2, 5, 6]) (lH := [2, 5]) (kp4 rfl rfl rfl rfl) (Qe rfl (Qe rfl Ql)) (by simp only [List.cons.injEq, Prod.mk.injEq, D.int.injEq, D.osl.injEq, true_and, and_true, QbS]; first | omega | (constructor <;> first | omega | rfl | (simp [QbS]; done))) (by rw [Qp3, List.map_append, QnH (by omega)]; rfl) rfl)
    ·show j + 1 <= _; omega
    ·show min 4 (l.length / 2) - (j + 1) < min 4 (l.length / 2) - j; omega
   ·try rw [h2]
    try simp only [qa, qb, qc, qd, qe, List.length_map] at h2
    refine Zh (QJ (Qx (QD ?_)))
    refine ZQ () ?_ ?_
    ·exact le_trans (QfI (l := [2]) (lH := [2]) 5 5 (kp1 rfl) (Qe rfl Ql) rfl rfl rfl (by first | (simp; done) | (simp; omega)) rfl rfl rfl rfl) (Q1 (l := [2, 5]) (lH := [2]) (kp2 rfl rfl) (Qe rfl Ql) (by rw [show min 4 (l.length / 2) = j by omega]; rfl) rfl rfl)
    ·exact trivial
  ·try rw [h1]
   try simp only [qa, qb, qc, qd, qe, List.length_map] at h1
   refine Qt rfl (Qt rfl (Qo rfl rfl ?_))
   refine hK _ _ (Qb (kp5 rfl rfl rfl rfl rfl) ?_)
   refine ZG rfl (Zh (QJ (Qx (QD ?_))))
   refine ZQ () ?_ ?_
   ·exact le_trans (QfI (l := [2]) (lH := [2]) 5 5 (kp1 rfl) (Qe rfl Ql) rfl rfl rfl (by first | (simp; done) | (simp; omega)) rfl rfl rfl rfl) (Q1 (l := [2, 5]) (lH := [2]) (kp2 rfl rfl) (Qe rfl Ql) (by rw [show min 4 (l.length / 2) = j by omega]; rfl) rfl rfl)
   ·exact trivial
 intro _ hJ
 try dsimp only
 refine Qf fun K hK => QH (cs := [_]) rfl rfl rfl rfl (Qa rfl (QI (XP hw (by rw [QbS]; omega)) rfl rfl (.inl rfl) (Qa rfl (QR rfl rfl (QR rfl rfl (Qa rfl (Qa rfl ?_)))))))
 refine hK _ _ (Qb (kp1 rfl) ?_)
 refine Qf fun K hK => Qa rfl (Qa rfl ?_)
 refine hK _ _ (Qb (kp1 rfl) ?_)
 refine Qu (Yg rfl ?_)
 rfl
theorem Xy {w : Qp} (hw : WSm w) (h0 : 0 < w.length) : Ok Tryz.prog 30 [Z1 w, Zo []] (dDb (mDB w)) := by
 refine Ok.ofT ZY Tryz.func30 Qrf (Nat.le_of_ble_eq_true rfl) ?_
 show TW _ _ tf30.body _ _
 have hn := QjW hw h0
 refine Qf fun K hK => Zv rfl rfl rfl (Qa rfl ?_)
 refine hK _ _ (Qb (kp2 rfl rfl) ?_)
 refine Qf fun K hK => QH (cs := [_]) rfl rfl rfl rfl (QI (X9 hw) rfl rfl (.inl rfl) (Qa rfl ?_))
 refine hK _ _ (Qb (kp3 rfl rfl rfl) ?_)
 refine Qf fun K hK => Qa rfl ?_
 refine hK _ _ (Qb (kp4 rfl rfl rfl rfl) ?_)
 refine QB ?_ -- 0
 refine Qf fun K hK => Qa rfl ?_
 refine hK _ _ (Qb (kp5 rfl rfl rfl rfl rfl) ?_)
 refine Qz ?_
 refine Zj (ι := Nat) (fun i => ⟨[(1, Zo []), (2, .ref 2 0 0), (5, Qo8 (QbY w)), (6, .osl 6 (QlN w i).length), (7, .int .i64 i)], [(2, ⟨[[.sl ((w).map Yn)]], 1, 26, true⟩), (6, ⟨(QlN w i).map (fun t => [ZK t]), 1, 39, true⟩)]⟩) (fun i => i <= (QbY w).length) (fun i => (QbY w).length - i) 0 ?_ ?_ ?_
 ·exact le_trans (Yf 6 6 1 39 rfl rfl) (Q1 (l := [1, 2, 5, 6, 7]) (lH := [2, 6]) (kp5 rfl rfl rfl rfl rfl) (Qe rfl (Qe rfl Ql)) rfl rfl rfl)
 ·exact Nat.zero_le _
 intro i hI
 have hlen := Qj5 w i
 try dsimp only
 refine QB ?_ -- 1
 refine Qf fun K hK => Qa rfl (Qa rfl ?_)
 first | refine QQ rfl QW ?_ | refine QQ rfl rfl ?_
 refine Z6 rfl rfl ?_
 refine hK _ _ (Qb (kp6 rfl rfl rfl rfl rfl rfl) ?_)
 refine Qw rfl (fun h1 => ?_) (fun h1 => ?_)
 ·try rw [h1]
  try simp only [qa, qb, qc, qd, qe, List.length_map, List.length_nil] at h1
  refine Qv (Qd (kp5 rfl rfl rfl rfl rfl) ?_)
  refine QB ?_ -- 2
  refine Qz (QL fun K hK => Qa rfl (Qa rfl (Qa rfl (QK rfl rfl rfl (by omega) (QV (by omega)) rfl (Q9 rfl rfl (QA rfl rfl rfl (QC rfl rfl (Xe rfl rfl (fun _ h => YY rfl rfl rfl h) rfl (by simp) rfl rfl rfl (by simp; omega) (by simp; omega) (Qa rfl (hK _ ?_))))))))))
  refine Qg (Qd (kp5 rfl rfl rfl rfl rfl) (QL fun K hK => Qa rfl (Q2 rfl rfl (by first | exact Qq (by omega) (by omega) | rfl) (Qa rfl (hK _ ?_)))))
  refine Qi (i + 1) ?_ ?_ ?_
  ·exact Q1 (l := [1, 2, 5, 6, 7]) (lH := [2, 6]) (kp5 rfl rfl rfl rfl rfl) (Qe rfl (Qe rfl Ql)) (by first | (rw [QbE (by omega)]; done) | (rw [QbE (by omega)]; rfl) | (rw [QbE (by omega), List.length_append]; rfl) | (simp [QbE (by omega)]; done) | (simp [QbE (by omega)]; omega) | rfl) (by first | (rw [QbE (by omega)]; done) | (rw [QbE (by omega)]; rfl) | (rw [QbE (by omega), List.map_append]; rfl) | (simp [QbE (by omega)]; done) | rfl) rfl
  ·omega
  ·first | omega | (simp only; omega) | (dsimp only; omega)
 ·try rw [h1]
  try simp only [qa, qb, qc, qd, qe, List.length_map, List.length_nil] at h1
  refine Zh (QJ (Qx (QD (Qd (kp3 rfl rfl rfl) ?_))))
  refine QB ?_ -- 3
  refine Qf fun K hK => Qa rfl ?_
  refine hK _ _ (Qb (kp4 rfl rfl rfl rfl) ?_)
  refine Qz ?_
  refine Zj (ι := Unit) (fun _ => ⟨[(1, Zo []), (2, .ref 2 0 0), (6, .osl 6 (mDB w).length), (8, .int .i64 0)], [(2, ⟨[[.sl ((w).map Yn)]], 1, 26, true⟩), (6, ⟨(mDB w).map (fun t => [ZK t]), 1, 39, true⟩)]⟩) (fun _ => True) (fun _ => 0) () ?_ ?_ ?_
  ·exact Q1 (l := [1, 2, 6, 8]) (lH := [2, 6]) (kp4 rfl rfl rfl rfl) (Qe rfl (Qe rfl Ql)) (by rw [Qj6 (by omega)]) (by rw [Qj6 (by omega)]) rfl
  ·trivial
  intro _ hJ
  try dsimp only
  refine QB ?_ -- 4
  refine Qf fun K hK => Qa rfl (Qa rfl ?_)
  first | refine QQ rfl QW ?_ | refine QQ rfl rfl ?_
  refine Z6 rfl rfl (Qa rfl ?_)
  refine QE (g := 31) rfl (fun h2 => ?_) (fun h2 => ?_)
  ·try rw [h2]
   try simp only [qa, qb, qc, qd, qe, List.length_map, List.length_nil] at h2
   exact absurd h2 (by decide)
  ·try rw [h2]
   try simp only [qa, qb, qc, qd, qe, List.length_map, List.length_nil] at h2
   refine Qt rfl (Qt rfl (Qt rfl (Qt rfl (Qt rfl (Qo rfl rfl ?_)))))
   refine hK _ _ (Qb (kp5 rfl rfl rfl rfl rfl) ?_)
   refine ZG rfl (Zh (QJ (Qx (QD (Qd (kp1 rfl) (Qf fun K hK => Qa rfl (Qa rfl ?_)))))))
   refine hK _ _ (Qb (kp1 rfl) ?_)
   refine Qu ?_
   exact Qaz rfl rfl rfl (by simp) (by rfl)
theorem QkZ {v : Int} (h0 : -1 <= v) (h1v : v <= 60) : Ok Tryz.prog 86 [.int .i64 v] (.int .i64 (2 ^ (v + 1).toNat)) := by
 refine Ok.ofT ZY Tryz.func86 Qso (Nat.le_of_ble_eq_true rfl) ?_
 show TW _ _ tf86.body _ _
 refine Qf fun K hK => Qa rfl ?_
 refine hK _ _ (Qb (kp1 rfl) ?_)
 refine Qf fun K hK => Qa rfl (Q2 rfl rfl (by first | exact Qq (by omega) (by omega) | rfl) (QoT rfl rfl (by omega) (Qnd (by omega)) (Qa rfl ?_)))
 refine hK _ _ (Qb (kp1 rfl) ?_)
 refine Qu (QG rfl ?_)
 rfl
theorem Qk0 {w : Qp} (hw : WSm w) {u : Int} : Ok Tryz.prog 85 [Z1 w, .int .i64 u] (.bool (inW w u)) := by
 refine Ok.ofT ZY Tryz.func85 Qsn (Nat.le_of_ble_eq_true rfl) ?_
 show TW _ _ tf85.body _ _
 refine Qf fun K hK => Zv rfl rfl rfl (Qa rfl ?_)
 refine hK _ _ (Qb (kp2 rfl rfl) ?_)
 refine Qf fun K hK => Qa rfl (QeS rfl rfl (Qa rfl ?_))
 refine QE (g := 7) rfl (fun h1 => ?_) (fun h1 => ?_)
 ·try rw [h1]
  try simp only [qa, qb, qc, qd, qe, List.length_map] at h1
  refine Qk rfl (Qa rfl (Qk rfl (Qh rfl rfl (Qk rfl (QA rfl rfl rfl (Qk rfl ?_))))))
  first | refine QQ rfl QW ?_ | refine QQ rfl rfl ?_
  refine Qk rfl (Z6 rfl rfl (Qo rfl rfl (Qa rfl ?_)))
  refine hK _ _ (Qb (kp1 rfl) ?_)
  refine Qu (Qs rfl ?_)
  first | rfl | (rw [Qbe (by omega)]; done) | (rw [inW, decide_eq_true h1, Bool.true_and])
 ·try rw [h1]
  try simp only [qa, qb, qc, qd, qe, List.length_map] at h1
  refine Qt rfl (Qt rfl (Qt rfl (Qt rfl (Qt rfl (Qo rfl rfl (Qa rfl ?_))))))
  refine hK _ _ (Qb (kp1 rfl) ?_)
  refine Qu (Qs rfl ?_)
  first | rfl | (rw [Qbe (by omega)]; done) | (rw [inW, decide_eq_true h1, Bool.true_and])
theorem Qc1 {w : Qp} (hw : WSm w) {u : Int} : Ok Tryz.prog 63 [Z1 w, .int .i64 u] (.int .i64 (YW w u)) := by
 refine Ok.ofT ZY Tryz.func63 Qr2 (Nat.le_of_ble_eq_true rfl) ?_
 show TW _ _ tf63.body _ _
 refine Qf fun K hK => Zv rfl rfl rfl (Qa rfl ?_)
 refine hK _ _ (Qb (kp2 rfl rfl) ?_)
 refine QB ?_ -- 0
 refine Qf fun K hK => QH (cs := [_]) rfl rfl rfl rfl (Qa rfl (QI (Qk0 hw) rfl rfl (.inr rfl) (Ym rfl ?_)))
 refine hK _ _ (Qb (kp3 rfl rfl rfl) ?_)
 refine Qw rfl (fun h1 => ?_) (fun h1 => ?_)
 ·try rw [h1]
  try simp only [qa, qb, qc, qd, qe, List.length_map] at h1
  try have h1b := QbR.1 h1
  refine Qf fun K hK => Qa rfl ?_
  refine hK _ _ (Qb (kp1 rfl) ?_)
  refine Qu (Qj (QG rfl ?_))
  rw [Qfy.2 h1]
 ·try rw [h1]
  try simp only [qa, qb, qc, qd, qe, List.length_map] at h1
  try have h1b := QbR.1 h1
  refine Qv (Qd (kp2 rfl rfl) (Qf fun K hK => Qh rfl rfl (QA rfl rfl rfl (Qa rfl (QK rfl rfl rfl (by omega) (ZE (by omega) (by omega)) rfl (Q9 rfl rfl (QA rfl rfl rfl ?_)))))))
  first | refine QQ rfl QW ?_ | refine QQ rfl rfl ?_
  refine QI (QkZ (by omega) (by have := hw.cs _ (List.getElem_mem (show u.toNat < w.length by omega)); omega)) rfl rfl (.inr rfl) (QaD rfl rfl (Qi5 (by have := hw.cs _ (List.getElem_mem (show u.toNat < w.length by omega)); omega)) (Qa rfl ?_))
  refine hK _ _ (Qb (kp1 rfl) ?_)
  refine Qu (QG rfl ?_)
  rw [Qhv h1b.1 h1b.2, show min (w[u.toNat]'(by omega)).cs.length 16 = (w[u.toNat]'(by omega)).cs.length from Nat.min_eq_left (hw.cs _ (List.getElem_mem _)), Qnc]
theorem Qh7 {w : Qp} (hw : WSm w) {l : List QO} (hl : l.length <= 10000000) {u : Int} : Ok Tryz.prog 88 [Z1 w, Zz l, .int .i64 u] (.int .i64 (Qb2 w l u)) := by
 refine Ok.ofT ZY Tryz.func88 Qsq (Nat.le_of_ble_eq_true rfl) ?_
 show TW _ _ tf88.body _ _
 refine Qf fun K hK => Zv rfl rfl rfl (Qa rfl ?_)
 refine hK _ _ (Qb (kp3 rfl rfl rfl) ?_)
 refine QB ?_ -- 0
 refine Qf fun K hK => Qa rfl ?_
 first | refine QQ rfl QW ?_ | refine QQ rfl rfl ?_
 refine QaD rfl rfl (by first | exact Qq (by omega) (by omega) | rfl) (Qa rfl ?_)
 refine hK _ _ (Qb (kp4 rfl rfl rfl rfl) ?_)
 refine Qz ?_
 refine Zj (ι := Nat) (fun i => ⟨[(1, Zz l), (2, .int .i64 u), (3, .ref 3 0 0), (7, .int .i64 ((i : Int) - 1))], [(3, ⟨[[.sl ((w).map Yn)]], 1, 26, true⟩)]⟩) (fun i => i <= l.length /\ Qb2 w l u = Qb2 w (l.take i) u) (fun i => i) l.length ?_ ?_ ?_
 ·exact Q1 (l := [1, 2, 3, 7]) (lH := [3]) (kp4 rfl rfl rfl rfl) (Qe rfl Ql) rfl rfl rfl
 ·exact ⟨Nat.le_refl _, by rw [List.take_length]⟩
 intro i hI
 try dsimp only
 refine QB ?_ -- 1
 refine Qf fun K hK => Qa rfl (QeS rfl rfl ?_)
 refine hK _ _ (Qb (kp5 rfl rfl rfl rfl rfl) ?_)
 refine Qw rfl (fun h1 => ?_) (fun h1 => ?_)
 ·try rw [h1]
  try simp only [qa, qb, qc, qd, qe, List.length_map] at h1
  refine Qv (Qd (kp4 rfl rfl rfl rfl) ?_)
  refine QB ?_ -- 2
  refine Qz (Qf fun K hK => Qa rfl (Qa rfl (QK rfl rfl rfl (by omega) (ZE (by omega) (by omega)) rfl (Q9 rfl rfl (QA rfl rfl rfl (Qa rfl (ZO rfl rfl ?_)))))))
  refine hK _ _ (Qb (kp5 rfl rfl rfl rfl rfl) ?_)
  refine Qw rfl (fun h2 => ?_) (fun h2 => ?_)
  ·try rw [h2]
   try simp only [qa, qb, qc, qd, qe, List.length_map] at h2
   refine Qf fun K hK => Qa rfl (Qa rfl (QK rfl rfl rfl (by omega) (ZE (by omega) (by omega)) rfl (Q9 rfl rfl (QA rfl rfl rfl (Qa rfl ?_)))))
   refine hK _ _ (Qb (kp1 rfl) ?_)
   refine Qu (Qr (Qj (Q4 (Qr (Qj (QG rfl ?_))))))
   rw [hI.2, Qmf (k := ((i : Int) - 1).toNat) (by omega) (by omega) h2]
  ·try rw [h2]
   try simp only [qa, qb, qc, qd, qe, List.length_map] at h2
   refine Qv (Qg (Qd (kp4 rfl rfl rfl rfl) (QL fun K hK => Qa rfl (QaD rfl rfl (by first | exact Qq (by omega) (by omega) | rfl) (Qa rfl (hK _ ?_))))))
   refine Qi (i - 1) ?_ ?_ ?_
   ·exact Q1 (l := [1, 2, 3, 7]) (lH := [3]) (kp4 rfl rfl rfl rfl) (Qe rfl Ql) (by simp only [List.cons.injEq, Prod.mk.injEq, D.int.injEq, and_true, true_and]; omega) rfl rfl
   ·exact ⟨by omega, by rw [hI.2, Qlf (k := ((i : Int) - 1).toNat) (by omega) (by omega) h2]⟩
   ·first | omega | (simp only; omega) | (dsimp only; omega)
 ·try rw [h1]
  try simp only [qa, qb, qc, qd, qe, List.length_map] at h1
  refine Zh (QJ (Qx (QD (Qd (kp2 rfl rfl) (Qf fun K hK => QH (cs := [_]) rfl rfl rfl rfl (Qa rfl (QI (Qc1 hw) rfl rfl (.inr rfl) (Qa rfl ?_))))))))
  refine hK _ _ (Qb (kp1 rfl) ?_)
  refine Qu (QG rfl ?_)
  rw [hI.2, show i = 0 by omega]; rfl
theorem Qh6 {w : Qp} (hw : WSm w) {l : List QO} (hl : l.length <= 10000000) {u : Int} : Ok Tryz.prog 65 [Z1 w, Zz l, .int .i64 u] (.int .i64 (Zd w l u)) := by
 refine Ok.ofT ZY Tryz.func65 Qr4 (Nat.le_of_ble_eq_true rfl) ?_
 show TW _ _ tf65.body _ _
 refine Qf fun K hK => Zv rfl rfl rfl (Qa rfl ?_)
 refine hK _ _ (Qb (kp3 rfl rfl rfl) ?_)
 refine QB ?_ -- 0
 refine Qf fun K hK => QH (cs := [_]) rfl rfl rfl rfl (Qa rfl (QI (Qc1 hw) rfl rfl (.inr rfl) (ZO rfl rfl ?_)))
 refine hK _ _ (Qb (kp4 rfl rfl rfl rfl) ?_)
 refine Qw rfl (fun h1 => ?_) (fun h1 => ?_)
 ·try rw [h1]
  try simp only [qa, qb, qc, qd, qe, List.length_map] at h1
  refine Qf fun K hK => Qa rfl ?_
  refine hK _ _ (Qb (kp1 rfl) ?_)
  refine Qu (Qj (QG rfl ?_))
  rw [QdC (Qfy.1 h1)]
 ·try rw [h1]
  try simp only [qa, qb, qc, qd, qe, List.length_map] at h1
  refine Qv (Qd (kp3 rfl rfl rfl) (Qf fun K hK => QH (cs := [_]) rfl rfl rfl rfl (Qa rfl (Qa rfl (QI (Qh7 hw hl) rfl rfl (.inr rfl) (Qa rfl ?_))))))
  refine hK _ _ (Qb (kp1 rfl) ?_)
  refine Qu (QG rfl ?_)
  rw [QnN (by simpa using fun e => h1 (Qfy.2 e))]
theorem Qg6 {l : List QO} (hl : l.length <= 10000000) : Ok Tryz.prog 67 [Zz l] (.int .i64 (Xs l)) := by
 refine Ok.ofT ZY Tryz.func67 Qr6 (Nat.le_of_ble_eq_true rfl) ?_
 show TW _ _ tf67.body _ _
 refine Qf fun K hK => Qa rfl ?_
 refine hK _ _ (Qb (kp1 rfl) ?_)
 refine QB ?_ -- 0
 refine Qf fun K hK => Qa rfl ?_
 first | refine QQ rfl QW ?_ | refine QQ rfl rfl ?_
 refine ZO rfl rfl ?_
 refine hK _ _ (Qb (kp2 rfl rfl) ?_)
 refine Qw rfl (fun h1 => ?_) (fun h1 => ?_)
 ·try rw [h1]
  try simp only [qa, qb, qc, qd, qe, List.length_map] at h1
  refine Qf fun K hK => Qa rfl ?_
  refine hK _ _ (Qb (kp1 rfl) ?_)
  refine Qu (Qj (QG rfl ?_))
  rw [Qiv h1]
 ·try rw [h1]
  try simp only [qa, qb, qc, qd, qe, List.length_map] at h1
  refine Qv (Qd (kp1 rfl) (Qf fun K hK => Qa rfl (Qa rfl ?_)))
  first | refine QQ rfl QW ?_ | refine QQ rfl rfl ?_
  refine QaD rfl rfl (by first | exact Qq (by omega) (by omega) | rfl) (QK rfl rfl rfl (by omega) (ZE (by omega) (by omega)) rfl (Q9 rfl rfl (QA rfl rfl rfl (Qa rfl ?_))))
  refine hK _ _ (Qb (kp1 rfl) ?_)
  refine Qu (QG rfl ?_)
  rw [Qkl (k := ((l.length : Int) - 1).toNat) (by omega)]
theorem Qk1 {l : List QO} (hl : l.length <= 10000000) {s : QO} : Ok Tryz.prog 66 [Zz l, .agg (Qid s)] (Zz (l ++ [s])) := by
 refine Ok.ofT ZY Tryz.func66 Qr5 (Nat.le_of_ble_eq_true rfl) ?_
 show TW _ _ tf66.body _ _
 refine Qf fun K hK => Zv rfl rfl rfl (Qa rfl ?_)
 refine hK _ _ (Qb (kp2 rfl rfl) ?_)
 refine Qf fun K hK => Qa rfl (Qa rfl ?_)
 first | refine QQ rfl QW ?_ | refine QQ rfl rfl ?_
 refine Qa rfl ?_
 first | refine QQ rfl QW ?_ | refine QQ rfl rfl ?_
 refine Qnn rfl rfl rfl rfl rfl (by omega) (by omega) (by simp) Qlo (Qm0 rfl) (QN (ds0 := [2, 1, 0]) (cs := [_, _, _, _]) rfl rfl rfl rfl rfl rfl (QC rfl rfl (Qd9 (ds0 := [0]) rfl rfl (fun _ h => YY rfl rfl rfl h) rfl (.inr (by simp)) Qlo (by simp; omega) (by simp; omega) rfl rfl (Qa rfl ?_))))
 refine hK _ _ (Qb (kp1 rfl) ?_)
 refine Qu ?_
 exact Qaz rfl rfl rfl (by simp) (by simp [Zz, Qid])
theorem Qgg {w : Qp} (hw : WSm w) {l : List QO} (hl : l.length <= 10000000) (hp : YO w l) {t : TermT} {c : Int} : Ok Tryz.prog 43 [Z1 w, Zz l, .agg (Qdr t), .int .i64 c] (dOS (Yl w l t c)) := by
 refine Ok.ofT ZY Tryz.func43 QrK (Nat.le_of_ble_eq_true rfl) ?_
 show TW _ _ tf43.body _ _
 refine Qf fun K hK => Zv rfl rfl rfl (Zv rfl rfl rfl (Qa rfl (Qa rfl ?_)))
 refine hK _ _ (Qb (kp4 rfl rfl rfl rfl) ?_)
 refine Qf fun K hK => QH (cs := [_]) rfl rfl rfl rfl (Qa rfl (Qh rfl rfl (QA rfl rfl rfl (QI (Qh6 hw hl) rfl rfl (.inr rfl) (Qa rfl ?_)))))
 refine hK _ _ (Qb (kp4 rfl rfl rfl rfl) ?_)
 refine QB ?_ -- 0
 refine Qf fun K hK => Qa rfl (Z6 rfl rfl (Qa rfl ?_))
 refine QE (g := 18) rfl (fun h1 => ?_) (fun h1 => ?_)
 ·try rw [h1]
  try simp only [qa, qb, qc, qd, qe, List.length_map] at h1
  refine Qt rfl (Qt rfl (Qt rfl (Qt rfl (Qt rfl (Qo rfl rfl (Qa rfl (Qt rfl (Qt rfl (Qt rfl (Qt rfl (Qt rfl ?_)))))))))))
  refine Qo rfl rfl ?_
  refine hK _ _ (Qb (kp5 rfl rfl rfl rfl rfl) ?_)
  refine Zt rfl (Qf fun K hK => Qa rfl (Qa rfl ?_))
  refine hK _ _ (Qb (kp2 rfl rfl) ?_)
  refine Qu (Qj ?_)
  rw [Qcf (.inl h1)]
  exact QS rfl rfl ⟨rfl, rfl⟩
 ·try rw [h1]
  try simp only [qa, qb, qc, qd, qe, List.length_map] at h1
  refine Qk rfl (Qa rfl (Qk rfl (Qh rfl rfl (Qk rfl (QA rfl rfl rfl (Qk rfl (Qd8 rfl rfl (Qk rfl (ZO rfl rfl (Qo rfl rfl (Qa rfl ?_)))))))))))
  refine QE (g := 25) rfl (fun h2 => ?_) (fun h2 => ?_)
  ·try rw [h2]
   try simp only [qa, qb, qc, qd, qe, List.length_map] at h2
   refine Qt rfl (Qt rfl (Qt rfl (Qt rfl (Qt rfl (Qo rfl rfl ?_)))))
   refine hK _ _ (Qb (kp5 rfl rfl rfl rfl rfl) ?_)
   refine Zt rfl (Qf fun K hK => Qa rfl (Qa rfl ?_))
   refine hK _ _ (Qb (kp2 rfl rfl) ?_)
   refine Qu (Qj ?_)
   rw [QlP hp h2]
   exact QS rfl rfl ⟨rfl, rfl⟩
  ·try rw [h2]
   try simp only [qa, qb, qc, qd, qe, List.length_map] at h2
   refine Qk rfl (Qa rfl (Qk rfl (Qh rfl rfl (Qk rfl (QA rfl rfl rfl (Qk rfl (QeZ rfl rfl (Qk rfl (ZO rfl rfl (Qo rfl rfl ?_))))))))))
   refine hK _ _ (Qb (kp5 rfl rfl rfl rfl rfl) ?_)
   refine Qw rfl (fun h3 => ?_) (fun h3 => ?_)
   ·try rw [h3]
    try simp only [qa, qb, qc, qd, qe, List.length_map] at h3
    refine Qf fun K hK => Qa rfl (Qa rfl ?_)
    refine hK _ _ (Qb (kp2 rfl rfl) ?_)
    refine Qu (Qj ?_)
    rw [QlQ h3]
    exact QS rfl rfl ⟨rfl, rfl⟩
   ·try rw [h3]
    try simp only [qa, qb, qc, qd, qe, List.length_map] at h3
    refine Qv (Qd (kp4 rfl rfl rfl rfl) (Qf fun K hK => Qa rfl (Qh rfl rfl (QU (ds0 := [3, 2, 1]) rfl rfl rfl rfl rfl (Qa rfl (Qh rfl rfl (QU (ds0 := [7, 3, 2, 1]) rfl rfl rfl rfl rfl (QeZ rfl rfl (Qa rfl (QT (ds0 := [3, 2, 1]) (Qg6 hl) rfl rfl (.inr rfl) rfl rfl ?_))))))))))
    refine Qa rfl (QX rfl rfl (QT (ds0 := [1]) (Qk1 (s := ⟨t.u, Qe3 (Zd w l t.u) t.m, Xs l, c⟩) hl) rfl rfl (.inl rfl) rfl rfl (Qa rfl (Qa rfl ?_))))
    refine hK _ _ (Qb (kp2 rfl rfl) ?_)
    refine Qu ?_
    rw [Qie hp (by omega) h2 h3]
    exact QS rfl rfl ⟨rfl, rfl⟩
end Go.Proofs
namespace M25
open Go Go.Abs M3
/-! ### prop: what is left of each unit, scans -/
def ZR (w : Qp) (l : List QO) : List Int := (List.range w.length).map fun k => Zd w l ((k : Nat) : Int)
theorem QaU (w : Qp) (l : List QO) : (ZR w l).length = w.length := by simp [ZR]
def Qc4 (w : Qp) (i : Nat) : List Int := (List.range w.length).map fun k => if k < i then YW w ((k : Nat) : Int) else 0
theorem Qir (w : Qp) (i : Nat) : (Qc4 w i).length = w.length := by simp [Qc4]
theorem Qle (w : Qp) : Qc4 w 0 = List.replicate w.length 0 := by
  refine List.ext_getElem (by simp [Qc4]) fun i h1 h2 => ?_
  simp [Qc4]
theorem Qkg {w : Qp} {i : Nat} : Qc4 w (i + 1) = (Qc4 w i).set i (YW w ((i : Nat) : Int)) := by
  refine List.ext_getElem (by simp [Qc4]) fun k h1 h2 => ?_
  rw [List.getElem_set]
  simp only [Qc4, List.getElem_map, List.getElem_range]
  by_cases e : i = k
  · subst e; simp
  · rw [if_neg e]
    by_cases h : k < i
    · rw [if_pos h, if_pos (by omega)]
    · rw [if_neg h, if_neg (by omega)]
theorem Qiq (w : Qp) {i : Nat} (h : w.length <= i) : Qc4 w i = ZR w [] := by
  refine List.ext_getElem (by simp [Qc4, ZR]) fun k h1 h2 => ?_
  simp only [Qc4, ZR, List.getElem_map, List.getElem_range]
  rw [Qir] at h1
  rw [if_pos (by omega)]; rfl
theorem Qkj {w : Qp} {l : List QO} {k : Nat} (h : k < (ZR w l).length) : (ZR w l)[k] = Zd w l ((k : Nat) : Int) := by simp [ZR]
theorem QgC {w : Qp} {l : List QO} {s : QO} (h0 : 0 <= s.u) (h1 : s.u < w.length) : ZR w (l ++ [s]) = (ZR w l).set s.u.toNat s.m := by
  refine List.ext_getElem (by simp [ZR]) fun k q1 q2 => ?_
  rw [List.getElem_set]
  simp only [ZR, List.getElem_map, List.getElem_range]
  rw [QaU] at q1
  rw [QaT]
  by_cases e : s.u.toNat = k
  · rw [if_pos e, if_pos ⟨by omega, QfH (by omega) (by omega)⟩]
  · rw [if_neg e, if_neg (by intro h; exact e (by omega))]
theorem Qlg {w : Qp} {l : List QO} {s : QO} (h : ¬ 0 <= s.u \/ ¬ s.u < w.length) : ZR w (l ++ [s]) = ZR w l := by
  refine List.ext_getElem (by simp [ZR]) fun k q1 q2 => ?_
  simp only [ZR, List.getElem_map, List.getElem_range]
  rw [QaU] at q1
  rw [QaT, if_neg]
  rintro ⟨h1, _⟩
  omega
theorem Qkk {w : Qp} {l : List QO} {i : Nat} (h : i < l.length) (h0 : 0 <= l[i].u) (h1 : l[i].u < w.length) : ZR w (l.take (i + 1)) = (ZR w (l.take i)).set l[i].u.toNat l[i].m := by
  rw [List.take_succ_eq_append_getElem h, QgC h0 h1]
theorem Qe8 {w : Qp} {l : List QO} {i : Nat} (h : i < l.length) (hn : ¬ 0 <= l[i].u \/ ¬ l[i].u < w.length) : ZR w (l.take (i + 1)) = ZR w (l.take i) := by
  rw [List.take_succ_eq_append_getElem h, Qlg hn]
def hAt (hv : List Int) (u : Int) : Int := if 0 <= u /\ u < hv.length then hv.getD u.toNat 0 else 0
theorem Qou {hv : List Int} {u : Int} (h0 : 0 <= u) (h1 : u < hv.length) : hAt hv u = hv[u.toNat]'(by omega) := by
  rw [hAt, if_pos ⟨h0, h1⟩, List.getD_eq_getElem?_getD, List.getElem?_eq_getElem (by omega)]; rfl
theorem Qjq {hv : List Int} {u : Int} (h : ¬ 0 <= u \/ ¬ u < hv.length) : hAt hv u = 0 := by
  rw [hAt, if_neg]; omega
theorem Ql7 (w : Qp) (l : List QO) : hAt (ZR w l) = Zd w l := by
  funext u
  by_cases h : 0 <= u /\ u < w.length
  · rw [Qou h.1 (by rw [QaU]; exact h.2), Qkj, Int.toNat_of_nonneg h.1]
  · rw [Qjq (by rw [QaU]; omega), QdC]
    exact Qbe (by omega)
def X1 (h : Int -> Int) : List TermT -> Int -> Option Int
  | [], a => some a
  | t :: r, a => if QaI (h t.u) t.m = 0 then none else if QaI (h t.u) t.m = 1 then (if 0 <= a then none else X1 h r t.u) else X1 h r a
theorem Qfe {h : Int -> Int} {inc : List TermT} {a : Int} {i : Nat} (hi : i < inc.length) : X1 h (inc.drop i) a = if QaI (h inc[i].u) inc[i].m = 0 then none else if QaI (h inc[i].u) inc[i].m = 1 then (if 0 <= a then none else X1 h (inc.drop (i + 1)) inc[i].u) else X1 h (inc.drop (i + 1)) a := by
  rw [List.drop_eq_getElem_cons hi, X1]
theorem QmD {h : Int -> Int} {inc : List TermT} {a : Int} {i : Nat} (hi : inc.length <= i) : X1 h (inc.drop i) a = some a := by
  rw [List.drop_eq_nil_of_le hi, X1]
def Qda (h : Int -> Int) : Nat -> List (List TermT) -> Int × Int
  | _, [] => (-1, -1)
  | i, x :: r => match X1 h x (-1) with
    | some u => ((i : Int), u)
    | none => Qda h (i + 1) r
theorem QmW {h : Int -> Int} {db : List (List TermT)} {i : Nat} (hi : i < db.length) (ho : (X1 h db[i] (-1)).isSome = true) : Qda h i (db.drop i) = ((i : Int), (X1 h db[i] (-1)).getD 0) := by
  rw [List.drop_eq_getElem_cons hi, Qda]
  cases hc : X1 h db[i] (-1) with
  | none => rw [hc] at ho; cases ho
  | some u => rfl
theorem Qn6 {h : Int -> Int} {db : List (List TermT)} {i : Nat} (hi : i < db.length) (ho : (X1 h db[i] (-1)).isSome = false) : Qda h i (db.drop i) = Qda h (i + 1) (db.drop (i + 1)) := by
  rw [List.drop_eq_getElem_cons hi, Qda]
  cases hc : X1 h db[i] (-1) with
  | none => rfl
  | some u => rw [hc] at ho; cases ho
theorem QmV {h : Int -> Int} {db : List (List TermT)} {i : Nat} (hi : db.length <= i) : Qda h i (db.drop i) = (-1, -1) := by rw [List.drop_eq_nil_of_le hi, Qda]
theorem QeF (m : Int) : Zw 0 m = 2 := by
  rw [Zw, if_pos]
  exact Qa1.2 fun i hi => by rw [QhO] at hi; cases hi
theorem Qdc (x m : Int) : Zw x m = 0 \/ Zw x m = 1 \/ Zw x m = 2 := by
  unfold Zw
  split
  · exact .inr (.inr rfl)
  · split
    · exact .inl rfl
    · exact .inr (.inl rfl)
theorem Qez {h : Int -> Int} (hI : ∀ u, I64 (h u)) (hneg : ∀ u, u < 0 -> h u = 0) : ∀ (l : List TermT) (a : Int), (a = -1 \/ 0 <= a) ->
    (∀ b, X1 h l a = some b -> ZF h l a = b /\ (b = a \/ (a = -1 /\ 0 <= b)) /\ (b = a -> ∀ t ∈ l, Zw (h t.u) t.m = 2)) /\ (X1 h l a = none -> ZF h l a = -1 /\ ∃ t ∈ l, Zw (h t.u) t.m ≠ 2)
  | [], a, ha => ⟨fun b hb => by simp only [X1, Option.some.injEq] at hb; subst hb; exact ⟨rfl, .inl rfl, by simp⟩, fun hb => by simp [X1] at hb⟩
  | t :: r, a, ha => by
    rw [X1, ZF, Qoe (hI t.u)]
    rcases Qdc (h t.u) t.m with e | e | e
    · simp only [show (Zw (h t.u) t.m = 0) = True from by rw [e]; simp, if_true]
      exact ⟨(fun b hb => by cases hb), fun _ => ⟨by first | rfl | trivial, t, by simp, by rw [e]; decide⟩⟩
    · simp only [show (Zw (h t.u) t.m = 0) = False from by rw [e]; simp, show (Zw (h t.u) t.m = 1) = True from by rw [e]; simp, if_true, if_false]
      have hu : 0 <= t.u := Classical.byContradiction fun hn => by
        rw [hneg t.u (by omega), QeF] at e; cases e
      by_cases h0 : 0 <= a
      · rw [if_pos h0, if_pos h0]
        exact ⟨(fun b hb => by cases hb), fun _ => ⟨rfl, t, by simp, by rw [e]; decide⟩⟩
      · rw [if_neg h0, if_neg h0]
        obtain ⟨q1, q2⟩ := Qez hI hneg r t.u (.inr hu)
        refine ⟨fun b hb => ?_, fun hb => ?_⟩
        · obtain ⟨p1, p2, _⟩ := q1 b hb
          rcases p2 with rfl | ⟨p2, _⟩
          · exact ⟨p1, .inr ⟨by omega, hu⟩, fun e2 => by omega⟩
          · omega
        · exact ⟨(q2 hb).1, t, by simp, by rw [e]; decide⟩
    · simp only [show (Zw (h t.u) t.m = 0) = False from by rw [e]; simp, show (Zw (h t.u) t.m = 1) = False from by rw [e]; simp, if_false]
      obtain ⟨q1, q2⟩ := Qez hI hneg r a ha
      refine ⟨fun b hb => ?_, fun hb => ?_⟩
      · obtain ⟨p1, p2, p3⟩ := q1 b hb
        refine ⟨p1, p2, fun e2 s hs => ?_⟩
        rcases List.mem_cons.1 hs with rfl | hs
        · exact e
        · exact p3 e2 s hs
      · obtain ⟨p1, s, hs, p2⟩ := q2 hb
        exact ⟨p1, s, by simp [hs], p2⟩
theorem Qki {w : Qp} {l : List QO} {u : Int} (h : u < 0) : Zd w l u = 0 := QdC (Qbe (.inl h))
theorem Qcv {w : Qp} {l : List QO} {inc : List TermT} : Qc7 w l inc = true ↔ ∀ t ∈ inc, Zw (Zd w l t.u) t.m = 2 := by simp [Qc7]
theorem QkK {w : Qp} {l : List QO} (hp : YO w l) : ∀ (db : List (List TermT)) (i : Nat), Qda (Zd w l) i db = Yo w l i db
  | [], _ => rfl
  | x :: db, i => by
    rw [Qda, Yo]
    obtain ⟨q1, q2⟩ := Qez (h := Zd w l) (fun u => (Qag hp u).i64) (fun u => Qki) x (-1) (.inl rfl)
    cases hc : X1 (Zd w l) x (-1) with
    | none =>
      obtain ⟨p1, t, ht, p2⟩ := q2 hc
      rw [if_neg (fun hs => p2 (Qcv.1 hs t ht)), if_neg (by show ¬ 0 <= ZF _ _ _; rw [p1]; omega)]
      exact QkK hp db (i + 1)
    | some b =>
      obtain ⟨p1, p2, p3⟩ := q1 b hc
      by_cases hs : Qc7 w l x = true
      · rw [if_pos hs]
        simp only
        rcases p2 with rfl | ⟨_, p2⟩
        · rfl
        · exfalso
          have := Qcv.1 hs
          have key : ∀ (r : List TermT), (∀ t ∈ r, Zw (Zd w l t.u) t.m = 2) -> ZF (Zd w l) r (-1) = -1 := by
            intro r
            induction r with
            | nil => intro _; rfl
            | cons t r ih =>
              intro h
              rw [ZF, if_neg (by rw [h t (by simp)]; decide), if_neg (by rw [h t (by simp)]; decide)]
              exact ih fun s hs => h s (by simp [hs])
          rw [key x this] at p1
          omega
      · rw [if_neg hs]
        have hb : b ≠ -1 := fun e => hs (Qcv.2 (p3 e))
        have h0 : 0 <= b := by
          rcases p2 with e | ⟨_, e⟩
          · exact absurd e hb
          · exact e
        have hm : Qc6 w l x = b := p1
        rw [hm, if_pos h0]
theorem QmU {w : Qp} {db : List (List TermT)} {l : List QO} (hp : YO w l) : Qda (hAt (ZR w l)) 0 db = Zy w db l := by rw [Ql7, QkK hp]; rfl
theorem QjA {h : Int -> Int} (hneg : ∀ u, u < 0 -> h u = 0) : ∀ (l : List TermT) (a : Int), 0 <= ZF h l a -> (a = ZF h l a /\ ∀ t ∈ l, Zw (h t.u) t.m = 2) \/ (¬ 0 <= a /\ ∃ k, ∃ hk : k < l.length, l[k].u = ZF h l a /\ Zw (h l[k].u) l[k].m = 1 /\ ∀ j, ∀ hj : j < l.length, j ≠ k -> Zw (h l[j].u) l[j].m = 2)
  | [], a, _ => .inl ⟨rfl, by simp⟩
  | t :: r, a, h0 => by
    rw [ZF] at h0 ⊢
    rcases Qdc (h t.u) t.m with e | e | e
    · rw [if_pos e] at h0; omega
    · rw [if_neg (by rw [e]; decide), if_pos e] at h0 ⊢
      by_cases ha : 0 <= a
      · rw [if_pos ha] at h0; omega
      · rw [if_neg ha] at h0 ⊢
        rcases QjA hneg r t.u h0 with ⟨q1, q2⟩ | ⟨q1, k, hk, q2, q3, q4⟩
        · refine .inr ⟨ha, 0, by simp, by simpa using q1, by simpa using e, fun j hj hn => ?_⟩
          obtain ⟨i, rfl⟩ : ∃ i, j = i + 1 := ⟨j - 1, by omega⟩
          simp only [List.getElem_cons_succ]
          exact q2 _ (List.getElem_mem _)
        · rw [hneg t.u (by omega), QeF] at e; cases e
    · rw [if_neg (by rw [e]; decide), if_neg (by rw [e]; decide)] at h0 ⊢
      rcases QjA hneg r a h0 with ⟨q1, q2⟩ | ⟨q1, k, hk, q2, q3, q4⟩
      · exact .inl ⟨q1, fun s hs => by
          rcases List.mem_cons.1 hs with rfl | hs
          · exact e
          · exact q2 s hs⟩
      · refine .inr ⟨q1, k + 1, by simpa using hk, by simpa using q2, by simpa using q3, fun j hj hn => ?_⟩
        cases j with
        | zero => simpa using e
        | succ j => simp only [List.getElem_cons_succ]; exact q4 j (by simpa using hj) (by omega)
structure OpenAt (w : Qp) (db : List (List TermT)) (l : List QO) (a : Nat) (k : Nat) : Prop where
  ha : a < db.length
  hk : k < db[a].length
  eq : Zy w db l = ((a : Int), db[a][k].u)
  one : Zw (Zd w l db[a][k].u) db[a][k].m = 1
  two : ∀ j, ∀ hj : j < db[a].length, j ≠ k -> Zw (Zd w l db[a][j].u) db[a][j].m = 2
theorem QdZ {w : Qp} {db : List (List TermT)} {l : List QO} (h : ¬ (Zy w db l).2 < 0) : ∃ a k, OpenAt w db l a k := by
  have h' := h
  unfold Zy at h
  rcases Qd0 w l db 0 with e | ⟨a, _, ha, ⟨e, _⟩ | ⟨_, h0, e⟩⟩
  · rw [e] at h; simp at h
  · rw [e] at h; simp at h
  · simp only [Nat.sub_zero] at ha h0 e
    rcases QjA (fun u hu => Qki hu) db[a] (-1) h0 with ⟨q1, _⟩ | ⟨_, k, hk, q2, q3, q4⟩
    · have : (0 : Int) <= -1 := by rw [q1]; exact h0
      omega
    · exact ⟨a, k, ha, hk, by rw [Zy, e, q2]; rfl, q3, q4⟩
theorem Qn8 {w : Qp} {db : List (List TermT)} {l : List QO} (h : (Zy w db l).1 < 0) : (Zy w db l).2 < 0 := by
  refine Classical.byContradiction fun hn => ?_
  obtain ⟨a, k, ho⟩ := QdZ hn
  rw [ho.eq] at h; simp only at h; omega
theorem Qi2 {x m : Int} (h : Zw x m = 1) : band x m ≠ 0 /\ ¬ band x m = x := by
  unfold Zw at h
  split at h
  · cases h
  · rename_i h1
    split at h
    · cases h
    · rename_i h2; exact ⟨h2, h1⟩
theorem Qi3 {x m : Int} : Zw x m = 2 ↔ band x m = x := by
  unfold Zw
  split
  · rename_i h; exact ⟨fun _ => h, fun _ => rfl⟩
  · rename_i h
    split
    · exact ⟨(fun h2 => by cases h2), fun h2 => absurd h2 h⟩
    · exact ⟨(fun h2 => by cases h2), fun h2 => absurd h2 h⟩
theorem QkB {w : Qp} {l : List QO} {u m : Int} (h : Zw (Zd w l u) m = 1) : inW w u = true := by
  cases hw : inW w u
  · rw [QdC hw, QeF] at h; cases h
  · rfl
theorem QfY {f u : Int} : ∀ {l : List TermT} {k : Nat} (hk : k < l.length), l[k].u = u -> (∀ j, ∀ hj : j < k, (l[j]'(by omega)).u ≠ u) -> Qbx f u l = l[k].m
  | t :: l, 0, _, h, _ => by rw [Qbx, if_pos (by simpa using h)]; rfl
  | t :: l, k + 1, hk, h, hn => by
    have h0 := hn 0 (by omega)
    simp only [List.getElem_cons_zero] at h0
    rw [Qbx, if_neg h0, List.getElem_cons_succ]
    exact QfY (by simpa using hk) (by simpa using h) fun j hj => by
      have := hn (j + 1) (by omega)
      simpa using this
theorem IncOk.uniq {w : Qp} {l : List TermT} (h : IncOk w l) {i j : Nat} (hi : i < l.length) (hj : j < l.length) (e : l[i].u = l[j].u) : i = j := by
  have hp := List.pairwise_iff_getElem.1 h.1
  rcases Nat.lt_trichotomy i j with h1 | h1 | h1
  · have := hp i j hi hj h1; omega
  · exact h1
  · have := hp j i hj hi h1; omega
theorem OpenAt.mask {w : Qp} {db : List (List TermT)} {l : List QO} {a k : Nat} (h : OpenAt w db l a k) (hi : ∀ x ∈ db, IncOk w x) : Qc5 w (db[a]'h.ha) ((db[a]'h.ha)[k]'h.hk).u = ((db[a]'h.ha)[k]'h.hk).m :=
  QfY h.hk rfl fun j hj e => by
    have := (hi _ (List.getElem_mem h.ha)).uniq (by have := h.hk; omega) h.hk e
    omega
theorem OpenAt.step {w : Qp} {db : List (List TermT)} {l : List QO} {a k : Nat} (h : OpenAt w db l a k) (hp : YO w l) : Yl w l ((db[a]'h.ha)[k]'h.hk) a = some (l ++ [⟨((db[a]'h.ha)[k]'h.hk).u, Qe3 (Zd w l ((db[a]'h.ha)[k]'h.hk).u) ((db[a]'h.ha)[k]'h.hk).m, Xs l, a⟩]) := by
  obtain ⟨h1, h2⟩ := Qi2 h.one
  refine Qie hp (by omega) h1 fun e => h2 ?_
  rw [Y8 (Qag hp _).i64, <- QkA]; exact e
theorem QgQ {w : Qp} {l : List QO} {s : QO} (hp : YO w l) (hs : Lo s.m) : YO w (l ++ [s]) := fun t ht => by
  rcases List.mem_append.1 ht with ht | ht
  · exact hp t ht
  · simp only [List.mem_singleton] at ht; subst ht; exact hs
def QeY (w : Qp) (l : List QO) : Nat -> Nat
  | 0 => 0
  | k + 1 => QeY w l k + (Qbk (Zd w l ((k : Nat) : Int))).length
def tot (w : Qp) (l : List QO) : Nat := QeY w l w.length
theorem Qnb (w : Qp) (l : List QO) : ∀ n, QeY w l n <= 17 * n
  | 0 => Nat.le_refl _
  | n + 1 => by
    have := Qnb w l n
    have h2 : (Qbk (Zd w l ((n : Nat) : Int))).length <= 17 := Qcg _ 17
    rw [QeY]; omega
theorem QkQ {w : Qp} {l : List QO} {u m lv c : Int} (hp : YO w l) (hu : inW w u = true) (hm : band (Zd w l u) m ≠ 0) : ∀ n, QeY w (l ++ [⟨u, Qe3 (Zd w l u) m, lv, c⟩]) n <= QeY w l n /\ (u < n -> QeY w (l ++ [⟨u, Qe3 (Zd w l u) m, lv, c⟩]) n < QeY w l n)
  | 0 => ⟨Nat.le_refl _, fun h => by rw [QbR] at hu; omega⟩
  | n + 1 => by
    obtain ⟨h1, h2⟩ := QkQ (lv := lv) (c := c) hp hu hm n
    rw [QeY, QeY, QaT]
    by_cases e : u = n
    · rw [if_pos ⟨e, by rw [<- e]; exact hu⟩]
      subst e
      have := Qpb (Qag hp _) hm
      exact ⟨by simp only; omega, fun _ => by simp only; omega⟩
    · rw [if_neg (fun h => e h.1)]
      exact ⟨by omega, fun h => by have := h2 (by omega); omega⟩
theorem Qqj {w : Qp} {l : List QO} {u m lv c : Int} (hp : YO w l) (hu : inW w u = true) (hm : band (Zd w l u) m ≠ 0) : tot w (l ++ [⟨u, Qe3 (Zd w l u) m, lv, c⟩]) < tot w l :=
  (QkQ hp hu hm w.length).2 (by rw [QbR] at hu; omega)
def Qnf (w : Qp) (l : List QO) (t : TermT) (c : Int) : QO := ⟨t.u, Qe3 (Zd w l t.u) t.m, Xs l, c⟩
theorem OpenAt.step' {w : Qp} {db : List (List TermT)} {l : List QO} {a k : Nat} (h : OpenAt w db l a k) (hp : YO w l) : Yl w l ((db[a]'h.ha)[k]'h.hk) a = some (l ++ [Qnf w l ((db[a]'h.ha)[k]'h.hk) a]) := h.step hp
theorem OpenAt.inW {w : Qp} {db : List (List TermT)} {l : List QO} {a k : Nat} (h : OpenAt w db l a k) : 0 <= ((db[a]'h.ha)[k]'h.hk).u /\ ((db[a]'h.ha)[k]'h.hk).u < w.length := QbR.1 (QkB h.one)
theorem OpenAt.go {w : Qp} {db : List (List TermT)} {l : List QO} {a k : Nat} (h : OpenAt w db l a k) (hp : YO w l) (hi : ∀ x ∈ db, IncOk w x) {n : Nat} (hn : 0 < n) : Qbo w db n l = Qbo w db (n - 1) (l ++ [Qnf w l ((db[a]'h.ha)[k]'h.hk) a]) := by
  have h2 : ¬ (Zy w db l).2 < 0 := by rw [h.eq]; have := h.inW.1; simp only; omega
  have hd : (Zy w db l).1.toNat < db.length := by rw [h.eq]; simpa using h.ha
  rw [QkJ h2 hn hd]
  have e1 : db[(Zy w db l).1.toNat]'hd = db[a]'h.ha := by
    congr 1; rw [h.eq]; simp
  rw [e1, h.eq]
  simp only
  rw [h.mask hi, h.step' hp]; rfl
theorem OpenAt.plain {w : Qp} {db : List (List TermT)} {l : List QO} {a k : Nat} (h : OpenAt w db l a k) (hp : YO w l) : YO w (l ++ [Qnf w l ((db[a]'h.ha)[k]'h.hk) a]) := QgQ hp (Qp6 (Qag hp _) _)
theorem OpenAt.tot {w : Qp} {db : List (List TermT)} {l : List QO} {a k : Nat} (h : OpenAt w db l a k) (hp : YO w l) : M25.tot w (l ++ [Qnf w l ((db[a]'h.ha)[k]'h.hk) a]) < M25.tot w l := Qqj hp (QkB h.one) (Qi2 h.one).1
theorem Qiu {w : Qp} {l : List QO} {t : TermT} {c : Int} (h0 : 0 <= t.u) (h1 : t.u < w.length) (h2 : t.u.toNat < (ZR w l).length) : ZR w (l ++ [Qnf w l t c]) = (ZR w l).set t.u.toNat (Qe3 ((ZR w l)[t.u.toNat]) t.m) := by
  rw [QgC h0 h1, Qkj, Int.toNat_of_nonneg h0]; rfl
end M25
namespace Go.Proofs
open Go Go.Abs M3 M25
set_option linter.unusedVariables false
set_option linter.unusedSimpArgs false
theorem QeI {w : Qp} (hw : WSm w) {l : List QO} (hl : l.length <= 10000000) (et : Nat) (het : et = 3) : OkH Tryz.prog 41 [Z1 w, Zz l] [] (.osl 500000 (ZR w l).length) [(500000, ⟨(ZR w l).map (fun x => [.int .i64 x]), 1, et, true⟩)] := by
 subst het
 refine OkH.new ZY Tryz.func41 QrI (Nat.le_of_ble_eq_true rfl) rfl ?_
 show TW _ _ tf41.body _ _
 have hn := hw.len
 refine Qf fun K hK => Zv rfl rfl rfl (Qa rfl ?_)
 refine hK _ _ (Qb (kp2 rfl rfl) ?_)
 refine Qf fun K hK => Qh rfl rfl (QA rfl rfl rfl ?_)
 first | refine QQ rfl QW ?_ | refine QQ rfl rfl ?_
 refine QpQ rfl rfl rfl (by omega) (by simp; omega) (by simp; omega) (Qa rfl ?_)
 refine hK _ _ (Qb (kp3 rfl rfl rfl) ?_)
 refine QB ?_ -- 0
 refine Qf fun K hK => Qa rfl ?_
 first | refine QQ rfl QW ?_ | refine QQ rfl rfl ?_
 refine Qa rfl ?_
 refine hK _ _ (Qb (kp5 rfl rfl rfl rfl rfl) ?_)
 refine Qz ?_
 refine Zj (ι := Nat) (fun i => ⟨[(1, Zz l), (2, .ref 2 0 0), (5, .osl 500000 (Qc4 w i).length), (14, .int .i64 w.length), (15, .int .i64 i)], [(2, ⟨[[.sl ((w).map Yn)]], 1, 26, true⟩), (500000, ⟨(Qc4 w i).map (fun x => [.int .i64 x]), 1, 3, true⟩)]⟩) (fun i => i <= w.length) (fun i => w.length - i) 0 ?_ ?_ ?_
 ·exact le_trans (QfJ (l := [1, 2, 14, 15]) (lH := [2]) 12 500000 5 (kp4 rfl rfl rfl rfl) (Qe rfl Ql) rfl rfl rfl rfl rfl rfl rfl) (Q1 (l := [1, 2, 5, 14, 15]) (lH := [2, 500000]) (kp5 rfl rfl rfl rfl rfl) (Qe rfl (Qe rfl Ql)) (by simp [Qc4]) (by rw [Qle]; simp; rfl) rfl)
 ·exact Nat.zero_le _
 intro i hI
 have hlen := Qir w i
 try dsimp only
 refine Qf fun K hK => Z6 rfl rfl ?_
 refine hK _ _ (Qb (kp6 rfl rfl rfl rfl rfl rfl) ?_)
 refine QB ?_ -- 1
 refine Qw rfl (fun h1 => ?_) (fun h1 => ?_)
 ·try rw [h1]
  try simp only [qa, qb, qc, qd, qe, List.length_map] at h1
  refine Qv (Qd (kp5 rfl rfl rfl rfl rfl) ?_)
  refine QB ?_ -- 2
  refine Qz (Qf fun K hK => Qa rfl (Qa rfl ?_))
  refine hK _ _ (Qb (kp6 rfl rfl rfl rfl rfl rfl) ?_)
  refine QL fun K hK => Qa rfl (Qa rfl (QH (cs := [_]) rfl rfl rfl rfl (Qa rfl (QI (Qc1 hw) rfl rfl (.inr rfl) (Xf rfl rfl rfl (by simp) (by omega) (by omega) rfl (Q7 rfl rfl (QV (by omega)) rfl rfl rfl rfl rfl (hK _ ?_)))))))
  refine Qg (Qd (kp5 rfl rfl rfl rfl rfl) (QL fun K hK => Q2 rfl rfl (by first | exact Qq (by omega) (by omega) | rfl) (Qa rfl (hK _ ?_))))
  refine Qi (i + 1) ?_ ?_ ?_
  ·exact Q1 (l := [1, 2, 5, 14, 15]) (lH := [2, 500000]) (kp5 rfl rfl rfl rfl rfl) (Qe rfl (Qe rfl Ql)) (by rw [Qkg, List.length_set] <;> rfl) (by rw [Qkg, List.map_set] <;> rfl) rfl
  ·omega
  ·first | omega | (simp only; omega) | (dsimp only; omega)
 ·try rw [h1]
  try simp only [qa, qb, qc, qd, qe, List.length_map] at h1
  refine Zh (QJ (Qx (QD (Qd (kp2 rfl rfl) ?_))))
  refine QB ?_ -- 3
  refine Qf fun K hK => Qa rfl ?_
  first | refine QQ rfl QW ?_ | refine QQ rfl rfl ?_
  refine Qa rfl ?_
  refine hK _ _ (Qb (kp4 rfl rfl rfl rfl) ?_)
  refine Qz ?_
  refine Zj (ι := Nat) (fun j => ⟨[(5, .osl 500000 (ZR w (l.take j)).length), (25, Zz l), (26, .int .i64 l.length), (27, .int .i64 j)], [(500000, ⟨(ZR w (l.take j)).map (fun x => [.int .i64 x]), 1, 3, true⟩)]⟩) (fun j => j <= l.length) (fun j => l.length - j) 0 ?_ ?_ ?_
  ·exact Q1 (l := [5, 25, 26, 27]) (lH := [500000]) (kp4 rfl rfl rfl rfl) (Qe rfl Ql) (by rw [Qiq w (by omega)] <;> rfl) (by rw [Qiq w (by omega)] <;> rfl) rfl
  ·exact Nat.zero_le _
  intro j hJ
  have hlen := QaU w (l.take j)
  try dsimp only
  refine Qf fun K hK => Z6 rfl rfl ?_
  refine hK _ _ (Qb (kp5 rfl rfl rfl rfl rfl) ?_)
  refine QB ?_ -- 4
  refine Qw rfl (fun h2 => ?_) (fun h2 => ?_)
  ·try rw [h2]
   try simp only [qa, qb, qc, qd, qe, List.length_map] at h2
   refine Qv (Qd (kp4 rfl rfl rfl rfl) ?_)
   refine QB ?_ -- 5
   refine Qz (Qf fun K hK => QK rfl rfl rfl (by omega) (QV (by omega)) rfl (QH (cs := [_, _, _, _]) rfl rfl rfl rfl (ZL rfl (Q7 rfl rfl rfl rfl rfl rfl rfl rfl ?_))))
   refine hK _ _ (Qb (kp5 rfl rfl rfl rfl rfl) ?_)
   refine Qf fun K hK => Qh rfl rfl (QA rfl rfl rfl (QeS rfl rfl (Qa rfl ?_)))
   refine QE (g := 34) rfl (fun h3 => ?_) (fun h3 => ?_)
   ·try rw [h3]
    try simp only [qa, qb, qc, qd, qe, List.length_map] at h3
    refine Qk rfl (Qh rfl rfl (Qk rfl (QA rfl rfl rfl (Qk rfl (Qa rfl (Qk rfl ?_))))))
    first | refine QQ rfl QW ?_ | refine QQ rfl rfl ?_
    refine Qk rfl (Z6 rfl rfl (Qo rfl rfl ?_))
    refine hK _ _ (Qb (kp6 rfl rfl rfl rfl rfl rfl) ?_)
    refine Qw rfl (fun h4 => ?_) (fun h4 => ?_)
    ·try rw [h4]
     try simp only [qa, qb, qc, qd, qe, List.length_map] at h4
     refine QL fun K hK => Qa rfl (Qh rfl rfl (QA rfl rfl rfl (Qh rfl rfl (QA rfl rfl rfl (Xf rfl rfl rfl (by simp) (by omega) (by omega) rfl (Q7 rfl rfl (ZE (by omega) (by omega)) rfl rfl rfl rfl rfl (hK _ ?_)))))))
     refine Qg (Qd (kp4 rfl rfl rfl rfl) (QL fun K hK => Q2 rfl rfl (by first | exact Qq (by omega) (by omega) | rfl) (Qa rfl (hK _ ?_))))
     refine Qi (j + 1) ?_ ?_ ?_
     ·exact Q1 (l := [5, 25, 26, 27]) (lH := [500000]) (kp4 rfl rfl rfl rfl) (Qe rfl Ql) (by rw [Qkk (by omega) h3 (by omega), List.length_set] <;> rfl) (by rw [Qkk (by omega) h3 (by omega), List.map_set] <;> rfl) rfl
     ·omega
     ·first | omega | (simp only; omega) | (dsimp only; omega)
    ·try rw [h4]
     try simp only [qa, qb, qc, qd, qe, List.length_map] at h4
     refine Qv (Qg (Qd (kp4 rfl rfl rfl rfl) (QL fun K hK => Q2 rfl rfl (by first | exact Qq (by omega) (by omega) | rfl) (Qa rfl (hK _ ?_)))))
     refine Qi (j + 1) ?_ ?_ ?_
     ·exact Q1 (l := [5, 25, 26, 27]) (lH := [500000]) (kp4 rfl rfl rfl rfl) (Qe rfl Ql) (by rw [Qe8 (by omega) (.inr (by omega))] <;> rfl) (by rw [Qe8 (by omega) (.inr (by omega))] <;> rfl) rfl
     ·omega
     ·first | omega | (simp only; omega) | (dsimp only; omega)
   ·try rw [h3]
    try simp only [qa, qb, qc, qd, qe, List.length_map] at h3
    refine Qt rfl (Qt rfl (Qt rfl (Qt rfl (Qt rfl (Qo rfl rfl ?_)))))
    refine hK _ _ (Qb (kp6 rfl rfl rfl rfl rfl rfl) ?_)
    refine ZG rfl (Qv (Qg (Qd (kp4 rfl rfl rfl rfl) (QL fun K hK => Q2 rfl rfl (by first | exact Qq (by omega) (by omega) | rfl) (Qa rfl (hK _ ?_))))))
    refine Qi (j + 1) ?_ ?_ ?_
    ·exact Q1 (l := [5, 25, 26, 27]) (lH := [500000]) (kp4 rfl rfl rfl rfl) (Qe rfl Ql) (by rw [Qe8 (by omega) (.inl h3)] <;> rfl) (by rw [Qe8 (by omega) (.inl h3)] <;> rfl) rfl
    ·omega
    ·first | omega | (simp only; omega) | (dsimp only; omega)
  ·try rw [h2]
   try simp only [qa, qb, qc, qd, qe, List.length_map] at h2
   refine Zh (QJ (Qx (QD (Qd (kp1 rfl) (Qf fun K hK => Qa rfl (Qa rfl ?_))))))
   refine hK _ _ (Qb (kp1 rfl) ?_)
   refine Qu ?_
   refine YA rfl ?_ (Qcc ?_)
   ·rw [List.take_of_length_le (show l.length <= j by omega)]; rfl
   ·rw [List.take_of_length_le (show l.length <= j by omega)]; rfl
theorem Qjg {hv : List Int} {inc : List TermT} (hi : inc.length <= 1000000) : Ok Tryz.prog 64 [Zo hv, ZK inc] (.tup [.int .i64 ((X1 (hAt hv) inc (-1)).getD 0), .bool (X1 (hAt hv) inc (-1)).isSome]) := by
 refine Ok.ofT ZY Tryz.func64 Qr3 (Nat.le_of_ble_eq_true rfl) ?_
 show TW _ _ tf64.body _ _
 refine Qf fun K hK => Qa rfl (Qa rfl ?_)
 refine hK _ _ (Qb (kp2 rfl rfl) ?_)
 refine Qf fun K hK => Qa rfl ?_
 refine hK _ _ (Qb (kp3 rfl rfl rfl) ?_)
 refine QB ?_ -- 0
 refine Qf fun K hK => Qa rfl ?_
 first | refine QQ rfl QW ?_ | refine QQ rfl rfl ?_
 refine Qa rfl ?_
 refine hK _ _ (Qb (kp5 rfl rfl rfl rfl rfl) ?_)
 refine Qz ?_
 refine Zj (ι := Nat × Int) (fun ⟨i, a⟩ => ⟨[(0, Zo hv), (6, .int .i64 a), (11, ZK inc), (12, .int .i64 inc.length), (13, .int .i64 i)], []⟩) (fun ⟨i, a⟩ => i <= inc.length /\ X1 (hAt hv) inc (-1) = X1 (hAt hv) (inc.drop i) a) (fun ⟨i, a⟩ => inc.length - i) (0, -1) ?_ ?_ ?_
 ·exact Zg (kp5 rfl rfl rfl rfl rfl)
 ·exact ⟨Nat.zero_le _, by simp⟩
 intro ⟨i, a⟩ hI
 try dsimp only at hI
 try dsimp only
 refine Qf fun K hK => Z6 rfl rfl ?_
 refine hK _ _ (Qb (kp6 rfl rfl rfl rfl rfl rfl) ?_)
 refine QB ?_ -- 1
 refine Qw rfl (fun h1 => ?_) (fun h1 => ?_)
 ·try rw [h1]
  try simp only [qa, qb, qc, qd, qe, List.length_map] at h1
  refine Qv (Qd (kp5 rfl rfl rfl rfl rfl) ?_)
  refine QB ?_ -- 2
  refine Qz (Qf fun K hK => QK rfl rfl rfl (by omega) (QV (by omega)) rfl (QH (cs := [_, _]) rfl rfl rfl rfl (ZL rfl (Q7 rfl rfl rfl rfl rfl rfl rfl rfl ?_))))
  refine hK _ _ (Qb (kp6 rfl rfl rfl rfl rfl rfl) ?_)
  refine Qf fun K hK => Qa rfl ?_
  refine hK _ _ (Qb (kp7 rfl rfl rfl rfl rfl rfl rfl) ?_)
  refine Qfj (ι := Unit) (fun _ => ⟨[(0, Zo hv), (6, .int .i64 a), (8, .ref 8 0 0), (9, .int .i64 (hAt hv (inc[i]'(by omega)).u)), (11, ZK inc), (12, .int .i64 inc.length), (13, .int .i64 i)], [(8, ⟨[Qdr (inc[i]'(by omega))], 2, 56, true⟩)]⟩) (fun _ => True) ?_ ?_
  ·skip
   refine Qf fun K hK => Qh rfl rfl (QA rfl rfl rfl (QeS rfl rfl (Qa rfl ?_)))
   refine QE (g := 20) rfl (fun h2 => ?_) (fun h2 => ?_)
   ·try rw [h2]
    try simp only [qa, qb, qc, qd, qe, List.length_map] at h2
    refine Qk rfl (Qh rfl rfl (Qk rfl (QA rfl rfl rfl (Qk rfl (Qa rfl (Qk rfl ?_))))))
    first | refine QQ rfl QW ?_ | refine QQ rfl rfl ?_
    refine Qk rfl (Z6 rfl rfl (Qo rfl rfl ?_))
    refine hK _ _ (Qb (kp8 rfl rfl rfl rfl rfl rfl rfl rfl) ?_)
    refine Qw rfl (fun h3 => ?_) (fun h3 => ?_)
    ·try rw [h3]
     try simp only [qa, qb, qc, qd, qe, List.length_map] at h3
     refine QL fun K hK => Qa rfl (Qh rfl rfl (QA rfl rfl rfl (QK rfl rfl rfl (by omega) (ZE (by omega) (by omega)) rfl (QA rfl rfl rfl (Qa rfl (hK _ ?_))))))
     refine ZQ () ?_ ?_
     ·exact Q1 (l := [0, 6, 8, 9, 11, 12, 13]) (lH := [8]) (kp7 rfl rfl rfl rfl rfl rfl rfl) (Qe rfl Ql) (by rw [Qou h2 h3] <;> rfl) rfl rfl
     ·exact trivial
    ·try rw [h3]
     try simp only [qa, qb, qc, qd, qe, List.length_map] at h3
     refine Qv ?_
     refine ZQ () ?_ ?_
     ·exact Q1 (l := [0, 6, 8, 9, 11, 12, 13]) (lH := [8]) (kp7 rfl rfl rfl rfl rfl rfl rfl) (Qe rfl Ql) (by rw [Qjq (.inr h3)] <;> rfl) rfl rfl
     ·exact trivial
   ·try rw [h2]
    try simp only [qa, qb, qc, qd, qe, List.length_map] at h2
    refine Qt rfl (Qt rfl (Qt rfl (Qt rfl (Qt rfl (Qo rfl rfl ?_)))))
    refine hK _ _ (Qb (kp8 rfl rfl rfl rfl rfl rfl rfl rfl) ?_)
    refine ZG rfl (Qv ?_)
    refine ZQ () ?_ ?_
    ·exact Q1 (l := [0, 6, 8, 9, 11, 12, 13]) (lH := [8]) (kp7 rfl rfl rfl rfl rfl rfl rfl) (Qe rfl Ql) (by rw [Qjq (.inl h2)] <;> rfl) rfl rfl
    ·exact trivial
  intro _ hJ
  try dsimp only
  refine Qf fun K hK => Qa rfl (Qh rfl rfl (QA rfl rfl rfl (QI (Qh5) rfl rfl (.inr rfl) (Qa rfl ?_))))
  refine hK _ _ (Qb (kp7 rfl rfl rfl rfl rfl rfl rfl) ?_)
  refine Qz (Qf fun K hK => Qa rfl (ZO rfl rfl (Qa rfl ?_)))
  refine QE (g := 39) rfl (fun h4 => ?_) (fun h4 => ?_)
  ·try rw [h4]
   try simp only [qa, qb, qc, qd, qe, List.length_map] at h4
   refine Qt rfl (Qt rfl (Qt rfl (Zx rfl (Zx rfl (Qt rfl (Qo rfl rfl (Qa rfl ?_)))))))
   refine hK _ _ (Qb (kp8 rfl rfl rfl rfl rfl rfl rfl rfl) ?_)
   refine Zt rfl (Qf fun K hK => Qa rfl (Qa rfl ?_))
   refine hK _ _ (Qb (kp2 rfl rfl) ?_)
   refine Qu (Qr (Qr (Qj (Q4 (Qr (Qj ?_))))))
   rw [hI.2, Qfe (by omega), if_pos h4]
   exact QS rfl rfl ⟨rfl, rfl⟩
  ·try rw [h4]
   try simp only [qa, qb, qc, qd, qe, List.length_map] at h4
   refine Qk rfl (Qa rfl (Qk rfl (ZO rfl rfl (Qk rfl (Qa rfl ?_)))))
   refine QE (g := 42) rfl (fun h5 => ?_) (fun h5 => ?_)
   ·try rw [h5]
    try simp only [qa, qb, qc, qd, qe, List.length_map] at h5
    refine Qk rfl (Qa rfl (Qk rfl (QeS rfl rfl (Qk rfl (Qo rfl rfl (Qo rfl rfl (Qa rfl ?_)))))))
    refine hK _ _ (Qb (kp8 rfl rfl rfl rfl rfl rfl rfl rfl) ?_)
    refine Qw rfl (fun h6 => ?_) (fun h6 => ?_)
    ·try rw [h6]
     try simp only [qa, qb, qc, qd, qe, List.length_map] at h6
     refine Qf fun K hK => Qa rfl (Qa rfl ?_)
     refine hK _ _ (Qb (kp2 rfl rfl) ?_)
     refine Qu (Qr (Qr (Qj (Q4 (Qr (Qj ?_))))))
     rw [hI.2, Qfe (by omega), if_neg h4, if_pos h5, if_pos h6]
     exact QS rfl rfl ⟨rfl, rfl⟩
    ·try rw [h6]
     try simp only [qa, qb, qc, qd, qe, List.length_map] at h6
     refine Qf fun K hK => Qa rfl (ZO rfl rfl (Qa rfl ?_))
     refine hK _ _ (Qb (kp7 rfl rfl rfl rfl rfl rfl rfl) ?_)
     refine Qw rfl (fun h7 => ?_) (fun h7 => ?_)
     ·try rw [h7]
      try simp only [qa, qb, qc, qd, qe, List.length_map] at h7
      refine QL fun K hK => Qh rfl rfl (QA rfl rfl rfl (Qa rfl (hK _ ?_)))
      refine Qg (Qg (Qd (kp5 rfl rfl rfl rfl rfl) (QL fun K hK => Q2 rfl rfl (by first | exact Qq (by omega) (by omega) | rfl) (Qa rfl (hK _ ?_)))))
      refine Qi (i + 1, (inc[i]'(by omega)).u) ?_ ?_ ?_
      ·exact Q1 (l := [0, 6, 11, 12, 13]) (lH := []) (kp5 rfl rfl rfl rfl rfl) Ql rfl rfl rfl
      ·exact ⟨by omega, by rw [hI.2, Qfe (by omega), if_neg h4, if_pos h5, if_neg h6]⟩
      ·show inc.length - (i + 1) < inc.length - i; omega
     ·try rw [h7]
      try simp only [qa, qb, qc, qd, qe, List.length_map] at h7
      exact absurd h5 h7
   ·try rw [h5]
    try simp only [qa, qb, qc, qd, qe, List.length_map] at h5
    refine Qt rfl (Qt rfl (Qk rfl (Qo rfl rfl (Qo rfl rfl (Qa rfl ?_)))))
    refine hK _ _ (Qb (kp8 rfl rfl rfl rfl rfl rfl rfl rfl) ?_)
    refine ZG rfl (Qf fun K hK => Qa rfl (ZO rfl rfl (Qa rfl ?_)))
    refine hK _ _ (Qb (kp7 rfl rfl rfl rfl rfl rfl rfl) ?_)
    refine Qw rfl (fun h8 => ?_) (fun h8 => ?_)
    ·try rw [h8]
     try simp only [qa, qb, qc, qd, qe, List.length_map] at h8
     exact absurd h8 h5
    ·try rw [h8]
     try simp only [qa, qb, qc, qd, qe, List.length_map] at h8
     refine Qv (Qg (Qg (Qd (kp5 rfl rfl rfl rfl rfl) (QL fun K hK => Q2 rfl rfl (by first | exact Qq (by omega) (by omega) | rfl) (Qa rfl (hK _ ?_))))))
     refine Qi (i + 1, a) ?_ ?_ ?_
     ·exact Q1 (l := [0, 6, 11, 12, 13]) (lH := []) (kp5 rfl rfl rfl rfl rfl) Ql rfl rfl rfl
     ·exact ⟨by omega, by rw [hI.2, Qfe (by omega), if_neg h4, if_neg h5]⟩
     ·show inc.length - (i + 1) < inc.length - i; omega
 ·try rw [h1]
  try simp only [qa, qb, qc, qd, qe, List.length_map] at h1
  refine Zh (QJ (Qx (QD (Qd (kp1 rfl) (Qf fun K hK => Qa rfl (Qa rfl (Qa rfl ?_)))))))
  refine hK _ _ (Qb (kp2 rfl rfl) ?_)
  refine Qu ?_
  rw [hI.2, QmD (by omega)]
  exact QS rfl rfl ⟨rfl, rfl⟩
theorem Qjh {hv : List Int} {db : List (List TermT)} (hd : db.length <= 100000000) (hi : ∀ x ∈ db, x.length <= 1000000) : Ok Tryz.prog 42 [Zo hv, dDb db] (.tup [.int .i64 (Qda (hAt hv) 0 db).1, .int .i64 (Qda (hAt hv) 0 db).2]) := by
 refine Ok.ofT ZY Tryz.func42 QrJ (Nat.le_of_ble_eq_true rfl) ?_
 show TW _ _ tf42.body _ _
 refine Qf fun K hK => Qa rfl (Qa rfl ?_)
 refine hK _ _ (Qb (kp2 rfl rfl) ?_)
 refine QB ?_ -- 0
 refine Qf fun K hK => Qa rfl ?_
 first | refine QQ rfl QW ?_ | refine QQ rfl rfl ?_
 refine Qa rfl ?_
 refine hK _ _ (Qb (kp4 rfl rfl rfl rfl) ?_)
 refine Qz ?_
 refine Zj (ι := Nat) (fun i => ⟨[(0, Zo hv), (10, dDb db), (11, .int .i64 db.length), (12, .int .i64 i)], []⟩) (fun i => i <= db.length /\ Qda (hAt hv) 0 db = Qda (hAt hv) i (db.drop i)) (fun i => db.length - i) 0 ?_ ?_ ?_
 ·exact Zg (kp4 rfl rfl rfl rfl)
 ·exact ⟨Nat.zero_le _, by simp⟩
 intro i hI
 try dsimp only
 refine Qf fun K hK => Z6 rfl rfl ?_
 refine hK _ _ (Qb (kp5 rfl rfl rfl rfl rfl) ?_)
 refine QB ?_ -- 1
 refine Qw rfl (fun h1 => ?_) (fun h1 => ?_)
 ·try rw [h1]
  try simp only [qa, qb, qc, qd, qe, List.length_map] at h1
  refine Qv (Qd (kp4 rfl rfl rfl rfl) ?_)
  refine QB ?_ -- 2
  refine Qz (Qf fun K hK => Qa rfl (QK rfl rfl rfl (by omega) (QV (by omega)) rfl (QA rfl rfl rfl (Qa rfl (Qa rfl ?_)))))
  refine hK _ _ (Qb (kp6 rfl rfl rfl rfl rfl rfl) ?_)
  refine Qf fun K hK => Qa rfl (Qa rfl (QI (Qjg (hi _ (List.getElem_mem (by omega)))) rfl rfl (.inl rfl) (Qa rfl (QR rfl rfl (QR rfl rfl (Qa rfl (Qa rfl ?_)))))))
  refine hK _ _ (Qb (kp7 rfl rfl rfl rfl rfl rfl rfl) ?_)
  refine Qf fun K hK => Qa rfl ?_
  refine hK _ _ (Qb (kp7 rfl rfl rfl rfl rfl rfl rfl) ?_)
  refine Qw rfl (fun h2 => ?_) (fun h2 => ?_)
  ·try rw [h2]
   try simp only [qa, qb, qc, qd, qe, List.length_map] at h2
   refine Qf fun K hK => Qa rfl (Qa rfl (Qa rfl (Qa rfl ?_)))
   refine hK _ _ (Qb (kp2 rfl rfl) ?_)
   refine Qu (Qr (Qj (Q4 (Qr (Qj ?_)))))
   rw [hI.2, QmW (by omega) h2]
   exact QS rfl rfl ⟨rfl, rfl⟩
  ·try rw [h2]
   try simp only [qa, qb, qc, qd, qe, List.length_map] at h2
   refine Qv (Qg (Qd (kp4 rfl rfl rfl rfl) (QL fun K hK => Q2 rfl rfl (by first | exact Qq (by omega) (by omega) | rfl) (Qa rfl (hK _ ?_)))))
   refine Qi (i + 1) ?_ ?_ ?_
   ·exact Zg (kp4 rfl rfl rfl rfl)
   ·exact ⟨by omega, by rw [hI.2, Qn6 (by omega) h2]⟩
   ·first | omega | (simp only; omega) | (dsimp only; omega)
 ·try rw [h1]
  try simp only [qa, qb, qc, qd, qe, List.length_map] at h1
  refine Zh (QJ (Qx (QD (Qd (Q6) (Qf fun K hK => Qa rfl (Qa rfl ?_))))))
  refine hK _ _ (Qb (kp2 rfl rfl) ?_)
  refine Qu ?_
  rw [hI.2, QmV (by omega)]
  exact QS rfl rfl ⟨rfl, rfl⟩
theorem QmE {w : Qp} {db : List (List TermT)} (hd : db.length <= 100000000) (hi : ∀ x ∈ db, x.length <= 1000000) {l : List QO} (hp : YO w l) : Ok Tryz.prog 42 [Zo (ZR w l), dDb db] (.tup [.int .i64 (Zy w db l).1, .int .i64 (Zy w db l).2]) := by
 have h := Qjh (hv := ZR w l) hd hi
 rw [QmU hp] at h
 exact h
theorem Qjf {w : Qp} (hw : WSm w) {db : List (List TermT)} (hd : db.length <= 100000000) (hi : ∀ x ∈ db, x.length <= 1000000) {l : List QO} (hl : l.length <= 10000000) (hp : YO w l) : Ok Tryz.prog 16 [Z1 w, dDb db, Zz l] (.tup [.int .i64 (Zy w db l).1, .int .i64 (Zy w db l).2]) := by
 refine Ok.ofT ZY Tryz.func16 Qrq (Nat.le_of_ble_eq_true rfl) ?_
 show TW _ _ tf16.body _ _
 refine Qf fun K hK => Zv rfl rfl rfl (Qa rfl (Qa rfl ?_))
 refine hK _ _ (Qb (kp3 rfl rfl rfl) ?_)
 refine Qf fun K hK => QH (cs := [_]) rfl rfl rfl rfl (Qa rfl (Yj (Qj1 rfl (by intro x hx; simp at hx; rcases hx with rfl | rfl <;> rfl) rfl rfl rfl (QeI hw hl _ rfl)) (Qa rfl (QI (QmE (l := l) hd hi hp) rfl (by simp [QbI, D.fz, D.fzS, QcT, lk, D.can, D.canS, Zo, dDb]) (.inr rfl) (QR rfl rfl (QR rfl rfl (Qa rfl (Qa rfl ?_))))))))
 refine hK _ _ (Qb (kp2 rfl rfl) ?_)
 refine Qu ?_
 exact QS rfl rfl ⟨rfl, rfl⟩
theorem Qee {w : Qp} (hw : WSm w) {db : List (List TermT)} (hd : db.length <= 100000000) (hi : ∀ x ∈ db, IncOk w x) {l : List QO} (hl : l.length <= 1000000) (hp : YO w l) : Ok Tryz.prog 14 [Z1 w, dDb db, Zz l] (.tup [Zz (QaH w db l).1, .int .i64 (QaH w db l).2]) := by
 refine Ok.ofT ZY Tryz.func14 Qro (Nat.le_of_ble_eq_true rfl) ?_
 show TW _ _ tf14.body _ _
 have hn := hw.len
 have hii : ∀ x ∈ db, x.length <= 1000000 := fun x hx => Nat.le_trans (hi x hx).len (by omega)
 have ht0 := Qnb w l w.length
 refine Qf fun K hK => Zv rfl rfl rfl (Qa rfl (Qa rfl ?_))
 refine hK _ _ (Qb (kp3 rfl rfl rfl) ?_)
 refine QoV (Qf fun K hK => Qa rfl (QlA rfl rfl (fun _ h => QkN Qlo h) rfl (.inl rfl) (by simp) (by simp; omega) (by simp; omega) (Qa rfl ?_)))
 refine hK _ _ (Qb (kp4 rfl rfl rfl rfl) ?_)
 refine Qf fun K hK => QH (cs := [_]) rfl rfl rfl rfl (Qa rfl (Yj (Qj1 rfl (by intro x hx; simp at hx; rcases hx with rfl | rfl <;> rfl) rfl rfl rfl (QeI hw (by omega) _ rfl)) (Qa rfl ?_)))
 refine hK _ _ (Qb (kp4 rfl rfl rfl rfl) ?_)
 refine QB ?_ -- 0
 refine Qv (Qd (kp4 rfl rfl rfl rfl) (Qz ?_))
 refine Zj (ι := Nat × List QO) (fun ⟨n, out⟩ => ⟨[(1, dDb db), (3, .ref 3 0 0), (8, Zz out), (9, .osl 500000 (ZR w out).length)], [(3, ⟨[[.sl ((w).map Yn)]], 1, 26, true⟩), (500000, ⟨(ZR w out).map (fun x => [.int .i64 x]), 1, 3, true⟩)]⟩) (fun ⟨n, out⟩ => YO w out /\ out.length <= l.length + n /\ QaH w db l = Qbo w db (w.length * 18 + 1 - n) out /\ tot w out < w.length * 18 + 1 - n) (fun ⟨n, out⟩ => tot w out) (0, l) ?_ ?_ ?_
 ·exact le_trans (QfI (l := [1, 3, 9]) (lH := [3, 500000]) 17 8 (kp3 rfl rfl rfl) (Qe rfl (Qe rfl Ql)) rfl rfl rfl (by simp) rfl rfl rfl rfl) (Q1 (l := [1, 3, 8, 9]) (lH := [3, 500000]) (kp4 rfl rfl rfl rfl) (Qe rfl (Qe rfl Ql)) rfl rfl rfl)
 ·exact ⟨hp, Nat.le_refl _, rfl, by show QeY w l w.length < w.length * 18 + 1 - 0; omega⟩
 intro ⟨n, out⟩ hI
 obtain ⟨hI1, hI2, hI3, hI4⟩ := hI
 try dsimp only at hI1 hI2 hI3 hI4
 have hlen := QaU w out
 try dsimp only
 refine Qz (Qf fun K hK => Qa rfl (Qa rfl (QI (QmE (l := out) hd hii hI1) rfl (by simp [QbI, D.fz, D.fzS, QcT, lk, D.can, D.canS, Zo, dDb]) (.inr rfl) (Qa rfl (QR rfl rfl (QR rfl rfl (Qa rfl (Qa rfl ?_))))))))
 refine hK _ _ (Qb (kp6 rfl rfl rfl rfl rfl rfl) ?_)
 refine QB ?_ -- 1
 refine Qf fun K hK => Qa rfl (Z6 rfl rfl (Qa rfl ?_))
 refine QE (g := 29) rfl (fun h1 => ?_) (fun h1 => ?_)
 ·try rw [h1]
  try simp only [qa, qb, qc, qd, qe, List.length_map] at h1
  refine Qt rfl (Qt rfl (Qo rfl rfl ?_))
  refine hK _ _ (Qb (kp7 rfl rfl rfl rfl rfl rfl rfl) ?_)
  refine Zt rfl (Qf fun K hK => Qa rfl (Qa rfl (Qa rfl (Qa rfl ?_))))
  refine hK _ _ (Qb (kp2 rfl rfl) ?_)
  refine Qu (Qj (Qr (Q4 (Qr ?_))))
  rw [hI3, Qcr (Qn8 h1) (by omega)]
  exact QS rfl rfl ⟨rfl, rfl⟩
 ·try rw [h1]
  try simp only [qa, qb, qc, qd, qe, List.length_map] at h1
  refine Qk rfl (Qa rfl (Qk rfl (Z6 rfl rfl (Qo rfl rfl ?_))))
  refine hK _ _ (Qb (kp7 rfl rfl rfl rfl rfl rfl rfl) ?_)
  refine Qw rfl (fun h2 => ?_) (fun h2 => ?_)
  ·try rw [h2]
   try simp only [qa, qb, qc, qd, qe, List.length_map] at h2
   try (obtain ⟨a, k, ho⟩ := QdZ h2; have hin := ho.inW; have ha := ho.ha; rw [ho.eq]; dsimp only)
   refine Qf fun K hK => Qa rfl (Qa rfl (Qa rfl (Qa rfl ?_)))
   refine hK _ _ (Qb (kp2 rfl rfl) ?_)
   refine Qu (Qj (Qr (Q4 (Qr ?_))))
   rw [hI3, Qcr h2 (by omega)]
   exact QS rfl rfl ⟨rfl, rfl⟩
  ·try rw [h2]
   try simp only [qa, qb, qc, qd, qe, List.length_map] at h2
   try (obtain ⟨a, k, ho⟩ := QdZ h2; have hin := ho.inW; have ha := ho.ha; rw [ho.eq]; dsimp only)
   refine Qv (Qd (kp6 rfl rfl rfl rfl rfl rfl) ?_)
   refine QB ?_ -- 2
   refine Qf fun K hK => Qa rfl (Qa rfl (QK rfl rfl rfl (by omega) (QV (by omega)) rfl (QA rfl rfl rfl ?_)))
   first | refine QQ rfl QW ?_ | refine QQ rfl rfl ?_
   refine Qa rfl ?_
   refine hK _ _ (Qb (kp9 rfl rfl rfl rfl rfl rfl rfl rfl rfl) ?_)
   refine Qz ?_
   refine Zj (ι := Nat) (fun j => ⟨[(1, dDb db), (3, .ref 3 0 0), (8, Zz out), (9, .osl 500000 (ZR w out).length), (10, .int .i64 a), (11, .int .i64 ((db[a]'ho.ha)[k]'ho.hk).u), (38, ZK (db[a]'ho.ha)), (39, .int .i64 (db[a]'ho.ha).length), (40, .int .i64 j)], [(3, ⟨[[.sl ((w).map Yn)]], 1, 26, true⟩), (500000, ⟨(ZR w out).map (fun x => [.int .i64 x]), 1, 3, true⟩)]⟩) (fun j => j <= k) (fun j => k - j) 0 ?_ ?_ ?_
   ·exact Q1 (l := [1, 3, 8, 9, 10, 11, 38, 39, 40]) (lH := [3, 500000]) (kp9 rfl rfl rfl rfl rfl rfl rfl rfl rfl) (Qe rfl (Qe rfl Ql)) rfl rfl rfl
   ·exact Nat.zero_le _
   intro j hJ
   have hk := ho.hk
   have hln := (hi _ (List.getElem_mem ho.ha)).len
   try dsimp only
   refine Qf fun K hK => Z6 rfl rfl ?_
   refine hK _ _ (Qb (Qow rfl rfl rfl rfl rfl rfl rfl rfl rfl rfl) ?_)
   refine QB ?_ -- 3
   refine Qw rfl (fun h3 => ?_) (fun h3 => ?_)
   ·try rw [h3]
    try simp only [qa, qb, qc, qd, qe, List.length_map] at h3
    refine Qv (Qd (kp9 rfl rfl rfl rfl rfl rfl rfl rfl rfl) ?_)
    refine QB ?_ -- 4
    refine Qz (Qf fun K hK => QK rfl rfl rfl (by omega) (QV (by omega)) rfl (QH (cs := [_, _]) rfl rfl rfl rfl (ZL rfl (Q7 rfl rfl rfl rfl rfl rfl rfl rfl ?_))))
    refine hK _ _ (Qb (Qow rfl rfl rfl rfl rfl rfl rfl rfl rfl rfl) ?_)
    refine QB ?_ -- 5
    refine Qf fun K hK => Qh rfl rfl (QA rfl rfl rfl (Qa rfl (X8 rfl rfl ?_)))
    refine hK _ _ (Qb (Qrj rfl rfl rfl rfl rfl rfl rfl rfl rfl rfl rfl) ?_)
    refine Qw rfl (fun h4 => ?_) (fun h4 => ?_)
    ·try rw [h4]
     try simp only [qa, qb, qc, qd, qe, List.length_map] at h4
     try (have e := (hi _ (List.getElem_mem ho.ha)).uniq ho.hk (by omega) h4.symm; subst e)
     refine Zh (QJ (QD (Qd (kp9 rfl rfl rfl rfl rfl rfl rfl rfl rfl) (QL fun K hK => Q2 rfl rfl (by first | exact Qq (by omega) (by omega) | rfl) (Qa rfl (hK _ ?_))))))
     refine Qi (j + 1) ?_ ?_ ?_
     ·exact Q1 (l := [1, 3, 8, 9, 10, 11, 38, 39, 40]) (lH := [3, 500000]) (kp9 rfl rfl rfl rfl rfl rfl rfl rfl rfl) (Qe rfl (Qe rfl Ql)) rfl rfl rfl
     ·show j + 1 <= k; have : j ≠ k := fun e => h4 (by subst e; rfl); omega
     ·show k - (j + 1) < k - j; have : j ≠ k := fun e => h4 (by subst e; rfl); omega
    ·try rw [h4]
     try simp only [qa, qb, qc, qd, qe, List.length_map] at h4
     try (have e := (hi _ (List.getElem_mem ho.ha)).uniq ho.hk (by omega) h4.symm; subst e)
     refine Qv (Qd (kp7 rfl rfl rfl rfl rfl rfl rfl) (Qf fun K hK => QH (cs := [_]) rfl rfl rfl rfl (Qa rfl (QH (cs := [_, _]) rfl rfl rfl rfl (Qa rfl ?_)))))
     have hcall := Qgg hw (l := out) (by omega) hI1 (t := ((db[a]'ho.ha)[k]'ho.hk)) (c := a)
     rw [ho.step' hI1] at hcall
     refine QI (hcall) rfl rfl (.inl rfl) (Qa rfl (QR rfl rfl (QR rfl rfl (Qa rfl (Qa rfl ?_)))))
     refine hK _ _ (Qb (kp8 rfl rfl rfl rfl rfl rfl rfl rfl) ?_)
     refine QB ?_ -- 6
     refine Qf fun K hK => Qa rfl (Ym rfl ?_)
     refine hK _ _ (Qb (kp8 rfl rfl rfl rfl rfl rfl rfl rfl) ?_)
     refine Qw rfl (fun h5 => ?_) (fun h5 => ?_)
     ·try rw [h5]
      try simp only [qa, qb, qc, qd, qe, List.length_map] at h5
      exact absurd h5 (by simp)
     ·try rw [h5]
      try simp only [qa, qb, qc, qd, qe, List.length_map] at h5
      refine Qv (Qd (kp6 rfl rfl rfl rfl rfl rfl) (Qf fun K hK => Qa rfl (Qa rfl (Qa rfl (Qa rfl (Qa rfl (XG (ds0 := [6, 3, 0]) rfl rfl rfl (by simp) (by omega) (by omega) rfl rfl rfl (QU (ds0 := [3, 0]) rfl (Z7 rfl (ZE (by omega) (by omega))) rfl rfl rfl (Qh rfl rfl (QU (ds0 := [3, 0]) rfl rfl rfl rfl rfl ?_))))))))))
      refine QeZ rfl rfl (Qa rfl (XG (ds0 := [0]) rfl rfl rfl (by simp) (by omega) (by omega) rfl rfl rfl (YZ (ds0 := []) rfl rfl (ZE (by omega) (by omega)) rfl rfl rfl rfl rfl rfl rfl ?_)))
      refine hK _ _ (Qb (kp4 rfl rfl rfl rfl) ?_)
      refine Zh (Qeb (by decide) (QJ (Qx (Qeb (by decide) (QJ (QD ?_))))))
      refine Qi (n + 1, out ++ [Qnf w out ((db[a]'ho.ha)[k]'ho.hk) a]) ?_ ?_ ?_
      ·exact Q1 (l := [1, 3, 8, 9]) (lH := [3, 500000]) (kp4 rfl rfl rfl rfl) (Qe rfl (Qe rfl Ql)) (by rw [Qiu hin.1 hin.2 (by omega), List.length_set]; simp [Zz, Qid, Qnf]) (by rw [Qiu hin.1 hin.2 (by omega), List.map_set] <;> rfl) rfl
      ·exact ⟨ho.plain hI1, by simp only [List.length_append, List.length_singleton]; omega, by rw [hI3, ho.go hI1 hi (by omega), show w.length * 18 + 1 - (n + 1) = w.length * 18 + 1 - n - 1 by omega], by have := ho.tot hI1; show tot w (out ++ [Qnf w out ((db[a]'ho.ha)[k]'ho.hk) a]) < w.length * 18 + 1 - (n + 1); omega⟩
      ·exact ho.tot hI1
   ·try rw [h3]
    try simp only [qa, qb, qc, qd, qe, List.length_map] at h3
    exfalso; omega
end Go.Proofs
namespace M25
open Go Go.Abs M3
/-! ### Sets that are made: moderate sizes -/
theorem QnE (l : List (Cu × Cu)) (x y : Cu) : (Qb1 l x y).length <= l.length + 1 := Qiz l x y
theorem Qhc (f : Cu -> Cu -> Bool) : ∀ (c : List Cu) (out : List (Cu × Cu)), (∀ x ∈ c, Cu.sm x) -> (∀ s ∈ out, Cu.sm s.1 /\ Cu.sm s.2) -> (Qb0 f c out).length <= out.length + c.length /\ ∀ s ∈ Qb0 f c out, Cu.sm s.1 /\ Cu.sm s.2
 | [], out, _, h => ⟨by simp [Qb0], by simpa [Qb0] using h⟩
 | [x], out, _, h => ⟨by simp [Qb0], by simpa [Qb0] using h⟩
 | x :: y :: r, out, hc, h => by
  rw [Qb0]
  have hxy := QnE out x y
  split
  ·obtain ⟨h1, h2⟩ := Qhc f (y :: r) (Qb1 out x y) (fun z hz => hc z (by simp at hz ⊢; exact .inr hz)) (Qkq h (hc x (by simp)) (hc y (by simp)))
   exact ⟨by simp only [List.length_cons] at h1 ⊢; omega, h2⟩
  ·obtain ⟨h1, h2⟩ := Qhc f (y :: r) out (fun z hz => hc z (by simp at hz ⊢; exact .inr hz)) h
   exact ⟨by simp only [List.length_cons] at h1 ⊢; omega, h2⟩
def SmN (n : Nat) (l : List (Cu × Cu)) : Prop := l.length <= n /\ ∀ s ∈ l, Cu.sm s.1 /\ Cu.sm s.2
theorem SmN.sm {n : Nat} {l : List (Cu × Cu)} (h : SmN n l) (hn : n <= 1000000) : Sm l := ⟨Nat.le_trans h.1 hn, h.2⟩
theorem SmN.up {n m : Nat} {l : List (Cu × Cu)} (h : SmN n l) (hn : n <= m) : SmN m l := ⟨Nat.le_trans h.1 hn, h.2⟩
theorem SmN.nil (n : Nat) : SmN n [] := ⟨Nat.zero_le _, by simp⟩
theorem QoD {a b : List (Cu × Cu)} {n m : Nat} (ha : SmN n a) (hb : SmN m b) (h : n + m <= 1000000) : SmN (2 + 2 * (n + m)) (Qoz a b) := by
 unfold Qoz
 split
 ·have hab : Sm (a ++ b) := (ha.sm (by omega)).app (hb.sm (by omega)) (by have := ha.1; have := hb.1; omega)
  unfold Qjx
  split
  ·obtain ⟨h1, h2⟩ := Qhc (mIn (a ++ b)) (YR (a ++ b)) [] (Yz hab) (by simp)
   have := QbZ (a ++ b)
   have := ha.1
   have := hb.1
   exact ⟨by simp only [List.length_nil, List.length_append] at *; omega, h2⟩
  ·exact SmN.nil _
 ·exact SmN.nil _
theorem Qmz {a : List (Cu × Cu)} {n : Nat} (ha : SmN n a) (h : n <= 1000000) : SmN (2 + 2 * n) (Qjy a) := by
 unfold Qjy
 split
 ·obtain ⟨h1, h2⟩ := Qhc (fun x y => !mIn a x y) (YR a) [] (Yz (ha.sm h)) (by simp)
  have := QbZ a
  have := ha.1
  exact ⟨by simp only [List.length_nil] at *; omega, h2⟩
 ·exact SmN.nil _
def QkX (n : Nat) (s : Qe0) : Prop := SmN n s.1 /\ SmN n s.2
theorem Qp8 {a b : Qe0} {n m : Nat} (ha : QkX n a) (hb : QkX m b) (h : n + m <= 1000000) : QkX (2 + 2 * (n + m)) (QoA a b) := by
 unfold QoA
 split
 ·exact ⟨QoD ha.1 hb.1 h, QoD ha.2 hb.2 h⟩
 ·exact ⟨SmN.nil _, SmN.nil _⟩
theorem QmA {a : Qe0} {n : Nat} (ha : QkX n a) (h : n <= 1000000) : QkX (2 + 2 * n) (Qhy a) := by
 unfold Qhy
 split
 ·exact ⟨Qmz ha.1 h, Qmz ha.2 h⟩
 ·exact ⟨SmN.nil _, SmN.nil _⟩
theorem Qct (e a b c : Int) (f : Bool) : Cu.sm ⟨e, a, b, c, [], [], f⟩ := ⟨Nat.zero_le _, Nat.zero_le _⟩
theorem Qch {a b c : Int} {p q : List UInt8} (hp : p.length <= 1000000) : QkX 1 (Xa a b c p q) := by
 unfold Xa
 split
 ·exact ⟨SmN.nil _, SmN.nil _⟩
 ·split
  ·refine ⟨SmN.nil _, ⟨Nat.le_refl _, fun s hs => ?_⟩⟩
   simp only [List.mem_singleton] at hs; subst hs
   exact ⟨⟨hp, Nat.zero_le _⟩, ⟨hp, Nat.zero_le _⟩⟩
  ·refine ⟨⟨Nat.le_refl _, fun s hs => ?_⟩, SmN.nil _⟩
   simp only [List.mem_singleton] at hs; subst hs
   constructor
   ·unfold QfT; split
    ·exact Qct ..
    ·exact Qct ..
   ·unfold QdD; split
    ·exact Qct ..
    ·exact Qct ..
def QlE : Qe0 := ([(Qbw, QeW)], [(Qbw, QeW)])
theorem Qon : QkX 1 QlE := by
 have h : SmN 1 [(Qbw, QeW)] := ⟨Nat.le_refl _, fun s hs => by simp only [List.mem_singleton] at hs; subst hs; exact ⟨Qct .., Qct ..⟩⟩
 exact ⟨h, h⟩
def bnd (i : Nat) : Nat := 4 * 2 ^ i
theorem Qop {i : Nat} (h : i <= 16) : bnd i <= 262144 := by
 have : 2 ^ i <= 2 ^ 16 := Nat.pow_le_pow_right (by omega) h
 have e : (2 : Nat) ^ 16 = 65536 := by decide
 unfold bnd; omega
theorem Qqe {s : Qe0} {i : Nat} (h : QkX (bnd i - 4) s) {a b c : Int} {p q : List UInt8} (hp : p.length <= 1000000) (hi : i <= 16) : QkX (bnd (i + 1) - 4) (QoA s (Xa a b c p q)) := by
 have h1 := Qop hi
 have h4 : 4 <= bnd i := by unfold bnd; have := Nat.one_le_two_pow (n := i); omega
 have := Qp8 h (Qch (a := a) (b := b) (c := c) (q := q) hp) (by omega)
 have e : bnd (i + 1) = 2 * bnd i := by unfold bnd; rw [Nat.pow_succ]; omega
 exact ⟨this.1.up (by omega), this.2.up (by omega)⟩
theorem Qn9 {s : Qe0} {i : Nat} (h : QkX (bnd i - 4) s) : QkX (bnd (i + 1) - 4) s := by
 have e : bnd (i + 1) = 2 * bnd i := by unfold bnd; rw [Nat.pow_succ]; omega
 exact ⟨h.1.up (by omega), h.2.up (by omega)⟩
def SetOk (s : Qe0) : Prop := QkX 600000 s
theorem SetOk.sm {s : Qe0} (h : SetOk s) : Sm s.1 /\ Sm s.2 := ⟨h.1.sm (by omega), h.2.sm (by omega)⟩
structure CR where
 v : Vr
 x : D
 y : D
 z : D
def dCR (r : CR) : List D := [.int .i64 r.v.a, .int .i64 r.v.b, .int .i64 r.v.c, .str r.v.p, .str r.v.q, r.x, r.y, r.z]
def CR.ren (r : CR) : CR := ⟨r.v, r.x.renS upN, r.y.renS upN, r.z.renS upN⟩
theorem QlL (l : List CR) : (l.map dCR).map (fun r => r.map (D.renS upN)) = (l.map CR.ren).map dCR := by
 rw [List.map_map, List.map_map]; rfl
structure UR where
 n : List UInt8
 f : List UInt8
 k : Nat
 cs : List CR
def dUR (u : UR) : List D := [.str u.n, .str u.f, .osl u.k u.cs.length]
def UR.ren (u : UR) : UR := ⟨u.n, u.f, upN u.k, u.cs.map CR.ren⟩
theorem Qo9 (l : List UR) : (l.map dUR).map (fun r => r.map (D.renS upN)) = (l.map UR.ren).map dUR := by
 rw [List.map_map, List.map_map]
 refine List.map_congr_left fun u _ => ?_
 simp [dUR, UR.ren, D.renS]
structure Fam (H : List (Nat × Box)) (kg ku eu ec : Nat) (us : List UR) : Prop where
 ne : ku ≠ kg
 u : ∃ pr, lk H ku = some ⟨us.map dUR, 3, eu, pr⟩
 c : ∀ y ∈ us, y.k ≠ kg /\ ∃ pr, lk H y.k = some ⟨y.cs.map dCR, 8, ec, pr⟩
 v : ∀ y ∈ us, y.cs.length <= 16 /\ ∀ z ∈ y.cs, Qgo z.v
theorem Fam.up {H : List (Nat × Box)} {kg ku eu ec : Nat} {us : List UR} (h : Fam H kg ku eu ec us) : Fam (upH H) (upN kg) (upN ku) eu ec (us.map UR.ren) := by
 obtain ⟨h1, ⟨pu, h2⟩, h3, h4⟩ := h
 refine ⟨fun e => h1 (QjR e), ⟨pu, ?_⟩, fun y hy => ?_, fun y hy => ?_⟩
 ·rw [Qay, h2, Option.map_some, Box.ren, Qo9]
 ·obtain ⟨u, hu, rfl⟩ := List.mem_map.1 hy
  obtain ⟨q1, pr, q2⟩ := h3 u hu
  refine ⟨fun e => q1 (QjR e), pr, ?_⟩
  show lk (upH H) (upN u.k) = _
  rw [Qay, q2, Option.map_some, Box.ren, QlL]; rfl
 ·obtain ⟨u, hu, rfl⟩ := List.mem_map.1 hy
  obtain ⟨q1, q2⟩ := h4 u hu
  refine ⟨by simpa [UR.ren] using q1, fun z hz => ?_⟩
  obtain ⟨z0, hz0, rfl⟩ := List.mem_map.1 hz
  exact q2 z0 hz0
theorem Fam.cons {H : List (Nat × Box)} {kg ku eu ec : Nat} {us : List UR} (h : Fam H kg ku eu ec us) {b : Box} : Fam ((kg, b) :: H) kg ku eu ec us := by
 obtain ⟨h1, ⟨pu, h2⟩, h3, h4⟩ := h
 exact ⟨h1, ⟨pu, Qn (Ne.symm h1) h2⟩, fun y hy => let ⟨q1, pr, q2⟩ := h3 y hy; ⟨q1, pr, Qn (Ne.symm q1) q2⟩, h4⟩
def WantIn (n : Nat) (x : WantT) : Prop := 1 <= x.u /\ x.u < n /\ SetOk x.s
def QhY (n : Nat) (r : List WantT) : Prop := r.length <= 2 /\ ∀ x ∈ r, WantIn n x
def Qfi (n : Nat) (m : Int) (ns : List (List WantT)) : Prop := (ns.length : Int) <= m /\ ∀ r ∈ ns, QhY n r
theorem Qpq {n : Nat} {x : WantT} (h : WantIn n x) : QhY n [x] := ⟨by simp, by intro y hy; simp only [List.mem_singleton] at hy; subst hy; exact h⟩
theorem Qpr {n : Nat} {x y : WantT} (h : WantIn n x) (h' : WantIn n y) : QhY n [x, y] := ⟨by simp, by
 intro z hz
 simp only [List.mem_cons, List.not_mem_nil, or_false] at hz
 rcases hz with rfl | rfl
 ·exact h
 ·exact h'⟩
theorem QmO {n : Nat} {ns : List (List WantT)} {r : List WantT} (h : ∀ r ∈ ns, QhY n r) (hr : QhY n r) : ∀ x ∈ ns ++ [r], QhY n x := fun x hx => by
 rcases List.mem_append.1 hx with hx | hx
 ·exact h x hx
 ·simp only [List.mem_singleton] at hx; subst hx; exact hr
end M25
namespace Go.Proofs
open Go Go.Abs M3 M25
set_option linter.unusedVariables false
set_option linter.unusedSimpArgs false
theorem Qb6 {s : St} {args : List Opd} {kg : Nat} {L : List Int} {I n : Int} {et : Nat} (ha : ZW s args = some [.ref kg 0 0, .int .i64 n]) (hg : lk s.H kg = some (gB L I et)) (hL : ∀ x ∈ L, I64 x) (hn : n <= 9223372036854775807) : Qa5 Tryz.prog 36 args s [(kg, gB L I et)] [] [(kg, gB L (nxI I) et)] (.int .i64 (nx L I n)) := by
 refine Qj2 (b' := gB L (nxI I) et) (ds' := [.ref (upN kg) 0 0, .int .i64 n]) ha (fun j x h => ?_) (fun k b hk j hj => ?_) (fun x hx j hj => ?_) ?_ rfl rfl rfl rfl ?_
 ·obtain ⟨rfl, rfl⟩ := Xr h; exact hg
 ·obtain ⟨rfl, rfl⟩ := Xr hk; simp [Box.ids, gB] at hj
 ·simp only [List.mem_cons, List.not_mem_nil, or_false] at hx
  rcases hx with rfl | rfl
  ·simp [D.ids, D.sid] at hj; subst hj; rw [Qy]; rfl
  ·simp [D.ids, D.sid] at hj
 ·rw [Qy]; rfl
 ·exact XI (by unfold upN; omega) hL hn et
theorem Qdk {H : List (Nat × Box)} {kg kc : Nat} {L : List Int} {I : Int} {eg ec : Nat} {pr : Bool} {zs : List CR} (hkg : 1000000 <= kg) (hg : lk H kg = some (gB L I eg)) (hc : lk H kc = some ⟨zs.map dCR, 8, ec, pr⟩) (hne : kg ≠ kc) (hB : Big H) (hC : Closed H) (hL : ∀ x ∈ L, I64 x) (hz : ∀ z ∈ zs, Qgo z.v) (hn : zs.length <= 16) : ∃ d H2, (∃ s I2, SetOk s /\ d = Qg9 s /\ H2 = (kg, gB L I2 eg) :: H) /\ OkH Tryz.prog 62 [.ref kg 0 0, .osl kc zs.length] H d H2 := by
 have hkc := hB _ _ hc
 refine OkH.ofX (R := fun d H2 => ∃ s I2, SetOk s /\ d = Qg9 s /\ H2 = (kg, gB L I2 eg) :: H) ZY Tryz.func62 Qr1 (Nat.le_of_ble_eq_true rfl) ?_
 show TX _ _ tf62.body _ _
 refine Q8 fun K hK => ?_
 refine ZL (by repeat (first | exact hB.none (by decide) | refine Zq (by first | decide | omega) ?_)) ?_
 refine hK _ _ (QP (kp3 rfl rfl rfl) ?_)
 refine Q8 fun K hK => Qa rfl (Yj (Qb6 (I := I) rfl (Qn (by omega) hg) hL (by omega)) (Qa rfl ?_))
 refine hK _ _ (QP (kp4 rfl rfl rfl rfl) ?_)
 refine Q8 fun K hK => QI (Z8) rfl rfl (.inl rfl) ?_
 refine ZL (by repeat (first | exact hB.none (by decide) | refine Zq (by first | decide | omega) ?_)) ?_
 refine Q7 rfl rfl rfl rfl rfl rfl rfl rfl ?_
 refine hK _ _ (QP (kp5 rfl rfl rfl rfl rfl) ?_)
 refine Xo ?_ -- 0
 refine Q8 fun K hK => Qa rfl ?_
 refine hK _ _ (QP (kp6 rfl rfl rfl rfl rfl rfl) ?_)
 refine Yv ?_
 refine Qde (ι := Nat × Qe0) (fun ⟨i, s⟩ => ⟨[(0, .ref kg 0 0), (1, .osl kc zs.length), (4, .ref 4 0 0), (5, .int .i64 (nx L I 8)), (6, .ref 6 0 0), (7, .int .i64 i)], [(4, ⟨[[.fsl [], .fsl []]], 2, 74, true⟩), (6, ⟨[[ZJ s.1, ZJ s.2]], 2, 74, true⟩), (kg, gB L (nxI I) eg)] ++ H⟩) (fun ⟨i, s⟩ => i <= zs.length /\ QkX (bnd i - 4) s) (fun ⟨i, s⟩ => zs.length - i) (0, ([], [])) ?_ ?_ ?_
 ·exact QfM (l := [0, 1, 4, 5, 6, 7]) (B := [_, _, _, _]) (kp6 rfl rfl rfl rfl rfl rfl) rfl (by intro p hp; simp only [List.mem_cons, List.not_mem_nil, or_false] at hp; rcases hp with rfl | rfl | rfl <;> exact ⟨by repeat (first | exact Qy | refine Qn (by first | decide | omega) ?_), rfl⟩) rfl (by intro p hp h; simp only [List.mem_cons, List.not_mem_nil, or_false] at hp; rcases hp with rfl | rfl | rfl | rfl <;> first | (simp only at h; omega) | (repeat (first | exact Q3 | refine QZ ?_))) hB hC (by intro p hp k hk; simp only [List.mem_cons, List.not_mem_nil, or_false] at hp; rcases hp with rfl | rfl | rfl | rfl | rfl | rfl <;> first | (simp [D.ids, D.sid, Za, QY, Zo] at hk; done) | (simp [D.ids, D.sid, Za, QY, Zo] at hk; subst hk; repeat (first | exact Q3 | exact Zp hg | exact Zp hc | refine QZ ?_)))
 ·exact ⟨Nat.zero_le _, SmN.nil _, SmN.nil _⟩
 intro ⟨i, s⟩ hI
 try dsimp only at hI
 have hb16 := Qop (i := i) (by omega)
 try dsimp only
 refine Xo ?_ -- 1
 refine Q8 fun K hK => Qa rfl (Qa rfl ?_)
 first | refine QQ rfl QW ?_ | refine QQ rfl rfl ?_
 refine Z6 rfl rfl ?_
 refine hK _ _ (QP (kp7 rfl rfl rfl rfl rfl rfl rfl) ?_)
 refine YI rfl (fun h1 => ?_) (fun h1 => ?_)
 ·try rw [h1]
  try simp only [qa, qb, qc, qd, qe, List.length_map] at h1
  refine YX (Q5 (kp6 rfl rfl rfl rfl rfl rfl) ?_)
  refine Xo ?_ -- 2
  refine Yv (Q8 fun K hK => Qa rfl (Qa rfl (QhX rfl (Qfh (by omega) (by omega)) (QpR rfl rfl (by omega) (Qd8 rfl rfl (ZO rfl rfl ?_))))))
  refine hK _ _ (QP (kp7 rfl rfl rfl rfl rfl rfl rfl) ?_)
  refine YI rfl (fun h2 => ?_) (fun h2 => ?_)
  ·try rw [h2]
   try simp only [qa, qb, qc, qd, qe, List.length_map] at h2
   have hvp := (hz _ (List.getElem_mem (show i < zs.length by omega))).1
   refine ZP fun K hK => QN (ds0 := [1, 0]) (cs := [_, _]) rfl rfl rfl rfl (by simp [Dr.ok, QbO]) rfl (Qa rfl (Qa rfl (XG (ds0 := [4, 3, 2, 1, 0]) rfl rfl (Qn (by omega) (Qn (by omega) (Qn (by omega) hc))) (by simp) (by omega) (by omega) rfl (by simp [Dr.ok, QbO]) rfl (Qh rfl (Zp (Qn (by omega) (Qn (by omega) (Qn (by omega) hc)))) (QN (ds0 := [2, 1, 0]) (cs := [_, _, _, _, _]) rfl (Z7 (Qn (by omega) (Qn (by omega) (Qn (by omega) hc))) (QV (by omega))) rfl rfl (by simp [Dr.ok, QbO]) rfl (QT (ds0 := [1, 0]) (XR (hz _ (List.getElem_mem (by omega))).1 (hz _ (List.getElem_mem (by omega))).2) rfl rfl (.inl rfl) (by simp [Dr.ok, QbO]) rfl (QT (ds0 := [0]) (Qed (a := s) (b := (Xa (zs[i]'(by omega)).v.a (zs[i]'(by omega)).v.b (zs[i]'(by omega)).v.c (zs[i]'(by omega)).v.p (zs[i]'(by omega)).v.q)) (hI.2.1.sm (by omega)) (hI.2.2.sm (by omega)) ((Qch hvp).1.sm (by omega)) ((Qch hvp).2.sm (by omega)) (by have := hI.2.1.1; have := (Qch (a := (zs[i]'(by omega)).v.a) (b := (zs[i]'(by omega)).v.b) (c := (zs[i]'(by omega)).v.c) (q := (zs[i]'(by omega)).v.q) hvp).1.1; omega) (by have := hI.2.2.1; have := (Qch (a := (zs[i]'(by omega)).v.a) (b := (zs[i]'(by omega)).v.b) (c := (zs[i]'(by omega)).v.c) (q := (zs[i]'(by omega)).v.q) hvp).2.1; omega)) rfl rfl (.inl rfl) (by simp [Dr.ok, QbO]) rfl (YZ (ds0 := []) rfl rfl rfl rfl rfl rfl rfl rfl (by simp [Dr.ok, QbO]) rfl (hK _ ?_)))))))))
   refine Qg (Q5 (kp6 rfl rfl rfl rfl rfl rfl) (ZP fun K hK => Qa rfl (Q2 rfl rfl (by first | exact Qq (by omega) (by omega) | rfl) (Qa rfl (hK _ ?_)))))
   refine Qi (i + 1, QoA s (Xa (zs[i]'(by omega)).v.a (zs[i]'(by omega)).v.b (zs[i]'(by omega)).v.c (zs[i]'(by omega)).v.p (zs[i]'(by omega)).v.q)) ?_ ?_ ?_
   ·exact QfM (l := [0, 1, 4, 5, 6, 7]) (B := [_, _, _, _]) (kp6 rfl rfl rfl rfl rfl rfl) rfl (by intro p hp; simp only [List.mem_cons, List.not_mem_nil, or_false] at hp; rcases hp with rfl | rfl | rfl <;> exact ⟨by repeat (first | exact Qy | refine Qn (by first | decide | omega) ?_), rfl⟩) rfl (by intro p hp h; simp only [List.mem_cons, List.not_mem_nil, or_false] at hp; rcases hp with rfl | rfl | rfl | rfl <;> first | (simp only at h; omega) | (repeat (first | exact Q3 | refine QZ ?_))) hB hC (by intro p hp k hk; simp only [List.mem_cons, List.not_mem_nil, or_false] at hp; rcases hp with rfl | rfl | rfl | rfl | rfl | rfl <;> first | (simp [D.ids, D.sid, Za, QY, Zo] at hk; done) | (simp [D.ids, D.sid, Za, QY, Zo] at hk; subst hk; repeat (first | exact Q3 | exact Zp hg | exact Zp hc | refine QZ ?_)))
   ·exact ⟨by show i + 1 <= _; omega, Qqe hI.2 (hz _ (List.getElem_mem (by omega))).1 (by omega)⟩
   ·show zs.length - (i + 1) < zs.length - i; omega
  ·try rw [h2]
   try simp only [qa, qb, qc, qd, qe, List.length_map] at h2
   have hvp := (hz _ (List.getElem_mem (show i < zs.length by omega))).1
   refine YX (Qg (Q5 (kp6 rfl rfl rfl rfl rfl rfl) (ZP fun K hK => Qa rfl (Q2 rfl rfl (by first | exact Qq (by omega) (by omega) | rfl) (Qa rfl (hK _ ?_))))))
   refine Qi (i + 1, s) ?_ ?_ ?_
   ·exact QfM (l := [0, 1, 4, 5, 6, 7]) (B := [_, _, _]) (kp6 rfl rfl rfl rfl rfl rfl) rfl (by intro p hp; simp only [List.mem_cons, List.not_mem_nil, or_false] at hp; rcases hp with rfl | rfl | rfl <;> exact ⟨by repeat (first | exact Qy | refine Qn (by first | decide | omega) ?_), rfl⟩) rfl (by intro p hp h; simp only [List.mem_cons, List.not_mem_nil, or_false] at hp; rcases hp with rfl | rfl | rfl <;> first | (simp only at h; omega) | (repeat (first | exact Q3 | refine QZ ?_))) hB hC (by intro p hp k hk; simp only [List.mem_cons, List.not_mem_nil, or_false] at hp; rcases hp with rfl | rfl | rfl | rfl | rfl | rfl <;> first | (simp [D.ids, D.sid, Za, QY, Zo] at hk; done) | (simp [D.ids, D.sid, Za, QY, Zo] at hk; subst hk; repeat (first | exact Q3 | exact Zp hg | exact Zp hc | refine QZ ?_)))
   ·exact ⟨by show i + 1 <= _; omega, Qn9 hI.2⟩
   ·show zs.length - (i + 1) < zs.length - i; omega
 ·try rw [h1]
  try simp only [qa, qb, qc, qd, qe, List.length_map] at h1
  refine Qbv (YB (Qx (QD (Q5 (kp3 rfl rfl rfl) ?_))))
  refine Xo ?_ -- 3
  refine Q8 fun K hK => Qa rfl (Yj (Qb6 (I := nxI I) rfl (Qn (by omega) (Qn (by omega) Qy)) hL (by omega)) ?_)
  refine hK _ _ (QP (kp3 rfl rfl rfl) ?_)
  refine Yv (Q8 fun K hK => ZO rfl rfl (Qa rfl ?_))
  refine hK _ _ (QP (kp4 rfl rfl rfl rfl) ?_)
  refine YI rfl (fun h3 => ?_) (fun h3 => ?_)
  ·try rw [h3]
   try simp only [qa, qb, qc, qd, qe, List.length_map] at h3
   refine Q8 fun K hK => QI (Qau) rfl rfl (.inl rfl) (Q7 rfl (Qn (by omega) rfl) rfl rfl rfl rfl rfl rfl ?_)
   refine hK _ _ (QP (kp1 rfl) ?_)
   refine QeT (Qr (QaC ?_))
   refine ⟨Qg9 QlE, (kg, gB L (nxI (nxI I)) eg) :: H, ⟨QlE, _, ⟨Qon.1.up (by omega), Qon.2.up (by omega)⟩, rfl, rfl⟩, (XF hB hC hkg rfl).1, (XF hB hC hkg rfl).2, ?_⟩
   refine Qco (cs := [ZJ QlE.1, ZJ QlE.2]) rfl (Z7 (by repeat (first | exact Qy | refine Qn (by first | decide | omega) ?_)) rfl) rfl rfl rfl ?_
   exact Qax (B := [_, _, _, _, _]) hB (by repeat (first | exact Qy | refine Qn (by first | decide | omega) ?_)) (by intro p hp h; simp only [List.mem_cons, List.not_mem_nil, or_false] at hp; rcases hp with rfl | rfl | rfl | rfl | rfl <;> first | rfl | (simp only at h; omega))
  ·try rw [h3]
   try simp only [qa, qb, qc, qd, qe, List.length_map] at h3
   refine Q8 fun K hK => ZO rfl rfl (Qa rfl ?_)
   refine hK _ _ (QP (kp3 rfl rfl rfl) ?_)
   refine YI rfl (fun h4 => ?_) (fun h4 => ?_)
   ·try rw [h4]
    try simp only [qa, qb, qc, qd, qe, List.length_map] at h4
    refine Q8 fun K hK => QH (cs := [_, _]) rfl (Z7 (Qn (by omega) rfl) rfl) rfl rfl (QI (Qdo (a := s) (hI.2.1.sm (by omega)) (hI.2.2.sm (by omega))) rfl rfl (.inl rfl) (Q7 rfl (Qn (by omega) rfl) rfl rfl rfl rfl rfl rfl ?_))
    refine hK _ _ (QP (kp1 rfl) ?_)
    refine QeT (Qr (QaC ?_))
    refine ⟨Qg9 (Qhy s), (kg, gB L (nxI (nxI I)) eg) :: H, ⟨(Qhy s), _, ⟨(QmA hI.2 (by omega)).1.up (by omega), (QmA hI.2 (by omega)).2.up (by omega)⟩, rfl, rfl⟩, (XF hB hC hkg rfl).1, (XF hB hC hkg rfl).2, ?_⟩
    refine Qco (cs := [ZJ (Qhy s).1, ZJ (Qhy s).2]) rfl (Z7 (by repeat (first | exact Qy | refine Qn (by first | decide | omega) ?_)) rfl) rfl rfl rfl ?_
    exact Qax (B := [_, _, _, _, _]) hB (by repeat (first | exact Qy | refine Qn (by first | decide | omega) ?_)) (by intro p hp h; simp only [List.mem_cons, List.not_mem_nil, or_false] at hp; rcases hp with rfl | rfl | rfl | rfl | rfl <;> first | rfl | (simp only at h; omega))
   ·try rw [h4]
    try simp only [qa, qb, qc, qd, qe, List.length_map] at h4
    refine YX (Qg (Q5 (kp2 rfl rfl) (Q8 fun K hK => QH (cs := [_, _]) rfl (Z7 (Qn (by omega) rfl) rfl) rfl rfl (Q7 rfl (Qn (by omega) rfl) rfl rfl rfl rfl rfl rfl ?_))))
    refine hK _ _ (QP (kp1 rfl) ?_)
    refine QeT ?_
    refine ⟨Qg9 s, (kg, gB L (nxI (nxI I)) eg) :: H, ⟨s, _, ⟨hI.2.1.up (by omega), hI.2.2.up (by omega)⟩, rfl, rfl⟩, (XF hB hC hkg rfl).1, (XF hB hC hkg rfl).2, ?_⟩
    refine Qco (cs := [ZJ s.1, ZJ s.2]) rfl (Z7 (by repeat (first | exact Qy | refine Qn (by first | decide | omega) ?_)) rfl) rfl rfl rfl ?_
    exact Qax (B := [_, _, _, _, _]) hB (by repeat (first | exact Qy | refine Qn (by first | decide | omega) ?_)) (by intro p hp h; simp only [List.mem_cons, List.not_mem_nil, or_false] at hp; rcases hp with rfl | rfl | rfl | rfl | rfl <;> first | rfl | (simp only at h; omega))
end Go.Proofs
namespace Go.Proofs
open Go Go.Abs M3 M25
set_option linter.unusedVariables false
set_option linter.unusedSimpArgs false
/-- The call of 'set', over boxes that are lent. -/
theorem QqJ {H : List (Nat × Box)} {kg kc : Nat} {L : List Int} {I : Int} {eg ec : Nat} {pr : Bool} {zs : List CR} (hg : lk H kg = some (gB L I eg)) (hc : lk H kc = some ⟨zs.map dCR, 8, ec, pr⟩) (hne : kg ≠ kc) (hC : Closed H) (hL : ∀ x ∈ L, I64 x) (hz : ∀ z ∈ zs, Qgo z.v) (hn : zs.length <= 16) :
  ∃ s I2, SetOk s /\ ∀ (st : St) (args : List Opd), ZW st args = some [.ref kg 0 0, .osl kc zs.length] -> (∀ j x, lk H j = some x -> lk st.H j = some x) -> Qa5 Tryz.prog 62 args st H [] [(kg, gB L I2 eg)] (Qg9 s) := by
 obtain ⟨d, H2, ⟨s, I2, hs, rfl, rfl⟩, hok⟩ := Qdk (H := upH H) (kg := upN kg) (kc := upN kc) (L := L) (I := I) (eg := eg) (ec := ec) (pr := pr) (zs := zs.map CR.ren) (by unfold upN; omega) (by rw [Qay, hg]; rfl) (by rw [Qay, hc, Option.map_some, Box.ren, QlL]) (fun e => hne (QjR e)) QjQ (QeG hC) hL
  (fun z hz' => by obtain ⟨z0, h0, rfl⟩ := List.mem_map.1 hz'; exact hz z0 h0) (by simpa using hn)
 refine ⟨s, I2, hs, fun st args ha hF => Qj2 (b' := gB L I2 eg) (ds' := [.ref (upN kg) 0 0, .osl (upN kc) zs.length]) ha hF hC (fun x hx j hj => ?_) (Zp hg) rfl rfl rfl rfl ?_⟩
 ·simp only [List.mem_cons, List.not_mem_nil, or_false] at hx
  rcases hx with rfl | rfl
  ·simp [D.ids, D.sid] at hj; subst hj; exact Zp hg
  ·simp [D.ids, D.sid] at hj; subst hj; exact Zp hc
 ·rw [List.length_map] at hok; exact hok
theorem QcU {H : List (Nat × Box)} {kg ku : Nat} {L : List Int} {I : Int} {eg eu ec : Nat} {us : List UR} (hkg : 1000000 <= kg) (hg : lk H kg = some (gB L I eg)) (hU : Fam H kg ku eu ec us) (hB : Big H) (hC : Closed H) (hL : ∀ x ∈ L, I64 x) (h2n : 2 <= us.length) (hn : us.length <= 48) : ∃ d H2, (∃ x I2, WantIn us.length x /\ d = .agg (QeV x) /\ H2 = (kg, gB L I2 eg) :: H) /\ OkH Tryz.prog 37 [.ref kg 0 0, .osl ku us.length] H d H2 := by
 obtain ⟨pu, hu⟩ := hU.u
 have hku := hB _ _ hu
 have hne := hU.ne
 have hx0 := QiD (v := Qng L (IntKind.i64.wrap (nxI I - 1))) (n := (us.length : Int) - 1)
 have hx1 := QiC (v := Qng L (IntKind.i64.wrap (nxI I - 1))) (n := (us.length : Int) - 1) (by omega)
 change 0 <= nx L I ((us.length : Int) - 1) at hx0
 change nx L I ((us.length : Int) - 1) < _ at hx1
 obtain ⟨hyk, pr, hy⟩ := hU.c (us[(1 + nx L I ((us.length : Int) - 1)).toNat]'(by omega)) (List.getElem_mem _)
 obtain ⟨hv1, hv2⟩ := hU.v (us[(1 + nx L I ((us.length : Int) - 1)).toNat]'(by omega)) (List.getElem_mem _)
 obtain ⟨s, I2, hs, hcall⟩ := QqJ (H := (kg, gB L (nxI I) eg) :: H) Qy (Qn (Ne.symm hyk) hy) (Ne.symm hyk) (hC.pr rfl) hL hv2 hv1
 refine OkH.ofX (R := fun d H2 => ∃ x I2, WantIn us.length x /\ d = .agg (QeV x) /\ H2 = (kg, gB L I2 eg) :: H) ZY Tryz.func37 QrE (Nat.le_of_ble_eq_true rfl) ?_
 show TX _ _ tf37.body _ _
 refine Q8 fun K hK => ?_
 refine ZL (by repeat (first | exact hB.none (by decide) | refine Zq (by first | decide | omega) ?_)) ?_
 refine hK _ _ (QP (kp3 rfl rfl rfl) ?_)
 refine Q8 fun K hK => Qa rfl (Qa rfl ?_)
 first | refine QQ rfl QW ?_ | refine QQ rfl rfl ?_
 refine QaD rfl rfl (by first | exact Qq (by omega) (by omega) | rfl) (Yj (Qb6 (I := I) rfl (Qn (by omega) hg) hL (by omega)) (Q2 rfl rfl (by first | exact Qq (by omega) (by omega) | rfl) (Qa rfl ?_)))
 refine hK _ _ (QP (kp4 rfl rfl rfl rfl) ?_)
 refine Q8 fun K hK => Qa rfl (Qa rfl (Qa rfl (Qa rfl (Xf rfl rfl (Qn (by omega) (Qn (by omega) hu)) (by simp) (by omega) (by omega) rfl (Qh rfl (Zp (Qn (by omega) (Qn (by omega) hu))) (QA rfl (Z7 (Qn (by omega) (Qn (by omega) hu)) (ZE (by omega) (by omega))) rfl (Yj (hcall _ _ rfl (Qax (B := [_, _]) hB Qy (by intro p hp h; simp only [List.mem_cons, List.not_mem_nil, or_false] at hp; rcases hp with rfl | rfl <;> first | rfl | (simp only at h; omega)))) (QX rfl rfl (Q7 rfl (Qn (by omega) (Qn (by omega) rfl)) rfl rfl rfl rfl rfl rfl ?_)))))))))
 refine hK _ _ (QP (kp1 rfl) ?_)
 refine QeT ?_
 refine ⟨.agg (QeV ⟨1 + nx L I ((us.length : Int) - 1), s⟩), (kg, gB L I2 eg) :: H, ⟨⟨1 + nx L I ((us.length : Int) - 1), s⟩, _, ⟨by show 1 <= 1 + _; omega, by show 1 + _ < (us.length : Int); omega, hs⟩, rfl, rfl⟩, (XF hB hC hkg rfl).1, (XF hB hC hkg rfl).2, ?_⟩
 refine Qco (cs := QeV ⟨1 + nx L I ((us.length : Int) - 1), s⟩) rfl (Z7 (by repeat (first | exact Qy | refine Qn (by first | decide | omega) ?_)) rfl) rfl rfl rfl ?_
 exact Qax (B := [_, _, _, _]) hB (by repeat (first | exact Qy | refine Qn (by first | decide | omega) ?_)) (by intro p hp h; simp only [List.mem_cons, List.not_mem_nil, or_false] at hp; rcases hp with rfl | rfl | rfl | rfl <;> first | rfl | (simp only at h; omega))
/-- The call of 'want'. -/
theorem QkC {H : List (Nat × Box)} {kg ku : Nat} {L : List Int} {I : Int} {eg eu ec : Nat} {us : List UR} (hg : lk H kg = some (gB L I eg)) (hU : Fam H kg ku eu ec us) (hC : Closed H) (hL : ∀ x ∈ L, I64 x) (h2 : 2 <= us.length) (hn : us.length <= 48) :
  ∃ x I2, WantIn us.length x /\ ∀ (st : St) (args : List Opd), ZW st args = some [.ref kg 0 0, .osl ku us.length] -> (∀ j x, lk H j = some x -> lk st.H j = some x) -> Qa5 Tryz.prog 37 args st H [] [(kg, gB L I2 eg)] (.agg (QeV x)) := by
 obtain ⟨d, H2, ⟨x, I2, hx, rfl, rfl⟩, hok⟩ := QcU (H := upH H) (kg := upN kg) (ku := upN ku) (L := L) (I := I) (eg := eg) (eu := eu) (ec := ec) (us := us.map UR.ren) (by unfold upN; omega) (by rw [Qay, hg]; rfl) hU.up QjQ (QeG hC) hL (by simpa using h2) (by simpa using hn)
 obtain ⟨pu, hu⟩ := hU.u
 rw [List.length_map] at hx hok
 refine ⟨x, I2, hx, fun st args ha hF => Qj2 (b' := gB L I2 eg) (ds' := [.ref (upN kg) 0 0, .osl (upN ku) us.length]) ha hF hC (fun x hx j hj => ?_) (Zp hg) rfl rfl rfl rfl hok⟩
 simp only [List.mem_cons, List.not_mem_nil, or_false] at hx
 rcases hx with rfl | rfl
 ·simp [D.ids, D.sid] at hj; subst hj; exact Zp hg
 ·simp [D.ids, D.sid] at hj; subst hj; exact Zp hu
end Go.Proofs
namespace Go.Proofs
open Go Go.Abs M3 M25
set_option linter.unusedVariables false
set_option linter.unusedSimpArgs false
theorem QcB {H : List (Nat × Box)} {kg ku : Nat} {L : List Int} {I most : Int} {eg eu ec : Nat} {us : List UR} (hkg : 1000000 <= kg) (hg : lk H kg = some (gB L I eg)) (hU : Fam H kg ku eu ec us) (hB : Big H) (hC : Closed H) (hL : ∀ x ∈ L, I64 x) (h2n : 2 <= us.length) (hn : us.length <= 48) (hm0 : 0 <= most) (hm1 : most <= 10) : ∃ d H2, (∃ ns I2, Qfi us.length most ns /\ d = QY ns /\ H2 = (kg, gB L I2 eg) :: H) /\ OkH Tryz.prog 34 [.ref kg 0 0, .osl ku us.length, .int .i64 most] H d H2 := by
 obtain ⟨pu, hu⟩ := hU.u
 have hku := hB _ _ hu
 have hne := hU.ne
 have hk0 : 0 <= nx L I (most + 1) := QiD
 have hk1 : nx L I (most + 1) < most + 1 := QiC (by omega)
 refine OkH.ofX (R := fun d H2 => ∃ ns I2, Qfi us.length most ns /\ d = QY ns /\ H2 = (kg, gB L I2 eg) :: H) ZY Tryz.func34 QrB (Nat.le_of_ble_eq_true rfl) ?_
 show TX _ _ tf34.body _ _
 refine Q8 fun K hK => Qa rfl ?_
 refine hK _ _ (QP (kp3 rfl rfl rfl) ?_)
 refine Q8 fun K hK => Qa rfl ?_
 refine hK _ _ (QP (kp4 rfl rfl rfl rfl) ?_)
 refine Xo ?_ -- 0
 refine Q8 fun K hK => Qa rfl (Qa rfl (Q2 rfl rfl (by first | exact Qq (by omega) (by omega) | rfl) (Yj (Qb6 (I := I) rfl hg hL (by omega)) (Qa rfl ?_))))
 refine hK _ _ (QP (kp4 rfl rfl rfl rfl) ?_)
 refine Yv ?_
 refine Qde (ι := Nat × List (List WantT) × Int) (fun ⟨k, ns, J⟩ => ⟨[(0, .ref kg 0 0), (1, .osl ku us.length), (7, .osl 7 ns.length), (8, .int .i64 k)], [(7, ⟨(ns).map (fun r => [Za r]), 1, 68, true⟩), (kg, gB L J eg)] ++ H⟩) (fun ⟨k, ns, J⟩ => (ns.length : Int) + k <= most /\ ∀ r ∈ ns, QhY us.length r) (fun ⟨k, ns, J⟩ => k) ((nx L I (most + 1)).toNat, [], nxI I) ?_ ?_ ?_
 ·exact le_trans (Yf 7 7 1 68 rfl (by repeat (first | exact hB.none (by decide) | refine Zq (by first | decide | omega) ?_))) (QfM (l := [0, 1, 7, 8]) (B := [_, _]) (kp4 rfl rfl rfl rfl) (by simp only [Int.toNat_of_nonneg hk0] <;> rfl) (by intro p hp; simp only [List.mem_cons, List.not_mem_nil, or_false] at hp; rcases hp with rfl | rfl <;> exact ⟨by repeat (first | exact Qy | refine Qn (by first | decide | omega) ?_), rfl⟩) rfl (by intro p hp h; simp only [List.mem_cons, List.not_mem_nil, or_false] at hp; rcases hp with rfl | rfl <;> first | (simp only at h; omega) | (repeat (first | exact Q3 | refine QZ ?_))) hB hC (by intro p hp k hk; simp only [List.mem_cons, List.not_mem_nil, or_false] at hp; rcases hp with rfl | rfl | rfl | rfl <;> first | (simp [D.ids, D.sid, Za, QY, Zo] at hk; done) | (simp [D.ids, D.sid, Za, QY, Zo] at hk; subst hk; repeat (first | exact Q3 | exact Zp hg | exact Zp hu | refine QZ ?_))))
 ·exact ⟨by simp only [List.length_nil]; omega, by simp⟩
 intro ⟨k, ns, J⟩ hI
 try dsimp only at hI
 try dsimp only
 refine Xo ?_ -- 1
 refine Q8 fun K hK => Qa rfl (QhS rfl rfl ?_)
 refine hK _ _ (QP (kp5 rfl rfl rfl rfl rfl) ?_)
 refine YI rfl (fun h1 => ?_) (fun h1 => ?_)
 ·try rw [h1]
  try simp only [qa, qb, qc, qd, qe, List.length_map] at h1
  refine YX (Q5 (kp4 rfl rfl rfl rfl) ?_)
  refine Xo ?_ -- 2
  refine Yv (Q8 fun K hK => Qa rfl (Qa rfl ?_))
  obtain ⟨x1, J1, hx1, hc1⟩ := QkC (I := J) (H := (kg, gB L (J) eg) :: H) Qy hU.cons (hC.pr rfl) hL h2n hn
  refine Yj (hc1 _ _ rfl (Qax (B := [_, _]) hB (by repeat (first | exact Qy | refine Qn (by first | decide | omega) ?_)) (by intro p hp h; simp only [List.mem_cons, List.not_mem_nil, or_false] at hp; rcases hp with rfl | rfl <;> first | rfl | (simp only at h; omega)))) ?_
  refine QC rfl (by repeat (first | exact hB.none (by decide) | refine Zq (by first | decide | omega) ?_)) ?_
  refine Qa rfl ?_
  refine hK _ _ (QP (kp5 rfl rfl rfl rfl rfl) ?_)
  refine QpV (ι := List WantT × Int) (fun ⟨r, J4⟩ => ⟨[(0, .ref kg 0 0), (1, .osl ku us.length), (7, .osl 7 ns.length), (8, .int .i64 k), (9, Za r)], [(7, ⟨(ns).map (fun r => [Za r]), 1, 68, true⟩), (kg, gB L J4 eg)] ++ H⟩) (fun ⟨r, J4⟩ => QhY us.length r) ?_ ?_
  ·skip
   refine Q8 fun K hK => Qa rfl (Yj (Qb6 (I := J1) rfl (Qn (by omega) Qy) hL (by omega)) (ZO rfl rfl ?_))
   refine hK _ _ (QP (kp6 rfl rfl rfl rfl rfl rfl) ?_)
   refine YI rfl (fun h2 => ?_) (fun h2 => ?_)
   ·try rw [h2]
    try simp only [qa, qb, qc, qd, qe, List.length_map] at h2
    refine ZP fun K hK => Qa rfl (Qa rfl (Qa rfl ?_))
    obtain ⟨x2, J2, hx2, hc2⟩ := QkC (I := nxI J1) (H := (kg, gB L (nxI J1) eg) :: H) Qy hU.cons (hC.pr rfl) hL h2n hn
    refine Yj (hc2 _ _ rfl (Qax (B := [_, _, _, _, _]) hB (by repeat (first | exact Qy | refine Qn (by first | decide | omega) ?_)) (by intro p hp h; simp only [List.mem_cons, List.not_mem_nil, or_false] at hp; rcases hp with rfl | rfl | rfl | rfl | rfl <;> first | rfl | (simp only at h; omega)))) ?_
    refine QC rfl (by repeat (first | exact hB.none (by decide) | refine Zq (by first | decide | omega) ?_)) ?_
    refine QoP rfl rfl (by simp [D.ids, D.sid]) ⟨_, rfl, rfl, rfl, rfl, rfl⟩ (by repeat (first | exact hB.none (by decide) | refine Zq (by first | decide | omega) ?_)) (Qn (by decide) (Qn (by omega) (Qn (by omega) rfl))) rfl rfl rfl (by simp) (by simp) ?_
    refine Qa rfl (hK _ ?_)
    refine ZQ ([x1, x2], J2) ?_ ?_
    ·exact le_trans (Qjr (l := [0, 1, 7, 8]) (B := [_, _, _, _, _, _, _, _, _]) (A := [(7, ⟨(ns).map (fun r => [Za r]), 1, 68, true⟩), (kg, gB L J2 eg)]) 30 9 (kp4 rfl rfl rfl rfl) rfl rfl rfl (by first | (simp; done) | (simp; omega)) (by intro p hp hk; simp only [List.mem_cons, List.not_mem_nil, or_false] at hp; rcases hp with rfl | rfl | rfl | rfl <;> first | (simp [D.ids, D.sid, Za, QY, Zo] at hk; done) | (simp [D.ids, D.sid, Za, QY, Zo] at hk; omega)) (by intro p hp; simp only [List.mem_cons, List.not_mem_nil, or_false] at hp; rcases hp with rfl | rfl <;> exact ⟨by first | decide | (simp only; omega), by repeat (first | exact Qy | refine Qn (by first | decide | omega) ?_), rfl⟩) (by intro p hp h; simp only [List.mem_cons, List.not_mem_nil, or_false] at hp; rcases hp with rfl | rfl | rfl | rfl | rfl | rfl | rfl | rfl | rfl <;> first | (simp only at h; omega) | (repeat (first | exact Q3 | refine QZ ?_))) hB hC (by intro p hp k hk; simp only [List.mem_cons, List.not_mem_nil, or_false] at hp; rcases hp with rfl | rfl | rfl | rfl <;> first | (simp [D.ids, D.sid, Za, QY, Zo] at hk; done) | (simp [D.ids, D.sid, Za, QY, Zo] at hk; subst hk; repeat (first | exact Q3 | exact Zp hg | exact Zp hu | refine QZ ?_)))) (QfM (l := [0, 1, 7, 8, 9]) (B := [_, _]) (kp5 rfl rfl rfl rfl rfl) rfl (by intro p hp; simp only [List.mem_cons, List.not_mem_nil, or_false] at hp; rcases hp with rfl | rfl <;> exact ⟨by repeat (first | exact Qy | refine Qn (by first | decide | omega) ?_), rfl⟩) rfl (by intro p hp h; simp only [List.mem_cons, List.not_mem_nil, or_false] at hp; rcases hp with rfl | rfl <;> first | (simp only at h; omega) | (repeat (first | exact Q3 | refine QZ ?_))) hB hC (by intro p hp k hk; simp only [List.mem_cons, List.not_mem_nil, or_false] at hp; rcases hp with rfl | rfl | rfl | rfl | rfl <;> first | (simp [D.ids, D.sid, Za, QY, Zo] at hk; done) | (simp [D.ids, D.sid, Za, QY, Zo] at hk; subst hk; repeat (first | exact Q3 | exact Zp hg | exact Zp hu | refine QZ ?_))))
    ·exact Qpr hx1 hx2
   ·try rw [h2]
    try simp only [qa, qb, qc, qd, qe, List.length_map] at h2
    refine YX ?_
    refine ZQ ([x1], nxI J1) ?_ ?_
    ·exact le_trans (Qjr (l := [0, 1, 7, 8]) (B := [_, _, _, _, _]) (A := [(7, ⟨(ns).map (fun r => [Za r]), 1, 68, true⟩), (kg, gB L (nxI J1) eg)]) 21 9 (kp4 rfl rfl rfl rfl) rfl (Qn (by omega) rfl) rfl (by first | (simp; done) | (simp; omega)) (by intro p hp hk; simp only [List.mem_cons, List.not_mem_nil, or_false] at hp; rcases hp with rfl | rfl | rfl | rfl <;> first | (simp [D.ids, D.sid, Za, QY, Zo] at hk; done) | (simp [D.ids, D.sid, Za, QY, Zo] at hk; omega)) (by intro p hp; simp only [List.mem_cons, List.not_mem_nil, or_false] at hp; rcases hp with rfl | rfl <;> exact ⟨by first | decide | (simp only; omega), by repeat (first | exact Qy | refine Qn (by first | decide | omega) ?_), rfl⟩) (by intro p hp h; simp only [List.mem_cons, List.not_mem_nil, or_false] at hp; rcases hp with rfl | rfl | rfl | rfl | rfl <;> first | (simp only at h; omega) | (repeat (first | exact Q3 | refine QZ ?_))) hB hC (by intro p hp k hk; simp only [List.mem_cons, List.not_mem_nil, or_false] at hp; rcases hp with rfl | rfl | rfl | rfl <;> first | (simp [D.ids, D.sid, Za, QY, Zo] at hk; done) | (simp [D.ids, D.sid, Za, QY, Zo] at hk; subst hk; repeat (first | exact Q3 | exact Zp hg | exact Zp hu | refine QZ ?_)))) (QfM (l := [0, 1, 7, 8, 9]) (B := [_, _]) (kp5 rfl rfl rfl rfl rfl) rfl (by intro p hp; simp only [List.mem_cons, List.not_mem_nil, or_false] at hp; rcases hp with rfl | rfl <;> exact ⟨by repeat (first | exact Qy | refine Qn (by first | decide | omega) ?_), rfl⟩) rfl (by intro p hp h; simp only [List.mem_cons, List.not_mem_nil, or_false] at hp; rcases hp with rfl | rfl <;> first | (simp only at h; omega) | (repeat (first | exact Q3 | refine QZ ?_))) hB hC (by intro p hp k hk; simp only [List.mem_cons, List.not_mem_nil, or_false] at hp; rcases hp with rfl | rfl | rfl | rfl | rfl <;> first | (simp [D.ids, D.sid, Za, QY, Zo] at hk; done) | (simp [D.ids, D.sid, Za, QY, Zo] at hk; subst hk; repeat (first | exact Q3 | exact Zp hg | exact Zp hu | refine QZ ?_))))
    ·exact Qpq hx1
  intro ⟨r, J4⟩ hJ
  try dsimp only at hJ
  try dsimp only
  refine ZP fun K hK => Qa rfl (Qa rfl ?_)
  refine QC rfl (by repeat (first | exact hB.none (by decide) | refine Zq (by first | decide | omega) ?_)) ?_
  refine Xe rfl rfl (fun _ h => YY rfl rfl rfl h) rfl (by simp) rfl rfl rfl (by simp; omega) (by simp; omega) (Qa rfl (hK _ ?_))
  refine Qg (Q5 (kp4 rfl rfl rfl rfl) (ZP fun K hK => Qa rfl (QaD rfl rfl (by first | exact Qq (by omega) (by omega) | rfl) (Qa rfl (hK _ ?_)))))
  refine Qi (k - 1, ns ++ [r], J4) ?_ ?_ ?_
  ·exact le_trans (Qp5 (B := [_, _, _, _]) 7 hB hC) (QfM (l := [0, 1, 7, 8]) (A := [(7, ⟨ns.map (fun r => [Za r]) ++ [[Za r]], 1, 68, true⟩), (kg, gB L J4 eg)]) (B := [_, _, _, _]) (kp4 rfl rfl rfl rfl) (by simp [D.scrub, show ¬ kg = 7 by omega, show ¬ ku = 7 by omega] <;> omega) (by intro p hp; simp only [List.mem_cons, List.not_mem_nil, or_false] at hp; rcases hp with rfl | rfl <;> exact ⟨by repeat (first | exact Qy | refine Qn (by first | decide | omega) ?_), rfl⟩) (by simp) (by intro p hp h; simp only [List.mem_cons, List.not_mem_nil, or_false] at hp; rcases hp with rfl | rfl | rfl | rfl <;> first | (simp only at h; omega) | (repeat (first | exact Q3 | refine QZ ?_))) hB hC (by intro p hp k hk; simp only [List.mem_cons, List.not_mem_nil, or_false] at hp; rcases hp with rfl | rfl | rfl | rfl <;> first | (simp [D.ids, D.sid, Za, QY, Zo] at hk; done) | (simp [D.ids, D.sid, Za, QY, Zo] at hk; subst hk; repeat (first | exact Q3 | exact Zp hg | exact Zp hu | refine QZ ?_))))
  ·exact ⟨by simp only [List.length_append, List.length_singleton]; omega, QmO hI.2 hJ⟩
  ·show k - 1 < k; omega
 ·try rw [h1]
  try simp only [qa, qb, qc, qd, qe, List.length_map] at h1
  refine Qbv (YB (Qx (QD (Q5 (kp1 rfl) (Q8 fun K hK => Qa rfl (Qa rfl ?_))))))
  refine hK _ _ (QP (kp1 rfl) ?_)
  refine QeT ?_
  refine ⟨QY ns, (kg, gB L J eg) :: H, ⟨ns, _, ⟨by omega, hI.2⟩, rfl, rfl⟩, (XF hB hC hkg rfl).1, (XF hB hC hkg rfl).2, ?_⟩
  refine YA rfl (by simp [Qlu, D.fz, D.fzS, Qf9, lk, D.can, D.canS, QY]) ?_
  exact Qax (B := [_, _]) hB (by repeat (first | exact Qy | refine Qn (by first | decide | omega) ?_)) (by intro p hp h; simp only [List.mem_cons, List.not_mem_nil, or_false] at hp; rcases hp with rfl | rfl <;> first | rfl | (simp only at h; omega))
end Go.Proofs
namespace M25
open Go Go.Abs M3
/-! ### The boxes of a world under way -/
def fbx (ec : Nat) (us : List UR) : List (Nat × Box) := us.map fun u => (u.k, ⟨u.cs.map dCR, 8, ec, true⟩)
def Yb (us : List UR) : Prop := ∀ j, ∀ h : j < us.length, us[j].k = 500001 + j
theorem Qis {us : List UR} {u : UR} (h : Yb us) (hu : u.k = 500001 + us.length) : Yb (us ++ [u]) := fun j hj => by
 rw [List.length_append, List.length_singleton] at hj
 by_cases e : j < us.length
 ·rw [List.getElem_append_left e]; exact h j e
 ·have : j = us.length := by omega
  subst this
  rw [List.getElem_append_right (Nat.le_refl _)]; simpa using hu
theorem Qfw (ec : Nat) (us : List UR) : Qnk (fbx ec us) := fun p hp => by
 obtain ⟨u, _, rfl⟩ := List.mem_map.1 hp; rfl
theorem QgD {ec : Nat} : ∀ {us : List UR} {k : Nat} {b : Box}, lk (fbx ec us) k = some b -> ∃ u ∈ us, k = u.k /\ b = ⟨u.cs.map dCR, 8, ec, true⟩
 | [], _, _, h => by cases h
 | u :: us, k, b, h => by
  simp only [fbx, List.map_cons] at h
  rw [Qm] at h
  split at h
  ·rename_i e; cases h; exact ⟨u, by simp, e.symm, rfl⟩
  ·obtain ⟨v, hv, q⟩ := QgD (us := us) h
   exact ⟨v, by simp [hv], q⟩
theorem Qbf {us : List UR} (h : Yb us) {u : UR} (hu : u ∈ us) : 500001 <= u.k /\ u.k < 500001 + us.length := by
 obtain ⟨j, hj, rfl⟩ := List.getElem_of_mem hu
 have := h j hj
 omega
theorem Qha {ec : Nat} {us : List UR} (h : Yb us) : Qrb 500001 (fbx ec us) := fun k b hk => by
 obtain ⟨u, hu, rfl, _⟩ := QgD hk
 exact (Qbf h hu).1
theorem YP {ec : Nat} {us : List UR} (h : Yb us) {k : Nat} (hk : k < 500001 \/ 500001 + us.length <= k) : lk (fbx ec us) k = none := by
 cases hh : lk (fbx ec us) k with
 | none => rfl
 | some b =>
  obtain ⟨u, hu, rfl, _⟩ := QgD hh
  have := Qbf h hu
  omega
theorem QlV {ec : Nat} : ∀ {us : List UR} {n : Nat}, (∀ j, ∀ h : j < us.length, us[j].k = n + j) -> ∀ j, ∀ h : j < us.length, lk (fbx ec us) (n + j) = some ⟨us[j].cs.map dCR, 8, ec, true⟩
 | [], _, _, j, hj => by simp at hj
 | u :: us, n, hk, 0, _ => by
  have := hk 0 (by simp)
  simp only [List.getElem_cons_zero, Nat.add_zero] at this
  simp only [fbx, List.map_cons, Nat.add_zero]
  rw [Qm, if_pos this]; rfl
 | u :: us, n, hk, j + 1, hj => by
  have h0 := hk 0 (by simp)
  simp only [List.getElem_cons_zero, Nat.add_zero] at h0
  simp only [fbx, List.map_cons]
  rw [Qm, if_neg (by omega)]
  have := QlV (ec := ec) (us := us) (n := n + 1) (fun i hi => by
   have := hk (i + 1) (by simpa using hi)
   simp only [List.getElem_cons_succ] at this
   omega) j (by simpa using hj)
  rw [show n + 1 + j = n + (j + 1) by omega] at this
  simp only [List.getElem_cons_succ]
  exact this
theorem QlU {ec : Nat} {us : List UR} (h : Yb us) {j : Nat} (hj : j < us.length) : lk (fbx ec us) (500001 + j) = some ⟨us[j].cs.map dCR, 8, ec, true⟩ := QlV h j hj
theorem Qkb (ec : Nat) (us : List UR) (u : UR) : fbx ec (us ++ [u]) = fbx ec us ++ [(u.k, ⟨u.cs.map dCR, 8, ec, true⟩)] := by simp [fbx]
theorem Qnx {ec : Nat} {us : List UR} (h : Yb us) {kg : Nat} {x y : Box} {u : UR} (hu : u.k = 500001 + us.length) (hkg : u.k ≠ kg) (k : Nat) :
  lk ((u.k, ⟨u.cs.map dCR, 8, ec, true⟩) :: (500000, x) :: (kg, y) :: fbx ec us) k = lk ((500000, x) :: (kg, y) :: fbx ec (us ++ [u])) k := by
 rw [Qkb]
 by_cases e : u.k = k
 ·subst e
  rw [Qy, Qm, if_neg (by omega), Qm, if_neg (Ne.symm hkg), YQ (YP h (.inr (by omega))), Qy]
 ·rw [Qm, if_neg e, Qm, Qm, Qm, Qm]
  split
  ·rfl
  ·split
   ·rfl
   ·rw [ZT]
    cases h2 : lk (fbx ec us) k with
    | some v => rfl
    | none => rw [Qm, if_neg e]; rfl
def zr (v : Vr) (sh : Int) : CR := ⟨v, .int .i64 sh, .fsl [], .fsl []⟩
def QpM (u : UR) : Prop := u.cs.length <= 4 /\ ∀ z ∈ u.cs, ∃ v sh, z = zr v sh /\ Qgo v
theorem Qov {u : UR} : (dUR u).flatMap D.sid = [u.k] := by simp [dUR, D.sid]
theorem Qbs {us : List UR} {e et : Nat} {k : Nat} (h : k ∈ (Box.ids ⟨us.map dUR, e, et, false⟩)) : ∃ u ∈ us, k = u.k := by
 simp only [Box.ids, Bool.false_eq_true, if_false, List.mem_flatMap, List.mem_map] at h
 obtain ⟨r, ⟨u, hu, rfl⟩, hk⟩ := h
 have : k ∈ (dUR u).flatMap D.sid := List.mem_flatMap.2 hk
 rw [Qov] at this
 exact ⟨u, hu, by simpa using this⟩
theorem Qpz {us : List UR} (h : Yb us) : ∀ r ∈ us.map dUR, ∀ d ∈ r, 500000 ∉ d.sid := fun r hr d hd hk => by
 obtain ⟨u, hu, rfl⟩ := List.mem_map.1 hr
 have : 500000 ∈ (dUR u).flatMap D.sid := List.mem_flatMap.2 ⟨d, hd, hk⟩
 rw [Qov] at this
 have h2 := Qbf h hu
 simp only [List.mem_singleton] at this
 omega
theorem Qg2 {B F : List (Nat × Box)} {j : Nat} (h : (lk F j).isSome = true) : (lk (B ++ F) j).isSome = true := by
 rw [ZT]; split
 ·rfl
 ·exact h
theorem Qdt {ec : Nat} {us : List UR} (h : Yb us) {u : UR} (hu : u ∈ us) : (lk (fbx ec us) u.k).isSome = true := by
 obtain ⟨j, hj, rfl⟩ := List.getElem_of_mem hu
 rw [h j hj, QlU h hj]; rfl
theorem Qhb {ec : Nat} {us : List UR} {u : UR} (h : Yb us) (hu : u.k = 500001 + us.length) : lk (fbx ec (us ++ [u])) (500001 + us.length) = some ⟨u.cs.map dCR, 8, ec, true⟩ := by
 rw [Qkb, YQ (YP h (.inr (Nat.le_refl _))), <- hu, Qy]
section
variable {l : List Nat} {fr fr1 fr' : List (Nat × D)} {B : List (Nat × Box)} {kg eg eu ec : Nat} {L : List Int} {J : Int} {us : List UR}
theorem Qre (hf : Zb l fr = fr1) (ef : fr1 = fr') (hK : Yb us) (hu : lk B 500000 = some ⟨us.map dUR, 3, eu, false⟩) (hg : lk B kg = some (gB L J eg)) (hB : ∀ p ∈ B, 500001 <= p.1 -> p.1 = kg) (hkg : kg ≠ 500000)
  (hfr : ∀ p ∈ fr', ∀ k ∈ p.2.ids, k = 500000 \/ k = kg \/ ∃ u ∈ us, k = u.k) : St.le ⟨fr, B ++ fbx ec us⟩ ⟨fr', [(500000, ⟨us.map dUR, 3, eu, false⟩), (kg, gB L J eg)] ++ fbx ec us⟩ := by
 have s0 : ∀ k, (k = 500000 \/ k = kg \/ ∃ u ∈ us, k = u.k) -> (lk ([(500000, (⟨us.map dUR, 3, eu, false⟩ : Box)), (kg, gB L J eg)] ++ fbx ec us) k).isSome = true := fun k hk => by
  rcases hk with rfl | rfl | ⟨u, hu, rfl⟩
  ·exact Q3
  ·exact QZ Q3
  ·exact Qg2 (Qdt hK hu)
 refine Qjs (N := 500001) hf ef (fun p hp => ?_) rfl (fun p hp j hj => s0 j ?_) (fun p hp h => ?_) (Qha hK) (Qfw ec us) (fun p hp k hk => s0 k (hfr p hp k hk))
 ·simp only [List.mem_cons, List.not_mem_nil, or_false] at hp
  rcases hp with rfl | rfl
  ·exact hu
  ·exact hg
 ·simp only [List.mem_cons, List.not_mem_nil, or_false] at hp
  rcases hp with rfl | rfl
  ·exact .inr (.inr (Qbs hj))
  ·simp [Box.ids, gB] at hj
 ·rw [hB p hp h]; exact QZ Q3
theorem QpK {cs : List CR} (hf : Zb l fr = fr1) (ef : fr1 = fr') (hK : Yb us) (hc : lk B (500001 + us.length) = some ⟨cs.map dCR, 8, ec, true⟩) (hu : lk B 500000 = some ⟨us.map dUR, 3, eu, false⟩) (hg : lk B kg = some (gB L J eg)) (hB : ∀ p ∈ B, 500001 <= p.1 -> p.1 = kg \/ p.1 = 500001 + us.length)
  (hfr : ∀ p ∈ fr', ∀ k ∈ p.2.ids, k = 500000 \/ k = kg \/ k = 500001 + us.length \/ ∃ u ∈ us, k = u.k) : St.le ⟨fr, B ++ fbx ec us⟩ ⟨fr', [(500001 + us.length, ⟨cs.map dCR, 8, ec, true⟩), (500000, ⟨us.map dUR, 3, eu, false⟩), (kg, gB L J eg)] ++ fbx ec us⟩ := by
 have s0 : ∀ k, (k = 500000 \/ k = kg \/ k = 500001 + us.length \/ ∃ u ∈ us, k = u.k) -> (lk ([(500001 + us.length, (⟨cs.map dCR, 8, ec, true⟩ : Box)), (500000, (⟨us.map dUR, 3, eu, false⟩ : Box)), (kg, gB L J eg)] ++ fbx ec us) k).isSome = true := fun k hk => by
  rcases hk with rfl | rfl | rfl | ⟨u, hu, rfl⟩
  ·exact QZ Q3
  ·exact QZ (QZ Q3)
  ·exact Q3
  ·exact Qg2 (Qdt hK hu)
 refine Qjs (N := 500001) hf ef (fun p hp => ?_) rfl (fun p hp j hj => s0 j ?_) (fun p hp h => ?_) (Qha hK) (Qfw ec us) (fun p hp k hk => s0 k (hfr p hp k hk))
 ·simp only [List.mem_cons, List.not_mem_nil, or_false] at hp
  rcases hp with rfl | rfl | rfl
  ·exact hc
  ·exact hu
  ·exact hg
 ·simp only [List.mem_cons, List.not_mem_nil, or_false] at hp
  rcases hp with rfl | rfl | rfl
  ·simp [Box.ids] at hj
  ·exact .inr (.inr (.inr (Qbs hj)))
  ·simp [Box.ids, gB] at hj
 ·rcases hB p hp h with e | e
  ·rw [e]; exact QZ (QZ Q3)
  ·rw [e]; exact Q3
theorem Qqi {u : UR} (hf : Zb l fr = fr1) (ef : fr1 = fr') (hK : Yb us) (huk : u.k = 500001 + us.length) (hc : lk B (500001 + us.length) = some ⟨u.cs.map dCR, 8, ec, true⟩) (hu : lk B 500000 = some ⟨(us ++ [u]).map dUR, 3, eu, false⟩) (hg : lk B kg = some (gB L J eg)) (hB : ∀ p ∈ B, 500001 <= p.1 -> p.1 = kg \/ p.1 = 500001 + us.length) (hkg : 1000000 <= kg) (hlen : us.length <= 100)
  (hfr : ∀ p ∈ fr', ∀ k ∈ p.2.ids, k = 500000 \/ k = kg \/ ∃ v ∈ us ++ [u], k = v.k) : St.le ⟨fr, B ++ fbx ec us⟩ ⟨fr', [(500000, ⟨(us ++ [u]).map dUR, 3, eu, false⟩), (kg, gB L J eg)] ++ fbx ec (us ++ [u])⟩ := by
 have hK1 := Qis hK huk
 have mv := fun k => Qnx (ec := ec) hK (kg := kg) (x := ⟨(us ++ [u]).map dUR, 3, eu, false⟩) (y := gB L J eg) huk (by omega) k
 have s0 : ∀ k, (k = 500000 \/ k = kg \/ ∃ v ∈ us ++ [u], k = v.k) -> (lk ([(u.k, (⟨u.cs.map dCR, 8, ec, true⟩ : Box)), (500000, (⟨(us ++ [u]).map dUR, 3, eu, false⟩ : Box)), (kg, gB L J eg)] ++ fbx ec us) k).isSome = true := fun k hk => by
  show (lk ((u.k, _) :: (500000, _) :: (kg, _) :: fbx ec us) k).isSome = true
  rw [mv]
  rcases hk with rfl | rfl | ⟨v, hv, rfl⟩
  ·exact Q3
  ·exact QZ Q3
  ·exact QZ (QZ (Qdt hK1 hv))
 refine le_trans (Qjs (N := 500001) (A' := [(u.k, ⟨u.cs.map dCR, 8, ec, true⟩), (500000, ⟨(us ++ [u]).map dUR, 3, eu, false⟩), (kg, gB L J eg)]) hf ef (fun p hp => ?_) rfl (fun p hp j hj => s0 j ?_) (fun p hp h => ?_) (Qha hK) (Qfw ec us) (fun p hp k hk => s0 k (hfr p hp k hk))) (Qhp ⟨fun _ => rfl, mv⟩)
 ·simp only [List.mem_cons, List.not_mem_nil, or_false] at hp
  rcases hp with rfl | rfl | rfl
  ·rw [huk]; exact hc
  ·exact hu
  ·exact hg
 ·simp only [List.mem_cons, List.not_mem_nil, or_false] at hp
  rcases hp with rfl | rfl | rfl
  ·simp [Box.ids] at hj
  ·exact .inr (.inr (Qbs hj))
  ·simp [Box.ids, gB] at hj
 ·rcases hB p hp h with e | e
  ·rw [e]; exact QZ (QZ Q3)
  ·rw [e, <- huk]; exact Q3
end
def u0 (v : Vr) : UR := ⟨[], [], 500001, [zr v (-1)]⟩
def v0 : Vr := ⟨0, 0, 0, [], []⟩
theorem Qod {kg a b : Nat} (h : 1000000 <= kg) (ha : a < 1000000) (hb : b < 1000000) : Qan a b kg = kg := by
 unfold Qan; rw [if_neg (by omega), if_neg (by omega)]
theorem Qme {l : List Nat} {fr fr1 fr' : List (Nat × D)} {kg eg eu ec : Nat} {L : List Int} {I : Int} (hkg : 1000000 <= kg) (hf : Zb l fr = fr1) (ef : fr1.map (fun p => (p.1, (p.2.ren (Qan 18 500000)).ren (Qan 16 500001))) = fr') :
  St.le ⟨fr, [(18, ⟨[[.str [], .str [], .osl 16 1]], 3, eu, false⟩), (16, ⟨[dCR (zr v0 (-1))], 8, ec, true⟩), (kg, gB L I eg)]⟩ ⟨fr', [(500000, ⟨[u0 v0].map dUR, 3, eu, false⟩), (kg, gB L I eg)] ++ fbx ec [u0 v0]⟩ := by
 subst hf ef
 have k1 := Qod (a := 18) (b := 500000) hkg (by decide) (by decide)
 have k2 := Qod (a := 16) (b := 500001) hkg (by decide) (by decide)
 refine le_trans (QbV l fr _) (le_trans (Qhr 18 500000 (by decide) (by decide) _) (le_trans (Qhr 16 500001 (by decide) (by decide) _) ?_))
 have hH : ∀ k, lk ([(500000, (⟨[u0 v0].map dUR, 3, eu, false⟩ : Box)), (kg, gB L I eg)] ++ fbx ec [u0 v0]) k = lk (QgS (Qan 16 500001) (QgS (Qan 18 500000) [(18, ⟨[[.str [], .str [], .osl 16 1]], 3, eu, false⟩), (16, ⟨[dCR (zr v0 (-1))], 8, ec, true⟩), (kg, gB L I eg)])) k := fun k => by
  have e : QgS (Qan 16 500001) (QgS (Qan 18 500000) [(18, (⟨[[.str [], .str [], .osl 16 1]], 3, eu, false⟩ : Box)), (16, ⟨[dCR (zr v0 (-1))], 8, ec, true⟩), (kg, gB L I eg)]) = [(500000, ⟨[u0 v0].map dUR, 3, eu, false⟩), (500001, ⟨[dCR (zr v0 (-1))], 8, ec, true⟩), (kg, gB L I eg)] := by
   simp only [QgS, List.map_cons, List.map_nil, k1, k2]; rfl
  rw [e]
  show lk ((500000, _) :: (kg, _) :: (500001, _) :: []) k = _
  rw [Qm, Qm, Qm, Qm, Qm, Qm]
  by_cases h1 : 500000 = k
  ·rw [if_pos h1, if_pos h1]
  ·rw [if_neg h1, if_neg h1]
   by_cases h2 : kg = k
   ·rw [if_pos h2, if_neg (by omega), if_pos h2]
   ·rw [if_neg h2, if_neg h2]; rfl
 refine Qbg (by simp only [St.ren, List.map_map]; rfl) fun k => (hH k).symm
def names5 : List (List UInt8) := [[97, 110, 116], [98, 101, 101], [99, 111, 119], [100, 111, 103], [101, 108, 107]]
theorem Zc : names5.length = 5 := rfl
theorem QpA : versions.length = 4 := rfl
theorem Qql {i : Nat} (h : i < versions.length) : Qgo versions[i] := by
 have := QjS _ (List.getElem_mem h)
 exact ⟨Nat.le_trans this.1 (by omega), Nat.le_trans this.2 (by omega)⟩
structure UnitsIn (us : List UR) : Prop where
 keys : Yb us
 fresh : ∀ u ∈ us, QpM u
 first : ∃ z rest, us = ⟨[], [], 500001, [z]⟩ :: rest
theorem UnitsIn.zero : UnitsIn [u0 v0] := by
 refine ⟨fun j hj => ?_, fun u hu => ?_, ⟨zr v0 (-1), [], rfl⟩⟩
 ·have : j = 0 := by simp at hj; exact hj
  subst this; rfl
 ·simp only [List.mem_singleton] at hu; subst hu
  refine ⟨by simp [u0], fun z hz => ?_⟩
  simp only [u0, List.mem_singleton] at hz; subst hz
  exact ⟨v0, -1, rfl, ⟨Nat.zero_le _, Nat.zero_le _⟩⟩
theorem UnitsIn.snoc {us : List UR} (h : UnitsIn us) {n f : List UInt8} {cs : List CR} (hc : cs.length <= 4) (hz : ∀ z ∈ cs, ∃ v sh, z = zr v sh /\ Qgo v) : UnitsIn (us ++ [⟨n, f, 500001 + us.length, cs⟩]) := by
 obtain ⟨h1, h2, z, rest, h3⟩ := h
 refine ⟨Qis h1 rfl, fun u hu => ?_, z, rest ++ [⟨n, f, 500001 + us.length, cs⟩], by rw [h3]; rfl⟩
 rcases List.mem_append.1 hu with hu | hu
 ·exact h2 u hu
 ·simp only [List.mem_singleton] at hu; subst hu; exact ⟨hc, hz⟩
def CsIn (n : Nat) (cs : List CR) : Prop := cs.length <= n /\ ∀ z ∈ cs, ∃ v sh, z = zr v sh /\ Qgo v
theorem CsIn.nil (n : Nat) : CsIn n [] := ⟨Nat.zero_le _, by simp⟩
theorem CsIn.keep {n : Nat} {cs : List CR} (h : CsIn n cs) : CsIn (n + 1) cs := ⟨Nat.le_succ_of_le h.1, h.2⟩
theorem CsIn.snoc {n : Nat} {cs : List CR} (h : CsIn n cs) {v : Vr} (hv : Qgo v) {sh : Int} : CsIn (n + 1) (cs ++ [zr v sh]) := by
 refine ⟨by simp; exact h.1, fun z hz => ?_⟩
 rcases List.mem_append.1 hz with hz | hz
 ·exact h.2 z hz
 ·simp only [List.mem_singleton] at hz; subst hz; exact ⟨v, sh, rfl, hv⟩
theorem CsIn.at {n : Nat} {cs : List CR} (h : CsIn n cs) {i : Nat} (hi : i < cs.length) : Qgo cs[i].v := by
 obtain ⟨v, sh, e, hv⟩ := h.2 _ (List.getElem_mem hi)
 rw [e]; exact hv
theorem Qkn {α : Type} {k : Nat} {v v' : α} {l : List (Nat × α)} (h : v = v') : lk ((k, v) :: l) k = some v' := by rw [Qy, h]
theorem QiV {us : List UR} {e et : Nat} (h : Yb us) : Box.scrub (500001 + us.length) ⟨us.map dUR, e, et, false⟩ = ⟨us.map dUR, e, et, false⟩ := QiU fun hk => by
 obtain ⟨u, hu, e⟩ := Qbs hk
 have := Qbf h hu
 omega
theorem QkS {us : List UR} (h : Yb us) {n f : List UInt8} {k m : Nat} (hk : k ≠ 500000) : ∀ r ∈ us.map dUR ++ [[D.str n, D.str f, D.osl k m]], ∀ d ∈ r, 500000 ∉ d.sid := fun r hr d hd => by
 rcases List.mem_append.1 hr with hr | hr
 ·exact Qpz h r hr d hd
 ·simp only [List.mem_singleton] at hr; subst hr
  simp only [List.mem_cons, List.not_mem_nil, or_false] at hd
  rcases hd with rfl | rfl | rfl <;> simp [D.sid]
  exact Ne.symm hk
theorem Qpy {us : List UR} {u : UR} : (us ++ [u]).map dUR = us.map dUR ++ [dUR u] := by simp
theorem Qo6 {cs : List CR} {z : CR} : (cs ++ [z]).map dCR = cs.map dCR ++ [dCR z] := by simp
theorem QaZ {us : List UR} (h : Yb us) {kg eu ec : Nat} {g1 g2 g3 : Box} (hkg : 1000000 <= kg) (h1 : g1.pr = true) (h2 : g2.pr = true) (hlen : us.length <= 100) :
  (∀ k, 1000000 <= k -> (lk [(kg, g1)] k).isSome = true -> (lk (((500000, (⟨us.map dUR, 3, eu, false⟩ : Box)) :: fbx ec us) ++ [(kg, g2), (kg, g1)]) k).isSome = true) /\
  (∀ k b, lk (((500000, (⟨us.map dUR, 3, eu, false⟩ : Box)) :: fbx ec us) ++ [(kg, g2), (kg, g1)]) k = some b -> 500000 <= k /\ ∀ j ∈ b.ids, (lk (((500000, (⟨us.map dUR, 3, eu, false⟩ : Box)) :: fbx ec us) ++ [(kg, g2), (kg, g1)]) j).isSome = true) /\
  (∀ k b, lk (((500000, (⟨us.map dUR, 3, eu, false⟩ : Box)) :: fbx ec us) ++ [(kg, g2), (kg, g1)]) k = some b -> lk ((kg, g2) :: (500000, ⟨us.map dUR, 3, eu, false⟩) :: (kg, g3) :: fbx ec us) k = some b) := by
 have cs : ∀ k b, lk (((500000, (⟨us.map dUR, 3, eu, false⟩ : Box)) :: fbx ec us) ++ [(kg, g2), (kg, g1)]) k = some b -> (k = 500000 /\ b = ⟨us.map dUR, 3, eu, false⟩) \/ (∃ u ∈ us, k = u.k /\ b = ⟨u.cs.map dCR, 8, ec, true⟩) \/ (k = kg /\ b = g2) := fun k b hk => by
  rw [List.cons_append, Qm] at hk
  split at hk
  ·rename_i e; cases hk; exact .inl ⟨e.symm, rfl⟩
  ·rw [ZT] at hk
   cases hh : lk (fbx ec us) k with
   | some v =>
    rw [hh] at hk; cases hk
    exact .inr (.inl (QgD hh))
   | none =>
    rw [hh] at hk
    simp only at hk
    rw [Qm] at hk
    split at hk
    ·rename_i e; cases hk; exact .inr (.inr ⟨e.symm, rfl⟩)
    ·rename_i e
     rw [Qm, if_neg e] at hk; cases hk
 refine ⟨fun k _ hk => ?_, fun k b hk => ?_, fun k b hk => ?_⟩
 ·obtain ⟨b, hb⟩ := Option.isSome_iff_exists.1 hk
  obtain ⟨rfl, _⟩ := Xr hb
  exact Qg2 Q3
 ·rcases cs k b hk with ⟨rfl, rfl⟩ | ⟨u, hu, rfl, rfl⟩ | ⟨rfl, rfl⟩
  ·refine ⟨Nat.le_refl _, fun j hj => ?_⟩
   obtain ⟨u, hu, rfl⟩ := Qbs hj
   rw [List.cons_append]
   refine QZ ?_
   obtain ⟨b, hb⟩ := Option.isSome_iff_exists.1 (Qdt (ec := ec) h hu)
   rw [Yw hb]; rfl
  ·have := Qbf h hu
   exact ⟨by omega, fun j hj => by simp [Box.ids] at hj⟩
  ·exact ⟨by omega, fun j hj => by rw [X2 h2] at hj; cases hj⟩
 ·rcases cs k b hk with ⟨rfl, rfl⟩ | ⟨u, hu, rfl, rfl⟩ | ⟨rfl, rfl⟩
  ·exact Qn (by omega) Qy
  ·have hm := Qbf h hu
   obtain ⟨j, hj, rfl⟩ := List.getElem_of_mem hu
   refine Qn (by omega) (Qn (by omega) (Qn (by omega) ?_))
   rw [h j hj]; exact QlU h hj
  ·exact Qy
end M25
namespace Go.Proofs
open Go Go.Abs M3 M25
set_option linter.unusedVariables false
set_option linter.unusedSimpArgs false
theorem QcC {kg : Nat} {L : List Int} {I most : Int} {eg eu ec : Nat} (heu : eu = 48) (hec : ec = 70) (hkg : 1000000 <= kg) (hL : ∀ x ∈ L, I64 x) (hm0 : 1 <= most) (hm1 : most <= 5) : ∃ d H2, (∃ us I2, (UnitsIn us /\ 2 <= us.length /\ us.length <= 11) /\ d = .osl 500000 us.length /\ H2 = ((500000, ⟨us.map dUR, 3, eu, false⟩) :: fbx ec us) ++ [(kg, gB L I2 eg), (kg, gB L I eg)]) /\ OkH Tryz.prog 33 [.ref kg 0 0, .int .i64 most] [(kg, gB L I eg)] d H2 := by
 subst heu hec
 have e3 : ¬ kg = 500000 := by omega
 have k1 := Qod (a := 18) (b := 500000) hkg (by decide) (by decide)
 have k2 := Qod (a := 16) (b := 500001) hkg (by decide) (by decide)
 refine OkH.ofX (R := fun d H2 => ∃ us I2, (UnitsIn us /\ 2 <= us.length /\ us.length <= 11) /\ d = .osl 500000 us.length /\ H2 = ((500000, ⟨us.map dUR, 3, 48, false⟩) :: fbx 70 us) ++ [(kg, gB L I2 eg), (kg, gB L I eg)]) ZY Tryz.func33 QrA (Nat.le_of_ble_eq_true rfl) ?_
 show TX _ _ tf33.body _ _
 refine Q8 fun K hK => Qa rfl ?_
 refine hK _ _ (QP (kp2 rfl rfl) ?_)
 refine Q8 fun K hK => ?_
 refine QC rfl (by repeat (first | exact rfl | refine Zq (by first | decide | omega) ?_)) ?_
 refine Qa rfl ?_
 refine hK _ _ (QP (kp3 rfl rfl rfl) ?_)
 refine QlD (Qjr (l := [0, 1]) (B := [_]) (A := []) (H0 := [(kg, gB L I eg)]) 14 5 (kp2 rfl rfl) rfl rfl rfl rfl (by intro p hp hk; simp only [List.mem_cons, List.not_mem_nil, or_false] at hp; rcases hp with rfl | rfl <;> first | (simp [D.ids, D.sid, Za, QY, Zo] at hk; done) | (simp [D.ids, D.sid, Za, QY, Zo] at hk; omega)) (by intro p hp; cases hp) (by intro p hp h; simp only [List.mem_singleton] at hp; subst hp; simp only at h; omega) (fun k b h => by obtain ⟨rfl, rfl⟩ := Xr h; exact hkg) (fun k b h j hj => by obtain ⟨rfl, rfl⟩ := Xr h; simp [Box.ids, gB] at hj) (by intro p hp k hk; simp only [List.mem_cons, List.not_mem_nil, or_false] at hp; rcases hp with rfl | rfl <;> first | (simp [D.ids, D.sid, Za, QY, Zo] at hk; done) | (simp [D.ids, D.sid, Za, QY, Zo] at hk; subst hk; repeat (first | exact Q3 | refine QZ ?_)))) ?_
 refine Q8 fun K hK => QX rfl rfl ?_
 refine QC rfl (by repeat (first | exact rfl | refine Zq (by first | decide | omega) ?_)) ?_
 refine QX rfl rfl ?_
 refine QC rfl (by repeat (first | exact rfl | refine Zq (by first | decide | omega) ?_)) ?_
 refine Qa rfl ?_
 refine hK _ _ (QP (kp4 rfl rfl rfl rfl) ?_)
 refine Q8 fun K hK => QI (Xh) rfl rfl (.inl rfl) (Qa rfl ?_)
 refine hK _ _ (QP (kp5 rfl rfl rfl rfl rfl) ?_)
 refine Xo ?_ -- 0
 refine Q8 fun K hK => Qa rfl ?_
 refine hK _ _ (QP (kp6 rfl rfl rfl rfl rfl rfl) ?_)
 refine Yv ?_
 refine Qde (ι := List UR × Int × Nat) (fun ⟨us, J, n⟩ => ⟨[(0, .ref kg 0 0), (1, .int .i64 most), (5, .sl (QaR names5)), (6, .osl 500000 us.length), (7, .sl (versions.map dVr)), (8, .int .i64 n)], [(500000, ⟨(us).map dUR, 3, 48, false⟩), (kg, gB L (J) eg)] ++ fbx 70 (us)⟩) (fun ⟨us, J, n⟩ => UnitsIn us /\ us.length <= 1 + 2 * n /\ n <= 5 /\ 1 + n <= us.length) (fun ⟨us, J, n⟩ => 5 - n) ([u0 v0], I, 0) ?_ ?_ ?_
 ·refine Qme (l := [0, 1, 5, 6, 7, 8]) hkg (kp6 rfl rfl rfl rfl rfl rfl) ?_; simp only [List.map_cons, List.map_nil, D.ren, D.renS, k1, k2]; rfl
 ·exact ⟨UnitsIn.zero, by simp, by omega, by simp⟩
 intro ⟨us, J, n⟩ hI
 try dsimp only at hI
 have e1 : ¬ kg = 500001 + us.length := by omega
 have e2 : ¬ 500000 = 500001 + us.length := by omega
 have e4 : ¬ 500001 + us.length = 500000 := by omega
 have hx0 : 0 <= nx L J most := QiD
 have hx1 : nx L J most < most := QiC (by omega)
 have hn5 := Zc
 have hv4 := QpA
 try dsimp only
 refine Xo ?_ -- 1
 refine Q8 fun K hK => Qa rfl (Qa rfl (Qa rfl ?_))
 refine Yj (Qb6 (I := J) rfl (by repeat (first | exact Qy | refine Qn (by omega) ?_)) hL (by omega)) ?_
 refine Q2 rfl rfl (by first | exact Qq (by omega) (by omega) | rfl) (Z6 rfl rfl (Qa rfl ?_))
 refine QE (g := 26) rfl (fun h1 => ?_) (fun h1 => ?_)
 ·try rw [h1]
  try simp only [qa, qb, qc, qd, qe, List.length_map] at h1
  refine Qk rfl (Qa rfl (Qk rfl (Qa rfl (Qk rfl ?_))))
  first | refine QQ rfl QW ?_ | refine QQ rfl rfl ?_
  refine Qk rfl (Z6 rfl rfl (Qo rfl rfl ?_))
  refine hK _ _ (QP (kp7 rfl rfl rfl rfl rfl rfl rfl) ?_)
  refine YI rfl (fun h2 => ?_) (fun h2 => ?_)
  ·try rw [h2]
   try simp only [qa, qb, qc, qd, qe, List.length_map] at h2
   refine YX (Q5 (kp6 rfl rfl rfl rfl rfl rfl) ?_)
   refine Xo ?_ -- 2
   refine Yv (Q8 fun K hK => Qa rfl ?_)
   refine hK _ _ (QP (kp7 rfl rfl rfl rfl rfl rfl rfl) ?_)
   refine Q8 fun K hK => Qa rfl ?_
   refine Yj (Qb6 (I := nxI J) rfl (by repeat (first | exact Qy | refine Qn (by omega) ?_)) hL (by omega)) ?_
   refine Qa rfl ?_
   refine hK _ _ (QP (kp8 rfl rfl rfl rfl rfl rfl rfl rfl) ?_)
   refine Xo ?_ -- 3
   refine Q8 fun K hK => Qa rfl ?_
   refine hK _ _ (QP (kp9 rfl rfl rfl rfl rfl rfl rfl rfl rfl) ?_)
   refine Yv ?_
   refine Qde (ι := List CR × Nat) (fun ⟨cs, i⟩ => ⟨[(0, .ref kg 0 0), (1, .int .i64 most), (5, .sl (QaR names5)), (6, .osl 500000 us.length), (7, .sl (versions.map dVr)), (8, .int .i64 n), (9, .osl (500001 + us.length) cs.length), (10, .int .i64 (nx L (nxI J) 16)), (11, .int .i64 i)], [(500001 + (us).length, ⟨(cs).map dCR, 8, 70, true⟩), (500000, ⟨(us).map dUR, 3, 48, false⟩), (kg, gB L (nxI (nxI J)) eg)] ++ fbx 70 (us)⟩) (fun ⟨cs, i⟩ => i <= 4 /\ CsIn i cs) (fun ⟨cs, i⟩ => 4 - i) ([], 0) ?_ ?_ ?_
   ·exact le_trans (Yf 9 (500001 + us.length) 8 70 rfl (by repeat (first | exact YP hI.1.keys (.inr (by omega)) | refine Zq (by omega) ?_))) (QpK (l := [0, 1, 5, 6, 7, 8, 9, 10, 11]) (B := [_, _, _, _, _]) (kp9 rfl rfl rfl rfl rfl rfl rfl rfl rfl) rfl hI.1.keys (by repeat (first | exact Qy | refine Qn (by omega) ?_)) (by repeat (first | exact Qy | refine Qn (by omega) ?_)) (by repeat (first | exact Qy | refine Qn (by omega) ?_)) (by intro p hp h; simp only [List.mem_cons, List.not_mem_nil, or_false] at hp; rcases hp with rfl | rfl | rfl | rfl | rfl <;> first | (simp only at h; omega) | exact .inl rfl | exact .inr rfl) (by intro p hp k hk; simp only [List.mem_cons, List.not_mem_nil, or_false] at hp; rcases hp with rfl | rfl | rfl | rfl | rfl | rfl | rfl | rfl | rfl <;> first | (simp [D.ids, D.sid, Za, QY, Zo] at hk; done) | (simp [D.ids, D.sid, Za, QY, Zo] at hk; subst hk; first | exact .inl rfl | exact .inr (.inl rfl) | exact .inr (.inr (.inl rfl)) | (refine .inr (.inr (.inl ?_)); simp; done) | (first | exact .inr (.inr ⟨_, List.mem_append_right _ (List.mem_singleton.2 rfl), rfl⟩) | exact .inr (.inr (.inr ⟨_, List.mem_append_right _ (List.mem_singleton.2 rfl), rfl⟩))))))
   ·exact ⟨by omega, CsIn.nil _⟩
   intro ⟨cs, i⟩ hC
   try dsimp only at hC
   have hcl := hC.2.1
   try dsimp only
   refine Xo ?_ -- 4
   refine Q8 fun K hK => Qa rfl (Qa rfl ?_)
   first | refine QQ rfl QW ?_ | refine QQ rfl rfl ?_
   refine Z6 rfl rfl ?_
   refine hK _ _ (QP (Qow rfl rfl rfl rfl rfl rfl rfl rfl rfl rfl) ?_)
   refine YI rfl (fun h3 => ?_) (fun h3 => ?_)
   ·try rw [h3]
    try simp only [qa, qb, qc, qd, qe, List.length_map] at h3
    refine YX (Q5 (kp9 rfl rfl rfl rfl rfl rfl rfl rfl rfl) ?_)
    refine Xo ?_ -- 5
    refine Yv (Q8 fun K hK => Qa rfl (Qa rfl (QhX rfl (Qfh (by omega) (by omega)) (QpR rfl rfl (by omega) (Qd8 rfl rfl (ZO rfl rfl ?_))))))
    refine hK _ _ (QP (Qow rfl rfl rfl rfl rfl rfl rfl rfl rfl rfl) ?_)
    refine YI rfl (fun h4 => ?_) (fun h4 => ?_)
    ·try rw [h4]
     try simp only [qa, qb, qc, qd, qe, List.length_map] at h4
     refine ZP fun K hK => Qa rfl (Qa rfl (Qa rfl (QK rfl rfl rfl (by omega) (QV (by omega)) rfl (QH (cs := [_, _, _, _, _]) rfl rfl rfl rfl (QX rfl rfl ?_)))))
     refine QC rfl (by repeat (first | exact YP hI.1.keys (.inl (by omega)) | exact YP hK1.keys (.inl (by omega)) | refine Zq (by first | decide | omega) ?_)) ?_
     refine Xe (hk0 := by omega) rfl rfl (fun _ h => YY rfl rfl rfl h) (Qn (by omega) Qy) (by simp) rfl rfl rfl (by simp; omega) (by simp; omega) (Qa rfl (hK _ ?_))
     refine Qg (Q5 (kp9 rfl rfl rfl rfl rfl rfl rfl rfl rfl) (ZP fun K hK => Qa rfl (Q2 rfl rfl (by first | exact Qq (by omega) (by omega) | rfl) (Qa rfl (hK _ ?_)))))
     refine Qi (cs ++ [zr (versions[i]'(by omega)) 0], i + 1) ?_ ?_ ?_
     ·exact le_trans (Qhq (B := [_, _, _, _, _]) (500001 + us.length) (Qfw _ _)) (QpK (l := [0, 1, 5, 6, 7, 8, 9, 10, 11]) (B := [_, _, _, _, _]) (kp9 rfl rfl rfl rfl rfl rfl rfl rfl rfl) (by simp [D.scrub, e1, e2, e3, e4] <;> omega) hI.1.keys (by rw [List.map_append]; exact Qy) (by repeat (first | exact Qy | exact Qkn (QiV hI.1.keys) | refine Qn (by omega) ?_)) (by repeat (first | exact Qy | refine Qn (by omega) ?_)) (by intro p hp h; simp only [List.mem_cons, List.not_mem_nil, or_false] at hp; rcases hp with rfl | rfl | rfl | rfl | rfl <;> first | (simp only at h; omega) | exact .inl rfl | exact .inr rfl) (by intro p hp k hk; simp only [List.mem_cons, List.not_mem_nil, or_false] at hp; rcases hp with rfl | rfl | rfl | rfl | rfl | rfl | rfl | rfl | rfl <;> first | (simp [D.ids, D.sid, Za, QY, Zo] at hk; done) | (simp [D.ids, D.sid, Za, QY, Zo] at hk; subst hk; first | exact .inl rfl | exact .inr (.inl rfl) | exact .inr (.inr (.inl rfl)) | (refine .inr (.inr (.inl ?_)); simp; done) | (first | exact .inr (.inr ⟨_, List.mem_append_right _ (List.mem_singleton.2 rfl), rfl⟩) | exact .inr (.inr (.inr ⟨_, List.mem_append_right _ (List.mem_singleton.2 rfl), rfl⟩))))))
     ·try dsimp only
      exact ⟨by omega, hC.2.snoc (Qql (by omega))⟩
     ·show 4 - (i + 1) < 4 - i; omega
    ·try rw [h4]
     try simp only [qa, qb, qc, qd, qe, List.length_map] at h4
     refine YX (Qg (Q5 (kp9 rfl rfl rfl rfl rfl rfl rfl rfl rfl) (ZP fun K hK => Qa rfl (Q2 rfl rfl (by first | exact Qq (by omega) (by omega) | rfl) (Qa rfl (hK _ ?_))))))
     refine Qi (cs, i + 1) ?_ ?_ ?_
     ·exact QpK (l := [0, 1, 5, 6, 7, 8, 9, 10, 11]) (B := [_, _, _]) (kp9 rfl rfl rfl rfl rfl rfl rfl rfl rfl) rfl hI.1.keys (by repeat (first | exact Qy | refine Qn (by omega) ?_)) (by repeat (first | exact Qy | refine Qn (by omega) ?_)) (by repeat (first | exact Qy | refine Qn (by omega) ?_)) (by intro p hp h; simp only [List.mem_cons, List.not_mem_nil, or_false] at hp; rcases hp with rfl | rfl | rfl <;> first | (simp only at h; omega) | exact .inl rfl | exact .inr rfl) (by intro p hp k hk; simp only [List.mem_cons, List.not_mem_nil, or_false] at hp; rcases hp with rfl | rfl | rfl | rfl | rfl | rfl | rfl | rfl | rfl <;> first | (simp [D.ids, D.sid, Za, QY, Zo] at hk; done) | (simp [D.ids, D.sid, Za, QY, Zo] at hk; subst hk; first | exact .inl rfl | exact .inr (.inl rfl) | exact .inr (.inr (.inl rfl)) | (refine .inr (.inr (.inl ?_)); simp; done) | (first | exact .inr (.inr ⟨_, List.mem_append_right _ (List.mem_singleton.2 rfl), rfl⟩) | exact .inr (.inr (.inr ⟨_, List.mem_append_right _ (List.mem_singleton.2 rfl), rfl⟩)))))
     ·try dsimp only
      exact ⟨by omega, hC.2.keep⟩
     ·show 4 - (i + 1) < 4 - i; omega
   ·try rw [h3]
    try simp only [qa, qb, qc, qd, qe, List.length_map] at h3
    refine Qbv (YB (Qx (QD (Q5 (kp7 rfl rfl rfl rfl rfl rfl rfl) (Q8 fun K hK => Qa rfl (Qa rfl (Qa rfl (QK rfl rfl rfl (by omega) (QV (by omega)) rfl (QA rfl rfl rfl (Qa rfl ?_))))))))))
    refine QX rfl rfl ?_
    refine QC rfl (by repeat (first | exact YP hI.1.keys (.inl (by omega)) | exact YP hK1.keys (.inl (by omega)) | refine Zq (by first | decide | omega) ?_)) ?_
    refine Qi9 (hk0 := by decide) rfl rfl (fun _ h => YY rfl rfl rfl h) (Qn (by omega) (Qn (by omega) Qy)) (by simp) rfl rfl (.inr (QkS hI.1.keys (by omega))) (by simp; omega) (by simp; omega) (Qa rfl ?_)
    refine hK _ _ (QP (kp7 rfl rfl rfl rfl rfl rfl rfl) ?_)
    have hc4 : CsIn 4 cs := ⟨by omega, hC.2.2⟩
    refine QlD (le_trans (Qhq (B := [_, _, _, _, _]) 500000 (Qfw _ _)) (Qqi (u := (UR.mk (names5[n]'(by have := Zc; omega)) [] (500001 + us.length) cs)) (l := [0, 1, 5, 6, 7, 8, 9]) (fr' := [(0, .ref kg 0 0), (1, .int .i64 most), (5, .sl (QaR names5)), (6, .osl 500000 (us ++ [(UR.mk (names5[n]'(by have := Zc; omega)) [] (500001 + us.length) cs)]).length), (7, .sl (versions.map dVr)), (8, .int .i64 n), (9, .osl (500001 + us.length) cs.length)]) (B := [_, _, _, _, _]) (kp7 rfl rfl rfl rfl rfl rfl rfl) (by simp [D.scrub, e1, e2, e3, e4]) hI.1.keys rfl (by repeat (first | exact Qy | refine Qn (by omega) ?_)) (by rw [List.map_append]; exact Qy) (by repeat (first | exact Qy | refine Qn (by omega) ?_)) (by intro p hp h; simp only [List.mem_cons, List.not_mem_nil, or_false] at hp; rcases hp with rfl | rfl | rfl | rfl | rfl <;> first | (simp only at h; omega) | exact .inl rfl | exact .inr rfl) hkg (by omega) (by intro p hp k hk; simp only [List.mem_cons, List.not_mem_nil, or_false] at hp; rcases hp with rfl | rfl | rfl | rfl | rfl | rfl | rfl <;> first | (simp [D.ids, D.sid, Za, QY, Zo] at hk; done) | (simp [D.ids, D.sid, Za, QY, Zo] at hk; subst hk; first | exact .inl rfl | exact .inr (.inl rfl) | (first | exact .inr (.inr ⟨_, List.mem_append_right _ (List.mem_singleton.2 rfl), rfl⟩) | exact .inr (.inr (.inr ⟨_, List.mem_append_right _ (List.mem_singleton.2 rfl), rfl⟩))))))) ?_
    have hK1 := hI.1.snoc (n := (names5[n]'(by have := Zc; omega))) (f := []) hc4.1 hc4.2
    have hl1 : (us ++ [(UR.mk (names5[n]'(by have := Zc; omega)) [] (500001 + us.length) cs)]).length = us.length + 1 := by simp
    have f1 : ¬ kg = 500001 + (us ++ [(UR.mk (names5[n]'(by have := Zc; omega)) [] (500001 + us.length) cs)]).length := by omega
    have f2 : ¬ 500000 = 500001 + (us ++ [(UR.mk (names5[n]'(by have := Zc; omega)) [] (500001 + us.length) cs)]).length := by omega
    have f4 : ¬ 500001 + (us ++ [(UR.mk (names5[n]'(by have := Zc; omega)) [] (500001 + us.length) cs)]).length = 500000 := by omega
    have f5 : ¬ 500001 + us.length = 500001 + (us ++ [(UR.mk (names5[n]'(by have := Zc; omega)) [] (500001 + us.length) cs)]).length := by omega
    refine Q8 fun K hK => Qa rfl (Z6 rfl rfl (Qa rfl ?_))
    refine QE (g := 67) rfl (fun h5 => ?_) (fun h5 => ?_)
    ·try rw [h5]
     try simp only [qa, qb, qc, qd, qe, List.length_map] at h5
     refine Qk rfl (Qa rfl (Qk rfl ?_))
     refine Yj (Qb6 (I := nxI (nxI J)) rfl (by repeat (first | exact Qy | refine Qn (by omega) ?_)) hL (by omega)) ?_
     refine Qk rfl (ZO rfl rfl (Qo rfl rfl ?_))
     refine hK _ _ (QP (kp8 rfl rfl rfl rfl rfl rfl rfl rfl) ?_)
     refine YI rfl (fun h6 => ?_) (fun h6 => ?_)
     ·try rw [h6]
      try simp only [qa, qb, qc, qd, qe, List.length_map] at h6
      refine Q8 fun K hK => Qa rfl ?_
      refine hK _ _ (QP (kp8 rfl rfl rfl rfl rfl rfl rfl rfl) ?_)
      refine Xo ?_ -- 6
      refine Q8 fun K hK => Qa rfl ?_
      refine hK _ _ (QP (kp9 rfl rfl rfl rfl rfl rfl rfl rfl rfl) ?_)
      refine Yv ?_
      refine Qde (ι := List CR × Nat × Int) (fun ⟨c2, m, J3⟩ => ⟨[(0, .ref kg 0 0), (1, .int .i64 most), (5, .sl (QaR names5)), (6, .osl 500000 (us ++ [(UR.mk (names5[n]'(by have := Zc; omega)) [] (500001 + us.length) cs)]).length), (7, .sl (versions.map dVr)), (8, .int .i64 n), (9, .osl (500001 + us.length) cs.length), (12, .osl (500001 + (us ++ [(UR.mk (names5[n]'(by have := Zc; omega)) [] (500001 + us.length) cs)]).length) c2.length), (13, .int .i64 m)], [(500001 + (us ++ [(UR.mk (names5[n]'(by have := Zc; omega)) [] (500001 + us.length) cs)]).length, ⟨(c2).map dCR, 8, 70, true⟩), (500000, ⟨(us ++ [(UR.mk (names5[n]'(by have := Zc; omega)) [] (500001 + us.length) cs)]).map dUR, 3, 48, false⟩), (kg, gB L (J3) eg)] ++ fbx 70 (us ++ [(UR.mk (names5[n]'(by have := Zc; omega)) [] (500001 + us.length) cs)])⟩) (fun ⟨c2, m, J3⟩ => m <= cs.length /\ CsIn m c2) (fun ⟨c2, m, J3⟩ => cs.length - m) ([], 0, nxI (nxI (nxI J))) ?_ ?_ ?_
      ·exact le_trans (Yf 12 (500001 + (us ++ [(UR.mk (names5[n]'(by have := Zc; omega)) [] (500001 + us.length) cs)]).length) 8 70 rfl (by repeat (first | exact YP hK1.keys (.inr (by omega)) | refine Zq (by omega) ?_))) (QpK (l := [0, 1, 5, 6, 7, 8, 9, 12, 13]) (B := [_, _, _, _]) (kp9 rfl rfl rfl rfl rfl rfl rfl rfl rfl) rfl hK1.keys (by repeat (first | exact Qy | refine Qn (by omega) ?_)) (by repeat (first | exact Qy | refine Qn (by omega) ?_)) (by repeat (first | exact Qy | refine Qn (by omega) ?_)) (by intro p hp h; simp only [List.mem_cons, List.not_mem_nil, or_false] at hp; rcases hp with rfl | rfl | rfl | rfl <;> first | (simp only at h; omega) | exact .inl rfl | exact .inr rfl) (by intro p hp k hk; simp only [List.mem_cons, List.not_mem_nil, or_false] at hp; rcases hp with rfl | rfl | rfl | rfl | rfl | rfl | rfl | rfl | rfl <;> first | (simp [D.ids, D.sid, Za, QY, Zo] at hk; done) | (simp [D.ids, D.sid, Za, QY, Zo] at hk; subst hk; first | exact .inl rfl | exact .inr (.inl rfl) | exact .inr (.inr (.inl rfl)) | (refine .inr (.inr (.inl ?_)); simp; done) | (first | exact .inr (.inr ⟨_, List.mem_append_right _ (List.mem_singleton.2 rfl), rfl⟩) | exact .inr (.inr (.inr ⟨_, List.mem_append_right _ (List.mem_singleton.2 rfl), rfl⟩))))))
      ·exact ⟨by omega, CsIn.nil _⟩
      intro ⟨c2, m, J3⟩ hM
      try dsimp only at hM
      have hcl2 := hM.2.1
      try dsimp only
      refine Xo ?_ -- 7
      refine Q8 fun K hK => Qa rfl (Qa rfl ?_)
      first | refine QQ rfl QW ?_ | refine QQ rfl rfl ?_
      refine Z6 rfl rfl ?_
      refine hK _ _ (QP (Qow rfl rfl rfl rfl rfl rfl rfl rfl rfl rfl) ?_)
      refine YI rfl (fun h7 => ?_) (fun h7 => ?_)
      ·try rw [h7]
       try simp only [qa, qb, qc, qd, qe, List.length_map] at h7
       refine YX (Q5 (kp9 rfl rfl rfl rfl rfl rfl rfl rfl rfl) ?_)
       refine Xo ?_ -- 8
       refine Yv (Q8 fun K hK => Qa rfl ?_)
       refine Yj (Qb6 (I := J3) rfl (by repeat (first | exact Qy | refine Qn (by omega) ?_)) hL (by omega)) ?_
       refine QhS rfl rfl ?_
       refine hK _ _ (QP (Qow rfl rfl rfl rfl rfl rfl rfl rfl rfl rfl) ?_)
       refine YI rfl (fun h8 => ?_) (fun h8 => ?_)
       ·try rw [h8]
        try simp only [qa, qb, qc, qd, qe, List.length_map] at h8
        refine ZP fun K hK => Qa rfl (Qa rfl (Qa rfl (Xf rfl rfl (Qn (by omega) (Qn (by omega) (Qn (by omega) (Qn (by omega) (Qhb (u := (UR.mk (names5[n]'(by have := Zc; omega)) [] (500001 + us.length) cs)) hI.1.keys rfl))))) (by simp) (by omega) (by omega) rfl (Qh rfl (Zp (Qn (by omega) (Qn (by omega) (Qn (by omega) (Qn (by omega) (Qhb (u := (UR.mk (names5[n]'(by have := Zc; omega)) [] (500001 + us.length) cs)) hI.1.keys rfl)))))) (QH (cs := [_, _, _, _, _]) rfl (Z7 (Qn (by omega) (Qn (by omega) (Qn (by omega) (Qn (by omega) (Qhb (u := (UR.mk (names5[n]'(by have := Zc; omega)) [] (500001 + us.length) cs)) hI.1.keys rfl))))) (QV (l := cs) (by omega))) rfl rfl (QX rfl rfl ?_))))))
        refine QC rfl (by repeat (first | exact YP hI.1.keys (.inl (by omega)) | exact YP hK1.keys (.inl (by omega)) | refine Zq (by first | decide | omega) ?_)) ?_
        refine Xe (hk0 := by omega) rfl rfl (fun _ h => YY rfl rfl rfl h) (Qn (by omega) (Qn (by omega) Qy)) (by simp) rfl rfl rfl (by simp; omega) (by simp; omega) (Qa rfl (hK _ ?_))
        refine Qg (Q5 (kp9 rfl rfl rfl rfl rfl rfl rfl rfl rfl) (ZP fun K hK => Qa rfl (Q2 rfl rfl (by first | exact Qq (by omega) (by omega) | rfl) (Qa rfl (hK _ ?_)))))
        refine Qi (c2 ++ [zr (cs[m]'(by omega)).v 0], m + 1, nxI J3) ?_ ?_ ?_
        ·exact le_trans (Qhq (B := [_, _, _, _, _, _]) (500001 + (us ++ [(UR.mk (names5[n]'(by have := Zc; omega)) [] (500001 + us.length) cs)]).length) (Qfw _ _)) (QpK (l := [0, 1, 5, 6, 7, 8, 9, 12, 13]) (B := [_, _, _, _, _, _]) (kp9 rfl rfl rfl rfl rfl rfl rfl rfl rfl) (by simp [D.scrub, f1, f2, f4, f5] <;> omega) hK1.keys (by rw [Qo6 (cs := c2)]; exact Qy) (by repeat (first | exact Qy | exact Qkn (QiV hK1.keys) | refine Qn (by omega) ?_)) (by repeat (first | exact Qy | refine Qn (by omega) ?_)) (by intro p hp h; simp only [List.mem_cons, List.not_mem_nil, or_false] at hp; rcases hp with rfl | rfl | rfl | rfl | rfl | rfl <;> first | (simp only at h; omega) | exact .inl rfl | exact .inr rfl) (by intro p hp k hk; simp only [List.mem_cons, List.not_mem_nil, or_false] at hp; rcases hp with rfl | rfl | rfl | rfl | rfl | rfl | rfl | rfl | rfl <;> first | (simp [D.ids, D.sid, Za, QY, Zo] at hk; done) | (simp [D.ids, D.sid, Za, QY, Zo] at hk; subst hk; first | exact .inl rfl | exact .inr (.inl rfl) | exact .inr (.inr (.inl rfl)) | (refine .inr (.inr (.inl ?_)); simp; done) | (first | exact .inr (.inr ⟨_, List.mem_append_right _ (List.mem_singleton.2 rfl), rfl⟩) | exact .inr (.inr (.inr ⟨_, List.mem_append_right _ (List.mem_singleton.2 rfl), rfl⟩))))))
        ·try dsimp only
         exact ⟨by omega, hM.2.snoc (hC.2.at (by omega))⟩
        ·show cs.length - (m + 1) < cs.length - m; omega
       ·try rw [h8]
        try simp only [qa, qb, qc, qd, qe, List.length_map] at h8
        refine YX (Qg (Q5 (kp9 rfl rfl rfl rfl rfl rfl rfl rfl rfl) (ZP fun K hK => Qa rfl (Q2 rfl rfl (by first | exact Qq (by omega) (by omega) | rfl) (Qa rfl (hK _ ?_))))))
        refine Qi (c2, m + 1, nxI J3) ?_ ?_ ?_
        ·exact QpK (l := [0, 1, 5, 6, 7, 8, 9, 12, 13]) (B := [_, _, _, _]) (kp9 rfl rfl rfl rfl rfl rfl rfl rfl rfl) rfl hK1.keys (by repeat (first | exact Qy | refine Qn (by omega) ?_)) (by repeat (first | exact Qy | refine Qn (by omega) ?_)) (by repeat (first | exact Qy | refine Qn (by omega) ?_)) (by intro p hp h; simp only [List.mem_cons, List.not_mem_nil, or_false] at hp; rcases hp with rfl | rfl | rfl | rfl <;> first | (simp only at h; omega) | exact .inl rfl | exact .inr rfl) (by intro p hp k hk; simp only [List.mem_cons, List.not_mem_nil, or_false] at hp; rcases hp with rfl | rfl | rfl | rfl | rfl | rfl | rfl | rfl | rfl <;> first | (simp [D.ids, D.sid, Za, QY, Zo] at hk; done) | (simp [D.ids, D.sid, Za, QY, Zo] at hk; subst hk; first | exact .inl rfl | exact .inr (.inl rfl) | exact .inr (.inr (.inl rfl)) | (refine .inr (.inr (.inl ?_)); simp; done) | (first | exact .inr (.inr ⟨_, List.mem_append_right _ (List.mem_singleton.2 rfl), rfl⟩) | exact .inr (.inr (.inr ⟨_, List.mem_append_right _ (List.mem_singleton.2 rfl), rfl⟩)))))
        ·try dsimp only
         exact ⟨by omega, hM.2.keep⟩
        ·show cs.length - (m + 1) < cs.length - m; omega
      ·try rw [h7]
       try simp only [qa, qb, qc, qd, qe, List.length_map] at h7
       refine Qbv (YB (Qx (QD (Q5 (kp7 rfl rfl rfl rfl rfl rfl rfl) (ZP fun K hK => Qa rfl (Qa rfl (Qa rfl (QK rfl rfl rfl (by omega) (QV (by omega)) rfl (QA rfl rfl rfl (Qa rfl ?_))))))))))
       refine QX rfl rfl ?_
       refine QC rfl (by repeat (first | exact YP hI.1.keys (.inl (by omega)) | exact YP hK1.keys (.inl (by omega)) | refine Zq (by first | decide | omega) ?_)) ?_
       refine Qi9 (hk0 := by decide) rfl rfl (fun _ h => YY rfl rfl rfl h) (Qn (by omega) (Qn (by omega) Qy)) (by simp) rfl rfl (.inr (QkS hK1.keys (by omega))) (by simp; omega) (by simp; omega) (Qa rfl (hK _ ?_))
       refine Qg (Q5 (kp6 rfl rfl rfl rfl rfl rfl) (ZP fun K hK => Qa rfl (Q2 rfl rfl (by first | exact Qq (by omega) (by omega) | rfl) (Qa rfl (hK _ ?_)))))
       refine Qi (us ++ [(UR.mk (names5[n]'(by have := Zc; omega)) [] (500001 + us.length) cs)] ++ [(UR.mk (names5[n]'(by have := Zc; omega)) [102] (500001 + (us ++ [(UR.mk (names5[n]'(by have := Zc; omega)) [] (500001 + us.length) cs)]).length) c2)], J3, n + 1) ?_ ?_ ?_
       ·exact le_trans (Qhq (B := [_, _, _, _, _]) 500000 (Qfw _ _)) (Qqi (u := (UR.mk (names5[n]'(by have := Zc; omega)) [102] (500001 + (us ++ [(UR.mk (names5[n]'(by have := Zc; omega)) [] (500001 + us.length) cs)]).length) c2)) (l := [0, 1, 5, 6, 7, 8]) (B := [_, _, _, _, _]) (kp6 rfl rfl rfl rfl rfl rfl) (by simp [D.scrub, f1, f2, e3, f4, e4] <;> omega) hK1.keys rfl (by repeat (first | exact Qy | refine Qn (by omega) ?_)) (by rw [Qpy (u := (UR.mk (names5[n]'(by have := Zc; omega)) [102] (500001 + (us ++ [(UR.mk (names5[n]'(by have := Zc; omega)) [] (500001 + us.length) cs)]).length) c2))]; exact Qy) (by repeat (first | exact Qy | refine Qn (by omega) ?_)) (by intro p hp h; simp only [List.mem_cons, List.not_mem_nil, or_false] at hp; rcases hp with rfl | rfl | rfl | rfl | rfl <;> first | (simp only at h; omega) | exact .inl rfl | exact .inr rfl) hkg (by omega) (by intro p hp k hk; simp only [List.mem_cons, List.not_mem_nil, or_false] at hp; rcases hp with rfl | rfl | rfl | rfl | rfl | rfl <;> first | (simp [D.ids, D.sid, Za, QY, Zo] at hk; done) | (simp [D.ids, D.sid, Za, QY, Zo] at hk; subst hk; first | exact .inl rfl | exact .inr (.inl rfl) | (first | exact .inr (.inr ⟨_, List.mem_append_right _ (List.mem_singleton.2 rfl), rfl⟩) | exact .inr (.inr (.inr ⟨_, List.mem_append_right _ (List.mem_singleton.2 rfl), rfl⟩))))))
       ·try dsimp only
        exact ⟨hK1.snoc (by omega) hM.2.2, by simp; omega, by omega, by simp; omega⟩
       ·show 5 - (n + 1) < 5 - n; omega
     ·try rw [h6]
      try simp only [qa, qb, qc, qd, qe, List.length_map] at h6
      refine YX (Qg (Q5 (kp6 rfl rfl rfl rfl rfl rfl) (ZP fun K hK => Qa rfl (Q2 rfl rfl (by first | exact Qq (by omega) (by omega) | rfl) (Qa rfl (hK _ ?_))))))
      refine Qi (us ++ [(UR.mk (names5[n]'(by have := Zc; omega)) [] (500001 + us.length) cs)], nxI (nxI (nxI J)), n + 1) ?_ ?_ ?_
      ·exact Qre (l := [0, 1, 5, 6, 7, 8]) (B := [_, _, _]) (kp6 rfl rfl rfl rfl rfl rfl) rfl hK1.keys (by repeat (first | exact Qy | refine Qn (by omega) ?_)) (by repeat (first | exact Qy | refine Qn (by omega) ?_)) (by intro p hp h; simp only [List.mem_cons, List.not_mem_nil, or_false] at hp; rcases hp with rfl | rfl | rfl <;> first | (simp only at h; omega) | rfl) (by omega) (by intro p hp k hk; simp only [List.mem_cons, List.not_mem_nil, or_false] at hp; rcases hp with rfl | rfl | rfl | rfl | rfl | rfl <;> first | (simp [D.ids, D.sid, Za, QY, Zo] at hk; done) | (simp [D.ids, D.sid, Za, QY, Zo] at hk; subst hk; first | exact .inl rfl | exact .inr (.inl rfl) | (first | exact .inr (.inr ⟨_, List.mem_append_right _ (List.mem_singleton.2 rfl), rfl⟩) | exact .inr (.inr (.inr ⟨_, List.mem_append_right _ (List.mem_singleton.2 rfl), rfl⟩)))))
      ·try dsimp only
       exact ⟨hK1, by simp; omega, by omega, by simp; omega⟩
      ·show 5 - (n + 1) < 5 - n; omega
    ·try rw [h5]
     try simp only [qa, qb, qc, qd, qe, List.length_map] at h5
     refine Qt rfl (Qt rfl (Qt rfl (Qo rfl rfl ?_)))
     refine hK _ _ (QP (kp8 rfl rfl rfl rfl rfl rfl rfl rfl) ?_)
     refine Qjb rfl (YX (Qg (Q5 (kp6 rfl rfl rfl rfl rfl rfl) (ZP fun K hK => Qa rfl (Q2 rfl rfl (by first | exact Qq (by omega) (by omega) | rfl) (Qa rfl (hK _ ?_)))))))
     refine Qi (us ++ [(UR.mk (names5[n]'(by have := Zc; omega)) [] (500001 + us.length) cs)], nxI (nxI J), n + 1) ?_ ?_ ?_
     ·exact Qre (l := [0, 1, 5, 6, 7, 8]) (B := [_, _]) (kp6 rfl rfl rfl rfl rfl rfl) rfl hK1.keys (by repeat (first | exact Qy | refine Qn (by omega) ?_)) (by repeat (first | exact Qy | refine Qn (by omega) ?_)) (by intro p hp h; simp only [List.mem_cons, List.not_mem_nil, or_false] at hp; rcases hp with rfl | rfl <;> first | (simp only at h; omega) | rfl) (by omega) (by intro p hp k hk; simp only [List.mem_cons, List.not_mem_nil, or_false] at hp; rcases hp with rfl | rfl | rfl | rfl | rfl | rfl <;> first | (simp [D.ids, D.sid, Za, QY, Zo] at hk; done) | (simp [D.ids, D.sid, Za, QY, Zo] at hk; subst hk; first | exact .inl rfl | exact .inr (.inl rfl) | (first | exact .inr (.inr ⟨_, List.mem_append_right _ (List.mem_singleton.2 rfl), rfl⟩) | exact .inr (.inr (.inr ⟨_, List.mem_append_right _ (List.mem_singleton.2 rfl), rfl⟩)))))
     ·try dsimp only
      exact ⟨hK1, by simp; omega, by omega, by simp; omega⟩
     ·show 5 - (n + 1) < 5 - n; omega
  ·try rw [h2]
   try simp only [qa, qb, qc, qd, qe, List.length_map] at h2
   refine Qbv (YB (Qx (QD (Q5 (kp1 rfl) (Q8 fun K hK => Qa rfl (Qa rfl ?_))))))
   refine hK _ _ (QP (kp1 rfl) ?_)
   refine QeT ?_
   refine ⟨.osl 500000 us.length, ((500000, ⟨us.map dUR, 3, 48, false⟩) :: fbx 70 us) ++ [(kg, gB L (nxI J) eg), (kg, gB L I eg)], ⟨us, _, ⟨hI.1, by omega, by omega⟩, rfl, rfl⟩, (QaZ (g3 := gB L J eg) hI.1.keys hkg rfl rfl (by omega)).1, (QaZ (g3 := gB L J eg) hI.1.keys hkg rfl rfl (by omega)).2.1, YA rfl rfl (QaZ (g3 := gB L J eg) hI.1.keys hkg rfl rfl (by omega)).2.2⟩
 ·try rw [h1]
  try simp only [qa, qb, qc, qd, qe, List.length_map] at h1
  refine Qt rfl (Qt rfl (Qt rfl (Qt rfl (Qo rfl rfl ?_))))
  refine hK _ _ (QP (kp7 rfl rfl rfl rfl rfl rfl rfl) ?_)
  refine Qjb rfl (Qbv (YB (Qx (QD (Q5 (kp1 rfl) (Q8 fun K hK => Qa rfl (Qa rfl ?_)))))))
  refine hK _ _ (QP (kp1 rfl) ?_)
  refine QeT ?_
  refine ⟨.osl 500000 us.length, ((500000, ⟨us.map dUR, 3, 48, false⟩) :: fbx 70 us) ++ [(kg, gB L (nxI J) eg), (kg, gB L I eg)], ⟨us, _, ⟨hI.1, by omega, by omega⟩, rfl, rfl⟩, (QaZ (g3 := gB L J eg) hI.1.keys hkg rfl rfl (by omega)).1, (QaZ (g3 := gB L J eg) hI.1.keys hkg rfl rfl (by omega)).2.1, YA rfl rfl (QaZ (g3 := gB L J eg) hI.1.keys hkg rfl rfl (by omega)).2.2⟩
end Go.Proofs
namespace M25
open Go Go.Abs M3
/-! ### A world under way: one candidate after the other is filled -/
def PureC (z : CR) : Prop := z.x.sid = [] /\ z.y.sid = [] /\ z.z.sid = []
theorem PureC.all {z : CR} (h : PureC z) : ∀ d ∈ dCR z, d.sid = [] := fun d hd => by
 simp only [dCR, List.mem_cons, List.not_mem_nil, or_false] at hd
 rcases hd with rfl | rfl | rfl | rfl | rfl | rfl | rfl | rfl
 ·rfl
 ·rfl
 ·rfl
 ·rfl
 ·rfl
 ·exact h.1
 ·exact h.2.1
 ·exact h.2.2
def QeE (u : UR) (k : Nat) (z : CR) : UR := { u with cs := u.cs.set k z }
def Qcs (us : List UR) (i k : Nat) (z : CR) : List UR := us.modify i fun u => QeE u k z
theorem Zr (us : List UR) (i k : Nat) (z : CR) : (Qcs us i k z).length = us.length := List.length_modify ..
theorem QkL (us : List UR) (i k : Nat) (z : CR) : (Qcs us i k z).map dUR = us.map dUR := by
 refine List.ext_getElem (by simp [Qcs]) fun j h1 h2 => ?_
 simp only [List.getElem_map, Qcs, List.getElem_modify]
 split <;> simp [dUR, QeE]
theorem QaL {us : List UR} {i k : Nat} {z : CR} {j : Nat} (h : j < us.length) : (Qcs us i k z)[j]'(by rw [Zr]; exact h) = if i = j then QeE us[j] k z else us[j] := by
 simp only [Qcs, List.getElem_modify]
theorem Qd1 {us : List UR} {i k : Nat} {z : CR} (h : Yb us) : Yb (Qcs us i k z) := fun j hj => by
 rw [Zr] at hj
 rw [QaL hj]
 split
 ·exact h j hj
 ·exact h j hj
def wA (us : List UR) (eu ec eg : Nat) (L : List Int) (J : Int) (b4 : Box) : List (Nat × Box) := [(500000, ⟨us.map dUR, 3, eu, false⟩), (12, gB L J eg), (4, b4)] ++ fbx ec us
theorem Qbt {us : List UR} {eu ec eg : Nat} {L : List Int} {J : Int} {b4 : Box} (h : Yb us) {k : Nat} {b : Box} (hk : lk (wA us eu ec eg L J b4) k = some b) : (k = 500000 /\ b = ⟨us.map dUR, 3, eu, false⟩) \/ (k = 12 /\ b = gB L J eg) \/ (k = 4 /\ b = b4) \/ ∃ j, ∃ hj : j < us.length, k = 500001 + j /\ b = ⟨us[j].cs.map dCR, 8, ec, true⟩ := by
 unfold wA at hk
 rcases QfP hk with hk | ⟨_, hk⟩
 ·simp only [List.mem_cons, List.not_mem_nil, or_false, Prod.mk.injEq] at hk
  rcases hk with h | h | h
  ·exact .inl h
  ·exact .inr (.inl h)
  ·exact .inr (.inr (.inl h))
 ·obtain ⟨u, hu, e1, e2⟩ := QgD hk
  obtain ⟨j, hj, rfl⟩ := List.getElem_of_mem hu
  exact .inr (.inr (.inr ⟨j, hj, e1.trans (h j hj), e2⟩))
section
variable {us : List UR} {eu ec eg : Nat} {L : List Int} {J : Int} {b4 : Box}
theorem Qfg : lk (wA us eu ec eg L J b4) 500000 = some ⟨us.map dUR, 3, eu, false⟩ := rfl
theorem QeR : lk (wA us eu ec eg L J b4) 12 = some (gB L J eg) := rfl
theorem Qgf : lk (wA us eu ec eg L J b4) 4 = some b4 := rfl
theorem Qdd (h : Yb us) {j : Nat} (hj : j < us.length) : lk (wA us eu ec eg L J b4) (500001 + j) = some ⟨us[j].cs.map dCR, 8, ec, true⟩ := by
 show lk ((500000, _) :: (12, _) :: (4, _) :: fbx ec us) _ = _
 rw [Qm, if_neg (by omega), Qm, if_neg (by omega), Qm, if_neg (by omega)]
 exact QlU h hj
theorem ZZ (h : Yb us) {k : Nat} (h1 : k ≠ 500000) (h2 : k ≠ 12) (h3 : k ≠ 4) (h4 : k < 500001 \/ 500001 + us.length <= k) : lk (wA us eu ec eg L J b4) k = none := by
 show lk ((500000, _) :: (12, _) :: (4, _) :: fbx ec us) _ = _
 rw [Qm, if_neg (Ne.symm h1), Qm, if_neg (Ne.symm h2), Qm, if_neg (Ne.symm h3)]
 exact YP h h4
theorem QjT (h : Yb us) {k : Nat} (hk : k = 500000 \/ k = 12 \/ k = 4 \/ ∃ u ∈ us, k = u.k) : (lk (wA us eu ec eg L J b4) k).isSome = true := by
 rcases hk with rfl | rfl | rfl | ⟨u, hu, rfl⟩
 ·rfl
 ·rfl
 ·rfl
 ·obtain ⟨j, hj, rfl⟩ := List.getElem_of_mem hu
  rw [h j hj, Qdd h hj]; rfl
theorem Qak (h : Yb us) (h4 : b4.pr = true) : Closed (wA us eu ec eg L J b4) := fun k b hk j hj => by
 rcases Qbt h hk with ⟨rfl, rfl⟩ | ⟨rfl, rfl⟩ | ⟨rfl, rfl⟩ | ⟨i, hi, rfl, rfl⟩
 ·exact QjT h (.inr (.inr (.inr (Qbs hj))))
 ·simp [Box.ids, gB] at hj
 ·rw [X2 h4] at hj; cases hj
 ·simp [Box.ids] at hj
theorem Qet {α : Type} : ∀ {l : List α} {k : Nat} {a x : α}, x ∈ l.set k a -> x = a \/ x ∈ l
 | [], k, a, x, h => by simp at h
 | b :: l, 0, a, x, h => by
  simp only [List.set_cons_zero, List.mem_cons] at h ⊢
  rcases h with h | h
  ·exact .inl h
  ·exact .inr (.inr h)
 | b :: l, k + 1, a, x, h => by
  simp only [List.set_cons_succ, List.mem_cons] at h ⊢
  rcases h with h | h
  ·exact .inr (.inl h)
  ·rcases Qet h with h | h
   ·exact .inl h
   ·exact .inr (.inr h)
theorem QfL {l : List Nat} {fr fr1 fr' : List (Nat × D)} {H : List (Nat × Box)} {i k : Nat} {row : List D} {p : Bool} (kk : Nat) (z' : CR) (hf : Zb l fr = fr1) (ef : fr1 = fr') (hK : Yb us) (hi : i < us.length) (hk : k < us[i].cs.length)
  (hKi : lk H (500001 + i) = some ⟨(us[i].cs.map dCR).set k row, 8, ec, p⟩) (hp : p = true -> row.map (D.fzS H (· == kk)) = row) (hrow : (row.map (D.fzS H (· == kk))).map D.canS = dCR z') (hoth : ∀ z ∈ us[i].cs, PureC z) (hz : PureC z')
  (hF : ∀ j, ∀ hj : j < us.length, j ≠ i -> lk H (500001 + j) = some ⟨us[j].cs.map dCR, 8, ec, true⟩) (hu : lk H 500000 = some ⟨us.map dUR, 3, eu, false⟩) (hg : lk H 12 = some (gB L J eg)) (h4 : lk H 4 = some b4) (hb4 : b4.pr = true) (hkk : kk < 500000 /\ kk ≠ 12 /\ kk ≠ 4) (hsm : ∀ j, 1000000 <= j -> lk H j = none) (hlen : us.length <= 100)
  (hfr : ∀ p ∈ fr', ∀ j ∈ p.2.ids, j = 500000 \/ j = 12 \/ j = 4 \/ ∃ u ∈ us, j = u.k) : St.le ⟨fr, H⟩ ⟨fr', wA (Qcs us i k z') eu ec eg L J b4⟩ := by
 subst hf ef
 have nokk : ∀ j, (j = 500000 \/ j = 12 \/ j = 4 \/ ∃ u ∈ us, j = u.k) -> j ≠ kk := fun j hj e => by
  subst e
  rcases hj with rfl | rfl | rfl | ⟨u, hu, rfl⟩
  ·omega
  ·exact hkk.2.1 rfl
  ·exact hkk.2.2 rfl
  ·have := (Qbf hK hu).1; omega
 have eqkk : ∀ j, j ≠ kk -> (j == kk) = false := fun j hj => by simp [hj]
 have some1 : ∀ b j, (j = 500000 \/ j = 12 \/ j = 4 \/ ∃ u ∈ us, j = u.k) -> (lk ((500001 + i, b) :: wA us eu ec eg L J b4) j).isSome = true := fun b j hj => QZ (QjT hK hj)
 have rowsz : ∀ r ∈ us[i].cs.map dCR, r.map (D.fzS H (· == kk)) = r := fun r hr => by
  obtain ⟨z, hzm, rfl⟩ := List.mem_map.1 hr
  exact Yr fun d hd => Qel fun j hj => by rw [(hoth z hzm).all d hd] at hj; cases hj
 have mapz : ((us[i].cs.map dCR).set k row).map (fun r => r.map (D.fzS H (· == kk))) = (us[i].cs.map dCR).set k (row.map (D.fzS H (· == kk))) := by
  refine List.ext_getElem (by simp) fun j h1 h2 => ?_
  simp only [List.getElem_map, List.getElem_set]
  split
  ·rfl
  ·exact rowsz _ (List.mem_map_of_mem (List.getElem_mem _))
 refine le_trans (QbV l fr H) (le_trans (Qmd kk (H' := (500001 + i, ⟨(us[i].cs.map dCR).set k (row.map (D.fzS H (· == kk))), 8, ec, p⟩) :: wA us eu ec eg L J b4) (by omega) (fr' := Zb l fr) (fun t d h => ⟨d, h, Qgx fun j hj => eqkk j (nokk j (hfr (t, d) (ZU h) j hj))⟩) (fun j b h => ?_) (fun t d h j hj => some1 _ j (hfr (t, d) (ZU h) j hj)) (fun j b h j2 hj2 => ?_) fun j hj hs => ?_) ?_)
 ·rw [Qm] at h
  split at h
  ·rename_i e; cases h; subst e
   refine ⟨by omega, _, hKi, ?_⟩
   cases p with
   | true => rw [hp rfl]; rfl
   | false => show Box.mk _ _ _ _ = _; rw [mapz]
  ·rename_i e
   rcases Qbt hK h with ⟨rfl, rfl⟩ | ⟨rfl, rfl⟩ | ⟨rfl, rfl⟩ | ⟨i2, hi2, rfl, rfl⟩
   ·refine ⟨by omega, _, hu, Xg (.inr fun j hj => eqkk j (nokk j (.inr (.inr (.inr (Qbs hj))))))⟩
   ·exact ⟨Ne.symm hkk.2.1, _, hg, rfl⟩
   ·exact ⟨Ne.symm hkk.2.2, _, h4, Xg (.inl hb4)⟩
   ·exact ⟨by omega, _, hF i2 hi2 (fun e2 => e (by omega)), rfl⟩
 ·rw [Qm] at h
  split at h
  ·cases h
   cases hpp : p with
   | true => rw [X2 hpp] at hj2; cases hj2
   | false =>
   simp only [Box.ids, hpp, Bool.false_eq_true, if_false, List.mem_flatMap] at hj2
   obtain ⟨r, hr, d, hd, hj3⟩ := hj2
   rcases Qet hr with rfl | hr
   ·have : (d.canS).sid = [] := hz.all _ (by rw [<- hrow]; exact List.mem_map_of_mem hd)
    rw [Qcd] at this
    rw [this] at hj3; cases hj3
   ·obtain ⟨z, hzm, rfl⟩ := List.mem_map.1 hr
    rw [(hoth z hzm).all d hd] at hj3; cases hj3
  ·exact QZ (Qak hK hb4 j b h j2 hj2)
 ·rw [hsm j hj] at hs; cases hs
 ·refine le_trans (Qho k Qy) (le_trans (QfK Qy (fun e => ?_) (fun r hr d hd => ?_)) (Qbg rfl fun j => ?_))
  ·have := congrArg List.length e
   simp only [List.length_modify, List.length_set, List.length_map, List.length_nil] at this
   omega
  ·rcases QaW hr with h | ⟨y, hy, rfl⟩
   ·rcases Qet h with rfl | h
    ·have : (d.canS).sid = [] := hz.all _ (by rw [<- hrow]; exact List.mem_map_of_mem hd)
     rwa [Qcd] at this
    ·obtain ⟨z, hzm, rfl⟩ := List.mem_map.1 h
     exact (hoth z hzm).all d hd
   ·obtain ⟨d0, hd0, rfl⟩ := List.mem_map.1 hd
    rw [Qcd]
    rcases Qet hy with rfl | h
    ·have : (d0.canS).sid = [] := hz.all _ (by rw [<- hrow]; exact List.mem_map_of_mem hd0)
     rwa [Qcd] at this
    ·obtain ⟨z, hzm, rfl⟩ := List.mem_map.1 h
     exact (hoth z hzm).all d0 hd0
  ·have erows : ((us[i].cs.map dCR).set k (row.map (D.fzS H (· == kk)))).modify k (fun r => r.map D.canS) = ((us[i].cs.set k z').map dCR) := by
    refine List.ext_getElem (by simp) fun m h1 h2 => ?_
    simp only [List.getElem_modify, List.getElem_set, List.getElem_map]
    by_cases e : k = m
    ·subst e
     simp only [if_true]
     exact hrow
    ·simp only [if_neg e]
   have hK' := Qd1 (i := i) (k := k) (z := z') hK
   by_cases e : 500001 + i = j
   ·subst e
    rw [Qy, Qdd hK' (by rw [Zr]; exact hi)]
    simp only [QaL hi, if_true, erows]; rfl
   ·rw [Qm, if_neg e, Qm, if_neg e, Qm, if_neg e]
    cases h : lk (wA us eu ec eg L J b4) j with
    | none =>
     cases h' : lk (wA (Qcs us i k z') eu ec eg L J b4) j with
     | none => rfl
     | some b =>
      have : (lk (wA us eu ec eg L J b4) j).isSome = true := by
       rcases Qbt hK' h' with ⟨rfl, _⟩ | ⟨rfl, _⟩ | ⟨rfl, _⟩ | ⟨m, hm, rfl, _⟩
       ·rfl
       ·rfl
       ·rfl
       ·rw [Zr] at hm; rw [Qdd hK hm]; rfl
      rw [h] at this; cases this
    | some b =>
     rcases Qbt hK h with ⟨rfl, rfl⟩ | ⟨rfl, rfl⟩ | ⟨rfl, rfl⟩ | ⟨m, hm, rfl, rfl⟩
     ·rw [Qfg, QkL]
     ·rfl
     ·rfl
     ·rw [Qdd hK' (by rw [Zr]; exact hm)]
      simp only [QaL hm, if_neg (show ¬ i = m by omega)]
end
theorem QdB : ∀ {H : List (Nat × Box)} {j : Nat}, j ∈ H.map Prod.fst -> (lk H j).isSome = true
 | [], _, h => by cases h
 | (k, b) :: H, j, h => by
  by_cases e : k = j
  ·subst e; exact Q3
  ·refine QZ (QdB ?_)
   simp only [List.map_cons, List.mem_cons] at h
   exact h.resolve_left (Ne.symm e)
theorem Qog {us : List UR} (h : Yb us) {i : Nat} (hi : i < us.length) : (us.map dUR)[((i : Nat) : Int).toNat]? = some [.str us[i].n, .str us[i].f, .osl (500001 + i) us[i].cs.length] := by
 rw [Int.toNat_natCast, List.getElem?_map, List.getElem?_eq_getElem hi, Option.map_some, dUR, h i hi]
theorem QqE {cs : List CR} {k : Nat} (hk : k < cs.length) : (cs.map dCR)[((k : Nat) : Int).toNat]? = some (dCR cs[k]) := by
 rw [Int.toNat_natCast, List.getElem?_map, List.getElem?_eq_getElem hk]; rfl
theorem QjP {us : List UR} {eu ec eg : Nat} {L : List Int} {J : Int} {b4 g1 : Box} (h : Yb us) (k : Nat) : lk (((500000, (⟨us.map dUR, 3, eu, false⟩ : Box)) :: fbx ec us) ++ ([(12, gB L J eg)] ++ [(12, g1), (4, b4)])) k = lk (wA us eu ec eg L J b4) k := by
 show lk ((500000, _) :: (fbx ec us ++ [(12, gB L J eg), (12, g1), (4, b4)])) k = lk ((500000, _) :: (12, _) :: (4, _) :: fbx ec us) k
 rw [Qm, Qm]
 split
 ·rfl
 ·rw [ZT]
  cases hh : lk (fbx ec us) k with
  | some v =>
   have := Qha h k v hh
   simp only
   rw [Qm, if_neg (by omega), Qm, if_neg (by omega), hh]
  | none =>
   simp only [Qm, hh]
   by_cases e : 12 = k
   ·rw [if_pos e, if_pos e]
   ·rw [if_neg e, if_neg e, if_neg e]; rfl
theorem QkU {us : List UR} {eu ec eg : Nat} {L : List Int} {J : Int} {b4 : Box} (h : Yb us) (hv : ∀ y ∈ us, y.cs.length <= 16 /\ ∀ z ∈ y.cs, Qgo z.v) : Fam (wA us eu ec eg L J b4) 12 500000 eu ec us := by
 refine ⟨by decide, ⟨false, rfl⟩, fun y hy => ?_, hv⟩
 obtain ⟨j, hj, rfl⟩ := List.getElem_of_mem hy
 refine ⟨by rw [h j hj]; omega, true, by rw [h j hj]; exact Qdd h hj⟩
/-! ### Filled candidates -/
def QoW (n : Nat) (x : WantT) : Prop := 0 <= x.u /\ x.u < n /\ SetOk x.s
theorem WantIn.w {n : Nat} {x : WantT} (h : WantIn n x) : QoW n x := ⟨by have := h.1; omega, h.2.1, h.2.2⟩
structure XN (n : Nat) (c : CandT) : Prop where
 v : Qgo c.v
 nl : c.ns.length <= 10
 nr : ∀ r ∈ c.ns, r.length <= 2 /\ ∀ x ∈ r, QoW n x
 bl : c.bs.length <= 1
 bw : ∀ x ∈ c.bs, QoW n x
def QhT (c : CandT) : CR := ⟨c.v, .int .i64 c.sh, QY c.ns, Za c.bs⟩
def DoneC (n : Nat) (z : CR) : Prop := ∃ c, z = QhT c /\ XN n c
def FreshC (z : CR) : Prop := ∃ v sh, z = zr v sh /\ Qgo v
theorem DoneC.pure {n : Nat} {z : CR} (h : DoneC n z) : PureC z := by obtain ⟨c, rfl, _⟩ := h; exact ⟨rfl, rfl, rfl⟩
theorem FreshC.pure {z : CR} (h : FreshC z) : PureC z := by obtain ⟨v, sh, rfl, _⟩ := h; exact ⟨rfl, rfl, rfl⟩
theorem DoneC.vr {n : Nat} {z : CR} (h : DoneC n z) : Qgo z.v := by obtain ⟨c, rfl, q⟩ := h; exact q.v
theorem FreshC.vr {z : CR} (h : FreshC z) : Qgo z.v := by obtain ⟨v, sh, rfl, q⟩ := h; exact q
structure Prog (n : Nat) (us : List UR) (i k : Nat) : Prop where
 keys : Yb us
 len : us.length = n /\ 2 <= n /\ n <= 11
 cl : ∀ u ∈ us, u.cs.length <= 4
 done : ∀ j, ∀ hj : j < us.length, ∀ m, ∀ hm : m < us[j].cs.length, (j < i \/ (j = i /\ m < k)) -> DoneC n us[j].cs[m]
 fresh : ∀ j, ∀ hj : j < us.length, ∀ m, ∀ hm : m < us[j].cs.length, ¬ (j < i \/ (j = i /\ m < k)) -> FreshC us[j].cs[m]
theorem Prog.pure {n : Nat} {us : List UR} {i k : Nat} (h : Prog n us i k) {j : Nat} (hj : j < us.length) : ∀ z ∈ us[j].cs, PureC z /\ Qgo z.v := fun z hz => by
 obtain ⟨m, hm, rfl⟩ := List.getElem_of_mem hz
 by_cases hd : j < i \/ (j = i /\ m < k)
 ·exact ⟨(h.done j hj m hm hd).pure, (h.done j hj m hm hd).vr⟩
 ·exact ⟨(h.fresh j hj m hm hd).pure, (h.fresh j hj m hm hd).vr⟩
theorem Prog.fam {n : Nat} {us : List UR} {i k : Nat} (h : Prog n us i k) : ∀ y ∈ us, y.cs.length <= 16 /\ ∀ z ∈ y.cs, Qgo z.v := fun y hy => by
 obtain ⟨j, hj, rfl⟩ := List.getElem_of_mem hy
 exact ⟨Nat.le_trans (h.cl _ hy) (by omega), fun z hz => (h.pure hj z hz).2⟩
theorem Prog.put {n : Nat} {us : List UR} {i k : Nat} (h : Prog n us i k) (hi : i < us.length) (hk : k < us[i].cs.length) {z : CR} (hz : DoneC n z) : Prog n (Qcs us i k z) i (k + 1) := by
 have at' := fun (j : Nat) (hj : j < us.length) => QaL (i := i) (k := k) (z := z) hj
 refine ⟨Qd1 h.keys, by rw [Zr]; exact h.len, fun u hu => ?_, fun j hj m hm hd => ?_, fun j hj m hm hd => ?_⟩
 ·obtain ⟨j, hj, rfl⟩ := List.getElem_of_mem hu
  rw [Zr] at hj
  rw [at' j hj]
  split
  ·simp only [QeE, List.length_set]; exact h.cl _ (List.getElem_mem _)
  ·exact h.cl _ (List.getElem_mem _)
 ·rw [Zr] at hj
  have e := at' j hj
  by_cases hij : i = j
  ·subst hij
   rw [if_pos rfl] at e
   have hm' : m < (QeE us[i] k z).cs.length := by rw [<- e]; exact hm
   have e2 : (Qcs us i k z)[i].cs[m] = (QeE us[i] k z).cs[m]'hm' := by congr 1; rw [e]
   rw [e2]
   simp only [QeE, List.getElem_set]
   split
   ·exact hz
   ·simp only [QeE, List.length_set] at hm'
    exact h.done i hi m hm' (by omega)
  ·rw [if_neg hij] at e
   have hm' : m < us[j].cs.length := by rw [<- e]; exact hm
   have e2 : (Qcs us i k z)[j].cs[m] = us[j].cs[m]'hm' := by congr 1; rw [e]
   rw [e2]; exact h.done j hj m hm' (by omega)
 ·rw [Zr] at hj
  have e := at' j hj
  by_cases hij : i = j
  ·subst hij
   rw [if_pos rfl] at e
   have hm' : m < (QeE us[i] k z).cs.length := by rw [<- e]; exact hm
   have e2 : (Qcs us i k z)[i].cs[m] = (QeE us[i] k z).cs[m]'hm' := by congr 1; rw [e]
   rw [e2]
   simp only [QeE, List.length_set] at hm'
   simp only [QeE, List.getElem_set]
   rw [if_neg (by omega)]
   exact h.fresh i hi m hm' (by omega)
  ·rw [if_neg hij] at e
   have hm' : m < us[j].cs.length := by rw [<- e]; exact hm
   have e2 : (Qcs us i k z)[j].cs[m] = us[j].cs[m]'hm' := by congr 1; rw [e]
   rw [e2]; exact h.fresh j hj m hm' (by omega)
theorem Prog.next {n : Nat} {us : List UR} {i k : Nat} (h : Prog n us i k) (hi : i < us.length) (hk : us[i].cs.length <= k) : Prog n us (i + 1) 0 := by
 refine ⟨h.keys, h.len, h.cl, fun j hj m hm hd => h.done j hj m hm ?_, fun j hj m hm hd => h.fresh j hj m hm (by omega)⟩
 by_cases e : j = i
 ·subst e; exact .inr ⟨rfl, by omega⟩
 ·exact .inl (by omega)
theorem DoneC.setBars {n : Nat} {c : CandT} (h : XN n c) (hb : c.bs = []) {x : WantT} (hx : WantIn n x) : XN n { c with bs := [x] } := ⟨h.v, h.nl, h.nr, by simp, by intro y hy; simp only [List.mem_singleton] at hy; subst hy; exact hx.w⟩
theorem Prog.again {n : Nat} {us : List UR} {i k : Nat} (h : Prog n us i (k + 1)) (hi : i < us.length) (hk : k < us[i].cs.length) {z : CR} (hz : DoneC n z) : Prog n (Qcs us i k z) i (k + 1) := by
 have at' := fun (j : Nat) (hj : j < us.length) => QaL (i := i) (k := k) (z := z) hj
 refine ⟨Qd1 h.keys, by rw [Zr]; exact h.len, fun u hu => ?_, fun j hj m hm hd => ?_, fun j hj m hm hd => ?_⟩
 ·obtain ⟨j, hj, rfl⟩ := List.getElem_of_mem hu
  rw [Zr] at hj
  rw [at' j hj]
  split
  ·simp only [QeE, List.length_set]; exact h.cl _ (List.getElem_mem _)
  ·exact h.cl _ (List.getElem_mem _)
 ·rw [Zr] at hj
  have e := at' j hj
  by_cases hij : i = j
  ·subst hij
   rw [if_pos rfl] at e
   have hm' : m < (QeE us[i] k z).cs.length := by rw [<- e]; exact hm
   have e2 : (Qcs us i k z)[i].cs[m] = (QeE us[i] k z).cs[m]'hm' := by congr 1; rw [e]
   rw [e2]
   simp only [QeE, List.getElem_set]
   split
   ·exact hz
   ·simp only [QeE, List.length_set] at hm'
    exact h.done i hi m hm' (by omega)
  ·rw [if_neg hij] at e
   have hm' : m < us[j].cs.length := by rw [<- e]; exact hm
   have e2 : (Qcs us i k z)[j].cs[m] = us[j].cs[m]'hm' := by congr 1; rw [e]
   rw [e2]; exact h.done j hj m hm' (by omega)
 ·rw [Zr] at hj
  have e := at' j hj
  by_cases hij : i = j
  ·subst hij
   rw [if_pos rfl] at e
   have hm' : m < (QeE us[i] k z).cs.length := by rw [<- e]; exact hm
   have e2 : (Qcs us i k z)[i].cs[m] = (QeE us[i] k z).cs[m]'hm' := by congr 1; rw [e]
   rw [e2]
   simp only [QeE, List.length_set] at hm'
   simp only [QeE, List.getElem_set]
   rw [if_neg (by omega)]
   exact h.fresh i hi m hm' (by omega)
  ·rw [if_neg hij] at e
   have hm' : m < us[j].cs.length := by rw [<- e]; exact hm
   have e2 : (Qcs us i k z)[j].cs[m] = us[j].cs[m]'hm' := by congr 1; rw [e]
   rw [e2]; exact h.fresh j hj m hm' (by omega)
theorem Qmc {l : List Nat} {fr fr1 fr' : List (Nat × D)} {us : List UR} {eu ec eg e1 e3 : Nat} {L : List Int} {J : Int} {b4 bK : Box} {i : Nat} {x : WantT} (hf : Zb l fr = fr1) (ef : fr1 = fr') (hK : Yb us) (hi : i < us.length) (hb4 : b4.pr = true) (hbK : ∀ j ∈ bK.ids, j = 64)
  (hfr : ∀ p ∈ fr', ∀ j ∈ p.2.ids, j = 500000 \/ j = 12 \/ j = 4 \/ ∃ u ∈ us, j = u.k) :
  St.le ⟨fr, (500001 + i, bK) :: (64, ⟨[[.osl 63 1]], 1, e1, false⟩) :: (63, ⟨[QeV x], 3, e3, true⟩) :: wA us eu ec eg L J b4⟩ ⟨fr', (500001 + i, bK) :: (64, ⟨[[Za [x]]], 1, e1, true⟩) :: wA us eu ec eg L J b4⟩ := by
 subst hf ef
 have no63 : ∀ j, (j = 500000 \/ j = 12 \/ j = 4 \/ ∃ u ∈ us, j = u.k) -> j ≠ 63 := fun j hj e => by
  subst e
  rcases hj with h | h | h | ⟨u, hu, h⟩
  ·cases h
  ·cases h
  ·cases h
  ·have := (Qbf hK hu).1; omega
 have eq63 : ∀ j, j ≠ 63 -> (j == 63) = false := fun j hj => by simp [hj]
 have up : ∀ b b' j, (lk (wA us eu ec eg L J b4) j).isSome = true -> (lk ((500001 + i, b) :: (64, b') :: wA us eu ec eg L J b4) j).isSome = true := fun b b' j hj => QZ (QZ hj)
 refine le_trans (QbV l fr _) (le_trans (Qmd 63 (H' := (500001 + i, bK) :: (64, ⟨[[Za [x]]], 1, e1, false⟩) :: wA us eu ec eg L J b4) (by decide) (fr' := Zb l fr) (fun t d h => ⟨d, h, Qgx fun j hj => eq63 j (no63 j (hfr (t, d) (ZU h) j hj))⟩) (fun j b h => ?_) (fun t d h j hj => up _ _ j (QjT hK (hfr (t, d) (ZU h) j hj))) (fun j b h j2 hj2 => ?_) fun j hj hs => ?_) ?_)
 ·rw [Qm] at h
  split at h
  ·rename_i e; cases h; subst e
   refine ⟨by omega, _, Qy, Xg (.inr fun j hj => ?_)⟩
   rw [hbK j hj]; rfl
  ·rename_i e
   rw [Qm] at h
   split at h
   ·rename_i e2; cases h; subst e2
    refine ⟨by decide, _, Qn e Qy, ?_⟩
    have h63 : lk ((500001 + i, bK) :: (64, (⟨[[.osl 63 1]], 1, e1, false⟩ : Box)) :: (63, ⟨[QeV x], 3, e3, true⟩) :: wA us eu ec eg L J b4) 63 = some ⟨[QeV x], 3, e3, true⟩ := Qn (by omega) (Qn (by decide) Qy)
    simp only [Box.fz, Bool.false_eq_true, if_false, List.map_cons, List.map_nil, D.fzS, beq_self_eq_true, if_true, h63, List.length_singleton, and_self, Za]
   ·rename_i e2
    have h2 : lk ((500001 + i, bK) :: (64, (⟨[[.osl 63 1]], 1, e1, false⟩ : Box)) :: (63, ⟨[QeV x], 3, e3, true⟩) :: wA us eu ec eg L J b4) j = some b := by
     have hj : j ≠ 63 := by
      rcases Qbt hK h with ⟨rfl, _⟩ | ⟨rfl, _⟩ | ⟨rfl, _⟩ | ⟨m, _, rfl, _⟩ <;> omega
     exact Qn e (Qn e2 (Qn (Ne.symm hj) h))
    rcases Qbt hK h with ⟨rfl, rfl⟩ | ⟨rfl, rfl⟩ | ⟨rfl, rfl⟩ | ⟨m, hm, rfl, rfl⟩
    ·exact ⟨by decide, _, h2, Xg (.inr fun j hj => eq63 j (no63 j (.inr (.inr (.inr (Qbs hj))))))⟩
    ·exact ⟨by decide, _, h2, rfl⟩
    ·exact ⟨by decide, _, h2, Xg (.inl hb4)⟩
    ·exact ⟨by omega, _, h2, rfl⟩
 ·rw [Qm] at h
  split at h
  ·cases h
   rw [hbK j2 hj2]; exact QZ Q3
  ·rw [Qm] at h
   split at h
   ·cases h; simp [Box.ids, D.sid, Za] at hj2
   ·exact up _ _ j2 (Qak hK hb4 j b h j2 hj2)
 ·by_cases e : 500001 + i = j
  ·subst e; exact Q3
  ·rw [Qm, if_neg e, Qm, if_neg (by omega), Qm, if_neg (by omega)] at hs
   exact up _ _ j hs
 ·have h64 : lk ((500001 + i, bK) :: (64, (⟨[[Za [x]]], 1, e1, false⟩ : Box)) :: wA us eu ec eg L J b4) 64 = some ⟨[[Za [x]]], 1, e1, false⟩ := Qn (by omega) Qy
  refine le_trans (QfK h64 (by simp) (by intro r hr d hd; simp only [List.mem_singleton] at hr; subst hr; simp only [List.mem_singleton] at hd; subst hd; rfl)) (Qbg rfl fun j => ?_)
  by_cases e : 64 = j
  ·subst e; rw [Qy, Qm, if_neg (by omega), Qy]
  ·by_cases eK : 500001 + i = j
   ·subst eK; rw [Qm, if_neg e, Qy, Qy]
   ·rw [Qm, if_neg e, Qm, if_neg eK, Qm, if_neg e, Qm, if_neg eK, Qm, if_neg e]
theorem QlR {n : Nat} : ∀ {cs : List CR}, (∀ z ∈ cs, DoneC n z) -> ∃ l : List CandT, cs = l.map QhT /\ ∀ c ∈ l, XN n c
 | [], _ => ⟨[], rfl, by simp⟩
 | z :: cs, h => by
  obtain ⟨l, h1, h2⟩ := QlR (cs := cs) fun y hy => h y (by simp [hy])
  obtain ⟨c, rfl, hc⟩ := h z (by simp)
  exact ⟨c :: l, by rw [h1]; rfl, fun y hy => by
   rcases List.mem_cons.1 hy with rfl | hy
   ·exact hc
   ·exact h2 y hy⟩
def QpU (n : Nat) (u : UR) (x : Qno) : Prop := x.n = u.n /\ x.f = u.f /\ u.cs = x.cs.map QhT /\ ∀ c ∈ x.cs, XN n c
theorem QlS {n : Nat} : ∀ {us : List UR}, (∀ u ∈ us, ∀ z ∈ u.cs, DoneC n z) -> ∃ w : Qp, w.length = us.length /\ ∀ j, ∀ h : j < us.length, ∀ h' : j < w.length, QpU n us[j] w[j]
 | [], _ => ⟨[], rfl, fun j h => by simp at h⟩
 | u :: us, h => by
  obtain ⟨w, h1, h2⟩ := QlS (us := us) fun y hy => h y (by simp [hy])
  obtain ⟨l, q1, q2⟩ := QlR (h u (by simp))
  refine ⟨⟨u.n, u.f, l⟩ :: w, by simp [h1], fun j hj hj' => ?_⟩
  cases j with
  | zero => exact ⟨rfl, rfl, q1, q2⟩
  | succ j => simp only [List.getElem_cons_succ]; exact h2 j (by simpa using hj) (by simpa using hj')
structure Qnp (w : Qp) : Prop where
 sm : WSm w
 len : 2 <= w.length /\ w.length <= 11
 cs : ∀ u ∈ w, u.cs.length <= 4
 cand : ∀ u ∈ w, ∀ c ∈ u.cs, XN w.length c
theorem Qpk {w : Qp} (h2 : 2 <= w.length) (h11 : w.length <= 11) (hc : ∀ u ∈ w, u.cs.length <= 4) (hd : ∀ u ∈ w, ∀ c ∈ u.cs, XN w.length c) : Qnp w := by
 refine ⟨⟨by omega, fun u hu => Nat.le_trans (hc u hu) (by omega), fun u hu c hcm => (hd u hu c hcm).v, fun u hu c hcm => ⟨Nat.le_trans (hd u hu c hcm).nl (by omega), Nat.le_trans (hd u hu c hcm).bl (by omega)⟩, fun u hu c hcm r hr => Nat.le_trans ((hd u hu c hcm).nr r hr).1 (by omega), fun u hu c hcm r hr x hx => (((hd u hu c hcm).nr r hr).2 x hx).2.2.sm, fun u hu c hcm x hx => ((hd u hu c hcm).bw x hx).2.2.sm⟩, ⟨h2, h11⟩, hc, hd⟩
theorem QnL {n : Nat} {us : List UR} {eu ec eg : Nat} {L : List Int} {J : Int} {b4 : Box} {k : Nat} (h : Prog n us us.length k) (hb4 : b4.pr = true) :
  ∃ w : Qp, w.length = us.length /\ Qnp w /\ ∀ {l : List Nat} {fr fr1 fr' : List (Nat × D)}, Zb l fr = fr1 -> fr1 = fr' -> (∀ p ∈ fr', ∀ j ∈ p.2.ids, j = 500000 \/ j = 4) -> St.le ⟨fr, wA us eu ec eg L J b4⟩ ⟨fr', [(500000, ⟨w.map Yn, 3, eu, true⟩), (4, b4)]⟩ := by
 obtain ⟨w, hw1, hw2⟩ := QlS (n := n) (us := us) fun u hu z hz => by
  obtain ⟨j, hj, rfl⟩ := List.getElem_of_mem hu
  obtain ⟨m, hm, rfl⟩ := List.getElem_of_mem hz
  exact h.done j hj m hm (.inl hj)
 have hcs : ∀ u ∈ w, u.cs.length <= 4 /\ ∀ c ∈ u.cs, XN n c := fun u hu => by
  obtain ⟨j, hj, rfl⟩ := List.getElem_of_mem hu
  obtain ⟨_, _, q3, q4⟩ := hw2 j (by omega) hj
  have := h.cl us[j] (List.getElem_mem _)
  rw [q3, List.length_map] at this
  exact ⟨this, q4⟩
 have hlen := h.len
 refine ⟨w, hw1, Qpk (by omega) (by omega) (fun u hu => (hcs u hu).1) (fun u hu c hc => by have := (hcs u hu).2 c hc; rwa [show w.length = n by omega]), ?_⟩
 intro l fr fr1 fr' hf ef hfr
 subst hf ef
 have hK := h.keys
 let S : Nat -> Bool := fun k => decide (500001 <= k) && decide (k < 1000000)
 have hS1 : ∀ k, k < 500001 -> S k = false := fun k hk => by
  show (decide (500001 <= k) && decide (k < 1000000)) = false
  rw [decide_eq_false (by omega)]; rfl
 have hS2 : ∀ k, 500001 <= k -> k < 1000000 -> S k = true := fun k h1 h2 => by
  show (decide (500001 <= k) && decide (k < 1000000)) = true
  rw [decide_eq_true h1, decide_eq_true h2]; rfl
 have hrow : ∀ j, ∀ h1 : j < us.length, ∀ h2 : j < w.length, (dUR us[j]).map (D.fzS (wA us eu ec eg L J b4) S) = Yn w[j] := fun j h1 h2 => by
  obtain ⟨q1, q2, q3, q4⟩ := hw2 j h1 h2
  have hk := hK j h1
  have hc := Qdd (eu := eu) (ec := ec) (eg := eg) (L := L) (J := J) (b4 := b4) hK h1
  generalize us[j] = u at q1 q2 q3 hk hc
  generalize w[j] = x at q1 q2 q3 q4
  obtain ⟨un, uf, uk, ucs⟩ := u
  simp only at q1 q2 q3 hk hc
  subst hk q3
  simp only [dUR, Yn, List.map_cons, List.map_nil, D.fzS]
  rw [hS2 _ (by omega) (by omega), hc]
  simp only [if_true, true_and, List.length_map, q1, q2, Qj4, List.map_map]
  rfl
 have hrows : (us.map dUR).map (fun r => r.map (D.fzS (wA us eu ec eg L J b4) S)) = w.map Yn := by
  refine List.ext_getElem (by simp [hw1]) fun j h1 h2 => ?_
  simp only [List.getElem_map]
  exact hrow j (by simpa using h1) (by simpa using h2)
 refine le_trans (QbV l fr _) (le_trans (Qpe S (fun k hk => by
  simp only [S, Bool.and_eq_true, decide_eq_true_eq] at hk; exact hk.2) (fr' := Zb l fr) (H' := [(500000, ⟨w.map Yn, 3, eu, false⟩), (4, b4)]) (fun t d hd => ⟨d, hd, Qgx fun j hj => ?_⟩) (fun j b hj => ?_) (fun t d hd j hj => ?_) (fun j b hb i hi => ?_) fun j hj hs => ?_) (le_trans (QfK (k := 500000) (b := ⟨w.map Yn, 3, eu, false⟩) rfl (fun e => ?_) (fun r hr d hd => ?_)) (Qbg rfl fun j => ?_)))
 ·rcases hfr (t, d) (ZU hd) j hj with rfl | rfl
  ·exact hS1 _ (by decide)
  ·exact hS1 _ (by decide)
 ·rw [Qm] at hj
  split at hj
  ·rename_i e; cases hj; subst e
   refine ⟨hS1 _ (by decide), _, Qfg, ?_⟩
   simp only [Box.fz, Bool.false_eq_true, if_false, hrows]
  ·rw [Qm] at hj
   split at hj
   ·rename_i e; cases hj; subst e
    exact ⟨hS1 _ (by decide), _, Qgf, Xg (.inl hb4)⟩
   ·cases hj
 ·rcases hfr (t, d) (ZU hd) j hj with rfl | rfl
  ·rfl
  ·rfl
 ·rw [Qm] at hb
  split at hb
  ·cases hb
   simp only [Box.ids, Bool.false_eq_true, if_false, List.mem_flatMap, List.mem_map] at hi
   obtain ⟨r, ⟨u, _, rfl⟩, d, hd, hi⟩ := hi
   simp only [Yn, List.mem_cons, List.not_mem_nil, or_false] at hd
   rcases hd with rfl | rfl | rfl <;> simp [D.sid, Qj4] at hi
  ·rw [Qm] at hb
   split at hb
   ·cases hb; rw [X2 hb4] at hi; cases hi
   ·cases hb
 ·obtain ⟨b, hb⟩ := Option.isSome_iff_exists.1 hs
  rcases Qbt hK hb with ⟨rfl, _⟩ | ⟨rfl, _⟩ | ⟨rfl, _⟩ | ⟨m, hm, rfl, _⟩ <;> omega
 ·have := congrArg List.length e
  simp only [List.length_map, List.length_nil] at this
  omega
 ·obtain ⟨u, _, rfl⟩ := List.mem_map.1 hr
  simp only [Yn, List.mem_cons, List.not_mem_nil, or_false] at hd
  rcases hd with rfl | rfl | rfl <;> rfl
 ·by_cases e : 500000 = j
  ·subst e; rfl
  ·rw [Qm, if_neg e, Qm, if_neg e]; rw [Qm (k := 500000), if_neg e]
def Qjm (us : List UR) (i : Nat) : Nat := match us[i]? with
 | some u => u.cs.length
 | none => 0
theorem QaG {us : List UR} {i : Nat} (h : i < us.length) : Qjm us i = us[i].cs.length := by rw [Qjm, List.getElem?_eq_getElem h]
theorem Qav (us : List UR) (i k : Nat) (z : CR) : Qjm (Qcs us i k z) i = Qjm us i := by
 by_cases h : i < us.length
 ·rw [QaG h, QaG (by rw [Zr]; exact h), QaL h, if_pos rfl]
  simp [QeE]
 ·have e : (Qcs us i k z).length = us.length := Zr ..
  rw [Qjm, Qjm, List.getElem?_eq_none (show us.length <= i by omega), List.getElem?_eq_none (show (Qcs us i k z).length <= i by omega)]
theorem QiW {us : List UR} {i k : Nat} {z : CR} (hi : i < us.length) (hk : k < us[i].cs.length) {us2 : List UR} (e : us2 = Qcs us i k z) (hi2 : i < us2.length) (hk2 : k < us2[i].cs.length) : us2[i].cs[k] = z := by
 subst e
 have e1 := QaL (i := i) (k := k) (z := z) hi
 rw [if_pos rfl] at e1
 have e2 : (Qcs us i k z)[i].cs[k] = (QeE us[i] k z).cs[k]'(by simpa [QeE] using hk) := by congr 1; rw [e1]
 rw [e2]; simp [QeE]
theorem Qo5 {cs : List CR} {k : Nat} {z : CR} (hk : k < cs.length) (hz : cs[k] = z) : (cs.map dCR)[((k : Nat) : Int).toNat]? = some (dCR z) := by rw [QqE hk, hz]
theorem QoI {cs : List CR} {k : Nat} {row : List D} (hk : k < cs.length) : ((cs.map dCR).set ((k : Nat) : Int).toNat row)[((k : Nat) : Int).toNat]? = some row := by
 rw [Int.toNat_natCast, List.getElem?_set_self (by simpa using hk)]
theorem Qiw {K k e t : Nat} {L : List (List D)} {r1 r2 : List D} {p : Bool} {H : List (Nat × Box)} : lk ((K, (⟨(L.set k r1).set k r2, e, t, p⟩ : Box)) :: H) K = some ⟨L.set k r2, e, t, p⟩ := by rw [Qy, List.set_set]
theorem Qe7 {H : List (Nat × Box)} {kk m e t : Nat} {ys : List (List D)} {v : Vr} {sh : Int} (h : lk H kk = some ⟨ys, e, t, true⟩) (hm : m = ys.length) : ([D.int .i64 v.a, .int .i64 v.b, .int .i64 v.c, .str v.p, .str v.q, .int .i64 sh, .osl kk m, .fsl []].map (D.fzS H (· == kk))).map D.canS = [.int .i64 v.a, .int .i64 v.b, .int .i64 v.c, .str v.p, .str v.q, .int .i64 sh, .sl ys, .sl []] := by
 simp only [List.map_cons, List.map_nil, D.fzS, beq_self_eq_true, if_true, h, hm, and_self, D.canS]
theorem QlX {H : List (Nat × Box)} {kk m e t : Nat} {ys : List (List D)} {v : Vr} {sh : Int} {ns : List (List WantT)} (h : lk H kk = some ⟨ys, e, t, true⟩) (hm : m = ys.length) : ([D.int .i64 v.a, .int .i64 v.b, .int .i64 v.c, .str v.p, .str v.q, .int .i64 sh, QY ns, .osl kk m].map (D.fzS H (· == kk))).map D.canS = [.int .i64 v.a, .int .i64 v.b, .int .i64 v.c, .str v.p, .str v.q, .int .i64 sh, QY ns, .sl ys] := by
 simp only [QY, List.map_cons, List.map_nil, D.fzS, beq_self_eq_true, if_true, h, hm, and_self, D.canS]
theorem Qqm {us : List UR} {eu ec eg : Nat} {L : List Int} {J J2 : Int} {b4 : Box} (k : Nat) : lk ((12, gB L J2 eg) :: wA us eu ec eg L J b4) k = lk (wA us eu ec eg L J2 b4) k := by
 show lk ((12, _) :: (500000, _) :: (12, _) :: (4, _) :: fbx ec us) k = lk ((500000, _) :: (12, _) :: (4, _) :: fbx ec us) k
 by_cases e : 12 = k
 ·subst e; rfl
 ·rw [Qm, if_neg e, Qm, Qm (k := 500000)]
  split
  ·rfl
  ·rw [Qm, if_neg e, Qm (k := 12), if_neg e]
theorem QjG {cs : List CR} {k e t : Nat} {row : List D} (h : ∀ z ∈ cs, PureC z) (hr : ∀ d ∈ row, ∀ j ∈ d.sid, j = 64) : ∀ j ∈ Box.ids ⟨(cs.map dCR).set k row, e, t, false⟩, j = 64 := fun j hj => by
 simp only [Box.ids, Bool.false_eq_true, if_false, List.mem_flatMap] at hj
 obtain ⟨r, hrm, d, hd, hj⟩ := hj
 rcases Qet hrm with rfl | hrm
 ·exact hr d hd j hj
 ·obtain ⟨z, hz, rfl⟩ := List.mem_map.1 hrm
  rw [(h z hz).all d hd] at hj; cases hj
theorem Qri {us : List UR} {eu ec eg : Nat} {L : List Int} {J : Int} {b4 b64 : Box} {n i k : Nat} (h : Prog n us i k) (hi : i < us.length) (hk : k < us[i].cs.length) {zx : CR} (hv : Qgo zx.v) (hrow : zx.x.sid = [] /\ zx.y.sid = [64] /\ zx.z.sid = []) (hb4 : b4.pr = true) (h64 : b64.pr = true) :
  Fam ((500001 + i, ⟨(us[i].cs.map dCR).set k (dCR zx), 8, ec, false⟩) :: (64, b64) :: wA us eu ec eg L J b4) 12 500000 eu ec (Qcs us i k zx) /\ Closed ((500001 + i, ⟨(us[i].cs.map dCR).set k (dCR zx), 8, ec, false⟩) :: (64, b64) :: wA us eu ec eg L J b4) := by
 refine ⟨⟨by decide, ⟨false, ?_⟩, fun y hy => ?_, fun y hy => ?_⟩, ?_⟩
 ·rw [Qm, if_neg (by omega), Qm, if_neg (by decide), Qfg, QkL]
 ·obtain ⟨j, hj, rfl⟩ := List.getElem_of_mem hy
  have hK' := Qd1 (i := i) (k := k) (z := zx) h.keys
  have hj' := hj
  rw [Zr] at hj'
  refine ⟨by rw [hK' j hj]; omega, ?_⟩
  rw [hK' j hj]
  by_cases e : i = j
  ·subst e
   refine ⟨false, ?_⟩
   rw [Qy, QaL hj', if_pos rfl, QeE, List.map_set]
  ·refine ⟨true, ?_⟩
   rw [Qm, if_neg (by omega), Qm, if_neg (by omega), Qdd h.keys hj', QaL hj', if_neg e]
 ·obtain ⟨j, hj, rfl⟩ := List.getElem_of_mem hy
  have hj' := hj
  rw [Zr] at hj'
  rw [QaL hj']
  have hfam := h.fam us[j] (List.getElem_mem _)
  split
  ·refine ⟨by simpa [QeE] using hfam.1, fun z hz => ?_⟩
   rcases Qet hz with rfl | hz
   ·exact hv
   ·exact hfam.2 z hz
  ·exact hfam
 ·refine ((Qak h.keys hb4).pr h64).cons fun j hj => ?_
  have := QjG (e := 8) (t := ec) (k := k) (row := dCR zx) (fun z hz => (h.pure hi z hz).1) (fun d hd j hj => by
   simp only [dCR, List.mem_cons, List.not_mem_nil, or_false] at hd
   rcases hd with rfl | rfl | rfl | rfl | rfl | rfl | rfl | rfl
   ·cases hj
   ·cases hj
   ·cases hj
   ·cases hj
   ·cases hj
   ·rw [hrow.1] at hj; cases hj
   ·rw [hrow.2.1] at hj; simpa using hj
   ·rw [hrow.2.2] at hj; cases hj) j hj
  subst this; exact Q3
theorem Prog.start {us : List UR} (h : UnitsIn us) (h2 : 2 <= us.length) (h11 : us.length <= 11) : Prog us.length us 0 0 := by
 refine ⟨h.keys, ⟨rfl, h2, h11⟩, fun u hu => (h.fresh u hu).1, fun j hj m hm hd => by omega, fun j hj m hm _ => ?_⟩
 obtain ⟨v, sh, e, hv⟩ := (h.fresh _ (List.getElem_mem hj)).2 _ (List.getElem_mem hm)
 exact ⟨v, sh, e, hv⟩
theorem Qeh {n : Nat} {m : Int} {v : Vr} {sh : Int} {ns : List (List WantT)} (hv : Qgo v) (h : Qfi n m ns) (hm : m <= 3) : XN n ⟨v, sh, ns, []⟩ :=
 ⟨hv, by show ns.length <= 10; have := h.1; omega, fun r hr => ⟨(h.2 r hr).1, fun x hx => ((h.2 r hr).2 x hx).w⟩, Nat.zero_le _, fun x hx => by cases hx⟩
theorem Qia {n i : Nat} {m : Int} {v : Vr} {sh : Int} {ns : List (List WantT)} (hv : Qgo v) (h : Qfi n m ns) (hm : m <= 3) (h1 : 1 <= i) (hi : i < n) : XN n ⟨v, sh, [⟨(i : Int) - 1, Xa v.a v.b v.c v.p v.q⟩] :: ns, []⟩ := by
 refine ⟨hv, by show (_ :: ns).length <= 10; have := h.1; simp only [List.length_cons]; omega, fun r hr => ?_, Nat.zero_le _, fun x hx => by cases hx⟩
 rcases List.mem_cons.1 hr with rfl | hr
 ·refine ⟨by simp, fun x hx => ?_⟩
  simp only [List.mem_singleton] at hx; subst hx
  have := Qch (a := v.a) (b := v.b) (c := v.c) (q := v.q) hv.1
  exact ⟨by show 0 <= (i : Int) - 1; omega, by show (i : Int) - 1 < n; omega, this.1.up (by omega), this.2.up (by omega)⟩
 ·exact ⟨(h.2 r hr).1, fun x hx => ((h.2 r hr).2 x hx).w⟩
theorem Qh9 {n : Nat} {v : Vr} {sh : Int} {ns : List (List WantT)} (h : XN n ⟨v, sh, ns, []⟩) {x : WantT} (hx : WantIn n x) : XN n ⟨v, sh, ns, [x]⟩ := ⟨h.v, h.nl, h.nr, by simp, by intro y hy; simp only [List.mem_singleton] at hy; subst hy; exact hx.w⟩
theorem QiX {us : List UR} {i k : Nat} {z : CR} (hi : i < us.length) (hk : k < us[i].cs.length) {us2 : List UR} (e : Qcs us i k z = us2) (hi2 : i < us2.length) : k < us2[i].cs.length := by
 rw [<- QaG hi2, <- e, Qav, QaG hi]; exact hk
theorem QoF {l : List (List WantT)} : ∀ r ∈ l.map (fun r => [Za r]), r.length = 1 := fun r hr => by obtain ⟨x, _, rfl⟩ := List.mem_map.1 hr; rfl
end M25
namespace Go.Proofs
open Go Go.Abs M3 M25
set_option linter.unusedVariables false
set_option linter.unusedSimpArgs false
theorem Qpn {kg : Nat} {L : List Int} {I most : Int} {eg eu ec : Nat} (heu : eu = 48) (hec : ec = 70) (hL : ∀ x ∈ L, I64 x) (hm0 : 1 <= most) (hm1 : most <= 5) :
  ∃ us I2, (UnitsIn us /\ 2 <= us.length /\ us.length <= 11) /\ ∀ (st : St) (args : List Opd), ZW st args = some [.ref kg 0 0, .int .i64 most] -> lk st.H kg = some (gB L I eg) -> (∀ j, 500000 <= j -> lk st.H j = none) -> Qa5 Tryz.prog 33 args st [(kg, gB L I eg)] ((500000, ⟨us.map dUR, 3, eu, false⟩) :: fbx ec us) [(kg, gB L I2 eg)] (.osl 500000 us.length) := by
 obtain ⟨d, H2, ⟨us, I2, hus, rfl, rfl⟩, hok⟩ := QcC (kg := upN kg) (I := I) (eg := eg) heu hec (by unfold upN; omega) hL hm0 hm1
 refine ⟨us, I2, hus, fun st args ha hg hs => ⟨_, ha, fun k b h => ?_, fun k b h j hj => ?_, fun x hx j hj => ?_, fun k b h => ?_, fun k b h => ?_, fun k hk => ?_, hok⟩⟩
 ·obtain ⟨rfl, rfl⟩ := Xr h; exact hg
 ·obtain ⟨rfl, rfl⟩ := Xr h; simp [Box.ids, gB] at hj
 ·simp only [List.mem_cons, List.not_mem_nil, or_false] at hx
  rcases hx with rfl | rfl
  ·simp [D.ids, D.sid] at hj; subst hj; exact Q3
  ·simp [D.ids, D.sid] at hj
 ·obtain ⟨rfl, rfl⟩ := Xr h
  exact ⟨Q3, fun j hj => by simp [Box.ids, gB] at hj⟩
 ·have hK := hus.1.keys
  rw [Qm] at h
  split at h
  ·rename_i e; cases h; subst e
   refine ⟨by decide, hs _ (Nat.le_refl _), fun j hj => ?_⟩
   obtain ⟨u, hu, rfl⟩ := Qbs hj
   exact QZ (Qdt hK hu)
  ·obtain ⟨u, hu, rfl, rfl⟩ := QgD h
   have := Qbf hK hu
   exact ⟨by omega, hs _ (by omega), fun j hj => by simp [Box.ids] at hj⟩
 ·simp [D.ids, D.sid] at hk; subst hk; exact Q3
theorem QjC {H : List (Nat × Box)} {kg ku : Nat} {L : List Int} {I most : Int} {eg eu ec : Nat} {us : List UR} (hg : lk H kg = some (gB L I eg)) (hU : Fam H kg ku eu ec us) (hC : Closed H) (hL : ∀ x ∈ L, I64 x) (h2 : 2 <= us.length) (hn : us.length <= 48) (hm0 : 0 <= most) (hm1 : most <= 10) :
  ∃ ns I2, Qfi us.length most ns /\ ∀ (st : St) (args : List Opd), ZW st args = some [.ref kg 0 0, .osl ku us.length, .int .i64 most] -> (∀ j x, lk H j = some x -> lk st.H j = some x) -> Qa5 Tryz.prog 34 args st H [] [(kg, gB L I2 eg)] (QY ns) := by
 obtain ⟨d, H2, ⟨ns, I2, hx, rfl, rfl⟩, hok⟩ := QcB (H := upH H) (kg := upN kg) (ku := upN ku) (L := L) (I := I) (most := most) (eg := eg) (eu := eu) (ec := ec) (us := us.map UR.ren) (by unfold upN; omega) (by rw [Qay, hg]; rfl) hU.up QjQ (QeG hC) hL (by simpa using h2) (by simpa using hn) hm0 hm1
 obtain ⟨pu, hu⟩ := hU.u
 rw [List.length_map] at hx hok
 refine ⟨ns, I2, hx, fun st args ha hF => Qj2 (b' := gB L I2 eg) (ds' := [.ref (upN kg) 0 0, .osl (upN ku) us.length, .int .i64 most]) ha hF hC (fun x hx j hj => ?_) (Zp hg) rfl rfl rfl rfl hok⟩
 simp only [List.mem_cons, List.not_mem_nil, or_false] at hx
 rcases hx with rfl | rfl | rfl
 ·simp [D.ids, D.sid] at hj; subst hj; exact Zp hg
 ·simp [D.ids, D.sid] at hj; subst hj; exact Zp hu
 ·simp [D.ids, D.sid] at hj
theorem QcA {ws : List Int} (hL : ∀ x ∈ ws, I64 x) {most : Int} (hm0 : 1 <= most) (hm1 : most <= 5) : ∃ d, (∃ w, Qnp w /\ d = Z1 w) /\ Ok Tryz.prog 10 [Zo ws, .int .i64 most] d := by
 refine Ok.ofX (R := fun d => (∃ w, Qnp w /\ d = Z1 w)) ZY Tryz.func10 Qrl (Nat.le_of_ble_eq_true rfl) ?_
 show TX _ _ tf10.body _ _
 obtain ⟨us0, J0, ⟨hU, hu2, hu11⟩, hc0⟩ := Qpn (kg := 12) (L := ws) (I := 0) (most := most) (eg := 62) rfl rfl hL hm0 hm1
 have hU0 := Prog.start hU hu2 hu11
 obtain ⟨z0, rest0, hfirst⟩ := hU.first
 have hi0 : 0 < us0.length := by omega
 have hcl0 : us0[0].cs = [z0] := by subst hfirst; rfl
 have hk0 : 0 < us0[0].cs.length := by rw [hcl0]; exact Nat.zero_lt_one
 obtain ⟨va, sha, hza, hva⟩ := hU0.fresh 0 hi0 0 hk0 (by omega)
 obtain ⟨ns0, J00, hns0, hc00⟩ := QjC (H := wA (us0) 48 70 62 ws (J0) ⟨[[.fsl []]], 1, 26, true⟩) (most := 3) QeR (QkU hU.keys hU0.fam) (Qak hU.keys rfl) hL hu2 (by omega) (by decide) (by decide)
 refine Q8 fun K hK => ZL rfl ?_
 refine hK _ _ (QP (kp3 rfl rfl rfl) ?_)
 refine Q8 fun K hK => Qa rfl (QX rfl rfl (Zv rfl rfl rfl (Qa rfl ?_)))
 refine hK _ _ (QP (kp3 rfl rfl rfl) ?_)
 refine Q8 fun K hK => Qa rfl (Qa rfl (Yj (hc0 _ _ rfl rfl (by intro j hj; rw [Qm, if_neg (by omega), Qm, if_neg (by omega)]; rfl)) (Qa rfl ?_)))
 refine hK _ _ (QP (kp3 rfl rfl rfl) ?_)
 refine QlD (Qbg rfl (QjP hU.keys)) (Q8 fun K hK => Qa rfl (XG (ds0 := [7, 6, 2, 1, 0]) rfl rfl rfl (by simp) (by omega) (by omega) rfl (by first | rfl | ((try simp only [QY, D.ids, D.sid]); simp only [Dr.ok, Zk, Zl, Zm, List.all_append, List.all_cons, List.all_nil, Bool.and_true, Bool.true_and]; (try rw [ZD (by rfl)]); simp [D.ids, D.sid]; done) | ((try simp only [QY, D.ids, D.sid]); simp only [Dr.ok, Zk, Zl, Zm, List.all_append, List.all_cons, List.all_nil, Bool.and_true, Bool.true_and]; (try rw [ZD (by rfl)]); simp [D.ids, D.sid]; omega)) rfl (Qh rfl rfl (QU (ds0 := [2, 1, 0]) rfl (Z7 rfl (Qog (i := 0) hU.keys hi0)) rfl (by first | rfl | ((try simp only [QY, D.ids, D.sid]); simp only [Dr.ok, Zk, Zl, Zm, List.all_append, List.all_cons, List.all_nil, Bool.and_true, Bool.true_and]; (try rw [ZD (by rfl)]); simp [D.ids, D.sid]; done) | ((try simp only [QY, D.ids, D.sid]); simp only [Dr.ok, Zk, Zl, Zm, List.all_append, List.all_cons, List.all_nil, Bool.and_true, Bool.true_and]; (try rw [ZD (by rfl)]); simp [D.ids, D.sid]; omega)) rfl (Qa rfl (Qa rfl (Qja (ds0 := [0]) (hc00 _ _ rfl (fun _ _ h => h)) (fun j hj => QdB hj) (by first | rfl | ((try simp only [QY, D.ids, D.sid]); simp only [Dr.ok, Zk, Zl, Zm, List.all_append, List.all_cons, List.all_nil, Bool.and_true, Bool.true_and]; (try rw [ZD (by rfl)]); simp [D.ids, D.sid]; done) | ((try simp only [QY, D.ids, D.sid]); simp only [Dr.ok, Zk, Zl, Zm, List.all_append, List.all_cons, List.all_nil, Bool.and_true, Bool.true_and]; (try rw [ZD (by rfl)]); simp [D.ids, D.sid]; omega)) rfl (XG (ds0 := [1, 0]) rfl rfl (Qn (by omega) (Qdd (j := 0) hU.keys hi0)) (by simp) (by omega) (by omega) rfl (by first | rfl | ((try simp only [QY, D.ids, D.sid]); simp only [Dr.ok, Zk, Zl, Zm, List.all_append, List.all_cons, List.all_nil, Bool.and_true, Bool.true_and]; (try rw [ZD (by rfl)]); simp [D.ids, D.sid]; done) | ((try simp only [QY, D.ids, D.sid]); simp only [Dr.ok, Zk, Zl, Zm, List.all_append, List.all_cons, List.all_nil, Bool.and_true, Bool.true_and]; (try rw [ZD (by rfl)]); simp [D.ids, D.sid]; omega)) rfl (Qh rfl (Zp (Qn (by omega) (Qdd (j := 0) hU.keys hi0))) (YZ (ds0 := []) rfl (Qn (by omega) (Qdd (j := 0) hU.keys hi0)) (Qo5 (k := 0) hk0 hza) rfl rfl rfl rfl rfl (by first | rfl | ((try simp only [QY, D.ids, D.sid]); simp only [Dr.ok, Zk, Zl, Zm, List.all_append, List.all_cons, List.all_nil, Bool.and_true, Bool.true_and]; (try rw [ZD (by rfl)]); simp [D.ids, D.sid]; done) | ((try simp only [QY, D.ids, D.sid]); simp only [Dr.ok, Zk, Zl, Zm, List.all_append, List.all_cons, List.all_nil, Bool.and_true, Bool.true_and]; (try rw [ZD (by rfl)]); simp [D.ids, D.sid]; omega)) rfl ?_))))))))))
 refine hK _ _ (QP (kp3 rfl rfl rfl) ?_)
 refine Xo ?_ -- 0
 refine Q8 fun K hK => Qa rfl ?_
 refine hK _ _ (QP (kp4 rfl rfl rfl rfl) ?_)
 refine Yv ?_
 have hPs : Prog us0.length (Qcs us0 0 0 (QhT (CandT.mk va sha ns0 []))) 1 0 := (hU0.put hi0 hk0 ⟨_, rfl, Qeh hva hns0 (by decide)⟩).next (by rw [Zr]; exact hi0) (by rw [<- QaG (by rw [Zr]; exact hi0), Qav, QaG hi0, hcl0]; exact Nat.le_refl 1)
 refine Qde (ι := List UR × Int × Nat) (fun ⟨usA, JA, i⟩ => ⟨[(4, .ref 4 0 0), (5, .ref 12 0 0), (6, .osl 500000 usA.length), (7, .int .i64 i)], wA (usA) 48 70 62 ws (JA) ⟨[[.fsl []]], 1, 26, true⟩⟩) (fun ⟨usA, JA, i⟩ => Prog us0.length usA i 0 /\ 1 <= i /\ i <= us0.length) (fun ⟨usA, JA, i⟩ => us0.length - i) (Qcs us0 0 0 (QhT (CandT.mk va sha ns0 [])), J00, 1) ?_ ?_ ?_
 ·exact QfL (l := [4, 5, 6, 7]) (i := 0) (k := 0) (row := [.int .i64 va.a, .int .i64 va.b, .int .i64 va.c, .str va.p, .str va.q, .int .i64 sha, QY ns0, .fsl []]) (p := true) 13 (QhT (CandT.mk va sha ns0 [])) (kp4 rfl rfl rfl rfl) (by rw [Zr] <;> rfl) hU.keys hi0 hk0 Qy (fun _ => rfl) rfl (fun z hz => (hU0.pure hi0 z hz).1) ⟨rfl, rfl, rfl⟩ (fun j hj hne => (Qn (by omega) (Qn (by omega) (Qdd hU.keys hj)))) (by repeat (first | exact Qy | exact Qfg | exact QeR | exact Qgf | refine Qn (by omega) ?_)) (by repeat (first | exact Qy | exact Qfg | exact QeR | exact Qgf | refine Qn (by omega) ?_)) (by repeat (first | exact Qy | exact Qfg | exact QeR | exact Qgf | refine Qn (by omega) ?_)) rfl (by decide) (by intro j hj; repeat (first | exact ZZ hU.keys (by omega) (by omega) (by omega) (.inr (by omega)) | refine Zq (by omega) ?_)) (by omega) (by intro p hp j hj; simp only [List.mem_cons, List.not_mem_nil, or_false] at hp; rcases hp with rfl | rfl | rfl | rfl <;> first | (simp [D.ids, D.sid] at hj; done) | (simp [D.ids, D.sid] at hj; subst hj; first | exact .inl rfl | exact .inr (.inl rfl) | exact .inr (.inr (.inl rfl)) | exact .inr (.inr (.inr ⟨us0[0], List.getElem_mem hi0, rfl⟩))))
 ·exact ⟨hPs, Nat.le_refl _, by omega⟩
 intro ⟨usA, JA, i⟩ hPA
 try dsimp only at hPA
 have hlA := hPA.1.len.1
 try dsimp only
 refine Xo ?_ -- 1
 refine Q8 fun K hK => Qa rfl (Qa rfl ?_)
 first | refine QQ rfl QW ?_ | refine QQ rfl rfl ?_
 refine Z6 rfl rfl ?_
 refine hK _ _ (QP (kp5 rfl rfl rfl rfl rfl) ?_)
 refine YI rfl (fun h1 => ?_) (fun h1 => ?_)
 ·try rw [h1]
  try simp only [qa, qb, qc, qd, qe, List.length_map] at h1
  refine YX (Q5 (kp4 rfl rfl rfl rfl) ?_)
  refine Xo ?_ -- 2
  refine Yv (Q8 fun K hK => Qa rfl ?_)
  refine hK _ _ (QP (kp5 rfl rfl rfl rfl rfl) ?_)
  refine Yv ?_
  refine Qde (ι := List UR × Int × Nat) (fun ⟨us, J, k⟩ => ⟨[(4, .ref 4 0 0), (5, .ref 12 0 0), (6, .osl 500000 us.length), (7, .int .i64 i), (8, .int .i64 k)], wA (us) 48 70 62 ws (J) ⟨[[.fsl []]], 1, 26, true⟩⟩) (fun ⟨us, J, k⟩ => Prog us0.length us i k) (fun ⟨us, J, k⟩ => Qjm us i - k) (usA, JA, 0) ?_ ?_ ?_
  ·exact Zg (l := [4, 5, 6, 7, 8]) (kp5 rfl rfl rfl rfl rfl)
  ·exact hPA.1
  intro ⟨us, J, k⟩ hP
  try dsimp only at hP
  have hl := hP.len.1
  have hi : i < us.length := by omega
  have h1i := hPA.2.1
  have hcl4 := hP.cl us[i] (List.getElem_mem hi)
  try dsimp only
  refine Xo ?_ -- 3
  refine Q8 fun K hK => Qa rfl (Qa rfl (Qa rfl (Xf rfl rfl rfl (by simp) (by omega) (by omega) rfl (Qh rfl rfl (QA rfl (Z7 rfl (Qog hP.keys hi)) rfl ?_)))))
  first | refine QQ rfl QW ?_ | refine QQ rfl rfl ?_
  refine Z6 rfl rfl ?_
  refine hK _ _ (QP (kp6 rfl rfl rfl rfl rfl rfl) ?_)
  refine YI rfl (fun h2 => ?_) (fun h2 => ?_)
  ·try rw [h2]
   try simp only [qa, qb, qc, qd, qe, List.length_map] at h2
   try (have hk : k < us[i].cs.length := (by omega); obtain ⟨v, sh, hz, hv⟩ := hP.fresh i hi k hk (by omega))
   refine YX (Q5 (kp5 rfl rfl rfl rfl rfl) ?_)
   refine Xo ?_ -- 4
   refine Yv (Q8 fun K hK => Qa rfl (Qa rfl (Xf rfl rfl rfl (by simp) (by omega) (by omega) rfl (Qh rfl rfl (QA rfl (Z7 rfl (Qog hP.keys hi)) rfl (Qa rfl (Xf rfl rfl (Qdd hP.keys hi) (by simp) (by omega) (by omega) rfl (Qa rfl ?_))))))))
   refine hK _ _ (QP (kp6 rfl rfl rfl rfl rfl rfl) ?_)
   refine Xo ?_ -- 5
   refine Q8 fun K hK => Qa rfl (Qa rfl (Xf rfl rfl rfl (by simp) (by omega) (by omega) rfl (Qh rfl rfl (QA rfl (Z7 rfl (Qog hP.keys hi)) rfl (Qnl rfl rfl ?_)))))
   refine hK _ _ (QP (kp7 rfl rfl rfl rfl rfl rfl rfl) ?_)
   refine YI rfl (fun h3 => ?_) (fun h3 => ?_)
   ·try rw [h3]
    try simp only [qa, qb, qc, qd, qe, List.length_map] at h3
    refine ZP fun K hK => Qa rfl (Qa rfl (QaD rfl rfl (by first | exact Qq (by omega) (by omega) | rfl) (Qa rfl (Yc rfl rfl (Qh rfl (Zp (Qdd hP.keys hi)) (QH (cs := [_, _, _, _, _]) rfl (Z7 (Qdd hP.keys hi) (Qo5 hk hz)) rfl rfl (QI (XR hv.1 hv.2) rfl rfl (.inl rfl) (QX rfl rfl ?_))))))))
    refine QC rfl (by repeat (first | exact ZZ hU.keys (by omega) (by omega) (by omega) (.inl (by omega)) | exact ZZ hP.keys (by omega) (by omega) (by omega) (.inl (by omega)) | exact ZZ hP2.keys (by omega) (by omega) (by omega) (.inl (by omega)) | refine Zq (by omega) ?_)) ?_
    refine QC rfl (by repeat (first | exact ZZ hU.keys (by omega) (by omega) (by omega) (.inl (by omega)) | exact ZZ hP.keys (by omega) (by omega) (by omega) (.inl (by omega)) | exact ZZ hP2.keys (by omega) (by omega) (by omega) (.inl (by omega)) | refine Zq (by omega) ?_)) ?_
    refine Yc rfl rfl (Qh rfl (Zp (Qn (by omega) (Qn (by omega) (Qdd hP.keys hi)))) (Q7 rfl (Qn (by omega) (Qn (by omega) (Qdd hP.keys hi))) (Qo5 hk hz) rfl rfl rfl rfl rfl (hK _ ?_)))
    refine Q5 (kp6 rfl rfl rfl rfl rfl rfl) ?_
    first | (refine QlD (Qmc (l := [4, 5, 6, 7, 8, 9]) (fr' := [(4, .ref 4 0 0), (5, .ref 12 0 0), (6, .osl 500000 us.length), (7, .int .i64 i), (8, .int .i64 k), (9, .ref (500001 + i) k 0)]) (x := (WantT.mk ((i : Int) - 1) (Xa v.a v.b v.c v.p v.q))) (kp6 rfl rfl rfl rfl rfl rfl) rfl hP.keys hi rfl (QjG (fun z hz => (hP.pure hi z hz).1) (by intro d hd j hj; simp [dCR, setRow, zr] at hd; rcases hd with rfl | rfl | rfl | rfl | rfl | rfl | rfl | rfl <;> simp [D.sid] at hj <;> exact hj)) (by intro p hp j hj; simp only [List.mem_cons, List.not_mem_nil, or_false] at hp; rcases hp with rfl | rfl | rfl | rfl | rfl | rfl <;> first | (simp [D.ids, D.sid] at hj; done) | (simp [D.ids, D.sid] at hj; subst hj; first | exact .inl rfl | exact .inr (.inl rfl) | exact .inr (.inr (.inl rfl)) | exact .inr (.inr (.inr ⟨us[i], List.getElem_mem hi, (hP.keys i hi).symm⟩))))) ?_) | skip
    refine Q8 fun K hK => Qa rfl (Qa rfl (Yc rfl rfl (Qh rfl Q3 (QU (ds0 := [3, 0]) rfl (Z7 Qy (QoI hk)) rfl (by first | rfl | ((try simp only [QY, D.ids, D.sid]); simp only [Dr.ok, Zk, Zl, Zm, List.all_append, List.all_cons, List.all_nil, Bool.and_true, Bool.true_and]; (try rw [ZD (by rfl)]); simp [D.ids, D.sid]; done) | ((try simp only [QY, D.ids, D.sid]); simp only [Dr.ok, Zk, Zl, Zm, List.all_append, List.all_cons, List.all_nil, Bool.and_true, Bool.true_and]; (try rw [ZD (by rfl)]); simp [D.ids, D.sid]; omega)) rfl (Qa rfl (Qa rfl ?_))))))
    have hfx := Qri (eu := 48) (ec := 70) (eg := 62) (L := ws) (J := J) (b4 := ⟨[[.fsl []]], 1, 26, true⟩) (b64 := ⟨[[Za [(WantT.mk ((i : Int) - 1) (Xa v.a v.b v.c v.p v.q))]]], 1, 68, true⟩) (zx := (CR.mk v (.int .i64 sh) (.osl 64 1) (.fsl []))) hP hi hk hv ⟨rfl, rfl, rfl⟩ rfl rfl
    obtain ⟨ns, J1, hns, hc1⟩ := QjC (H := (500001 + i, ⟨(us[i].cs.map dCR).set k (dCR (CR.mk v (.int .i64 sh) (.osl 64 1) (.fsl []))), 8, 70, false⟩) :: (64, ⟨[[Za [(WantT.mk ((i : Int) - 1) (Xa v.a v.b v.c v.p v.q))]]], 1, 68, true⟩) :: wA (us) 48 70 62 ws (J) ⟨[[.fsl []]], 1, 26, true⟩) (most := 2) (Qn (by omega) (Qn (by omega) QeR)) hfx.1 hfx.2 hL (by first | omega | (rw [Zr]; omega)) (by first | omega | (rw [Zr]; omega)) (by decide) (by decide)
    rw [Zr] at hns
    refine Qja (ds0 := [3, 0]) (hc1 _ _ (by rw [Zr]; rfl) (fun _ _ h => h)) (fun j hj => QdB hj) (by first | rfl | ((try simp only [QY, D.ids, D.sid]); simp only [Dr.ok, Zk, Zl, Zm, List.all_append, List.all_cons, List.all_nil, Bool.and_true, Bool.true_and]; (try rw [ZD (by rfl)]); simp [D.ids, D.sid]; done) | ((try simp only [QY, D.ids, D.sid]); simp only [Dr.ok, Zk, Zl, Zm, List.all_append, List.all_cons, List.all_nil, Bool.and_true, Bool.true_and]; (try rw [ZD (by rfl)]); simp [D.ids, D.sid]; omega)) rfl ?_
    refine Qa0 (ds0 := [0]) rfl rfl (by simp [D.ids, D.sid, QY]) ⟨rfl, QoF, rfl⟩ (by repeat (first | exact ZZ hU.keys (by omega) (by omega) (by omega) (.inl (by omega)) | exact ZZ hP.keys (by omega) (by omega) (by omega) (.inl (by omega)) | exact ZZ hP2.keys (by omega) (by omega) (by omega) (.inl (by omega)) | refine Zq (by omega) ?_)) (Qn (by omega) (Qn (by omega) Qy)) rfl rfl rfl (by have := hns.1; simp; omega) (by have := hns.1; simp; omega) (by first | rfl | ((try simp only [QY, D.ids, D.sid]); simp only [Dr.ok, Zk, Zl, Zm, List.all_append, List.all_cons, List.all_nil, Bool.and_true, Bool.true_and]; (try rw [ZD (by rfl)]); simp [D.ids, D.sid]; done) | ((try simp only [QY, D.ids, D.sid]); simp only [Dr.ok, Zk, Zl, Zm, List.all_append, List.all_cons, List.all_nil, Bool.and_true, Bool.true_and]; (try rw [ZD (by rfl)]); simp [D.ids, D.sid]; omega)) rfl ?_
    refine Yc rfl rfl (Qh rfl (Zp (Qn (by omega) (Qn (by omega) (Qn (by omega) Qy)))) (YZ (ds0 := []) rfl (Qn (by omega) (Qn (by omega) (Qn (by omega) Qy))) (QoI hk) rfl rfl rfl rfl rfl (by first | rfl | ((try simp only [QY, D.ids, D.sid]); simp only [Dr.ok, Zk, Zl, Zm, List.all_append, List.all_cons, List.all_nil, Bool.and_true, Bool.true_and]; (try rw [ZD (by rfl)]); simp [D.ids, D.sid]; done) | ((try simp only [QY, D.ids, D.sid]); simp only [Dr.ok, Zk, Zl, Zm, List.all_append, List.all_cons, List.all_nil, Bool.and_true, Bool.true_and]; (try rw [ZD (by rfl)]); simp [D.ids, D.sid]; omega)) rfl ?_))
    refine hK _ _ (QP (kp6 rfl rfl rfl rfl rfl rfl) ?_)
    first | (refine QlD (QfL (l := [4, 5, 6, 7, 8, 9]) (eu := 48) (ec := 70) (eg := 62) (L := ws) (J := J1) (b4 := ⟨[[.fsl []]], 1, 26, true⟩) (fr' := [(4, .ref 4 0 0), (5, .ref 12 0 0), (6, .osl 500000 us.length), (7, .int .i64 i), (8, .int .i64 k), (9, .ref (500001 + i) k 0)]) (row := [.int .i64 v.a, .int .i64 v.b, .int .i64 v.c, .str v.p, .str v.q, .int .i64 sh, .osl 75 (1 + (ns.map (fun r => [Za r])).length), .fsl []]) (p := false) 75 (QhT (CandT.mk v sh ([(WantT.mk ((i : Int) - 1) (Xa v.a v.b v.c v.p v.q))] :: ns) [])) (kp6 rfl rfl rfl rfl rfl rfl) rfl hP.keys hi hk Qiw (fun h => by cases h) (Qe7 (Qn (by omega) Qy) (by first | (simp; done) | (simp; omega))) (fun z hz => (hP.pure hi z hz).1) ⟨rfl, rfl, rfl⟩ (fun j hj hne => (Qn (by omega) (Qn (by omega) (Qn (by omega) (Qn (by omega) (Qn (by omega) (Qn (by omega) (Qdd hP.keys hj)))))))) (by repeat (first | exact Qy | exact Qfg | exact QeR | exact Qgf | refine Qn (by omega) ?_)) (by repeat (first | exact Qy | exact Qfg | exact QeR | exact Qgf | refine Qn (by omega) ?_)) (by repeat (first | exact Qy | exact Qfg | exact QeR | exact Qgf | refine Qn (by omega) ?_)) rfl (by decide) (by intro j hj; repeat (first | exact ZZ hP.keys (by omega) (by omega) (by omega) (.inr (by omega)) | refine Zq (by omega) ?_)) (by omega) (by intro p hp j hj; simp only [List.mem_cons, List.not_mem_nil, or_false] at hp; rcases hp with rfl | rfl | rfl | rfl | rfl | rfl <;> first | (simp [D.ids, D.sid] at hj; done) | (simp [D.ids, D.sid] at hj; subst hj; first | exact .inl rfl | exact .inr (.inl rfl) | exact .inr (.inr (.inl rfl)) | exact .inr (.inr (.inr ⟨us[i], List.getElem_mem hi, (hP.keys i hi).symm⟩))))) ?_; have hc2 : XN us0.length (CandT.mk v sh ([(WantT.mk ((i : Int) - 1) (Xa v.a v.b v.c v.p v.q))] :: ns) []) := (by rw [<- hl]; exact Qia hv hns (by decide) h1i hi); generalize hns2 : ([(WantT.mk ((i : Int) - 1) (Xa v.a v.b v.c v.p v.q))] :: ns) = ns2 at hc2 ⊢) | (refine QlD (QfL (l := [4, 5, 6, 7, 8, 9]) (eu := 48) (ec := 70) (eg := 62) (L := ws) (J := J1) (b4 := ⟨[[.fsl []]], 1, 26, true⟩) (fr' := [(4, .ref 4 0 0), (5, .ref 12 0 0), (6, .osl 500000 us.length), (7, .int .i64 i), (8, .int .i64 k), (9, .ref (500001 + i) k 0)]) (row := [.int .i64 v.a, .int .i64 v.b, .int .i64 v.c, .str v.p, .str v.q, .int .i64 sh, .osl 75 (0 + (ns.map (fun r => [Za r])).length), .fsl []]) (p := false) 75 (QhT (CandT.mk v sh ns [])) (kp6 rfl rfl rfl rfl rfl rfl) rfl hP.keys hi hk Qy (fun h => by cases h) (Qe7 (Qn (by omega) Qy) (by first | (simp; done) | (simp; omega))) (fun z hz => (hP.pure hi z hz).1) ⟨rfl, rfl, rfl⟩ (fun j hj hne => (Qn (by omega) (Qn (by omega) (Qn (by omega) (Qdd hP.keys hj))))) (by repeat (first | exact Qy | exact Qfg | exact QeR | exact Qgf | refine Qn (by omega) ?_)) (by repeat (first | exact Qy | exact Qfg | exact QeR | exact Qgf | refine Qn (by omega) ?_)) (by repeat (first | exact Qy | exact Qfg | exact QeR | exact Qgf | refine Qn (by omega) ?_)) rfl (by decide) (by intro j hj; repeat (first | exact ZZ hP.keys (by omega) (by omega) (by omega) (.inr (by omega)) | refine Zq (by omega) ?_)) (by omega) (by intro p hp j hj; simp only [List.mem_cons, List.not_mem_nil, or_false] at hp; rcases hp with rfl | rfl | rfl | rfl | rfl | rfl <;> first | (simp [D.ids, D.sid] at hj; done) | (simp [D.ids, D.sid] at hj; subst hj; first | exact .inl rfl | exact .inr (.inl rfl) | exact .inr (.inr (.inl rfl)) | exact .inr (.inr (.inr ⟨us[i], List.getElem_mem hi, (hP.keys i hi).symm⟩))))) ?_; have hc2 : XN us0.length (CandT.mk v sh ns []) := (by rw [<- hl]; exact Qeh hv hns (by decide)); generalize hns2 : ns = ns2 at hc2 ⊢)
    generalize hus2 : Qcs us i k (QhT (CandT.mk v sh ns2 [])) = us2
    have hP2 : Prog us0.length us2 i (k + 1) := hus2 ▸ hP.put hi hk ⟨_, rfl, hc2⟩
    have hl2 : us2.length = us.length := by rw [<- hus2, Zr]
    have hi2 : i < us2.length := by omega
    have hk2 : k < us2[i].cs.length := QiX hi hk hus2 hi2
    have hz2 : us2[i].cs[k] = QhT (CandT.mk v sh ns2 []) := QiW hi hk hus2.symm hi2 hk2
    refine Q8 fun K hK => Qa rfl (Yj (Qb6 (I := J1) rfl QeR hL (by omega)) (ZO rfl rfl ?_))
    refine hK _ _ (QP (kp7 rfl rfl rfl rfl rfl rfl rfl) ?_)
    refine YI rfl (fun h4 => ?_) (fun h4 => ?_)
    ·try rw [h4]
     try simp only [qa, qb, qc, qd, qe, List.length_map] at h4
     refine ZP fun K hK => Qa rfl (Qa rfl (Qa rfl ?_))
     obtain ⟨xb, J3, hxb, hcb⟩ := QkC (H := (12, gB ws (nxI J1) 62) :: wA (us2) 48 70 62 ws (J1) ⟨[[.fsl []]], 1, 26, true⟩) Qy (QkU hP2.keys hP2.fam).cons ((Qak hP2.keys rfl).pr rfl) hL (by omega) (by omega)
     refine Yj (hcb _ _ (by rw [hl2]; rfl) (fun _ _ h => h)) ?_
     refine QC rfl (by repeat (first | exact ZZ hU.keys (by omega) (by omega) (by omega) (.inl (by omega)) | exact ZZ hP.keys (by omega) (by omega) (by omega) (.inl (by omega)) | exact ZZ hP2.keys (by omega) (by omega) (by omega) (.inl (by omega)) | refine Zq (by omega) ?_)) ?_
     refine Yc rfl rfl (Qh rfl (Zp (Qn (by omega) (Qn (by omega) (Qn (by omega) (Qdd hP2.keys hi2))))) (Q7 rfl (Qn (by omega) (Qn (by omega) (Qn (by omega) (Qdd hP2.keys hi2)))) (Qo5 hk2 hz2) rfl rfl rfl rfl rfl (hK _ ?_)))
     refine Qg (Q5 (kp5 rfl rfl rfl rfl rfl) (ZP fun K hK => Qa rfl (Q2 rfl rfl (by first | exact Qq (by omega) (by omega) | rfl) (Qa rfl (hK _ ?_)))))
     refine Qi (Qcs us2 i k (QhT (CandT.mk v sh ns2 [xb])), J3, k + 1) ?_ ?_ ?_
     ·exact QfL (l := [4, 5, 6, 7, 8]) (row := [.int .i64 v.a, .int .i64 v.b, .int .i64 v.c, .str v.p, .str v.q, .int .i64 sh, QY ns2, .osl 85 1]) (p := false) 85 (QhT (CandT.mk v sh ns2 [xb])) (kp5 rfl rfl rfl rfl rfl) (by rw [Zr, hl2] <;> rfl) hP2.keys hi2 hk2 Qy (fun h => by cases h) (QlX (Qn (by omega) Qy) rfl) (fun z hz => (hP2.pure hi2 z hz).1) ⟨rfl, rfl, rfl⟩ (fun j hj hne => (Qn (by omega) (Qn (by omega) (Qn (by omega) (Qn (by omega) (Qdd hP2.keys hj)))))) (by repeat (first | exact Qy | exact Qfg | exact QeR | exact Qgf | refine Qn (by omega) ?_)) (by repeat (first | exact Qy | exact Qfg | exact QeR | exact Qgf | refine Qn (by omega) ?_)) (by repeat (first | exact Qy | exact Qfg | exact QeR | exact Qgf | refine Qn (by omega) ?_)) rfl (by decide) (by intro j hj; repeat (first | exact ZZ hP2.keys (by omega) (by omega) (by omega) (.inr (by omega)) | refine Zq (by omega) ?_)) (by omega) (by intro p hp j hj; simp only [List.mem_cons, List.not_mem_nil, or_false] at hp; rcases hp with rfl | rfl | rfl | rfl | rfl <;> first | (simp [D.ids, D.sid] at hj; done) | (simp [D.ids, D.sid] at hj; subst hj; first | exact .inl rfl | exact .inr (.inl rfl) | exact .inr (.inr (.inl rfl)) | exact .inr (.inr (.inr ⟨us2[i], List.getElem_mem hi2, (hP2.keys i hi2).symm⟩))))
     ·exact hP2.again hi2 hk2 ⟨_, rfl, Qh9 hc2 (by have := hxb; rwa [hl2, hl] at this)⟩
     ·show Qjm (Qcs us2 i k _) i - (k + 1) < Qjm us i - k; rw [Qav, <- hus2, Qav, QaG hi]; omega
    ·try rw [h4]
     try simp only [qa, qb, qc, qd, qe, List.length_map] at h4
     refine YX (Qg (Q5 (kp5 rfl rfl rfl rfl rfl) (ZP fun K hK => Qa rfl (Q2 rfl rfl (by first | exact Qq (by omega) (by omega) | rfl) (Qa rfl (hK _ ?_))))))
     refine Qi (us2, nxI J1, k + 1) ?_ ?_ ?_
     ·exact le_trans (Zg (l := [4, 5, 6, 7, 8]) (kp5 rfl rfl rfl rfl rfl)) (Qbg (by rw [hl2] <;> rfl) Qqm)
     ·exact hP2
     ·show Qjm us2 i - (k + 1) < Qjm us i - k; rw [<- hus2, Qav, QaG hi]; omega
   ·try rw [h3]
    try simp only [qa, qb, qc, qd, qe, List.length_map] at h3
    refine YX (Q5 (kp6 rfl rfl rfl rfl rfl rfl) ?_)
    first | (refine QlD (Qmc (l := [4, 5, 6, 7, 8, 9]) (fr' := [(4, .ref 4 0 0), (5, .ref 12 0 0), (6, .osl 500000 us.length), (7, .int .i64 i), (8, .int .i64 k), (9, .ref (500001 + i) k 0)]) (x := (WantT.mk ((i : Int) - 1) (Xa v.a v.b v.c v.p v.q))) (kp6 rfl rfl rfl rfl rfl rfl) rfl hP.keys hi rfl (QjG (fun z hz => (hP.pure hi z hz).1) (by intro d hd j hj; simp [dCR, setRow, zr] at hd; rcases hd with rfl | rfl | rfl | rfl | rfl | rfl | rfl | rfl <;> simp [D.sid] at hj <;> exact hj)) (by intro p hp j hj; simp only [List.mem_cons, List.not_mem_nil, or_false] at hp; rcases hp with rfl | rfl | rfl | rfl | rfl | rfl <;> first | (simp [D.ids, D.sid] at hj; done) | (simp [D.ids, D.sid] at hj; subst hj; first | exact .inl rfl | exact .inr (.inl rfl) | exact .inr (.inr (.inl rfl)) | exact .inr (.inr (.inr ⟨us[i], List.getElem_mem hi, (hP.keys i hi).symm⟩))))) ?_) | skip
    refine Q8 fun K hK => Qa rfl (Qa rfl (Yc rfl rfl (Qh rfl (Zp (Qdd hP.keys hi)) (QU (ds0 := [3, 0]) rfl (Z7 (Qdd hP.keys hi) (Qo5 hk hz)) rfl (by first | rfl | ((try simp only [QY, D.ids, D.sid]); simp only [Dr.ok, Zk, Zl, Zm, List.all_append, List.all_cons, List.all_nil, Bool.and_true, Bool.true_and]; (try rw [ZD (by rfl)]); simp [D.ids, D.sid]; done) | ((try simp only [QY, D.ids, D.sid]); simp only [Dr.ok, Zk, Zl, Zm, List.all_append, List.all_cons, List.all_nil, Bool.and_true, Bool.true_and]; (try rw [ZD (by rfl)]); simp [D.ids, D.sid]; omega)) rfl (Qa rfl (Qa rfl ?_))))))
    obtain ⟨ns, J1, hns, hc1⟩ := QjC (H := wA (us) 48 70 62 ws (J) ⟨[[.fsl []]], 1, 26, true⟩) (most := 2) QeR (QkU hP.keys hP.fam) (Qak hP.keys rfl) hL (by first | omega | (rw [Zr]; omega)) (by first | omega | (rw [Zr]; omega)) (by decide) (by decide)
    refine Qja (ds0 := [3, 0]) (hc1 _ _ rfl (fun _ _ h => h)) (fun j hj => QdB hj) (by first | rfl | ((try simp only [QY, D.ids, D.sid]); simp only [Dr.ok, Zk, Zl, Zm, List.all_append, List.all_cons, List.all_nil, Bool.and_true, Bool.true_and]; (try rw [ZD (by rfl)]); simp [D.ids, D.sid]; done) | ((try simp only [QY, D.ids, D.sid]); simp only [Dr.ok, Zk, Zl, Zm, List.all_append, List.all_cons, List.all_nil, Bool.and_true, Bool.true_and]; (try rw [ZD (by rfl)]); simp [D.ids, D.sid]; omega)) rfl ?_
    refine Qd9 (ds0 := [0]) rfl rfl (fun _ h => ⟨QoF, h⟩) (by repeat (first | exact ZZ hU.keys (by omega) (by omega) (by omega) (.inl (by omega)) | exact ZZ hP.keys (by omega) (by omega) (by omega) (.inl (by omega)) | exact ZZ hP2.keys (by omega) (by omega) (by omega) (.inl (by omega)) | refine Zq (by omega) ?_)) (.inl rfl) (by simp) (by have := hns.1; simp; omega) (by have := hns.1; simp; omega) (by first | rfl | ((try simp only [QY, D.ids, D.sid]); simp only [Dr.ok, Zk, Zl, Zm, List.all_append, List.all_cons, List.all_nil, Bool.and_true, Bool.true_and]; (try rw [ZD (by rfl)]); simp [D.ids, D.sid]; done) | ((try simp only [QY, D.ids, D.sid]); simp only [Dr.ok, Zk, Zl, Zm, List.all_append, List.all_cons, List.all_nil, Bool.and_true, Bool.true_and]; (try rw [ZD (by rfl)]); simp [D.ids, D.sid]; omega)) rfl ?_
    refine Yc rfl rfl (Qh rfl (Zp (Qn (by omega) (Qn (by omega) (Qdd hP.keys hi)))) (YZ (ds0 := []) rfl (Qn (by omega) (Qn (by omega) (Qdd hP.keys hi))) (Qo5 hk hz) rfl rfl rfl rfl rfl (by first | rfl | ((try simp only [QY, D.ids, D.sid]); simp only [Dr.ok, Zk, Zl, Zm, List.all_append, List.all_cons, List.all_nil, Bool.and_true, Bool.true_and]; (try rw [ZD (by rfl)]); simp [D.ids, D.sid]; done) | ((try simp only [QY, D.ids, D.sid]); simp only [Dr.ok, Zk, Zl, Zm, List.all_append, List.all_cons, List.all_nil, Bool.and_true, Bool.true_and]; (try rw [ZD (by rfl)]); simp [D.ids, D.sid]; omega)) rfl ?_))
    refine hK _ _ (QP (kp6 rfl rfl rfl rfl rfl rfl) ?_)
    first | (refine QlD (QfL (l := [4, 5, 6, 7, 8, 9]) (eu := 48) (ec := 70) (eg := 62) (L := ws) (J := J1) (b4 := ⟨[[.fsl []]], 1, 26, true⟩) (fr' := [(4, .ref 4 0 0), (5, .ref 12 0 0), (6, .osl 500000 us.length), (7, .int .i64 i), (8, .int .i64 k), (9, .ref (500001 + i) k 0)]) (row := [.int .i64 v.a, .int .i64 v.b, .int .i64 v.c, .str v.p, .str v.q, .int .i64 sh, .osl 75 (1 + (ns.map (fun r => [Za r])).length), .fsl []]) (p := false) 75 (QhT (CandT.mk v sh ([(WantT.mk ((i : Int) - 1) (Xa v.a v.b v.c v.p v.q))] :: ns) [])) (kp6 rfl rfl rfl rfl rfl rfl) rfl hP.keys hi hk Qiw (fun h => by cases h) (Qe7 (Qn (by omega) Qy) (by first | (simp; done) | (simp; omega))) (fun z hz => (hP.pure hi z hz).1) ⟨rfl, rfl, rfl⟩ (fun j hj hne => (Qn (by omega) (Qn (by omega) (Qn (by omega) (Qn (by omega) (Qn (by omega) (Qn (by omega) (Qdd hP.keys hj)))))))) (by repeat (first | exact Qy | exact Qfg | exact QeR | exact Qgf | refine Qn (by omega) ?_)) (by repeat (first | exact Qy | exact Qfg | exact QeR | exact Qgf | refine Qn (by omega) ?_)) (by repeat (first | exact Qy | exact Qfg | exact QeR | exact Qgf | refine Qn (by omega) ?_)) rfl (by decide) (by intro j hj; repeat (first | exact ZZ hP.keys (by omega) (by omega) (by omega) (.inr (by omega)) | refine Zq (by omega) ?_)) (by omega) (by intro p hp j hj; simp only [List.mem_cons, List.not_mem_nil, or_false] at hp; rcases hp with rfl | rfl | rfl | rfl | rfl | rfl <;> first | (simp [D.ids, D.sid] at hj; done) | (simp [D.ids, D.sid] at hj; subst hj; first | exact .inl rfl | exact .inr (.inl rfl) | exact .inr (.inr (.inl rfl)) | exact .inr (.inr (.inr ⟨us[i], List.getElem_mem hi, (hP.keys i hi).symm⟩))))) ?_; have hc2 : XN us0.length (CandT.mk v sh ([(WantT.mk ((i : Int) - 1) (Xa v.a v.b v.c v.p v.q))] :: ns) []) := (by rw [<- hl]; exact Qia hv hns (by decide) h1i hi); generalize hns2 : ([(WantT.mk ((i : Int) - 1) (Xa v.a v.b v.c v.p v.q))] :: ns) = ns2 at hc2 ⊢) | (refine QlD (QfL (l := [4, 5, 6, 7, 8, 9]) (eu := 48) (ec := 70) (eg := 62) (L := ws) (J := J1) (b4 := ⟨[[.fsl []]], 1, 26, true⟩) (fr' := [(4, .ref 4 0 0), (5, .ref 12 0 0), (6, .osl 500000 us.length), (7, .int .i64 i), (8, .int .i64 k), (9, .ref (500001 + i) k 0)]) (row := [.int .i64 v.a, .int .i64 v.b, .int .i64 v.c, .str v.p, .str v.q, .int .i64 sh, .osl 75 (0 + (ns.map (fun r => [Za r])).length), .fsl []]) (p := false) 75 (QhT (CandT.mk v sh ns [])) (kp6 rfl rfl rfl rfl rfl rfl) rfl hP.keys hi hk Qy (fun h => by cases h) (Qe7 (Qn (by omega) Qy) (by first | (simp; done) | (simp; omega))) (fun z hz => (hP.pure hi z hz).1) ⟨rfl, rfl, rfl⟩ (fun j hj hne => (Qn (by omega) (Qn (by omega) (Qn (by omega) (Qdd hP.keys hj))))) (by repeat (first | exact Qy | exact Qfg | exact QeR | exact Qgf | refine Qn (by omega) ?_)) (by repeat (first | exact Qy | exact Qfg | exact QeR | exact Qgf | refine Qn (by omega) ?_)) (by repeat (first | exact Qy | exact Qfg | exact QeR | exact Qgf | refine Qn (by omega) ?_)) rfl (by decide) (by intro j hj; repeat (first | exact ZZ hP.keys (by omega) (by omega) (by omega) (.inr (by omega)) | refine Zq (by omega) ?_)) (by omega) (by intro p hp j hj; simp only [List.mem_cons, List.not_mem_nil, or_false] at hp; rcases hp with rfl | rfl | rfl | rfl | rfl | rfl <;> first | (simp [D.ids, D.sid] at hj; done) | (simp [D.ids, D.sid] at hj; subst hj; first | exact .inl rfl | exact .inr (.inl rfl) | exact .inr (.inr (.inl rfl)) | exact .inr (.inr (.inr ⟨us[i], List.getElem_mem hi, (hP.keys i hi).symm⟩))))) ?_; have hc2 : XN us0.length (CandT.mk v sh ns []) := (by rw [<- hl]; exact Qeh hv hns (by decide)); generalize hns2 : ns = ns2 at hc2 ⊢)
    generalize hus2 : Qcs us i k (QhT (CandT.mk v sh ns2 [])) = us2
    have hP2 : Prog us0.length us2 i (k + 1) := hus2 ▸ hP.put hi hk ⟨_, rfl, hc2⟩
    have hl2 : us2.length = us.length := by rw [<- hus2, Zr]
    have hi2 : i < us2.length := by omega
    have hk2 : k < us2[i].cs.length := QiX hi hk hus2 hi2
    have hz2 : us2[i].cs[k] = QhT (CandT.mk v sh ns2 []) := QiW hi hk hus2.symm hi2 hk2
    refine Q8 fun K hK => Qa rfl (Yj (Qb6 (I := J1) rfl QeR hL (by omega)) (ZO rfl rfl ?_))
    refine hK _ _ (QP (kp7 rfl rfl rfl rfl rfl rfl rfl) ?_)
    refine YI rfl (fun h5 => ?_) (fun h5 => ?_)
    ·try rw [h5]
     try simp only [qa, qb, qc, qd, qe, List.length_map] at h5
     refine ZP fun K hK => Qa rfl (Qa rfl (Qa rfl ?_))
     obtain ⟨xb, J3, hxb, hcb⟩ := QkC (H := (12, gB ws (nxI J1) 62) :: wA (us2) 48 70 62 ws (J1) ⟨[[.fsl []]], 1, 26, true⟩) Qy (QkU hP2.keys hP2.fam).cons ((Qak hP2.keys rfl).pr rfl) hL (by omega) (by omega)
     refine Yj (hcb _ _ (by rw [hl2]; rfl) (fun _ _ h => h)) ?_
     refine QC rfl (by repeat (first | exact ZZ hU.keys (by omega) (by omega) (by omega) (.inl (by omega)) | exact ZZ hP.keys (by omega) (by omega) (by omega) (.inl (by omega)) | exact ZZ hP2.keys (by omega) (by omega) (by omega) (.inl (by omega)) | refine Zq (by omega) ?_)) ?_
     refine Yc rfl rfl (Qh rfl (Zp (Qn (by omega) (Qn (by omega) (Qn (by omega) (Qdd hP2.keys hi2))))) (Q7 rfl (Qn (by omega) (Qn (by omega) (Qn (by omega) (Qdd hP2.keys hi2)))) (Qo5 hk2 hz2) rfl rfl rfl rfl rfl (hK _ ?_)))
     refine Qg (Q5 (kp5 rfl rfl rfl rfl rfl) (ZP fun K hK => Qa rfl (Q2 rfl rfl (by first | exact Qq (by omega) (by omega) | rfl) (Qa rfl (hK _ ?_)))))
     refine Qi (Qcs us2 i k (QhT (CandT.mk v sh ns2 [xb])), J3, k + 1) ?_ ?_ ?_
     ·exact QfL (l := [4, 5, 6, 7, 8]) (row := [.int .i64 v.a, .int .i64 v.b, .int .i64 v.c, .str v.p, .str v.q, .int .i64 sh, QY ns2, .osl 85 1]) (p := false) 85 (QhT (CandT.mk v sh ns2 [xb])) (kp5 rfl rfl rfl rfl rfl) (by rw [Zr, hl2] <;> rfl) hP2.keys hi2 hk2 Qy (fun h => by cases h) (QlX (Qn (by omega) Qy) rfl) (fun z hz => (hP2.pure hi2 z hz).1) ⟨rfl, rfl, rfl⟩ (fun j hj hne => (Qn (by omega) (Qn (by omega) (Qn (by omega) (Qn (by omega) (Qdd hP2.keys hj)))))) (by repeat (first | exact Qy | exact Qfg | exact QeR | exact Qgf | refine Qn (by omega) ?_)) (by repeat (first | exact Qy | exact Qfg | exact QeR | exact Qgf | refine Qn (by omega) ?_)) (by repeat (first | exact Qy | exact Qfg | exact QeR | exact Qgf | refine Qn (by omega) ?_)) rfl (by decide) (by intro j hj; repeat (first | exact ZZ hP2.keys (by omega) (by omega) (by omega) (.inr (by omega)) | refine Zq (by omega) ?_)) (by omega) (by intro p hp j hj; simp only [List.mem_cons, List.not_mem_nil, or_false] at hp; rcases hp with rfl | rfl | rfl | rfl | rfl <;> first | (simp [D.ids, D.sid] at hj; done) | (simp [D.ids, D.sid] at hj; subst hj; first | exact .inl rfl | exact .inr (.inl rfl) | exact .inr (.inr (.inl rfl)) | exact .inr (.inr (.inr ⟨us2[i], List.getElem_mem hi2, (hP2.keys i hi2).symm⟩))))
     ·exact hP2.again hi2 hk2 ⟨_, rfl, Qh9 hc2 (by have := hxb; rwa [hl2, hl] at this)⟩
     ·show Qjm (Qcs us2 i k _) i - (k + 1) < Qjm us i - k; rw [Qav, <- hus2, Qav, QaG hi]; omega
    ·try rw [h5]
     try simp only [qa, qb, qc, qd, qe, List.length_map] at h5
     refine YX (Qg (Q5 (kp5 rfl rfl rfl rfl rfl) (ZP fun K hK => Qa rfl (Q2 rfl rfl (by first | exact Qq (by omega) (by omega) | rfl) (Qa rfl (hK _ ?_))))))
     refine Qi (us2, nxI J1, k + 1) ?_ ?_ ?_
     ·exact le_trans (Zg (l := [4, 5, 6, 7, 8]) (kp5 rfl rfl rfl rfl rfl)) (Qbg (by rw [hl2] <;> rfl) Qqm)
     ·exact hP2
     ·show Qjm us2 i - (k + 1) < Qjm us i - k; rw [<- hus2, Qav, QaG hi]; omega
  ·try rw [h2]
   try simp only [qa, qb, qc, qd, qe, List.length_map] at h2
   try (have hk : k < us[i].cs.length := (by omega); obtain ⟨v, sh, hz, hv⟩ := hP.fresh i hi k hk (by omega))
   refine Qbv (YB (Qx (QD (Qg (Q5 (kp4 rfl rfl rfl rfl) (ZP fun K hK => Qa rfl (Q2 rfl rfl (by first | exact Qq (by omega) (by omega) | rfl) (Qa rfl (hK _ ?_)))))))))
   refine Qi (us, J, i + 1) ?_ ?_ ?_
   ·exact Zg (l := [4, 5, 6, 7]) (kp4 rfl rfl rfl rfl)
   ·try dsimp only
    exact ⟨hP.next hi (by omega), by omega, by omega⟩
   ·show us0.length - (i + 1) < us0.length - i; omega
 ·try rw [h1]
  try simp only [qa, qb, qc, qd, qe, List.length_map] at h1
  refine Qbv (YB (Qx (QD (Q5 (kp2 rfl rfl) ?_))))
  have hend : i = usA.length := by have := hPA.1.len.1; omega
  obtain ⟨w, hwl, hwm, hle⟩ := QnL (eu := 48) (ec := 70) (eg := 62) (L := ws) (J := JA) (b4 := ⟨[[.fsl []]], 1, 26, true⟩) (hend ▸ hPA.1) rfl
  refine QlD (hle (fr' := [(4, .ref 4 0 0), (6, .osl 500000 usA.length)]) (l := [4, 6]) (kp2 rfl rfl) rfl (by intro p hp j hj; simp only [List.mem_cons, List.not_mem_nil, or_false] at hp; rcases hp with rfl | rfl <;> (simp [D.ids, D.sid] at hj; subst hj; first | exact .inl rfl | exact .inr rfl))) (Q8 fun K hK => Qa rfl (QX rfl rfl (Q7 rfl rfl rfl rfl rfl rfl rfl rfl ?_)))
  refine hK _ _ (QP (kp1 rfl) ?_)
  refine QeT ?_
  refine ⟨_, ⟨w, hwm, rfl⟩, ?_⟩
  exact ZI (cs := [.osl 500000 usA.length]) (ds := [.sl (w.map Yn)]) rfl rfl rfl rfl (by simp [QbI, D.fz, D.fzS, QcT, lk, D.can, D.canS, hwl])
end Go.Proofs
namespace M25
open Go Go.Abs M3
/-! ### Trails that may be -/
theorem QfZ {w : Qp} {l : List QO} {s : QO} : Qer w (l ++ [s]) = (Qer w l && QdL w l s) := by
 rw [Qkr, Qkr, List.length_append, List.length_singleton, List.range_succ, List.all_append]
 congr 1
 ·rw [Bool.eq_iff_iff, List.all_eq_true, List.all_eq_true]
  refine forall_congr' fun i => ?_
  constructor
  ·intro h hi
   have := h hi
   rw [List.mem_range] at hi
   rw [QdO (by simp; omega)] at this
   rw [QdO hi]
   rw [List.take_append_of_le_length (by omega), List.getElem_append_left hi] at this
   exact this
  ·intro h hi
   have := h hi
   rw [List.mem_range] at hi
   rw [QdO hi] at this
   rw [QdO (by simp; omega), List.take_append_of_le_length (by omega), List.getElem_append_left hi]
   exact this
 ·simp only [List.all_cons, List.all_nil, Bool.and_true]
  rw [QdO (by simp), List.take_append_of_le_length (Nat.le_refl _), List.take_length, List.getElem_append_right (Nat.le_refl _)]
  simp
theorem Qm6 {w : Qp} {l : List QO} {s : QO} (h : QdL w l s = true) : band s.m (Zd w l s.u) = s.m := by
 unfold QdL at h
 simp only [Bool.and_eq_true, decide_eq_true_eq] at h
 exact h.1.2
theorem Qlh {x y : Int} (h : band x y = x) (hy : Lo y) : Lo x := by
 have hx : I64 x := by rw [<- h]; exact Qhm x y
 refine Lo.of hx fun i hi => ?_
 cases ht : tb x i
 ·rfl
 ·have := (Y8 hx).1 h i ht
  rw [hy.hi hi] at this; cases this
theorem Qes {w : Qp} : ∀ (n : Nat) (l : List QO), l.length = n -> Qer w l = true -> YO w l
 | 0, l, hl, _ => by rw [List.eq_nil_of_length_eq_zero hl]; intro s hs; cases hs
 | n + 1, l, hl, h => by
  have hne : l ≠ [] := by intro e; subst e; simp at hl
  have e := (List.dropLast_concat_getLast hne).symm
  rw [e, QfZ, Bool.and_eq_true] at h
  have hp := Qes n l.dropLast (by simp [hl]) h.1
  rw [e]
  exact QgQ hp (Qlh (Qm6 h.2) (Qag hp _))
theorem Qk6 {w : Qp} {l l' : List QO} {t : TermT} {c : Int} (h : Qer w l = true) (hd : Yl w l t c = some l') : Qer w l' = true := by
 have hp := Qes _ l rfl h
 unfold Yl at hd
 split at hd
 ·cases hd
 ·rename_i h1
  split at hd
  ·cases hd
  ·rename_i h2
   cases hd
   rw [QfZ, h, Bool.true_and]
   have hin : inW w t.u = true := by
    cases e : inW w t.u
    ·exact absurd (.inr e) h1
    ·rfl
   have hc : ¬ c < 0 := fun e => h1 (.inl e)
   rw [QbR] at hin
   rw [Z9 hin.1 hin.2 (by show -1 <= c; omega)]
   simp only
   rw [if_neg (by omega), Qdb]
   rw [Qdb] at h2
   have hx := Qag hp t.u
   have hb : band (Qe3 (Zd w l t.u) t.m) (Zd w l t.u) = Qe3 (Zd w l t.u) t.m := (Y8 (QfF _ _)).2 fun i hi => by
    rw [Qd5] at hi; simp at hi; exact hi.1
   rw [decide_eq_true hb, decide_eq_false (fun e => h2 (.inl e)), decide_eq_false (fun e => h2 (.inr e))]
   simp
theorem Qk4 {w : Qp} {l l' : List QO} {u p : Int} (h : Qer w l = true) (hd : Xj w l u p = some l') : Qer w l' = true := by
 unfold Xj at hd
 split at hd
 ·cases hd
 ·split at hd
  ·cases hd
  ·split at hd
   ·rename_i hs
    cases hd
    rw [QfZ, h, Bool.true_and]; exact hs
   ·cases hd
theorem Qk3 {w : Qp} {l : List QO} {u p : Int} : ((Xj w l u p).getD []).length <= l.length + 1 := by
 unfold Xj
 split
 ·simp
 ·split
  ·simp
  ·split <;> simp
theorem QmS {w : Qp} {db : List (List TermT)} : ∀ (n : Nat) {l : List QO}, Qer w l = true -> Qer w (Qbo w db n l).1 = true
 | 0, l, h => h
 | n + 1, l, h => by
  rw [Qbo]
  split
  ·exact h
  ·refine QmS n ?_
   cases hd : Yl w l ⟨(Zy w db l).2, Qc5 w (db.getD (Zy w db l).1.toNat []) (Zy w db l).2⟩ (Zy w db l).1 with
   | none => rfl
   | some l' => exact Qk6 h hd
def TrOk (w : Qp) (t : List QO) : Prop := Qer w t = true /\ t.length <= 20000
theorem TrOk.plain {w : Qp} {t : List QO} (h : TrOk w t) : YO w t := Qes _ t rfl h.1
theorem QdW {w : Qp} (hw : w.length <= 48) {db : List (List TermT)} {l : List QO} : (QaH w db l).1.length <= l.length + 865 := by
 have := QmR (w := w) (db := db) (w.length * 18 + 1) l
 unfold QaH; omega
theorem Ql0 {α : Type} {o : Option (List α)} (h : o.isSome = true) : o = some (o.getD []) := by
 cases o with
 | none => cases h
 | some x => rfl
theorem QhP {a : Int} {n : Nat} (h0 : 0 <= a) (hn : 0 < n) : 0 <= a.tmod (n : Int) /\ a.tmod (n : Int) < n :=
 ⟨Int.tmod_nonneg _ h0, Int.tmod_lt_of_pos a (by omega)⟩
end M25
namespace Go.Proofs
open Go Go.Abs M3 M25
set_option linter.unusedVariables false
set_option linter.unusedSimpArgs false
theorem Qcz {w : Qp} (hw : WSm w) (h0 : 0 < w.length) {db : List (List TermT)} (hd : db.length <= 100000000) (hi : ∀ x ∈ db, x.length <= 1000000) {l : List Int} (hL : ∀ x ∈ l, I64 x) (hl : l.length <= 1000000) : ∃ d, (∃ t a, TrOk w t /\ d = .tup [Zz t, .int .i64 a]) /\ Ok Tryz.prog 12 [Z1 w, dDb db, Zo l] d := by
 refine Ok.ofX (R := fun d => (∃ t a, TrOk w t /\ d = .tup [Zz t, .int .i64 a])) ZY Tryz.func12 Qrn (Nat.le_of_ble_eq_true rfl) ?_
 show TX _ _ tf12.body _ _
 have hn := hw.len
 refine Q8 fun K hK => Zv rfl rfl rfl (Qa rfl (Qa rfl ?_))
 refine hK _ _ (QP (kp3 rfl rfl rfl) ?_)
 refine Q8 fun K hK => Qa rfl ?_
 refine hK _ _ (QP (kp4 rfl rfl rfl rfl) ?_)
 refine Xo ?_ -- 0
 refine Q8 fun K hK => Qa rfl ?_
 refine hK _ _ (QP (kp5 rfl rfl rfl rfl rfl) ?_)
 refine Yv ?_
 refine Qde (ι := Nat × List QO) (fun ⟨i, t⟩ => ⟨[(1, dDb db), (2, Zo l), (3, .ref 3 0 0), (8, Zz t), (9, .int .i64 i)], [(3, ⟨[[.sl ((w).map Yn)]], 1, 26, true⟩)]⟩) (fun ⟨i, t⟩ => i <= 12 /\ Qer w t = true /\ t.length <= i * 1000) (fun ⟨i, t⟩ => 12 - i) (0, []) ?_ ?_ ?_
 ·exact le_trans (Qpf 8 rfl) (Q1 (l := [1, 2, 3, 8, 9]) (lH := [3]) (kp5 rfl rfl rfl rfl rfl) (Qe rfl Ql) rfl rfl rfl)
 ·exact ⟨by decide, rfl, Nat.le_refl _⟩
 intro ⟨i, t⟩ hI
 try dsimp only at hI
 obtain ⟨hI1, hI2, hI3⟩ := hI
 have hrl := QdW hn (db := db) (l := t)
 have hrm : Qer w (QaH w db t).1 = true := QmS _ hI2
 try dsimp only
 refine Xo ?_ -- 1
 refine Q8 fun K hK => Qa rfl (Qa rfl ?_)
 first | refine QQ rfl QW ?_ | refine QQ rfl rfl ?_
 refine Qok rfl rfl (Qa rfl ?_)
 refine QE (g := 21) rfl (fun h1 => ?_) (fun h1 => ?_)
 ·try rw [h1]
  try simp only [qa, qb, qc, qd, qe, List.length_map] at h1
  refine Qk rfl (Qa rfl (Qk rfl (Z6 rfl rfl (Qo rfl rfl ?_))))
  refine hK _ _ (QP (kp6 rfl rfl rfl rfl rfl rfl) ?_)
  refine YI rfl (fun h2 => ?_) (fun h2 => ?_)
  ·try rw [h2]
   try simp only [qa, qb, qc, qd, qe, List.length_map] at h2
   refine YX (Q5 (kp5 rfl rfl rfl rfl rfl) ?_)
   refine Xo ?_ -- 2
   refine Yv (Q8 fun K hK => QH (cs := [_]) rfl rfl rfl rfl (Qa rfl (Qa rfl (QI (QcW hw hd hi (by omega)) rfl rfl (.inl rfl) (Qa rfl (QR rfl rfl (QR rfl rfl (Qa rfl (Qa rfl ?_)))))))))
   refine hK _ _ (QP (kp6 rfl rfl rfl rfl rfl rfl) ?_)
   refine Q8 fun K hK => Qa rfl (Qa rfl ?_)
   refine hK _ _ (QP (kp6 rfl rfl rfl rfl rfl rfl) ?_)
   refine Xo ?_ -- 3
   refine Q8 fun K hK => Qa rfl (QeS rfl rfl (Qa rfl ?_))
   refine QE (g := 37) rfl (fun h3 => ?_) (fun h3 => ?_)
   ·try rw [h3]
    try simp only [qa, qb, qc, qd, qe, List.length_map] at h3
    refine Qt rfl (Qt rfl (Qt rfl (Qt rfl (Qo rfl rfl ?_))))
    refine hK _ _ (QP (kp7 rfl rfl rfl rfl rfl rfl rfl) ?_)
    refine QoX rfl (Q8 fun K hK => Qa rfl (Qa rfl (Qa rfl (Qa rfl ?_))))
    refine hK _ _ (QP (kp2 rfl rfl) ?_)
    refine QeT (QaC (Qr (QaC (Q4 (Qr (QaC ?_))))))
    refine ⟨_, ⟨(QaH w db t).1, (QaH w db t).2, ⟨hrm, by omega⟩, rfl⟩, ?_⟩
    exact QS rfl rfl ⟨rfl, rfl⟩
   ·try rw [h3]
    try simp only [qa, qb, qc, qd, qe, List.length_map] at h3
    refine Qk rfl (Qa rfl (Qk rfl (Qa rfl (Qk rfl ?_))))
    first | refine QQ rfl QW ?_ | refine QQ rfl rfl ?_
    refine Qk rfl (ZO rfl rfl (Qo rfl rfl ?_))
    refine hK _ _ (QP (kp7 rfl rfl rfl rfl rfl rfl rfl) ?_)
    refine YI rfl (fun h4 => ?_) (fun h4 => ?_)
    ·try rw [h4]
     try simp only [qa, qb, qc, qd, qe, List.length_map] at h4
     refine Q8 fun K hK => Qa rfl (Qa rfl (Qa rfl (Qa rfl ?_)))
     refine hK _ _ (QP (kp2 rfl rfl) ?_)
     refine QeT (QaC (Qr (QaC (Q4 (Qr (QaC ?_))))))
     refine ⟨_, ⟨(QaH w db t).1, (QaH w db t).2, ⟨hrm, by omega⟩, rfl⟩, ?_⟩
     exact QS rfl rfl ⟨rfl, rfl⟩
    ·try rw [h4]
     try simp only [qa, qb, qc, qd, qe, List.length_map] at h4
     refine YX (Q5 (kp5 rfl rfl rfl rfl rfl) (Q8 fun K hK => Qa rfl (Qa rfl (QK rfl rfl rfl (by omega) (QV (by omega)) rfl (QU (ds0 := [1, 0]) rfl rfl rfl rfl rfl (Qh rfl rfl (QU (ds0 := [2, 1, 0]) rfl rfl rfl rfl rfl ?_)))))))
     first | refine QQ rfl QW ?_ | refine QQ rfl rfl ?_
     refine QT (ds0 := [0]) (Z0 (by omega) (hL _ (List.getElem_mem (by omega)))) rfl rfl (.inr rfl) rfl rfl (Qa rfl ?_)
     refine hK _ _ (QP (kp6 rfl rfl rfl rfl rfl rfl) ?_)
     refine Q8 fun K hK => QH (cs := [_]) rfl rfl rfl rfl (Qa rfl (Qa rfl (QI (ZC hw (by omega)) rfl rfl (.inr rfl) (QI (XO) rfl rfl (.inl rfl) (Qa rfl ?_)))))
     refine hK _ _ (QP (kp7 rfl rfl rfl rfl rfl rfl rfl) ?_)
     refine Q8 fun K hK => Qa rfl ?_
     refine hK _ _ (QP (kp8 rfl rfl rfl rfl rfl rfl rfl rfl) ?_)
     refine Yv ?_
     refine Qde (ι := Nat) (fun k => ⟨[(1, dDb db), (2, Zo l), (3, .ref 3 0 0), (8, Zz (QaH w db t).1), (9, .int .i64 i), (12, .int .i64 (mPl (l[i]'(by omega)) w.length)), (13, Zo (Qbk (Zd w (QaH w db t).1 (mPl (l[i]'(by omega)) w.length)))), (14, .int .i64 k)], [(3, ⟨[[.sl ((w).map Yn)]], 1, 26, true⟩)]⟩) (fun k => k <= (Qbk (Zd w (QaH w db t).1 (mPl (l[i]'(by omega)) w.length))).length) (fun k => (Qbk (Zd w (QaH w db t).1 (mPl (l[i]'(by omega)) w.length))).length - k) 0 ?_ ?_ ?_
     ·exact Q1 (l := [1, 2, 3, 8, 9, 12, 13, 14]) (lH := [3]) (kp8 rfl rfl rfl rfl rfl rfl rfl rfl) (Qe rfl Ql) rfl rfl rfl
     ·exact Nat.zero_le _
     intro k hK0
     have hel : (Qbk (Zd w (QaH w db t).1 (mPl (l[i]'(by omega)) w.length))).length <= 17 := Qcg _ 17
     have hp0 := QiD (v := l[i]'(by omega)) (n := 7)
     have hp7 := QiC (v := l[i]'(by omega)) (n := 7) (by omega)
     try dsimp only
     refine Xo ?_ -- 4
     refine Q8 fun K hK => Qa rfl (Qa rfl ?_)
     first | refine QQ rfl QW ?_ | refine QQ rfl rfl ?_
     refine Z6 rfl rfl ?_
     refine hK _ _ (QP (kp9 rfl rfl rfl rfl rfl rfl rfl rfl rfl) ?_)
     refine YI rfl (fun h5 => ?_) (fun h5 => ?_)
     ·try rw [h5]
      try simp only [qa, qb, qc, qd, qe, List.length_map] at h5
      refine YX (Q5 (kp8 rfl rfl rfl rfl rfl rfl rfl rfl) ?_)
      refine Xo ?_ -- 5
      refine Yv (Q8 fun K hK => QN (ds0 := [5, 4, 3, 2, 1, 0]) (cs := [_]) rfl rfl rfl rfl rfl rfl (Qa rfl (Qa rfl (Qa rfl (Qa rfl (Qa rfl (Qa rfl (QK rfl rfl rfl (by omega) (QV (by omega)) rfl (QU (ds0 := [12, 11, 8, 7, 6, 5, 4, 3, 2, 1, 0]) rfl rfl rfl rfl rfl (QT (ds0 := [11, 8, 7, 6, 5, 4, 3, 2, 1, 0]) (Z0 (by omega) (hL _ (List.getElem_mem (by omega)))) rfl rfl (.inr rfl) rfl rfl ?_))))))))))
      refine Q2 rfl rfl (by first | exact Qq (by omega) (by omega) | rfl) (Qa rfl ?_)
      first | refine QQ rfl QW ?_ | refine QQ rfl rfl ?_
      refine Qnm rfl rfl (by omega) (QK rfl rfl rfl (by exact (QhP (by omega) (by omega)).1) (ZE (QhP (by omega) (by omega)).1 (QhP (by omega) (by omega)).2) rfl (QU (ds0 := [5, 4, 3, 2, 1, 0]) rfl rfl rfl rfl rfl (QT (ds0 := [4, 3, 2, 1, 0]) (QbC hw (by omega)) rfl rfl (.inl rfl) rfl rfl (Qa rfl (QR rfl rfl (QR rfl rfl (Qa rfl (Qa rfl ?_))))))))
      refine hK _ _ (QP (Qow rfl rfl rfl rfl rfl rfl rfl rfl rfl rfl) ?_)
      refine Q8 fun K hK => Qa rfl ?_
      refine hK _ _ (QP (Qow rfl rfl rfl rfl rfl rfl rfl rfl rfl rfl) ?_)
      refine YI rfl (fun h6 => ?_) (fun h6 => ?_)
      ·try rw [h6]
       try simp only [qa, qb, qc, qd, qe, List.length_map] at h6
       refine Q8 fun K hK => Qa rfl (Qa rfl ?_)
       refine hK _ _ (QP (kp5 rfl rfl rfl rfl rfl) ?_)
       refine Qbv (Qeb (by decide) (YB (Qx (QD (Qg (Q5 (kp5 rfl rfl rfl rfl rfl) (ZP fun K hK => Qa rfl (Q2 rfl rfl (by first | exact Qq (by omega) (by omega) | rfl) (Qa rfl (hK _ ?_))))))))))
       refine Qi (i + 1, ((Xj w (QaH w db t).1 (mPl (l[i]'(by omega)) w.length) ((Qbk (Zd w (QaH w db t).1 (mPl (l[i]'(by omega)) w.length)))[((k : Int) + (mPl (l[i]'(by omega)) 7)).tmod ((Qbk (Zd w (QaH w db t).1 (mPl (l[i]'(by omega)) w.length))).length : Int) |>.toNat]'(by have := QhP (a := (k : Int) + (mPl (l[i]'(by omega)) 7)) (n := (Qbk (Zd w (QaH w db t).1 (mPl (l[i]'(by omega)) w.length))).length) (by omega) (by omega); omega)))).getD []) ?_ ?_ ?_
       ·exact Q1 (l := [1, 2, 3, 8, 9]) (lH := [3]) (kp5 rfl rfl rfl rfl rfl) (Qe rfl Ql) rfl rfl rfl
       ·exact ⟨by show i + 1 <= 12; omega, Qk4 hrm (Ql0 h6), Nat.le_trans Qk3 (by omega)⟩
       ·show 12 - (i + 1) < 12 - i; omega
      ·try rw [h6]
       try simp only [qa, qb, qc, qd, qe, List.length_map] at h6
       refine YX (Qg (Q5 (kp8 rfl rfl rfl rfl rfl rfl rfl rfl) (ZP fun K hK => Qa rfl (Q2 rfl rfl (by first | exact Qq (by omega) (by omega) | rfl) (Qa rfl (hK _ ?_))))))
       refine Qi (k + 1) ?_ ?_ ?_
       ·exact Q1 (l := [1, 2, 3, 8, 9, 12, 13, 14]) (lH := [3]) (kp8 rfl rfl rfl rfl rfl rfl rfl rfl) (Qe rfl Ql) rfl rfl rfl
       ·show k + 1 <= _; omega
       ·show (Qbk (Zd w (QaH w db t).1 (mPl (l[i]'(by omega)) w.length))).length - (k + 1) < (Qbk (Zd w (QaH w db t).1 (mPl (l[i]'(by omega)) w.length))).length - k; omega
     ·try rw [h5]
      try simp only [qa, qb, qc, qd, qe, List.length_map] at h5
      refine Qbv (YB (Qx (QD (Qg (Q5 (kp5 rfl rfl rfl rfl rfl) (ZP fun K hK => Qa rfl (Q2 rfl rfl (by first | exact Qq (by omega) (by omega) | rfl) (Qa rfl (hK _ ?_)))))))))
      refine Qi (i + 1, (QaH w db t).1) ?_ ?_ ?_
      ·exact Q1 (l := [1, 2, 3, 8, 9]) (lH := [3]) (kp5 rfl rfl rfl rfl rfl) (Qe rfl Ql) rfl rfl rfl
      ·exact ⟨by show i + 1 <= 12; omega, hrm, by show (QaH w db t).1.length <= (i + 1) * 1000; omega⟩
      ·show 12 - (i + 1) < 12 - i; omega
  ·try rw [h2]
   try simp only [qa, qb, qc, qd, qe, List.length_map] at h2
   refine Qbv (YB (Qx (QD (Q5 (kp1 rfl) (Q8 fun K hK => Qa rfl (Qa rfl (Qa rfl ?_)))))))
   refine hK _ _ (QP (kp2 rfl rfl) ?_)
   refine QeT ?_
   refine ⟨_, ⟨t, -1, ⟨hI2, by omega⟩, rfl⟩, ?_⟩
   exact QS rfl rfl ⟨rfl, rfl⟩
 ·try rw [h1]
  try simp only [qa, qb, qc, qd, qe, List.length_map] at h1
  refine Qt rfl (Qt rfl (Qo rfl rfl ?_))
  refine hK _ _ (QP (kp6 rfl rfl rfl rfl rfl rfl) ?_)
  refine Qjb rfl (Qbv (YB (Qx (QD (Q5 (kp1 rfl) (Q8 fun K hK => Qa rfl (Qa rfl (Qa rfl ?_))))))))
  refine hK _ _ (QP (kp2 rfl rfl) ?_)
  refine QeT ?_
  refine ⟨_, ⟨t, -1, ⟨hI2, by omega⟩, rfl⟩, ?_⟩
  exact QS rfl rfl ⟨rfl, rfl⟩
end Go.Proofs
