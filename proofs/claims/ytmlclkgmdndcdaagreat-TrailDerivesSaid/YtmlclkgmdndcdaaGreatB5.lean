/- Part 5 of the means of the proof: a verified abstract evaluator, the prepared functions, and contracts of functions. It states nothing of the claim by itself. -/
import Derived.Test.YtmlclkgmdndcdaaGreatB4
set_option linter.unusedSimpArgs false
set_option linter.unusedVariables false
namespace Go.Proofs
open Go Go.Abs M3 M25
set_option linter.unusedVariables false
set_option linter.unusedSimpArgs false
theorem ZO {w : Qp} (hw : WSm w) {l : List QL} (hl : l.length <= 10000000) {u : Int} : Ok Tryz.prog 14 [Z8 w, Zz l, .int .i64 u] (.int .i64 (Q9 w l u)) := by
 refine Ok.ofT ZX Tryz.func14 Qsa (Nat.le_of_ble_eq_true rfl) ?_
 show TW _ _ tf14.body _ _
 refine Qe fun K hK => Zw rfl rfl rfl (Qa rfl ?_)
 refine hK _ _ (Qb (kp3 rfl rfl rfl) ?_)
 refine QG ?_ -- 0
 refine Qe fun K hK => Qa rfl ?_
 first | refine QU rfl Q1 ?_ | refine QU rfl rfl ?_
 refine XW rfl rfl (by first | exact Qs (by omega) (by omega) | rfl) (Qa rfl ?_)
 refine hK _ _ (Qb (kp4 rfl rfl rfl rfl) ?_)
 refine QE ?_
 refine Zv (ι := Nat) (fun i => ⟨[(1, Zz l), (2, .int .i64 u), (3, .ref 3 0 0), (7, .int .i64 ((i : Int) - 1))], [(3, ⟨[[.sl ((w).map YS)]], 1, 26, true⟩)]⟩) (fun i => i <= l.length /\ Q9 w l u = Q9 w (l.take i) u) (fun i => i) l.length ?_ ?_ ?_
 ·exact Zc (l := [1, 2, 3, 7]) (lH := [3]) (kp4 rfl rfl rfl rfl) (Qf rfl Qr) rfl rfl rfl
 ·exact ⟨Nat.le_refl _, by rw [List.take_length]⟩
 intro i hI
 try dsimp only
 refine QG ?_ -- 1
 refine Qe fun K hK => Qa rfl (Qfg rfl rfl ?_)
 refine hK _ _ (Qb (kp5 rfl rfl rfl rfl rfl) ?_)
 refine Qw rfl (fun h1 => ?_) (fun h1 => ?_)
 ·try rw [h1]
  try simp only [qa, qb, qc, qd, qe, List.length_map] at h1
  refine Qv (Qd (kp4 rfl rfl rfl rfl) ?_)
  refine QG ?_ -- 2
  refine QE (Qe fun K hK => Qa rfl (Qa rfl (QJ rfl rfl rfl (by omega) (ZM (by omega) (by omega)) rfl (Q7 rfl rfl (Qz rfl rfl rfl (Qa rfl (Zy rfl rfl (Qa rfl ?_))))))))
  refine Qy (g := 22) rfl (fun h2 => ?_) (fun h2 => ?_)
  ·try rw [h2]
   try simp only [qa, qb, qc, qd, qe, List.length_map] at h2
   refine Qg rfl (Qa rfl (Qg rfl (Qfg rfl rfl (Qk rfl rfl (Qa rfl ?_)))))
   refine Qy (g := 26) rfl (fun h3 => ?_) (fun h3 => ?_)
   ·try rw [h3]
    try simp only [qa, qb, qc, qd, qe, List.length_map] at h3
    refine Qg rfl (Qa rfl (Qg rfl (Qh rfl rfl (Qg rfl (Qz rfl rfl rfl (Qg rfl ?_))))))
    first | refine QU rfl Q1 ?_ | refine QU rfl rfl ?_
    refine Qg rfl (Yj rfl rfl (Qk rfl rfl ?_))
    refine hK _ _ (Qb (kp5 rfl rfl rfl rfl rfl) ?_)
    refine Qw rfl (fun h4 => ?_) (fun h4 => ?_)
    ·try rw [h4]
     try simp only [qa, qb, qc, qd, qe, List.length_map] at h4
     refine Qe fun K hK => Qa rfl (Qa rfl (QJ rfl rfl rfl (by omega) (ZM (by omega) (by omega)) rfl (Q7 rfl rfl (Qz rfl rfl rfl (Qa rfl ?_)))))
     refine hK _ _ (Qb (kp1 rfl) ?_)
     refine Qu (Qt (Qj (Q4 (Qt (Qj (QA rfl ?_))))))
     rw [hI.2, Qn0 (k := ((i : Int) - 1).toNat) (by omega) (by omega) h2 (QeF (by omega) (by omega))]
    ·try rw [h4]
     try simp only [qa, qb, qc, qd, qe, List.length_map] at h4
     refine Qv (Qi (Qd (kp4 rfl rfl rfl rfl) (QP fun K hK => Qa rfl (XW rfl rfl (by first | exact Qs (by omega) (by omega) | rfl) (Qa rfl (hK _ ?_))))))
     refine Ql (i - 1) ?_ ?_ ?_
     ·exact Zc (l := [1, 2, 3, 7]) (lH := [3]) (kp4 rfl rfl rfl rfl) (Qf rfl Qr) (by simp only [List.cons.injEq, Prod.mk.injEq, D.int.injEq, and_true, true_and]; omega) rfl rfl
     ·exact ⟨by omega, by rw [hI.2, QfM (k := ((i : Int) - 1).toNat) (by omega) (by omega) (by first | exact .inl h2 | exact .inr (.inl h3) | exact .inr (.inr h4))]⟩
     ·first | omega | (simp only; omega) | (dsimp only; omega)
   ·try rw [h3]
    try simp only [qa, qb, qc, qd, qe, List.length_map] at h3
    refine Qo rfl (Qo rfl (Qo rfl (Qo rfl (Qo rfl (Qk rfl rfl ?_)))))
    refine hK _ _ (Qb (kp5 rfl rfl rfl rfl rfl) ?_)
    refine ZY rfl (Qv (Qi (Qd (kp4 rfl rfl rfl rfl) (QP fun K hK => Qa rfl (XW rfl rfl (by first | exact Qs (by omega) (by omega) | rfl) (Qa rfl (hK _ ?_)))))))
    refine Ql (i - 1) ?_ ?_ ?_
    ·exact Zc (l := [1, 2, 3, 7]) (lH := [3]) (kp4 rfl rfl rfl rfl) (Qf rfl Qr) (by simp only [List.cons.injEq, Prod.mk.injEq, D.int.injEq, and_true, true_and]; omega) rfl rfl
    ·exact ⟨by omega, by rw [hI.2, QfM (k := ((i : Int) - 1).toNat) (by omega) (by omega) (by first | exact .inl h2 | exact .inr (.inl h3) | exact .inr (.inr h4))]⟩
    ·first | omega | (simp only; omega) | (dsimp only; omega)
  ·try rw [h2]
   try simp only [qa, qb, qc, qd, qe, List.length_map] at h2
   refine Qo rfl (Qo rfl (Qk rfl rfl (Qa rfl (Qo rfl (Qo rfl (Qo rfl (Qo rfl (Qo rfl (Qk rfl rfl ?_)))))))))
   refine hK _ _ (Qb (kp5 rfl rfl rfl rfl rfl) ?_)
   refine ZY rfl (Qv (Qi (Qd (kp4 rfl rfl rfl rfl) (QP fun K hK => Qa rfl (XW rfl rfl (by first | exact Qs (by omega) (by omega) | rfl) (Qa rfl (hK _ ?_)))))))
   refine Ql (i - 1) ?_ ?_ ?_
   ·exact Zc (l := [1, 2, 3, 7]) (lH := [3]) (kp4 rfl rfl rfl rfl) (Qf rfl Qr) (by simp only [List.cons.injEq, Prod.mk.injEq, D.int.injEq, and_true, true_and]; omega) rfl rfl
   ·exact ⟨by omega, by rw [hI.2, QfM (k := ((i : Int) - 1).toNat) (by omega) (by omega) (by first | exact .inl h2 | exact .inr (.inl h3) | exact .inr (.inr h4))]⟩
   ·first | omega | (simp only; omega) | (dsimp only; omega)
 ·try rw [h1]
  try simp only [qa, qb, qc, qd, qe, List.length_map] at h1
  refine Zo (QN (QB (QI (Qd (kp2 rfl rfl) (Qe fun K hK => QD (cs := [_]) rfl rfl rfl rfl (Qa rfl (QC (ZN hw) rfl rfl (.inr rfl) (Qa rfl ?_))))))))
  refine hK _ _ (Qb (kp1 rfl) ?_)
  refine Qu (QA rfl ?_)
  rw [hI.2, show i = 0 by omega]; rfl
theorem Ye {l : List QL} (hl : l.length <= 10000000) : Ok Tryz.prog 27 [Zz l] (.int .i64 (Ym l)) := by
 refine Ok.ofT ZX Tryz.func27 Qsg (Nat.le_of_ble_eq_true rfl) ?_
 show TW _ _ tf27.body _ _
 refine Qe fun K hK => Qa rfl ?_
 refine hK _ _ (Qb (kp1 rfl) ?_)
 refine QG ?_ -- 0
 refine Qe fun K hK => Qa rfl ?_
 first | refine QU rfl Q1 ?_ | refine QU rfl rfl ?_
 refine Zy rfl rfl ?_
 refine hK _ _ (Qb (kp2 rfl rfl) ?_)
 refine Qw rfl (fun h1 => ?_) (fun h1 => ?_)
 ·try rw [h1]
  try simp only [qa, qb, qc, qd, qe, List.length_map] at h1
  refine Qe fun K hK => Qa rfl ?_
  refine hK _ _ (Qb (kp1 rfl) ?_)
  refine Qu (Qj (QA rfl ?_))
  rw [QiE h1]
 ·try rw [h1]
  try simp only [qa, qb, qc, qd, qe, List.length_map] at h1
  refine Qv (Qd (kp1 rfl) (Qe fun K hK => Qa rfl (Qa rfl ?_)))
  first | refine QU rfl Q1 ?_ | refine QU rfl rfl ?_
  refine XW rfl rfl (by first | exact Qs (by omega) (by omega) | rfl) (QJ rfl rfl rfl (by omega) (ZM (by omega) (by omega)) rfl (Q7 rfl rfl (Qz rfl rfl rfl (Qa rfl ?_))))
  refine hK _ _ (Qb (kp1 rfl) ?_)
  refine Qu (QA rfl ?_)
  rw [QkC (k := ((l.length : Int) - 1).toNat) (by omega)]
theorem Qbe {l : List QL} (hl : l.length <= 10000000) {u : Int} : Ok Tryz.prog 88 [Zz l, .int .i64 u] (.bool (Xp l u)) := by
 refine Ok.ofT ZX Tryz.func88 Qs1 (Nat.le_of_ble_eq_true rfl) ?_
 show TW _ _ tf88.body _ _
 refine Qe fun K hK => Qa rfl ?_
 refine hK _ _ (Qb (kp2 rfl rfl) ?_)
 refine QG ?_ -- 0
 refine Qe fun K hK => Qa rfl ?_
 refine hK _ _ (Qb (kp3 rfl rfl rfl) ?_)
 refine QE ?_
 refine Zv (ι := Nat) (fun i => ⟨[(0, Zz l), (1, .int .i64 u), (5, .int .i64 i)], []⟩) (fun i => i <= l.length /\ (l.take i).any (fun s => decide (s.u = u) && decide (s.c = -1)) = false) (fun i => l.length - i) 0 ?_ ?_ ?_
 ·exact Zh (kp3 rfl rfl rfl)
 ·exact ⟨Nat.zero_le _, by simp⟩
 intro i hI
 try dsimp only
 refine QG ?_ -- 1
 refine Qe fun K hK => Qa rfl (Qa rfl ?_)
 first | refine QU rfl Q1 ?_ | refine QU rfl rfl ?_
 refine Yj rfl rfl ?_
 refine hK _ _ (Qb (kp4 rfl rfl rfl rfl) ?_)
 refine Qw rfl (fun h1 => ?_) (fun h1 => ?_)
 ·try rw [h1]
  try simp only [qa, qb, qc, qd, qe, List.length_map] at h1
  refine Qv (Qd (kp3 rfl rfl rfl) ?_)
  refine QG ?_ -- 2
  refine QE (Qe fun K hK => Qa rfl (Qa rfl (QJ rfl rfl rfl (by omega) (QS (by omega)) rfl (Q7 rfl rfl (Qz rfl rfl rfl (Qa rfl (Zy rfl rfl (Qa rfl ?_))))))))
  refine Qy (g := 19) rfl (fun h2 => ?_) (fun h2 => ?_)
  ·try rw [h2]
   try simp only [qa, qb, qc, qd, qe, List.length_map] at h2
   refine Qg rfl (Qa rfl (Qg rfl (Qa rfl (Qg rfl (QJ rfl rfl rfl (by omega) (QS (by omega)) rfl (Qg rfl (Q7 rfl rfl (Qg rfl (Qz rfl rfl rfl (Qg rfl (Zy rfl rfl ?_)))))))))))
   refine Qk rfl rfl ?_
   refine hK _ _ (Qb (kp4 rfl rfl rfl rfl) ?_)
   refine Qw rfl (fun h3 => ?_) (fun h3 => ?_)
   ·try rw [h3]
    try simp only [qa, qb, qc, qd, qe, List.length_map] at h3
    refine Qe fun K hK => Qa rfl ?_
    refine hK _ _ (Qb (kp1 rfl) ?_)
    refine Qu (Qt (Qj (Q4 (Qt (Qj (Qq rfl ?_))))))
    rw [Xp, Qha (i := i) (by omega) (by simp [h2, h3])]
   ·try rw [h3]
    try simp only [qa, qb, qc, qd, qe, List.length_map] at h3
    refine Qv (Qi (Qd (kp3 rfl rfl rfl) (QP fun K hK => Qa rfl (Q6 rfl rfl (by first | exact Qs (by omega) (by omega) | rfl) (Qa rfl (hK _ ?_))))))
    refine Ql (i + 1) ?_ ?_ ?_
    ·exact Zh (kp3 rfl rfl rfl)
    ·exact ⟨by omega, Qgu (by omega) hI.2 (by first | (simp [h2, h3]; done) | (simp [h2]; done))⟩
    ·first | omega | (simp only; omega) | (dsimp only; omega)
  ·try rw [h2]
   try simp only [qa, qb, qc, qd, qe, List.length_map] at h2
   refine Qo rfl (Qo rfl (Qo rfl (Qo rfl (Qo rfl (Qo rfl (Qk rfl rfl ?_))))))
   refine hK _ _ (Qb (kp4 rfl rfl rfl rfl) ?_)
   refine ZY rfl (Qv (Qi (Qd (kp3 rfl rfl rfl) (QP fun K hK => Qa rfl (Q6 rfl rfl (by first | exact Qs (by omega) (by omega) | rfl) (Qa rfl (hK _ ?_)))))))
   refine Ql (i + 1) ?_ ?_ ?_
   ·exact Zh (kp3 rfl rfl rfl)
   ·exact ⟨by omega, Qgu (by omega) hI.2 (by first | (simp [h2, h3]; done) | (simp [h2]; done))⟩
   ·first | omega | (simp only; omega) | (dsimp only; omega)
 ·try rw [h1]
  try simp only [qa, qb, qc, qd, qe, List.length_map] at h1
  refine Zo (QN (QB (QI (Qd (Q2) (Qe fun K hK => Qa rfl ?_)))))
  refine hK _ _ (Qb (kp1 rfl) ?_)
  refine Qu (Qq rfl ?_)
  rw [Xp, QlQ (i := i) (by omega) hI.2]
theorem QbW {m : Int} : Ok Tryz.prog 59 [.int .i64 m] (.int .i64 (XX m)) := by
 refine Ok.ofT ZX Tryz.func59 QsC (Nat.le_of_ble_eq_true rfl) ?_
 show TW _ _ tf59.body _ _
 refine Qe fun K hK => Qa rfl ?_
 refine hK _ _ (Qb (kp1 rfl) ?_)
 refine Qe fun K hK => Qa rfl (QC (XZ) rfl rfl (.inl rfl) (Qa rfl ?_))
 refine hK _ _ (Qb (kp1 rfl) ?_)
 refine QG ?_ -- 0
 refine Qe fun K hK => Qa rfl ?_
 first | refine QU rfl Q1 ?_ | refine QU rfl rfl ?_
 refine X5 rfl rfl ?_
 refine hK _ _ (Qb (kp2 rfl rfl) ?_)
 refine Qw rfl (fun h1 => ?_) (fun h1 => ?_)
 ·try rw [h1]
  try simp only [qa, qb, qc, qd, qe, List.length_map] at h1
  refine Qe fun K hK => Qa rfl ?_
  refine hK _ _ (Qb (kp1 rfl) ?_)
  refine Qu (Qj (QA rfl ?_))
  rw [Qog h1]
 ·try rw [h1]
  try simp only [qa, qb, qc, qd, qe, List.length_map] at h1
  refine Qv (Qd (kp1 rfl) (Qe fun K hK => Qa rfl (QJ rfl rfl rfl (by omega) (ZM (by omega) (by omega)) rfl (Qz rfl rfl rfl (Qa rfl ?_)))))
  refine hK _ _ (Qb (kp1 rfl) ?_)
  refine Qu (QA rfl ?_)
  rw [QmV h1]
theorem QcP {w : Qp} (hw : WSm w) {l : List QL} (hl : l.length <= 10000000) {s : QL} : Ok Tryz.prog 62 [Z8 w, Zz l, .agg (Qft s)] (.bool (Qbu w l s)) := by
 refine Ok.ofT ZX Tryz.func62 QsF (Nat.le_of_ble_eq_true rfl) ?_
 show TW _ _ tf62.body _ _
 refine Qe fun K hK => Zw rfl rfl rfl (Zw rfl rfl rfl (Qa rfl ?_))
 refine hK _ _ (Qb (kp3 rfl rfl rfl) ?_)
 refine QG ?_ -- 0
 refine Qe fun K hK => Qh rfl rfl (Qz rfl rfl rfl (Yj rfl rfl (Qa rfl ?_)))
 refine Qy (g := 11) rfl (fun h1 => ?_) (fun h1 => ?_)
 ·try rw [h1]
  try simp only [qa, qb, qc, qd, qe, List.length_map] at h1
  refine Qo rfl (Qo rfl (Qo rfl (Qo rfl (Qo rfl (Qo rfl (Qk rfl rfl (Qa rfl (Qo rfl (Qo rfl (Qo rfl (Qk rfl rfl ?_)))))))))))
  refine hK _ _ (Qb (kp4 rfl rfl rfl rfl) ?_)
  refine Zp rfl (Qe fun K hK => Qa rfl ?_)
  refine hK _ _ (Qb (kp1 rfl) ?_)
  refine Qu (Qj (Qq rfl ?_))
  first | (rw [Y8 (by omega)]; done) | (rw [ZZ (by omega) (by omega) (by omega)]; simp_all; done) | (rw [ZZ (by omega) (by omega) (by omega)]; simp_all; omega)
 ·try rw [h1]
  try simp only [qa, qb, qc, qd, qe, List.length_map] at h1
  refine Qg rfl (Qh rfl rfl (Qg rfl (Qz rfl rfl rfl (Qg rfl (Qh rfl rfl (Qg rfl (Qz rfl rfl rfl (Qg rfl ?_))))))))
  first | refine QU rfl Q1 ?_ | refine QU rfl rfl ?_
  refine Qg rfl (Qfg rfl rfl (Qk rfl rfl (Qa rfl ?_)))
  refine Qy (g := 19) rfl (fun h2 => ?_) (fun h2 => ?_)
  ·try rw [h2]
   try simp only [qa, qb, qc, qd, qe, List.length_map] at h2
   refine Qo rfl (Qo rfl (Qo rfl (Qk rfl rfl ?_)))
   refine hK _ _ (Qb (kp4 rfl rfl rfl rfl) ?_)
   refine Zp rfl (Qe fun K hK => Qa rfl ?_)
   refine hK _ _ (Qb (kp1 rfl) ?_)
   refine Qu (Qj (Qq rfl ?_))
   first | (rw [Y8 (by omega)]; done) | (rw [ZZ (by omega) (by omega) (by omega)]; simp_all; done) | (rw [ZZ (by omega) (by omega) (by omega)]; simp_all; omega)
  ·try rw [h2]
   try simp only [qa, qb, qc, qd, qe, List.length_map] at h2
   refine Qg rfl (Qh rfl rfl (Qg rfl (Qz rfl rfl rfl (Qg rfl (Yj rfl rfl (Qk rfl rfl ?_))))))
   refine hK _ _ (Qb (kp4 rfl rfl rfl rfl) ?_)
   refine Qw rfl (fun h3 => ?_) (fun h3 => ?_)
   ·try rw [h3]
    try simp only [qa, qb, qc, qd, qe, List.length_map] at h3
    refine Qe fun K hK => Qa rfl ?_
    refine hK _ _ (Qb (kp1 rfl) ?_)
    refine Qu (Qj (Qq rfl ?_))
    first | (rw [Y8 (by omega)]; done) | (rw [ZZ (by omega) (by omega) (by omega)]; simp_all; done) | (rw [ZZ (by omega) (by omega) (by omega)]; simp_all; omega)
   ·try rw [h3]
    try simp only [qa, qb, qc, qd, qe, List.length_map] at h3
    refine Qv (Qd (kp3 rfl rfl rfl) (Qe fun K hK => QD (cs := [_]) rfl rfl rfl rfl (Qa rfl (Qh rfl rfl (Qz rfl rfl rfl (QC (ZO hw hl) rfl rfl (.inr rfl) (Qa rfl ?_)))))))
    refine hK _ _ (Qb (kp3 rfl rfl rfl) ?_)
    refine QG ?_ -- 1
    refine Qe fun K hK => Qh rfl rfl (Qz rfl rfl rfl (Zy rfl rfl ?_))
    refine hK _ _ (Qb (kp4 rfl rfl rfl rfl) ?_)
    refine Qw rfl (fun h4 => ?_) (fun h4 => ?_)
    ·try rw [h4]
     try simp only [qa, qb, qc, qd, qe, List.length_map] at h4
     refine Qe fun K hK => Qh rfl rfl (QQ (ds0 := [26, 25, 24, 23, 22, 21, 20, 19, 18, 17, 16, 15, 14, 13, 12, 11, 10, 9, 8, 7, 6, 5, 4, 3, 2, 1, 0]) rfl rfl rfl rfl rfl (QY (ds0 := [25, 24, 23, 22, 21, 20, 19, 18, 17, 16, 15, 14, 13, 12, 11, 10, 9, 8, 7, 6, 5, 4, 3, 2, 1, 0]) (QbW) rfl rfl (.inr rfl) rfl rfl (Qfg rfl rfl (Qa rfl ?_))))
     refine Qy (g := 36) rfl (fun h5 => ?_) (fun h5 => ?_)
     ·try rw [h5]
      try simp only [qa, qb, qc, qd, qe, List.length_map] at h5
      refine Qg rfl (Qh rfl rfl (Qg rfl (QQ (ds0 := [20, 17, 16, 15, 14, 13, 12, 11, 10, 9, 8, 7, 6, 5, 4, 3, 2, 1, 0]) rfl rfl rfl rfl rfl (Qg rfl (Qa rfl (Qg rfl (QbQ rfl rfl (Qg rfl (Qh rfl rfl (Qg rfl (QQ (ds0 := [17, 16, 15, 14, 13, 12, 11, 10, 9, 8, 7, 6, 5, 4, 3, 2, 1, 0]) rfl rfl rfl rfl rfl ?_)))))))))))
      refine Qg rfl (Zy rfl rfl (Qk rfl rfl (Qa rfl ?_)))
      refine Qy (g := 45) rfl (fun h6 => ?_) (fun h6 => ?_)
      ·try rw [h6]
       try simp only [qa, qb, qc, qd, qe, List.length_map] at h6
       refine Qg rfl (Qa rfl (Qg rfl (Qh rfl rfl (Qg rfl (QQ (ds0 := [11, 10, 9, 8, 7, 6, 5, 4, 3, 2, 1, 0]) rfl rfl rfl rfl rfl (Qg rfl (QY (ds0 := [10, 9, 8, 7, 6, 5, 4, 3, 2, 1, 0]) (Qbe hl) rfl rfl (.inr rfl) rfl rfl (Qg rfl (Yb rfl (Qk rfl rfl (Qa rfl ?_)))))))))))
       refine Qy (g := 52) rfl (fun h7 => ?_) (fun h7 => ?_)
       ·try rw [h7]
        try simp only [qa, qb, qc, qd, qe, List.length_map] at h7
        refine Qg rfl (Qh rfl rfl (Qg rfl (QQ (ds0 := [2, 1, 0]) rfl rfl rfl rfl rfl (Qg rfl (Qa rfl (Qg rfl (QY (ds0 := [3, 2, 1, 0]) (Ye hl) rfl rfl (.inr rfl) rfl rfl (Qg rfl (Q6 rfl rfl rfl (Qg rfl (Zy rfl rfl ?_)))))))))))
        refine Qk rfl rfl (Qa rfl ?_)
        refine hK _ _ (Qb (kp1 rfl) ?_)
        refine Qu (Qj (Qq rfl ?_))
        first | (rw [Y8 (by omega)]; done) | (rw [ZZ (by omega) (by omega) (by omega)]; simp_all; done) | (rw [ZZ (by omega) (by omega) (by omega)]; simp_all; omega)
       ·try rw [h7]
        try simp only [qa, qb, qc, qd, qe, List.length_map] at h7
        refine Qo rfl (Qo rfl (Qo rfl (Qo rfl (Qo rfl (Qo rfl (Qk rfl rfl (Qa rfl ?_)))))))
        refine hK _ _ (Qb (kp1 rfl) ?_)
        refine Qu (Qj (Qq rfl ?_))
        first | (rw [Y8 (by omega)]; done) | (rw [ZZ (by omega) (by omega) (by omega)]; simp_all; done) | (rw [ZZ (by omega) (by omega) (by omega)]; simp_all; omega)
      ·try rw [h6]
       try simp only [qa, qb, qc, qd, qe, List.length_map] at h6
       refine Qo rfl (Qo rfl (Qo rfl (Qo rfl (Qo rfl (Qk rfl rfl (Qa rfl (Qo rfl (Qo rfl (Qo rfl (Qo rfl (Qo rfl ?_)))))))))))
       refine Qo rfl (Qk rfl rfl (Qa rfl ?_))
       refine hK _ _ (Qb (kp1 rfl) ?_)
       refine Qu (Qj (Qq rfl ?_))
       first | (rw [Y8 (by omega)]; done) | (rw [ZZ (by omega) (by omega) (by omega)]; simp_all; done) | (rw [ZZ (by omega) (by omega) (by omega)]; simp_all; omega)
     ·try rw [h5]
      try simp only [qa, qb, qc, qd, qe, List.length_map] at h5
      refine Qo rfl (Qo rfl (Qo rfl (Qo rfl (Qo rfl (Qo rfl (Qo rfl (Qk rfl rfl (Qa rfl (Qo rfl (Qo rfl (Qo rfl ?_)))))))))))
      refine Qo rfl (Qo rfl (Qk rfl rfl (Qa rfl (Qo rfl (Qo rfl (Qo rfl (Qo rfl (Qo rfl (Qo rfl (Qk rfl rfl (Qa rfl ?_)))))))))))
      refine hK _ _ (Qb (kp1 rfl) ?_)
      refine Qu (Qj (Qq rfl ?_))
      first | (rw [Y8 (by omega)]; done) | (rw [ZZ (by omega) (by omega) (by omega)]; simp_all; done) | (rw [ZZ (by omega) (by omega) (by omega)]; simp_all; omega)
    ·try rw [h4]
     try simp only [qa, qb, qc, qd, qe, List.length_map] at h4
     refine Qv (Qd (kp3 rfl rfl rfl) (Qe fun K hK => Qh rfl rfl (QQ (ds0 := [23, 22, 21, 20, 19, 18, 17, 16, 15, 14, 13, 12, 11, 10, 9, 8, 7, 6, 5, 4, 3, 2, 1, 0]) rfl rfl rfl rfl rfl (X5 rfl rfl (Qa rfl ?_)))))
     refine Qy (g := 63) rfl (fun h8 => ?_) (fun h8 => ?_)
     ·try rw [h8]
      try simp only [qa, qb, qc, qd, qe, List.length_map] at h8
      refine Qg rfl (Qh rfl rfl (Qg rfl (QQ (ds0 := [18, 15, 14, 13, 12, 11, 10, 9, 8, 7, 6, 5, 4, 3, 2, 1, 0]) rfl rfl rfl rfl rfl (Qg rfl (Qa rfl (Qg rfl (QbQ rfl rfl (Qg rfl (Qh rfl rfl (Qg rfl (QQ (ds0 := [15, 14, 13, 12, 11, 10, 9, 8, 7, 6, 5, 4, 3, 2, 1, 0]) rfl rfl rfl rfl rfl ?_)))))))))))
      refine Qg rfl (Zy rfl rfl (Qk rfl rfl (Qa rfl ?_)))
      refine Qy (g := 72) rfl (fun h9 => ?_) (fun h9 => ?_)
      ·try rw [h9]
       try simp only [qa, qb, qc, qd, qe, List.length_map] at h9
       refine Qg rfl (Qh rfl rfl (Qg rfl (QQ (ds0 := [9, 8, 7, 6, 5, 4, 3, 2, 1, 0]) rfl rfl rfl rfl rfl (Qg rfl (Qa rfl (Qg rfl (X5 rfl rfl (Qk rfl rfl (Qa rfl ?_)))))))))
       refine Qy (g := 78) rfl (fun h10 => ?_) (fun h10 => ?_)
       ·try rw [h10]
        try simp only [qa, qb, qc, qd, qe, List.length_map] at h10
        refine Qg rfl (Qh rfl rfl (Qg rfl (QQ (ds0 := [2, 1, 0]) rfl rfl rfl rfl rfl (Qg rfl (Qa rfl (Qg rfl (QY (ds0 := [2, 1, 0]) (Ye hl) rfl rfl (.inr rfl) rfl rfl (Qg rfl (Zy rfl rfl (Qk rfl rfl (Qa rfl ?_)))))))))))
        refine hK _ _ (Qb (kp1 rfl) ?_)
        refine Qu (Qq rfl ?_)
        first | (rw [Y8 (by omega)]; done) | (rw [ZZ (by omega) (by omega) (by omega)]; simp_all; done) | (rw [ZZ (by omega) (by omega) (by omega)]; simp_all; omega)
       ·try rw [h10]
        try simp only [qa, qb, qc, qd, qe, List.length_map] at h10
        refine Qo rfl (Qo rfl (Qo rfl (Qo rfl (Qo rfl (Qk rfl rfl (Qa rfl ?_))))))
        refine hK _ _ (Qb (kp1 rfl) ?_)
        refine Qu (Qq rfl ?_)
        first | (rw [Y8 (by omega)]; done) | (rw [ZZ (by omega) (by omega) (by omega)]; simp_all; done) | (rw [ZZ (by omega) (by omega) (by omega)]; simp_all; omega)
      ·try rw [h9]
       try simp only [qa, qb, qc, qd, qe, List.length_map] at h9
       refine Qo rfl (Qo rfl (Qo rfl (Qo rfl (Qk rfl rfl (Qa rfl (Qo rfl (Qo rfl (Qo rfl (Qo rfl (Qo rfl (Qk rfl rfl ?_)))))))))))
       refine Qa rfl ?_
       refine hK _ _ (Qb (kp1 rfl) ?_)
       refine Qu (Qq rfl ?_)
       first | (rw [Y8 (by omega)]; done) | (rw [ZZ (by omega) (by omega) (by omega)]; simp_all; done) | (rw [ZZ (by omega) (by omega) (by omega)]; simp_all; omega)
     ·try rw [h8]
      try simp only [qa, qb, qc, qd, qe, List.length_map] at h8
      refine Qo rfl (Qo rfl (Qo rfl (Qo rfl (Qo rfl (Qo rfl (Qo rfl (Qk rfl rfl (Qa rfl (Qo rfl (Qo rfl (Qo rfl ?_)))))))))))
      refine Qo rfl (Qk rfl rfl (Qa rfl (Qo rfl (Qo rfl (Qo rfl (Qo rfl (Qo rfl (Qk rfl rfl (Qa rfl ?_)))))))))
      refine hK _ _ (Qb (kp1 rfl) ?_)
      refine Qu (Qq rfl ?_)
      first | (rw [Y8 (by omega)]; done) | (rw [ZZ (by omega) (by omega) (by omega)]; simp_all; done) | (rw [ZZ (by omega) (by omega) (by omega)]; simp_all; omega)
theorem QbM {w : Qp} (hw : WSm w) {l : List QL} (hl : l.length <= 10000000) {t : TermT} {c : Int} : Ok Tryz.prog 35 [Z8 w, Zz l, .agg (Qef t), .int .i64 c] (dOS (ZJ w l t c)) := by
 refine Ok.ofT ZX Tryz.func35 Qsk (Nat.le_of_ble_eq_true rfl) ?_
 show TW _ _ tf35.body _ _
 refine Qe fun K hK => Zw rfl rfl rfl (Zw rfl rfl rfl (Qa rfl (Qa rfl ?_)))
 refine hK _ _ (Qb (kp4 rfl rfl rfl rfl) ?_)
 refine QG ?_ -- 0
 refine Qe fun K hK => Qa rfl (Yj rfl rfl (Qa rfl ?_))
 refine Qy (g := 14) rfl (fun h1 => ?_) (fun h1 => ?_)
 ·try rw [h1]
  try simp only [qa, qb, qc, qd, qe, List.length_map] at h1
  refine Qo rfl (Qo rfl (Qo rfl (Qk rfl rfl (Qa rfl (Qo rfl (Qo rfl (Qo rfl (Qo rfl (Qo rfl (Qo rfl (Qk rfl rfl ?_)))))))))))
  refine hK _ _ (Qb (kp5 rfl rfl rfl rfl rfl) ?_)
  refine Zp rfl (Qe fun K hK => Qa rfl (Qa rfl ?_))
  refine hK _ _ (Qb (kp2 rfl rfl) ?_)
  refine Qu (Qj ?_)
  rw [Qcq (by omega)]
  exact QT rfl rfl ⟨rfl, rfl⟩
 ·try rw [h1]
  try simp only [qa, qb, qc, qd, qe, List.length_map] at h1
  refine Qg rfl (Qh rfl rfl (Qg rfl (Qz rfl rfl rfl (Qg rfl (Yj rfl rfl (Qk rfl rfl (Qa rfl ?_)))))))
  refine Qy (g := 19) rfl (fun h2 => ?_) (fun h2 => ?_)
  ·try rw [h2]
   try simp only [qa, qb, qc, qd, qe, List.length_map] at h2
   refine Qo rfl (Qo rfl (Qo rfl (Qo rfl (Qo rfl (Qo rfl (Qk rfl rfl ?_))))))
   refine hK _ _ (Qb (kp5 rfl rfl rfl rfl rfl) ?_)
   refine Zp rfl (Qe fun K hK => Qa rfl (Qa rfl ?_))
   refine hK _ _ (Qb (kp2 rfl rfl) ?_)
   refine Qu (Qj ?_)
   rw [Qcq (by omega)]
   exact QT rfl rfl ⟨rfl, rfl⟩
  ·try rw [h2]
   try simp only [qa, qb, qc, qd, qe, List.length_map] at h2
   refine Qg rfl (Qh rfl rfl (Qg rfl (Qz rfl rfl rfl (Qg rfl (Qh rfl rfl (Qg rfl (Qz rfl rfl rfl (Qg rfl ?_))))))))
   first | refine QU rfl Q1 ?_ | refine QU rfl rfl ?_
   refine Qg rfl (Qfg rfl rfl (Qk rfl rfl ?_))
   refine hK _ _ (Qb (kp5 rfl rfl rfl rfl rfl) ?_)
   refine Qw rfl (fun h3 => ?_) (fun h3 => ?_)
   ·try rw [h3]
    try simp only [qa, qb, qc, qd, qe, List.length_map] at h3
    refine Qe fun K hK => Qa rfl (Qa rfl ?_)
    refine hK _ _ (Qb (kp2 rfl rfl) ?_)
    refine Qu (Qj ?_)
    rw [Qcq (by omega)]
    exact QT rfl rfl ⟨rfl, rfl⟩
   ·try rw [h3]
    try simp only [qa, qb, qc, qd, qe, List.length_map] at h3
    refine Qv (Qd (kp4 rfl rfl rfl rfl) (Qe fun K hK => QD (cs := [_]) rfl rfl rfl rfl (Qa rfl (Qh rfl rfl (Qz rfl rfl rfl (QC (ZO hw hl) rfl rfl (.inr rfl) (Qa rfl ?_)))))))
    refine hK _ _ (Qb (kp4 rfl rfl rfl rfl) ?_)
    refine Qe fun K hK => Qh rfl rfl (QQ (ds0 := [2, 0]) rfl rfl rfl rfl rfl (Qa rfl (Qa rfl (Qh rfl rfl (QQ (ds0 := [7, 6, 2, 0]) rfl rfl rfl rfl rfl (QbQ rfl rfl (XW rfl rfl rfl (Qa rfl (QY (ds0 := [2, 0]) (Ye hl) rfl rfl (.inr rfl) rfl rfl (Qa rfl ?_))))))))))
    refine QR rfl rfl (ZC rfl (Xk (ds0 := []) rfl rfl rfl rfl rfl rfl rfl rfl rfl rfl ?_))
    refine hK _ _ (Qb (kp3 rfl rfl rfl) ?_)
    refine QG ?_ -- 1
    refine Qe fun K hK => Qh rfl rfl (Qz rfl rfl rfl (Zy rfl rfl (Qa rfl ?_)))
    refine Qy (g := 47) rfl (fun h4 => ?_) (fun h4 => ?_)
    ·try rw [h4]
     try simp only [qa, qb, qc, qd, qe, List.length_map] at h4
     refine Qo rfl (Qo rfl (Qo rfl (Qo rfl (Qk rfl rfl ?_))))
     refine hK _ _ (Qb (kp3 rfl rfl rfl) ?_)
     refine Zp rfl (Qe fun K hK => Qa rfl (Qa rfl ?_))
     refine hK _ _ (Qb (kp2 rfl rfl) ?_)
     refine Qu (Qj ?_)
     rw [Qbi (by first | exact .inl h4 | exact .inr h5)]
     exact QT rfl rfl ⟨rfl, rfl⟩
    ·try rw [h4]
     try simp only [qa, qb, qc, qd, qe, List.length_map] at h4
     refine Qg rfl (Qh rfl rfl (Qg rfl (Qz rfl rfl rfl (Qg rfl (Qa rfl (Qg rfl (Zy rfl rfl (Qk rfl rfl ?_))))))))
     refine hK _ _ (Qb (kp3 rfl rfl rfl) ?_)
     refine Qw rfl (fun h5 => ?_) (fun h5 => ?_)
     ·try rw [h5]
      try simp only [qa, qb, qc, qd, qe, List.length_map] at h5
      refine Qe fun K hK => Qa rfl (Qa rfl ?_)
      refine hK _ _ (Qb (kp2 rfl rfl) ?_)
      refine Qu (Qj ?_)
      rw [Qbi (by first | exact .inl h4 | exact .inr h5)]
      exact QT rfl rfl ⟨rfl, rfl⟩
     ·try rw [h5]
      try simp only [qa, qb, qc, qd, qe, List.length_map] at h5
      refine Qv (Qd (kp2 rfl rfl) (Qe fun K hK => Qa rfl (Qd5 (ds0 := [2, 1]) rfl rfl (fun _ h => ⟨QlB, h⟩) rfl (.inl rfl) (by simp) (by simp; omega) (by simp; omega) rfl rfl (QO (ds0 := [3, 2, 1]) (cs := [_, _, _, _]) rfl rfl rfl rfl rfl rfl (QH rfl rfl (QbR (ds0 := [1]) rfl rfl (by simp [D.ids, D.sid]) ⟨_, rfl, rfl, rfl, rfl, rfl⟩ rfl rfl (by simp) rfl rfl (by simp; omega) (by simp; omega) rfl rfl (Qa rfl (Qa rfl ?_))))))))
      refine hK _ _ (Qb (kp2 rfl rfl) ?_)
      refine Qu ?_
      rw [Qgy (by omega) (QeF (by omega) (by omega)) h4 h5]
      exact Qf4 rfl rfl rfl (by simp) (by simp [Zz, Qft]) rfl rfl
theorem QbL {w : Qp} (hw : WSm w) {l : List QL} (hl : l.length <= 10000000) {u p : Int} : Ok Tryz.prog 34 [Z8 w, Zz l, .int .i64 u, .int .i64 p] (dOS (YG w l u p)) := by
 refine Ok.ofT ZX Tryz.func34 Qsj (Nat.le_of_ble_eq_true rfl) ?_
 show TW _ _ tf34.body _ _
 refine Qe fun K hK => Zw rfl rfl rfl (Qa rfl (Qa rfl ?_))
 refine hK _ _ (Qb (kp4 rfl rfl rfl rfl) ?_)
 refine QG ?_ -- 0
 refine Qe fun K hK => Qa rfl (Yj rfl rfl (Qa rfl ?_))
 refine Qy (g := 13) rfl (fun h1 => ?_) (fun h1 => ?_)
 ·try rw [h1]
  try simp only [qa, qb, qc, qd, qe, List.length_map] at h1
  refine Qo rfl (Qo rfl (Qo rfl (Qo rfl (Qo rfl (Qk rfl rfl (Qa rfl (Qo rfl (Qo rfl (Qk rfl rfl (Qa rfl (Qo rfl ?_)))))))))))
  refine Qo rfl (Qo rfl (Qo rfl (Qo rfl (Qo rfl (Qo rfl (Qo rfl (Qo rfl (Qk rfl rfl ?_))))))))
  refine hK _ _ (Qb (kp5 rfl rfl rfl rfl rfl) ?_)
  refine Zp rfl (Qe fun K hK => Qa rfl (Qa rfl ?_))
  refine hK _ _ (Qb (kp2 rfl rfl) ?_)
  refine Qu (Qj ?_)
  rw [Qeg (by omega)]
  exact QT rfl rfl ⟨rfl, rfl⟩
 ·try rw [h1]
  try simp only [qa, qb, qc, qd, qe, List.length_map] at h1
  refine Qg rfl (Qa rfl (Qg rfl (Qh rfl rfl (Qg rfl (Qz rfl rfl rfl (Qg rfl ?_))))))
  first | refine QU rfl Q1 ?_ | refine QU rfl rfl ?_
  refine Qg rfl (Qfg rfl rfl (Qk rfl rfl (Qa rfl ?_)))
  refine Qy (g := 20) rfl (fun h2 => ?_) (fun h2 => ?_)
  ·try rw [h2]
   try simp only [qa, qb, qc, qd, qe, List.length_map] at h2
   refine Qo rfl (Qo rfl (Qk rfl rfl (Qa rfl (Qo rfl (Qo rfl (Qo rfl (Qo rfl (Qo rfl (Qo rfl (Qo rfl (Qo rfl ?_)))))))))))
   refine Qo rfl (Qk rfl rfl ?_)
   refine hK _ _ (Qb (kp5 rfl rfl rfl rfl rfl) ?_)
   refine Zp rfl (Qe fun K hK => Qa rfl (Qa rfl ?_))
   refine hK _ _ (Qb (kp2 rfl rfl) ?_)
   refine Qu (Qj ?_)
   rw [Qeg (by omega)]
   exact QT rfl rfl ⟨rfl, rfl⟩
  ·try rw [h2]
   try simp only [qa, qb, qc, qd, qe, List.length_map] at h2
   refine Qg rfl (Qa rfl (Qg rfl (Yj rfl rfl (Qk rfl rfl (Qa rfl ?_)))))
   refine Qy (g := 24) rfl (fun h3 => ?_) (fun h3 => ?_)
   ·try rw [h3]
    try simp only [qa, qb, qc, qd, qe, List.length_map] at h3
    refine Qo rfl (Qo rfl (Qo rfl (Qo rfl (Qo rfl (Qo rfl (Qo rfl (Qo rfl (Qo rfl (Qk rfl rfl ?_)))))))))
    refine hK _ _ (Qb (kp5 rfl rfl rfl rfl rfl) ?_)
    refine Zp rfl (Qe fun K hK => Qa rfl (Qa rfl ?_))
    refine hK _ _ (Qb (kp2 rfl rfl) ?_)
    refine Qu (Qj ?_)
    rw [Qeg (by omega)]
    exact QT rfl rfl ⟨rfl, rfl⟩
   ·try rw [h3]
    try simp only [qa, qb, qc, qd, qe, List.length_map] at h3
    refine Qg rfl (Qa rfl (Qg rfl (Qh rfl rfl (Qg rfl (Qz rfl rfl rfl (Qg rfl (Qa rfl (Qg rfl (QJ rfl rfl rfl (by omega) (ZM (by omega) (by omega)) rfl (Qg rfl (Q7 rfl rfl ?_)))))))))))
    refine Qg rfl (Qz rfl rfl rfl (Qg rfl ?_))
    first | refine QU rfl Q1 ?_ | refine QU rfl rfl ?_
    refine Qg rfl (Qfg rfl rfl (Qk rfl rfl ?_))
    refine hK _ _ (Qb (kp5 rfl rfl rfl rfl rfl) ?_)
    refine Qw rfl (fun h4 => ?_) (fun h4 => ?_)
    ·try rw [h4]
     try simp only [qa, qb, qc, qd, qe, List.length_map] at h4
     refine Qe fun K hK => Qa rfl (Qa rfl ?_)
     refine hK _ _ (Qb (kp2 rfl rfl) ?_)
     refine Qu (Qj ?_)
     rw [Qle (by omega) (by omega) (by omega)]
     exact QT rfl rfl ⟨rfl, rfl⟩
    ·try rw [h4]
     try simp only [qa, qb, qc, qd, qe, List.length_map] at h4
     refine Qv (Qd (kp4 rfl rfl rfl rfl) (Qe fun K hK => Qa rfl (Qa rfl (Qib rfl (Qfd (by omega) (by have := hw.cs _ (List.getElem_mem (show u.toNat < w.length by omega)); omega)) (Qnu rfl rfl (by omega) rfl (Qa rfl (QC (Ye hl) rfl rfl (.inr rfl) (Q6 rfl rfl rfl (QR rfl rfl (ZC rfl ?_))))))))))
     refine Q5 rfl rfl rfl rfl rfl rfl rfl rfl ?_
     refine hK _ _ (Qb (kp3 rfl rfl rfl) ?_)
     refine QG ?_ -- 1
     refine Qe fun K hK => QD (cs := [_]) rfl rfl rfl rfl (Qa rfl (QD (cs := [_, _, _, _]) rfl rfl rfl rfl (QC (QcP (s := Qps l u p) hw hl) rfl rfl (.inr rfl) (Yb rfl ?_))))
     refine hK _ _ (Qb (kp3 rfl rfl rfl) ?_)
     refine Qw rfl (fun h5 => ?_) (fun h5 => ?_)
     ·try rw [h5]
      try simp only [qa, qb, qc, qd, qe, List.length_map] at h5
      refine Qe fun K hK => Qa rfl (Qa rfl ?_)
      refine hK _ _ (Qb (kp2 rfl rfl) ?_)
      refine Qu (Qj ?_)
      rw [Ql3 h5]
      exact QT rfl rfl ⟨rfl, rfl⟩
     ·try rw [h5]
      try simp only [qa, qb, qc, qd, qe, List.length_map] at h5
      refine Qv (Qd (kp2 rfl rfl) (Qe fun K hK => Qa rfl (Qd5 (ds0 := [2, 1]) rfl rfl (fun _ h => ⟨QlB, h⟩) rfl (.inl rfl) (by simp) (by simp; omega) (by simp; omega) rfl rfl (QO (ds0 := [3, 2, 1]) (cs := [_, _, _, _]) rfl rfl rfl rfl rfl rfl (QH rfl rfl (QbR (ds0 := [1]) rfl rfl (by simp [D.ids, D.sid]) ⟨_, rfl, rfl, rfl, rfl, rfl⟩ rfl rfl (by simp) rfl rfl (by simp; omega) (by simp; omega) rfl rfl (Qa rfl (Qa rfl ?_))))))))
      refine hK _ _ (Qb (kp2 rfl rfl) ?_)
      refine Qu ?_
      rw [Qlh (by omega) (by omega) (by omega) (by omega) h5]
      exact Qf4 rfl rfl rfl (by simp) (by simp [Zz, Qft, Qps]; rfl) rfl rfl
theorem QcN {w : Qp} (hw : WSm w) {l : List QL} (hl : l.length <= 10000000) {inc : List TermT} (hi : inc.length <= 1000000) : Ok Tryz.prog 30 [Z8 w, Zz l, ZK inc] (.bool (Qdd w l inc)) := by
 refine Ok.ofT ZX Tryz.func30 Qsh (Nat.le_of_ble_eq_true rfl) ?_
 show TW _ _ tf30.body _ _
 refine Qe fun K hK => Zw rfl rfl rfl (Qa rfl ?_)
 refine hK _ _ (Qb (kp3 rfl rfl rfl) ?_)
 refine QG ?_ -- 0
 refine Qe fun K hK => Qa rfl ?_
 refine hK _ _ (Qb (kp4 rfl rfl rfl rfl) ?_)
 refine QE ?_
 refine Zv (ι := Nat) (fun i => ⟨[(1, Zz l), (2, ZK inc), (3, .ref 3 0 0), (7, .int .i64 i)], [(3, ⟨[[.sl ((w).map YS)]], 1, 26, true⟩)]⟩) (fun i => i <= inc.length /\ (inc.take i).all (fun t => decide (QaF (Q9 w l t.u) t.m = 2)) = true) (fun i => inc.length - i) 0 ?_ ?_ ?_
 ·exact Zc (l := [1, 2, 3, 7]) (lH := [3]) (kp4 rfl rfl rfl rfl) (Qf rfl Qr) rfl rfl rfl
 ·exact ⟨Nat.zero_le _, by simp⟩
 intro i hI
 try dsimp only
 refine QG ?_ -- 1
 refine Qe fun K hK => Qa rfl (Qa rfl ?_)
 first | refine QU rfl Q1 ?_ | refine QU rfl rfl ?_
 refine Yj rfl rfl ?_
 refine hK _ _ (Qb (kp5 rfl rfl rfl rfl rfl) ?_)
 refine Qw rfl (fun h1 => ?_) (fun h1 => ?_)
 ·try rw [h1]
  try simp only [qa, qb, qc, qd, qe, List.length_map] at h1
  refine Qv (Qd (kp4 rfl rfl rfl rfl) ?_)
  refine QG ?_ -- 2
  refine QE (Qe fun K hK => QO (ds0 := [7, 1, 0]) (cs := [_]) rfl rfl rfl rfl rfl rfl (Qa rfl (Qa rfl (Qa rfl (QJ rfl rfl rfl (by omega) (QS (by omega)) rfl (Q7 rfl rfl (QQ (ds0 := [7, 1, 0]) rfl rfl rfl rfl rfl (QY (ds0 := [1, 0]) (ZO hw hl) rfl rfl (.inr rfl) rfl rfl (Qa rfl (Qa rfl ?_))))))))))
  refine QJ rfl rfl rfl (by omega) (QS (by omega)) rfl (Q7 rfl rfl (QQ (ds0 := [1, 0]) rfl rfl rfl rfl rfl (QY (ds0 := [0]) (XQ) rfl rfl (.inr rfl) rfl rfl (X5 rfl rfl ?_))))
  refine hK _ _ (Qb (kp5 rfl rfl rfl rfl rfl) ?_)
  refine Qw rfl (fun h2 => ?_) (fun h2 => ?_)
  ·try rw [h2]
   try simp only [qa, qb, qc, qd, qe, List.length_map] at h2
   refine Qe fun K hK => Qa rfl ?_
   refine hK _ _ (Qb (kp1 rfl) ?_)
   refine Qu (Qt (Qj (Q4 (Qt (Qj (Qq rfl ?_))))))
   rw [Qdd, XO (i := i) (by omega) (by simpa using h2)]
  ·try rw [h2]
   try simp only [qa, qb, qc, qd, qe, List.length_map] at h2
   refine Qv (Qi (Qd (kp4 rfl rfl rfl rfl) (QP fun K hK => Qa rfl (Q6 rfl rfl (by first | exact Qs (by omega) (by omega) | rfl) (Qa rfl (hK _ ?_))))))
   refine Ql (i + 1) ?_ ?_ ?_
   ·exact Zc (l := [1, 2, 3, 7]) (lH := [3]) (kp4 rfl rfl rfl rfl) (Qf rfl Qr) rfl rfl rfl
   ·exact ⟨by omega, Z9 (by omega) hI.2 (by simpa using h2)⟩
   ·first | omega | (simp only; omega) | (dsimp only; omega)
 ·try rw [h1]
  try simp only [qa, qb, qc, qd, qe, List.length_map] at h1
  refine Zo (QN (QB (QI (Qd (Q2) (Qe fun K hK => Qa rfl ?_)))))
  refine hK _ _ (Qb (kp1 rfl) ?_)
  refine Qu (Qq rfl ?_)
  rw [Qdd, XD (i := i) (by omega) hI.2]
theorem QcO {w : Qp} (hw : WSm w) {l : List QL} (hl : l.length <= 10000000) {inc : List TermT} (hi : inc.length <= 1000000) : Ok Tryz.prog 100 [Z8 w, Zz l, ZK inc] (.int .i64 (QfW w l inc)) := by
 refine Ok.ofT ZX Tryz.func100 Qrm (Nat.le_of_ble_eq_true rfl) ?_
 show TW _ _ tf100.body _ _
 refine Qe fun K hK => Zw rfl rfl rfl (Qa rfl ?_)
 refine hK _ _ (Qb (kp3 rfl rfl rfl) ?_)
 refine Qe fun K hK => Qa rfl ?_
 refine hK _ _ (Qb (kp4 rfl rfl rfl rfl) ?_)
 refine QG ?_ -- 0
 refine Qe fun K hK => Qa rfl ?_
 refine hK _ _ (Qb (kp5 rfl rfl rfl rfl rfl) ?_)
 refine QE ?_
 refine Zv (ι := Nat × Int) (fun ⟨i, a⟩ => ⟨[(1, Zz l), (2, ZK inc), (3, .ref 3 0 0), (7, .int .i64 a), (8, .int .i64 i)], [(3, ⟨[[.sl ((w).map YS)]], 1, 26, true⟩)]⟩) (fun ⟨i, a⟩ => i <= inc.length /\ Xr (Q9 w l) inc (-1) = Xr (Q9 w l) (inc.drop i) a) (fun ⟨i, a⟩ => inc.length - i) (0, -1) ?_ ?_ ?_
 ·exact Zc (l := [1, 2, 3, 7, 8]) (lH := [3]) (kp5 rfl rfl rfl rfl rfl) (Qf rfl Qr) rfl rfl rfl
 ·exact ⟨Nat.zero_le _, by simp⟩
 intro ⟨i, a⟩ hI
 dsimp only at hI
 try dsimp only
 refine QG ?_ -- 1
 refine Qe fun K hK => Qa rfl (Qa rfl ?_)
 first | refine QU rfl Q1 ?_ | refine QU rfl rfl ?_
 refine Yj rfl rfl ?_
 refine hK _ _ (Qb (kp6 rfl rfl rfl rfl rfl rfl) ?_)
 refine Qw rfl (fun h1 => ?_) (fun h1 => ?_)
 ·try rw [h1]
  try simp only [qa, qb, qc, qd, qe, List.length_map] at h1
  refine Qv (Qd (kp5 rfl rfl rfl rfl rfl) ?_)
  refine QG ?_ -- 2
  refine QE (Qe fun K hK => QO (ds0 := [6, 0]) (cs := [_]) rfl rfl rfl rfl rfl rfl (Qa rfl (Qa rfl (Qa rfl (QJ rfl rfl rfl (by omega) (QS (by omega)) rfl (Q7 rfl rfl (QQ (ds0 := [6, 0]) rfl rfl rfl rfl rfl (QY (ds0 := [0]) (ZO hw hl) rfl rfl (.inr rfl) rfl rfl (Qa rfl (Qa rfl ?_))))))))))
  refine QJ rfl rfl rfl (by omega) (QS (by omega)) rfl (Q7 rfl rfl (QQ (ds0 := [0]) rfl rfl rfl rfl rfl (QY (ds0 := []) (XQ) rfl rfl (.inr rfl) rfl rfl ?_)))
  refine hK _ _ (Qb (kp6 rfl rfl rfl rfl rfl rfl) ?_)
  refine QE (Qe fun K hK => Zy rfl rfl (Qa rfl ?_))
  refine hK _ _ (Qb (kp7 rfl rfl rfl rfl rfl rfl rfl) ?_)
  refine Qw rfl (fun h2 => ?_) (fun h2 => ?_)
  ·try rw [h2]
   try simp only [qa, qb, qc, qd, qe, List.length_map] at h2
   refine Qe fun K hK => Qa rfl ?_
   refine hK _ _ (Qb (kp1 rfl) ?_)
   refine Qu (Qt (Qt (Qj (Q4 (Qt (Qj (QA rfl ?_)))))))
   rw [QfW, hI.2, Qbw (by omega), if_pos h2]
  ·try rw [h2]
   try simp only [qa, qb, qc, qd, qe, List.length_map] at h2
   refine Qe fun K hK => Zy rfl rfl (Qa rfl ?_)
   refine hK _ _ (Qb (kp6 rfl rfl rfl rfl rfl rfl) ?_)
   refine Qw rfl (fun h3 => ?_) (fun h3 => ?_)
   ·try rw [h3]
    try simp only [qa, qb, qc, qd, qe, List.length_map] at h3
    refine QG ?_ -- 3
    refine Qe fun K hK => Qa rfl (Qfg rfl rfl ?_)
    refine hK _ _ (Qb (kp5 rfl rfl rfl rfl rfl) ?_)
    refine Qw rfl (fun h4 => ?_) (fun h4 => ?_)
    ·try rw [h4]
     try simp only [qa, qb, qc, qd, qe, List.length_map] at h4
     refine Qe fun K hK => Qa rfl ?_
     refine hK _ _ (Qb (kp1 rfl) ?_)
     refine Qu (Qj (Qt (Qt (Qj (Q4 (Qt (Qj (QA rfl ?_))))))))
     rw [QfW, hI.2, Qbw (by omega), if_neg h2, if_pos h3, if_pos h4]
    ·try rw [h4]
     try simp only [qa, qb, qc, qd, qe, List.length_map] at h4
     refine Qv (Qd (kp4 rfl rfl rfl rfl) (QP fun K hK => Qa rfl (Qa rfl (QJ rfl rfl rfl (by omega) (QS (by omega)) rfl (Q7 rfl rfl (Qz rfl rfl rfl (Qa rfl (hK _ ?_))))))))
     refine Qi (Qi (Qd (kp5 rfl rfl rfl rfl rfl) (QP fun K hK => Qa rfl (Q6 rfl rfl (by first | exact Qs (by omega) (by omega) | rfl) (Qa rfl (hK _ ?_))))))
     refine Ql (i + 1, (inc[i]'(by omega)).u) ?_ ?_ ?_
     ·exact Zc (l := [1, 2, 3, 7, 8]) (lH := [3]) (kp5 rfl rfl rfl rfl rfl) (Qf rfl Qr) rfl rfl rfl
     ·exact ⟨by omega, by rw [hI.2, Qbw (by omega), if_neg h2, if_pos h3, if_neg h4]⟩
     ·show inc.length - (i + 1) < inc.length - i; omega
   ·try rw [h3]
    try simp only [qa, qb, qc, qd, qe, List.length_map] at h3
    refine Qv (Qi (Qi (Qd (kp5 rfl rfl rfl rfl rfl) (QP fun K hK => Qa rfl (Q6 rfl rfl (by first | exact Qs (by omega) (by omega) | rfl) (Qa rfl (hK _ ?_)))))))
    refine Ql (i + 1, a) ?_ ?_ ?_
    ·exact Zc (l := [1, 2, 3, 7, 8]) (lH := [3]) (kp5 rfl rfl rfl rfl rfl) (Qf rfl Qr) rfl rfl rfl
    ·exact ⟨by omega, by rw [hI.2, Qbw (by omega), if_neg h2, if_neg h3]⟩
    ·show inc.length - (i + 1) < inc.length - i; omega
 ·try rw [h1]
  try simp only [qa, qb, qc, qd, qe, List.length_map] at h1
  refine Zo (QN (QB (QI (Qd (kp1 rfl) (Qe fun K hK => Qa rfl (Qa rfl ?_))))))
  refine hK _ _ (Qb (kp1 rfl) ?_)
  refine Qu (QA rfl ?_)
  rw [QfW, hI.2, QiS (by omega)]
theorem QcM {w : Qp} (hw : WSm w) {db : List (List TermT)} (hd : db.length <= 100000000) (hi : ∀ x ∈ db, x.length <= 1000000) {l : List QL} (hl : l.length <= 10000000) : Ok Tryz.prog 75 [Z8 w, dDb db, Zz l] (.tup [.int .i64 (Yn w db l).1, .int .i64 (Yn w db l).2]) := by
 refine Ok.ofT ZX Tryz.func75 QsQ (Nat.le_of_ble_eq_true rfl) ?_
 show TW _ _ tf75.body _ _
 refine Qe fun K hK => Zw rfl rfl rfl (Qa rfl (Qa rfl ?_))
 refine hK _ _ (Qb (kp3 rfl rfl rfl) ?_)
 refine QG ?_ -- 0
 refine Qe fun K hK => Qa rfl ?_
 refine hK _ _ (Qb (kp4 rfl rfl rfl rfl) ?_)
 refine QE ?_
 refine Zv (ι := Nat) (fun i => ⟨[(1, dDb db), (2, Zz l), (3, .ref 3 0 0), (8, .int .i64 i)], [(3, ⟨[[.sl ((w).map YS)]], 1, 26, true⟩)]⟩) (fun i => i <= db.length /\ Yn w db l = Y7 w l i (db.drop i)) (fun i => db.length - i) 0 ?_ ?_ ?_
 ·exact Zc (l := [1, 2, 3, 8]) (lH := [3]) (kp4 rfl rfl rfl rfl) (Qf rfl Qr) rfl rfl rfl
 ·exact ⟨Nat.zero_le _, rfl⟩
 intro i hI
 try dsimp only
 refine QG ?_ -- 1
 refine Qe fun K hK => Qa rfl (Qa rfl ?_)
 first | refine QU rfl Q1 ?_ | refine QU rfl rfl ?_
 refine Yj rfl rfl ?_
 refine hK _ _ (Qb (kp5 rfl rfl rfl rfl rfl) ?_)
 refine Qw rfl (fun h1 => ?_) (fun h1 => ?_)
 ·try rw [h1]
  try simp only [qa, qb, qc, qd, qe, List.length_map] at h1
  refine Qv (Qd (kp4 rfl rfl rfl rfl) ?_)
  refine QG ?_ -- 2
  refine QE ?_
  refine QG ?_ -- 3
  refine Qe fun K hK => QO (ds0 := [0]) (cs := [_]) rfl rfl rfl rfl rfl rfl (Qa rfl (Qa rfl (Qa rfl (QJ rfl rfl rfl (by omega) (QS (by omega)) rfl (QQ (ds0 := [0]) rfl rfl rfl rfl rfl (QY (ds0 := []) (QcN hw hl (hi _ (List.getElem_mem (by omega)))) rfl rfl (.inr rfl) rfl rfl ?_))))))
  refine hK _ _ (Qb (kp5 rfl rfl rfl rfl rfl) ?_)
  refine Qw rfl (fun h2 => ?_) (fun h2 => ?_)
  ·try rw [h2]
   try simp only [qa, qb, qc, qd, qe, List.length_map] at h2
   refine Qe fun K hK => Qa rfl (Qa rfl (Qa rfl ?_))
   refine hK _ _ (Qb (kp2 rfl rfl) ?_)
   refine Qu (Qj (Qt (Qj (Q4 (Qt (Qj ?_))))))
   rw [hI.2, QjX (by omega), if_pos h2]
   exact QT rfl rfl ⟨rfl, rfl⟩
  ·try rw [h2]
   try simp only [qa, qb, qc, qd, qe, List.length_map] at h2
   refine Qv (Qd (kp4 rfl rfl rfl rfl) (Qe fun K hK => QO (ds0 := [1, 0]) (cs := [_]) rfl rfl rfl rfl rfl rfl (Qa rfl (Qa rfl (Qa rfl (QJ rfl rfl rfl (by omega) (QS (by omega)) rfl (QQ (ds0 := [1, 0]) rfl rfl rfl rfl rfl (QY (ds0 := [0]) (QcO hw hl (hi _ (List.getElem_mem (by omega)))) rfl rfl (.inr rfl) rfl rfl (Qa rfl ?_)))))))))
   refine hK _ _ (Qb (kp5 rfl rfl rfl rfl rfl) ?_)
   refine Qe fun K hK => Qa rfl (Qfg rfl rfl ?_)
   refine hK _ _ (Qb (kp6 rfl rfl rfl rfl rfl rfl) ?_)
   refine Qw rfl (fun h3 => ?_) (fun h3 => ?_)
   ·try rw [h3]
    try simp only [qa, qb, qc, qd, qe, List.length_map] at h3
    refine Qe fun K hK => Qa rfl (Qa rfl (Qa rfl (Qa rfl ?_)))
    refine hK _ _ (Qb (kp2 rfl rfl) ?_)
    refine Qu (Qt (Qj (Q4 (Qt (Qj ?_)))))
    rw [hI.2, QjX (by omega), if_neg (by rw [h2]; simp), if_pos h3]
    exact QT rfl rfl ⟨rfl, rfl⟩
   ·try rw [h3]
    try simp only [qa, qb, qc, qd, qe, List.length_map] at h3
    refine Qv (Qi (Qd (kp4 rfl rfl rfl rfl) (QP fun K hK => Qa rfl (Q6 rfl rfl (by first | exact Qs (by omega) (by omega) | rfl) (Qa rfl (hK _ ?_))))))
    refine Ql (i + 1) ?_ ?_ ?_
    ·exact Zc (l := [1, 2, 3, 8]) (lH := [3]) (kp4 rfl rfl rfl rfl) (Qf rfl Qr) rfl rfl rfl
    ·exact ⟨by omega, by rw [hI.2, QjX (by omega), if_neg (by rw [h2]; simp), if_neg h3]⟩
    ·first | omega | (simp only; omega) | (dsimp only; omega)
 ·try rw [h1]
  try simp only [qa, qb, qc, qd, qe, List.length_map] at h1
  refine Zo (QN (QB (QI (Qd (Q2) (Qe fun K hK => Qa rfl (Qa rfl ?_))))))
  refine hK _ _ (Qb (kp2 rfl rfl) ?_)
  refine Qu ?_
  rw [hI.2, Qoo (by omega)]
  exact QT rfl rfl ⟨rfl, rfl⟩
end Go.Proofs
namespace M25
open Go Go.Abs M3
def QnC (w : Qp) (i : Nat) : List (List TermT) := ((QdH w).take i).map RowT.t
theorem Qhk {w : Qp} {i : Nat} (h : i < (QdH w).length) : QnC w (i + 1) = QnC w i ++ [(QdH w)[i].t] := by
 rw [QnC, List.take_succ_eq_append_getElem h, List.map_append]; rfl
theorem QoL {w : Qp} {i : Nat} (h : (QdH w).length <= i) : QnC w i = mDB w := by rw [QnC, List.take_of_length_le h]; rfl
theorem QnD (w : Qp) (i : Nat) : (QnC w i).length <= (QdH w).length := by rw [QnC, List.length_map]; exact List.length_take_le' ..
theorem Qny {w : Qp} (hw : WSm w) (h0 : 0 < w.length) : (QdH w).length <= 1600000 := by
 have := (Qck hw h0 w.length (Nat.le_refl _)).2
 have := hw.len
 rw [QdH]; omega
theorem Qm6 {w : Qp} {db : List (List TermT)} : ∀ (n : Nat) (out : List QL), (QeQ w db n out).1.length <= out.length + n
 | 0, out => Nat.le_refl _
 | n + 1, out => by
  rw [QeQ]
  split
  ·simp
  ·refine Nat.le_trans (Qm6 n _) ?_
   have := Qgx w out ⟨(Yn w db out).2, QdL w (db.getD (Yn w db out).1.toNat []) (Yn w db out).2⟩ (Yn w db out).1
   omega
theorem Qjj {v : Int} (h : (v + 1).toNat <= 61) : IntKind.i64.wrap ((1 : Int) * 2 ^ min (v + 1).toNat IntKind.i64.bits) = 2 ^ (v + 1).toNat := by
 rw [show min (v + 1).toNat IntKind.i64.bits = (v + 1).toNat from by simp only [IntKind.bits]; omega, Int.one_mul]
 have := QhS (i := (v + 1).toNat) (by omega)
 exact Qs (by omega) (by omega)
theorem Qnb {α : Type} {f : α -> List D} {l : List α} {k : Int} (h : k = (l.length : Int)) : ((l.map f).take k.toNat).drop (((0 : Nat) : Int)).toNat = l.map f := by
 subst h; rw [Int.toNat_natCast, List.take_of_length_le (by simp)]; rfl
end M25
namespace Go.Proofs
open Go Go.Abs M3 M25
set_option linter.unusedVariables false
set_option linter.unusedSimpArgs false
theorem Qc4 {w : Qp} (hw : WSm w) {db : List (List TermT)} (hd : db.length <= 100000000) (hi : ∀ x ∈ db, x.length <= 1000000) {l : List QL} (hl : l.length <= 1000000) : Ok Tryz.prog 44 [Z8 w, dDb db, Zz l] (.tup [Zz (QfY w db l).1, .int .i64 (QfY w db l).2]) := by
 refine Ok.ofT ZX Tryz.func44 Qsr (Nat.le_of_ble_eq_true rfl) ?_
 show TW _ _ tf44.body _ _
 have hn := hw.len
 refine Qe fun K hK => Zw rfl rfl rfl (Qa rfl (Qa rfl ?_))
 refine hK _ _ (Qb (kp3 rfl rfl rfl) ?_)
 refine Qe fun K hK => Qa rfl (QoD rfl rfl (fun _ h => Qne QlB h) rfl (.inl rfl) (by simp) (by simp; omega) (by simp; omega) (Qa rfl ?_))
 refine hK _ _ (Qb (kp3 rfl rfl rfl) ?_)
 refine QG ?_ -- 0
 refine Qe fun K hK => Qa rfl ?_
 refine hK _ _ (Qb (kp4 rfl rfl rfl rfl) ?_)
 refine QE ?_
 refine Zv (ι := Nat × List QL) (fun ⟨n, out⟩ => ⟨[(1, dDb db), (3, .ref 3 0 0), (8, Zz out), (9, .int .i64 n)], [(3, ⟨[[.sl ((w).map YS)]], 1, 26, true⟩)]⟩) (fun ⟨n, out⟩ => n <= w.length * 18 + 1 /\ out.length <= l.length + n /\ QfY w db l = QeQ w db (w.length * 18 + 1 - n) out) (fun ⟨n, out⟩ => w.length * 18 + 1 - n) (0, l) ?_ ?_ ?_
 ·exact le_trans (QkB (l := [1, 3, 9]) (lH := [3]) 13 8 (kp3 rfl rfl rfl) (Qf rfl Qr) rfl rfl rfl (by simp) rfl rfl rfl rfl) (Zc (l := [1, 3, 8, 9]) (lH := [3]) (kp4 rfl rfl rfl rfl) (Qf rfl Qr) rfl rfl rfl)
 ·exact ⟨Nat.zero_le _, Nat.le_refl _, rfl⟩
 intro ⟨n, out⟩ hI
 obtain ⟨hI1, hI2, hI3⟩ := hI
 try dsimp only at hI1 hI2 hI3
 try dsimp only
 refine QG ?_ -- 1
 refine Qe fun K hK => Qa rfl (Qh rfl rfl (Qz rfl rfl rfl ?_))
 first | refine QU rfl Q1 ?_ | refine QU rfl rfl ?_
 refine Qpa rfl rfl (by first | exact Qs (by omega) (by omega) | rfl) (Qo9 rfl rfl ?_)
 refine hK _ _ (Qb (kp5 rfl rfl rfl rfl rfl) ?_)
 refine Qw rfl (fun h1 => ?_) (fun h1 => ?_)
 ·try rw [h1]
  try simp only [qa, qb, qc, qd, qe, List.length_map] at h1
  refine Qv (Qd (kp4 rfl rfl rfl rfl) ?_)
  refine QG ?_ -- 2
  refine QE (Qe fun K hK => QD (cs := [_]) rfl rfl rfl rfl (Qa rfl (Qa rfl (QC (QcM hw hd hi (by omega)) rfl rfl (.inl rfl) (Qa rfl (Q3 rfl rfl (Q3 rfl rfl (Qa rfl (Qa rfl ?_)))))))))
  refine hK _ _ (Qb (kp6 rfl rfl rfl rfl rfl rfl) ?_)
  refine QG ?_ -- 3
  refine Qe fun K hK => Qa rfl (Yj rfl rfl ?_)
  refine hK _ _ (Qb (kp7 rfl rfl rfl rfl rfl rfl rfl) ?_)
  refine Qw rfl (fun h2 => ?_) (fun h2 => ?_)
  ·try rw [h2]
   try simp only [qa, qb, qc, qd, qe, List.length_map] at h2
   try have hu := Qi3 h2
   refine Qe fun K hK => Qa rfl (Qa rfl (Qa rfl (Qa rfl ?_)))
   refine hK _ _ (Qb (kp2 rfl rfl) ?_)
   refine Qu (Qj (Qt (Qj (Q4 (Qt (Qj ?_))))))
   rw [hI3, QlC h2 (by omega)]
   exact QT rfl rfl ⟨rfl, rfl⟩
  ·try rw [h2]
   try simp only [qa, qb, qc, qd, qe, List.length_map] at h2
   try have hu := Qi3 h2
   refine Qv (Qd (kp6 rfl rfl rfl rfl rfl rfl) (QP fun K hK => QO (ds0 := [4, 3, 2, 1, 0]) (cs := [_]) rfl rfl rfl rfl rfl rfl (Qa rfl (Qa rfl (QO (ds0 := [7, 6, 4, 3, 2, 1, 0]) (cs := [_]) rfl rfl rfl rfl rfl rfl (Qa rfl (Qa rfl (QJ rfl rfl rfl (by omega) (ZM (by omega) (by omega)) rfl (QQ (ds0 := [7, 6, 4, 3, 2, 1, 0]) rfl rfl rfl rfl rfl (Qa rfl ?_))))))))))
   refine QY (ds0 := [6, 4, 3, 2, 1, 0]) (YY hw (hi _ (List.getElem_mem (by omega)))) rfl rfl (.inr rfl) rfl rfl (QR rfl rfl (Qa rfl (QY (ds0 := [3, 2, 1, 0]) (QbM (t := ⟨(Yn w db out).2, QdL w (db[(Yn w db out).1.toNat]'(by omega)) (Yn w db out).2⟩) hw (by omega)) rfl rfl (.inl rfl) rfl rfl (Qa rfl (Q3 rfl rfl (Q3 rfl rfl (Qa rfl (hK _ ?_))))))))
   refine Qi (Qd (kp4 rfl rfl rfl rfl) (QP fun K hK => Qa rfl (Q6 rfl rfl (by first | exact Qs (by omega) (by omega) | rfl) (Qa rfl (hK _ ?_)))))
   refine Ql (n + 1, (ZJ w out ⟨(Yn w db out).2, QdL w (db[(Yn w db out).1.toNat]'(by omega)) (Yn w db out).2⟩ (Yn w db out).1).getD []) ?_ ?_ ?_
   ·exact Zc (l := [1, 3, 8, 9]) (lH := [3]) (kp4 rfl rfl rfl rfl) (Qf rfl Qr) rfl rfl rfl
   ·exact ⟨by omega, by have := Qgx w out ⟨(Yn w db out).2, QdL w (db[(Yn w db out).1.toNat]'(by omega)) (Yn w db out).2⟩ (Yn w db out).1; simp only; omega, by rw [hI3, Qom h2 (by omega) (by omega), show w.length * 18 + 1 - (n + 1) = w.length * 18 + 1 - n - 1 by omega]⟩
   ·show w.length * 18 + 1 - (n + 1) < w.length * 18 + 1 - n; omega
 ·try rw [h1]
  try simp only [qa, qb, qc, qd, qe, List.length_map] at h1
  refine Zo (QN (QB (QI (Qd (kp1 rfl) (Qe fun K hK => Qa rfl (Qa rfl (Qa rfl ?_)))))))
  refine hK _ _ (Qb (kp2 rfl rfl) ?_)
  refine Qu ?_
  rw [hI3, show w.length * 18 + 1 - n = 0 by omega]
  exact QT rfl rfl ⟨rfl, rfl⟩
theorem Qd7 {w : Qp} (hw : WSm w) (h0 : 0 < w.length) : Ok Tryz.prog 12 [Z8 w, ZH []] (dDb (mDB w)) := by
 refine Ok.ofT ZX Tryz.func12 Qr8 (Nat.le_of_ble_eq_true rfl) ?_
 show TW _ _ tf12.body _ _
 have hn := Qny hw h0
 refine Qe fun K hK => Zw rfl rfl rfl (Qa rfl ?_)
 refine hK _ _ (Qb (kp2 rfl rfl) ?_)
 refine Qe fun K hK => QD (cs := [_]) rfl rfl rfl rfl (QC (Qc3 hw) rfl rfl (.inl rfl) (Qa rfl ?_))
 refine hK _ _ (Qb (kp3 rfl rfl rfl) ?_)
 refine Qe fun K hK => Qa rfl ?_
 refine hK _ _ (Qb (kp4 rfl rfl rfl rfl) ?_)
 refine QG ?_ -- 0
 refine Qe fun K hK => Qa rfl ?_
 refine hK _ _ (Qb (kp5 rfl rfl rfl rfl rfl) ?_)
 refine QE ?_
 refine Zv (ι := Nat) (fun i => ⟨[(1, ZH []), (2, .ref 2 0 0), (5, Qqp (QdH w)), (6, .osl 6 (QnC w i).length), (7, .int .i64 i)], [(2, ⟨[[.sl ((w).map YS)]], 1, 26, true⟩), (6, ⟨(QnC w i).map (fun t => [ZK t]), 1, 41, true⟩)]⟩) (fun i => i <= (QdH w).length) (fun i => (QdH w).length - i) 0 ?_ ?_ ?_
 ·exact le_trans (Yw 6 6 1 41 rfl rfl) (Zc (l := [1, 2, 5, 6, 7]) (lH := [2, 6]) (kp5 rfl rfl rfl rfl rfl) (Qf rfl (Qf rfl Qr)) rfl rfl rfl)
 ·exact Nat.zero_le _
 intro i hI
 have hlen := QnD w i
 try dsimp only
 refine QG ?_ -- 1
 refine Qe fun K hK => Qa rfl (Qa rfl ?_)
 first | refine QU rfl Q1 ?_ | refine QU rfl rfl ?_
 refine Yj rfl rfl ?_
 refine hK _ _ (Qb (kp6 rfl rfl rfl rfl rfl rfl) ?_)
 refine Qw rfl (fun h1 => ?_) (fun h1 => ?_)
 ·try rw [h1]
  try simp only [qa, qb, qc, qd, qe, List.length_map, List.length_nil] at h1
  refine Qv (Qd (kp5 rfl rfl rfl rfl rfl) ?_)
  refine QG ?_ -- 2
  refine QE (QP fun K hK => Qa rfl (Qa rfl (Qa rfl (QJ rfl rfl rfl (by omega) (QS (by omega)) rfl (Q7 rfl rfl (Qz rfl rfl rfl (QH rfl rfl (XM rfl rfl (fun _ h => Xv rfl rfl rfl h) rfl (by simp) rfl rfl rfl (by simp; omega) (by simp; omega) (Qa rfl (hK _ ?_))))))))))
  refine Qi (Qd (kp5 rfl rfl rfl rfl rfl) (QP fun K hK => Qa rfl (Q6 rfl rfl (by first | exact Qs (by omega) (by omega) | rfl) (Qa rfl (hK _ ?_)))))
  refine Ql (i + 1) ?_ ?_ ?_
  ·exact Zc (l := [1, 2, 5, 6, 7]) (lH := [2, 6]) (kp5 rfl rfl rfl rfl rfl) (Qf rfl (Qf rfl Qr)) (by first | (rw [Qhk (by omega)]; done) | (rw [Qhk (by omega)]; rfl) | (rw [Qhk (by omega), List.length_append]; rfl) | (simp [Qhk (by omega)]; done) | (simp [Qhk (by omega)]; omega) | rfl) (by first | (rw [Qhk (by omega)]; done) | (rw [Qhk (by omega)]; rfl) | (rw [Qhk (by omega), List.map_append]; rfl) | (simp [Qhk (by omega)]; done) | rfl) rfl
  ·omega
  ·first | omega | (simp only; omega) | (dsimp only; omega)
 ·try rw [h1]
  try simp only [qa, qb, qc, qd, qe, List.length_map, List.length_nil] at h1
  refine Zo (QN (QB (QI (Qd (kp3 rfl rfl rfl) ?_))))
  refine QG ?_ -- 3
  refine Qe fun K hK => Qa rfl ?_
  refine hK _ _ (Qb (kp4 rfl rfl rfl rfl) ?_)
  refine QE ?_
  refine Zv (ι := Unit) (fun _ => ⟨[(1, ZH []), (2, .ref 2 0 0), (6, .osl 6 (mDB w).length), (8, .int .i64 0)], [(2, ⟨[[.sl ((w).map YS)]], 1, 26, true⟩), (6, ⟨(mDB w).map (fun t => [ZK t]), 1, 41, true⟩)]⟩) (fun _ => True) (fun _ => 0) () ?_ ?_ ?_
  ·exact Zc (l := [1, 2, 6, 8]) (lH := [2, 6]) (kp4 rfl rfl rfl rfl) (Qf rfl (Qf rfl Qr)) (by rw [QoL (by omega)]) (by rw [QoL (by omega)]) rfl
  ·trivial
  intro _ hJ
  try dsimp only
  refine QG ?_ -- 4
  refine Qe fun K hK => Qa rfl (Qa rfl ?_)
  first | refine QU rfl Q1 ?_ | refine QU rfl rfl ?_
  refine Yj rfl rfl (Qa rfl ?_)
  refine Qy (g := 31) rfl (fun h2 => ?_) (fun h2 => ?_)
  ·try rw [h2]
   try simp only [qa, qb, qc, qd, qe, List.length_map, List.length_nil] at h2
   exact absurd h2 (by decide)
  ·try rw [h2]
   try simp only [qa, qb, qc, qd, qe, List.length_map, List.length_nil] at h2
   refine Qo rfl (Qo rfl (Qo rfl (Qo rfl (Qo rfl (Qk rfl rfl ?_)))))
   refine hK _ _ (Qb (kp5 rfl rfl rfl rfl rfl) ?_)
   refine ZY rfl (Zo (QN (QB (QI (Qd (kp1 rfl) (Qe fun K hK => Qa rfl (Qa rfl ?_)))))))
   refine hK _ _ (Qb (kp1 rfl) ?_)
   refine Qu ?_
   exact QcA rfl rfl rfl (by simp) (by rfl)
theorem Qlc {v : Int} (h0 : -1 <= v) (h1v : v <= 60) : Ok Tryz.prog 82 [.int .i64 v] (.int .i64 (2 ^ (v + 1).toNat)) := by
 refine Ok.ofT ZX Tryz.func82 QsX (Nat.le_of_ble_eq_true rfl) ?_
 show TW _ _ tf82.body _ _
 refine Qe fun K hK => Qa rfl ?_
 refine hK _ _ (Qb (kp1 rfl) ?_)
 refine Qe fun K hK => Qa rfl (Q6 rfl rfl (by first | exact Qs (by omega) (by omega) | rfl) (Qnu rfl rfl (by omega) (Qjj (by omega)) (Qa rfl ?_)))
 refine hK _ _ (Qb (kp1 rfl) ?_)
 refine Qu (QA rfl ?_)
 rfl
theorem Qld {w : Qp} (hw : WSm w) {u : Int} : Ok Tryz.prog 81 [Z8 w, .int .i64 u] (.bool (inW w u)) := by
 refine Ok.ofT ZX Tryz.func81 QsW (Nat.le_of_ble_eq_true rfl) ?_
 show TW _ _ tf81.body _ _
 refine Qe fun K hK => Zw rfl rfl rfl (Qa rfl ?_)
 refine hK _ _ (Qb (kp2 rfl rfl) ?_)
 refine Qe fun K hK => Qa rfl (Qfg rfl rfl (Qa rfl ?_))
 refine Qy (g := 7) rfl (fun h1 => ?_) (fun h1 => ?_)
 ·try rw [h1]
  try simp only [qa, qb, qc, qd, qe, List.length_map] at h1
  refine Qg rfl (Qa rfl (Qg rfl (Qh rfl rfl (Qg rfl (Qz rfl rfl rfl (Qg rfl ?_))))))
  first | refine QU rfl Q1 ?_ | refine QU rfl rfl ?_
  refine Qg rfl (Yj rfl rfl (Qk rfl rfl (Qa rfl ?_)))
  refine hK _ _ (Qb (kp1 rfl) ?_)
  refine Qu (Qq rfl ?_)
  first | rfl | (rw [Qdc (by omega)]; done) | (rw [inW, decide_eq_true h1, Bool.true_and])
 ·try rw [h1]
  try simp only [qa, qb, qc, qd, qe, List.length_map] at h1
  refine Qo rfl (Qo rfl (Qo rfl (Qo rfl (Qo rfl (Qk rfl rfl (Qa rfl ?_))))))
  refine hK _ _ (Qb (kp1 rfl) ?_)
  refine Qu (Qq rfl ?_)
  first | rfl | (rw [Qdc (by omega)]; done) | (rw [inW, decide_eq_true h1, Bool.true_and])
theorem Qam {w : Qp} (hw : WSm w) {u : Int} : Ok Tryz.prog 50 [Z8 w, .int .i64 u] (.int .i64 (YH w u)) := by
 refine Ok.ofT ZX Tryz.func50 Qsx (Nat.le_of_ble_eq_true rfl) ?_
 show TW _ _ tf50.body _ _
 refine Qe fun K hK => Zw rfl rfl rfl (Qa rfl ?_)
 refine hK _ _ (Qb (kp2 rfl rfl) ?_)
 refine QG ?_ -- 0
 refine Qe fun K hK => QD (cs := [_]) rfl rfl rfl rfl (Qa rfl (QC (Qld hw) rfl rfl (.inr rfl) (Yb rfl ?_)))
 refine hK _ _ (Qb (kp3 rfl rfl rfl) ?_)
 refine Qw rfl (fun h1 => ?_) (fun h1 => ?_)
 ·try rw [h1]
  try simp only [qa, qb, qc, qd, qe, List.length_map] at h1
  try have h1b := Qdb.1 h1
  refine Qe fun K hK => Qa rfl ?_
  refine hK _ _ (Qb (kp1 rfl) ?_)
  refine Qu (Qj (QA rfl ?_))
  rw [XS.2 h1]
 ·try rw [h1]
  try simp only [qa, qb, qc, qd, qe, List.length_map] at h1
  try have h1b := Qdb.1 h1
  refine Qv (Qd (kp2 rfl rfl) (Qe fun K hK => Qh rfl rfl (Qz rfl rfl rfl (Qa rfl (QJ rfl rfl rfl (by omega) (ZM (by omega) (by omega)) rfl (Q7 rfl rfl (Qz rfl rfl rfl ?_)))))))
  first | refine QU rfl Q1 ?_ | refine QU rfl rfl ?_
  refine QC (Qlc (by omega) (by have := hw.cs _ (List.getElem_mem (show u.toNat < w.length by omega)); omega)) rfl rfl (.inr rfl) (XW rfl rfl (Qji (by have := hw.cs _ (List.getElem_mem (show u.toNat < w.length by omega)); omega)) (Qa rfl ?_))
  refine hK _ _ (Qb (kp1 rfl) ?_)
  refine Qu (QA rfl ?_)
  rw [QhJ h1b.1 h1b.2, show min (w[u.toNat]'(by omega)).cs.length 16 = (w[u.toNat]'(by omega)).cs.length from Nat.min_eq_left (hw.cs _ (List.getElem_mem _)), Qnm]
theorem Qb1 {w : Qp} (hw : WSm w) {l : List QL} (hl : l.length <= 10000000) {u : Int} : Ok Tryz.prog 51 [Z8 w, Zz l, .int .i64 u] (.int .i64 (QaE w l u)) := by
 refine Ok.ofT ZX Tryz.func51 Qsy (Nat.le_of_ble_eq_true rfl) ?_
 show TW _ _ tf51.body _ _
 refine Qe fun K hK => Zw rfl rfl rfl (Qa rfl ?_)
 refine hK _ _ (Qb (kp3 rfl rfl rfl) ?_)
 refine QG ?_ -- 0
 refine Qe fun K hK => Qa rfl ?_
 first | refine QU rfl Q1 ?_ | refine QU rfl rfl ?_
 refine XW rfl rfl (by first | exact Qs (by omega) (by omega) | rfl) (Qa rfl ?_)
 refine hK _ _ (Qb (kp4 rfl rfl rfl rfl) ?_)
 refine QE ?_
 refine Zv (ι := Nat) (fun i => ⟨[(1, Zz l), (2, .int .i64 u), (3, .ref 3 0 0), (7, .int .i64 ((i : Int) - 1))], [(3, ⟨[[.sl ((w).map YS)]], 1, 26, true⟩)]⟩) (fun i => i <= l.length /\ QaE w l u = QaE w (l.take i) u) (fun i => i) l.length ?_ ?_ ?_
 ·exact Zc (l := [1, 2, 3, 7]) (lH := [3]) (kp4 rfl rfl rfl rfl) (Qf rfl Qr) rfl rfl rfl
 ·exact ⟨Nat.le_refl _, by rw [List.take_length]⟩
 intro i hI
 try dsimp only
 refine QG ?_ -- 1
 refine Qe fun K hK => Qa rfl (Qfg rfl rfl ?_)
 refine hK _ _ (Qb (kp5 rfl rfl rfl rfl rfl) ?_)
 refine Qw rfl (fun h1 => ?_) (fun h1 => ?_)
 ·try rw [h1]
  try simp only [qa, qb, qc, qd, qe, List.length_map] at h1
  refine Qv (Qd (kp4 rfl rfl rfl rfl) ?_)
  refine QG ?_ -- 2
  refine QE (Qe fun K hK => Qa rfl (Qa rfl (QJ rfl rfl rfl (by omega) (ZM (by omega) (by omega)) rfl (Q7 rfl rfl (Qz rfl rfl rfl (Qa rfl (Zy rfl rfl ?_)))))))
  refine hK _ _ (Qb (kp5 rfl rfl rfl rfl rfl) ?_)
  refine Qw rfl (fun h2 => ?_) (fun h2 => ?_)
  ·try rw [h2]
   try simp only [qa, qb, qc, qd, qe, List.length_map] at h2
   refine Qe fun K hK => Qa rfl (Qa rfl (QJ rfl rfl rfl (by omega) (ZM (by omega) (by omega)) rfl (Q7 rfl rfl (Qz rfl rfl rfl (Qa rfl ?_)))))
   refine hK _ _ (Qb (kp1 rfl) ?_)
   refine Qu (Qt (Qj (Q4 (Qt (Qj (QA rfl ?_))))))
   rw [hI.2, Qmx (k := ((i : Int) - 1).toNat) (by omega) (by omega) h2]
  ·try rw [h2]
   try simp only [qa, qb, qc, qd, qe, List.length_map] at h2
   refine Qv (Qi (Qd (kp4 rfl rfl rfl rfl) (QP fun K hK => Qa rfl (XW rfl rfl (by first | exact Qs (by omega) (by omega) | rfl) (Qa rfl (hK _ ?_))))))
   refine Ql (i - 1) ?_ ?_ ?_
   ·exact Zc (l := [1, 2, 3, 7]) (lH := [3]) (kp4 rfl rfl rfl rfl) (Qf rfl Qr) (by simp only [List.cons.injEq, Prod.mk.injEq, D.int.injEq, and_true, true_and]; omega) rfl rfl
   ·exact ⟨by omega, by rw [hI.2, Qls (k := ((i : Int) - 1).toNat) (by omega) (by omega) h2]⟩
   ·first | omega | (simp only; omega) | (dsimp only; omega)
 ·try rw [h1]
  try simp only [qa, qb, qc, qd, qe, List.length_map] at h1
  refine Zo (QN (QB (QI (Qd (kp2 rfl rfl) (Qe fun K hK => QD (cs := [_]) rfl rfl rfl rfl (Qa rfl (QC (Qam hw) rfl rfl (.inr rfl) (Qa rfl ?_))))))))
  refine hK _ _ (Qb (kp1 rfl) ?_)
  refine Qu (QA rfl ?_)
  rw [hI.2, show i = 0 by omega]; rfl
theorem QbZ {w : Qp} (hw : WSm w) {l : List QL} (hl : l.length <= 10000000) {u : Int} : Ok Tryz.prog 16 [Z8 w, Zz l, .int .i64 u] (.int .i64 (Q9 w l u)) := by
 refine Ok.ofT ZX Tryz.func16 Qsc (Nat.le_of_ble_eq_true rfl) ?_
 show TW _ _ tf16.body _ _
 refine Qe fun K hK => Zw rfl rfl rfl (Qa rfl ?_)
 refine hK _ _ (Qb (kp3 rfl rfl rfl) ?_)
 refine QG ?_ -- 0
 refine Qe fun K hK => QD (cs := [_]) rfl rfl rfl rfl (Qa rfl (QC (Qam hw) rfl rfl (.inr rfl) (Zy rfl rfl ?_)))
 refine hK _ _ (Qb (kp4 rfl rfl rfl rfl) ?_)
 refine Qw rfl (fun h1 => ?_) (fun h1 => ?_)
 ·try rw [h1]
  try simp only [qa, qb, qc, qd, qe, List.length_map] at h1
  refine Qe fun K hK => Qa rfl ?_
  refine hK _ _ (Qb (kp1 rfl) ?_)
  refine Qu (Qj (QA rfl ?_))
  rw [QhF (XS.1 h1)]
 ·try rw [h1]
  try simp only [qa, qb, qc, qd, qe, List.length_map] at h1
  refine Qv (Qd (kp3 rfl rfl rfl) (Qe fun K hK => QD (cs := [_]) rfl rfl rfl rfl (Qa rfl (Qa rfl (QC (Qb1 hw hl) rfl rfl (.inr rfl) (Qa rfl ?_))))))
  refine hK _ _ (Qb (kp1 rfl) ?_)
  refine Qu (QA rfl ?_)
  rw [QhE (by simpa using fun e => h1 (XS.2 e))]
theorem YR {l : List QL} (hl : l.length <= 10000000) : Ok Tryz.prog 17 [Zz l] (.int .i64 (Ym l)) := by
 refine Ok.ofT ZX Tryz.func17 Qsd (Nat.le_of_ble_eq_true rfl) ?_
 show TW _ _ tf17.body _ _
 refine Qe fun K hK => Qa rfl ?_
 refine hK _ _ (Qb (kp1 rfl) ?_)
 refine QG ?_ -- 0
 refine Qe fun K hK => Qa rfl ?_
 first | refine QU rfl Q1 ?_ | refine QU rfl rfl ?_
 refine Zy rfl rfl ?_
 refine hK _ _ (Qb (kp2 rfl rfl) ?_)
 refine Qw rfl (fun h1 => ?_) (fun h1 => ?_)
 ·try rw [h1]
  try simp only [qa, qb, qc, qd, qe, List.length_map] at h1
  refine Qe fun K hK => Qa rfl ?_
  refine hK _ _ (Qb (kp1 rfl) ?_)
  refine Qu (Qj (QA rfl ?_))
  rw [QiE h1]
 ·try rw [h1]
  try simp only [qa, qb, qc, qd, qe, List.length_map] at h1
  refine Qv (Qd (kp1 rfl) (Qe fun K hK => Qa rfl (Qa rfl ?_)))
  first | refine QU rfl Q1 ?_ | refine QU rfl rfl ?_
  refine XW rfl rfl (by first | exact Qs (by omega) (by omega) | rfl) (QJ rfl rfl rfl (by omega) (ZM (by omega) (by omega)) rfl (Q7 rfl rfl (Qz rfl rfl rfl (Qa rfl ?_))))
  refine hK _ _ (Qb (kp1 rfl) ?_)
  refine Qu (QA rfl ?_)
  rw [QkC (k := ((l.length : Int) - 1).toNat) (by omega)]
theorem Qgv {l : List QL} (hl : l.length <= 10000000) {s : QL} : Ok Tryz.prog 49 [Zz l, .agg (Qft s)] (Zz (l ++ [s])) := by
 refine Ok.ofT ZX Tryz.func49 Qsw (Nat.le_of_ble_eq_true rfl) ?_
 show TW _ _ tf49.body _ _
 refine Qe fun K hK => Zw rfl rfl rfl (Qa rfl ?_)
 refine hK _ _ (Qb (kp2 rfl rfl) ?_)
 refine Qe fun K hK => Qa rfl (Qa rfl ?_)
 first | refine QU rfl Q1 ?_ | refine QU rfl rfl ?_
 refine Qa rfl ?_
 first | refine QU rfl Q1 ?_ | refine QU rfl rfl ?_
 refine Qkf rfl rfl rfl rfl rfl (by omega) (by omega) (by simp) QlB (Qnb rfl) (QO (ds0 := [2, 1, 0]) (cs := [_, _, _, _]) rfl rfl rfl rfl rfl rfl (QH rfl rfl (Qd5 (ds0 := [0]) rfl rfl (fun _ h => Xv rfl rfl rfl h) rfl (.inr (by simp)) QlB (by simp; omega) (by simp; omega) rfl rfl (Qa rfl ?_))))
 refine hK _ _ (Qb (kp1 rfl) ?_)
 refine Qu ?_
 exact QcA rfl rfl rfl (by simp) (by simp [Zz, Qft])
theorem QaK {w : Qp} (hw : WSm w) {l : List QL} (hl : l.length <= 10000000) (hp : QbI w l) {t : TermT} {c : Int} : Ok Tryz.prog 15 [Z8 w, Zz l, .agg (Qef t), .int .i64 c] (dOS (ZJ w l t c)) := by
 refine Ok.ofT ZX Tryz.func15 Qsb (Nat.le_of_ble_eq_true rfl) ?_
 show TW _ _ tf15.body _ _
 refine Qe fun K hK => Zw rfl rfl rfl (Zw rfl rfl rfl (Qa rfl (Qa rfl ?_)))
 refine hK _ _ (Qb (kp4 rfl rfl rfl rfl) ?_)
 refine Qe fun K hK => QD (cs := [_]) rfl rfl rfl rfl (Qa rfl (Qh rfl rfl (Qz rfl rfl rfl (QC (QbZ hw hl) rfl rfl (.inr rfl) (Qa rfl ?_)))))
 refine hK _ _ (Qb (kp4 rfl rfl rfl rfl) ?_)
 refine QG ?_ -- 0
 refine Qe fun K hK => Qa rfl (Yj rfl rfl (Qa rfl ?_))
 refine Qy (g := 18) rfl (fun h1 => ?_) (fun h1 => ?_)
 ·try rw [h1]
  try simp only [qa, qb, qc, qd, qe, List.length_map] at h1
  refine Qo rfl (Qo rfl (Qo rfl (Qo rfl (Qo rfl (Qk rfl rfl (Qa rfl (Qo rfl (Qo rfl (Qo rfl (Qo rfl (Qo rfl ?_)))))))))))
  refine Qk rfl rfl ?_
  refine hK _ _ (Qb (kp5 rfl rfl rfl rfl rfl) ?_)
  refine Zp rfl (Qe fun K hK => Qa rfl (Qa rfl ?_))
  refine hK _ _ (Qb (kp2 rfl rfl) ?_)
  refine Qu (Qj ?_)
  rw [Qcq (.inl h1)]
  exact QT rfl rfl ⟨rfl, rfl⟩
 ·try rw [h1]
  try simp only [qa, qb, qc, qd, qe, List.length_map] at h1
  refine Qg rfl (Qa rfl (Qg rfl (Qh rfl rfl (Qg rfl (Qz rfl rfl rfl (Qg rfl (QbQ rfl rfl (Qg rfl (Zy rfl rfl (Qk rfl rfl (Qa rfl ?_)))))))))))
  refine Qy (g := 25) rfl (fun h2 => ?_) (fun h2 => ?_)
  ·try rw [h2]
   try simp only [qa, qb, qc, qd, qe, List.length_map] at h2
   refine Qo rfl (Qo rfl (Qo rfl (Qo rfl (Qo rfl (Qk rfl rfl ?_)))))
   refine hK _ _ (Qb (kp5 rfl rfl rfl rfl rfl) ?_)
   refine Zp rfl (Qe fun K hK => Qa rfl (Qa rfl ?_))
   refine hK _ _ (Qb (kp2 rfl rfl) ?_)
   refine Qu (Qj ?_)
   rw [Ql4 hp h2]
   exact QT rfl rfl ⟨rfl, rfl⟩
  ·try rw [h2]
   try simp only [qa, qb, qc, qd, qe, List.length_map] at h2
   refine Qg rfl (Qa rfl (Qg rfl (Qh rfl rfl (Qg rfl (Qz rfl rfl rfl (Qg rfl (QeT rfl rfl (Qg rfl (Zy rfl rfl (Qk rfl rfl ?_))))))))))
   refine hK _ _ (Qb (kp5 rfl rfl rfl rfl rfl) ?_)
   refine Qw rfl (fun h3 => ?_) (fun h3 => ?_)
   ·try rw [h3]
    try simp only [qa, qb, qc, qd, qe, List.length_map] at h3
    refine Qe fun K hK => Qa rfl (Qa rfl ?_)
    refine hK _ _ (Qb (kp2 rfl rfl) ?_)
    refine Qu (Qj ?_)
    rw [Ql5 h3]
    exact QT rfl rfl ⟨rfl, rfl⟩
   ·try rw [h3]
    try simp only [qa, qb, qc, qd, qe, List.length_map] at h3
    refine Qv (Qd (kp4 rfl rfl rfl rfl) (Qe fun K hK => Qa rfl (Qh rfl rfl (QQ (ds0 := [3, 2, 1]) rfl rfl rfl rfl rfl (Qa rfl (Qh rfl rfl (QQ (ds0 := [7, 3, 2, 1]) rfl rfl rfl rfl rfl (QeT rfl rfl (Qa rfl (QY (ds0 := [3, 2, 1]) (YR hl) rfl rfl (.inr rfl) rfl rfl ?_))))))))))
    refine Qa rfl (QR rfl rfl (QY (ds0 := [1]) (Qgv (s := ⟨t.u, Qgh (Q9 w l t.u) t.m, Ym l, c⟩) hl) rfl rfl (.inl rfl) rfl rfl (Qa rfl (Qa rfl ?_))))
    refine hK _ _ (Qb (kp2 rfl rfl) ?_)
    refine Qu ?_
    rw [Ql6 hp (by omega) h2 h3]
    exact QT rfl rfl ⟨rfl, rfl⟩
end Go.Proofs
namespace M25
open Go Go.Abs M3
/-! ### prop: what is left of each unit, scans -/
structure Qp9 (w : Qp) (db : List (List TermT)) (l : List QL) (a : Nat) (k : Nat) : Prop where
  ha : a < db.length
  hk : k < db[a].length
  eq : Yn w db l = ((a : Int), db[a][k].u)
  one : QaF (Q9 w l db[a][k].u) db[a][k].m = 1
  two : ∀ j, ∀ hj : j < db[a].length, j ≠ k -> QaF (Q9 w l db[a][j].u) db[a][j].m = 2
theorem Qlz {w : Qp} {l : List QL} {s : QL} (hp : QbI w l) (hs : Lo s.m) : QbI w (l ++ [s]) := fun t ht => by
  rcases List.mem_append.1 ht with ht | ht
  · exact hp t ht
  · simp only [List.mem_singleton] at ht; subst ht; exact hs
def Qr2 (w : Qp) (l : List QL) (t : TermT) (c : Int) : QL := ⟨t.u, Qgh (Q9 w l t.u) t.m, Ym l, c⟩
end M25
namespace M25
open Go Go.Abs M3
/-! ### Sets that are made: moderate sizes -/
theorem QnU (l : List (Cu × Cu)) (x y : Cu) : (Qce l x y).length <= l.length + 1 := QiI l x y
theorem Qho (f : Cu -> Cu -> Bool) : ∀ (c : List Cu) (out : List (Cu × Cu)), (∀ x ∈ c, Cu.sm x) -> (∀ s ∈ out, Cu.sm s.1 /\ Cu.sm s.2) -> (Qcd f c out).length <= out.length + c.length /\ ∀ s ∈ Qcd f c out, Cu.sm s.1 /\ Cu.sm s.2
 | [], out, _, h => ⟨by simp [Qcd], by simpa [Qcd] using h⟩
 | [x], out, _, h => ⟨by simp [Qcd], by simpa [Qcd] using h⟩
 | x :: y :: r, out, hc, h => by
  rw [Qcd]
  have hxy := QnU out x y
  split
  ·obtain ⟨h1, h2⟩ := Qho f (y :: r) (Qce out x y) (fun z hz => hc z (by simp at hz ⊢; exact .inr hz)) (QkH h (hc x (by simp)) (hc y (by simp)))
   exact ⟨by simp only [List.length_cons] at h1 ⊢; omega, h2⟩
  ·obtain ⟨h1, h2⟩ := Qho f (y :: r) out (fun z hz => hc z (by simp at hz ⊢; exact .inr hz)) h
   exact ⟨by simp only [List.length_cons] at h1 ⊢; omega, h2⟩
def SmN (n : Nat) (l : List (Cu × Cu)) : Prop := l.length <= n /\ ∀ s ∈ l, Cu.sm s.1 /\ Cu.sm s.2
theorem SmN.sm {n : Nat} {l : List (Cu × Cu)} (h : SmN n l) (hn : n <= 1000000) : Sm l := ⟨Nat.le_trans h.1 hn, h.2⟩
theorem SmN.up {n m : Nat} {l : List (Cu × Cu)} (h : SmN n l) (hn : n <= m) : SmN m l := ⟨Nat.le_trans h.1 hn, h.2⟩
theorem SmN.nil (n : Nat) : SmN n [] := ⟨Nat.zero_le _, by simp⟩
theorem QoV {a b : List (Cu × Cu)} {n m : Nat} (ha : SmN n a) (hb : SmN m b) (h : n + m <= 1000000) : SmN (2 + 2 * (n + m)) (QoS a b) := by
 unfold QoS
 split
 ·have hab : Sm (a ++ b) := (ha.sm (by omega)).app (hb.sm (by omega)) (by have := ha.1; have := hb.1; omega)
  unfold QjK
  split
  ·obtain ⟨h1, h2⟩ := Qho (mIn (a ++ b)) (YW (a ++ b)) [] (Yx hab) (by simp)
   have := Qcc (a ++ b)
   have := ha.1
   have := hb.1
   exact ⟨by simp only [List.length_nil, List.length_append] at *; omega, h2⟩
  ·exact SmN.nil _
 ·exact SmN.nil _
theorem QmN {a : List (Cu × Cu)} {n : Nat} (ha : SmN n a) (h : n <= 1000000) : SmN (2 + 2 * n) (QjL a) := by
 unfold QjL
 split
 ·obtain ⟨h1, h2⟩ := Qho (fun x y => !mIn a x y) (YW a) [] (Yx (ha.sm h)) (by simp)
  have := Qcc a
  have := ha.1
  exact ⟨by simp only [List.length_nil] at *; omega, h2⟩
 ·exact SmN.nil _
def Qk9 (n : Nat) (s : Qfi) : Prop := SmN n s.1 /\ SmN n s.2
theorem QqF {a b : Qfi} {n m : Nat} (ha : Qk9 n a) (hb : Qk9 m b) (h : n + m <= 1000000) : Qk9 (2 + 2 * (n + m)) (QoT a b) := by
 unfold QoT
 split
 ·exact ⟨QoV ha.1 hb.1 h, QoV ha.2 hb.2 h⟩
 ·exact ⟨SmN.nil _, SmN.nil _⟩
theorem QmO {a : Qfi} {n : Nat} (ha : Qk9 n a) (h : n <= 1000000) : Qk9 (2 + 2 * n) (QhM a) := by
 unfold QhM
 split
 ·exact ⟨QmN ha.1 h, QmN ha.2 h⟩
 ·exact ⟨SmN.nil _, SmN.nil _⟩
theorem QcD (e a b c : Int) (f : Bool) : Cu.sm ⟨e, a, b, c, [], [], f⟩ := ⟨Nat.zero_le _, Nat.zero_le _⟩
theorem Qcs {a b c : Int} {p q : List UInt8} (hp : p.length <= 1000000) : Qk9 1 (Xg a b c p q) := by
 unfold Xg
 split
 ·exact ⟨SmN.nil _, SmN.nil _⟩
 ·split
  ·refine ⟨SmN.nil _, ⟨Nat.le_refl _, fun s hs => ?_⟩⟩
   simp only [List.mem_singleton] at hs; subst hs
   exact ⟨⟨hp, Nat.zero_le _⟩, ⟨hp, Nat.zero_le _⟩⟩
  ·refine ⟨⟨Nat.le_refl _, fun s hs => ?_⟩, SmN.nil _⟩
   simp only [List.mem_singleton] at hs; subst hs
   constructor
   ·unfold QfT; split
    ·exact QcD ..
    ·exact QcD ..
   ·unfold QdI; split
    ·exact QcD ..
    ·exact QcD ..
def QlP : Qfi := ([(QcV, Qgm)], [(QcV, Qgm)])
theorem QoF : Qk9 1 QlP := by
 have h : SmN 1 [(QcV, Qgm)] := ⟨Nat.le_refl _, fun s hs => by simp only [List.mem_singleton] at hs; subst hs; exact ⟨QcD .., QcD ..⟩⟩
 exact ⟨h, h⟩
def bnd (i : Nat) : Nat := 4 * 2 ^ i
theorem QoH {i : Nat} (h : i <= 16) : bnd i <= 262144 := by
 have : 2 ^ i <= 2 ^ 16 := Nat.pow_le_pow_right (by omega) h
 have e : (2 : Nat) ^ 16 = 65536 := by decide
 unfold bnd; omega
theorem QqM {s : Qfi} {i : Nat} (h : Qk9 (bnd i - 4) s) {a b c : Int} {p q : List UInt8} (hp : p.length <= 1000000) (hi : i <= 16) : Qk9 (bnd (i + 1) - 4) (QoT s (Xg a b c p q)) := by
 have h1 := QoH hi
 have h4 : 4 <= bnd i := by unfold bnd; have := Nat.one_le_two_pow (n := i); omega
 have := QqF h (Qcs (a := a) (b := b) (c := c) (q := q) hp) (by omega)
 have e : bnd (i + 1) = 2 * bnd i := by unfold bnd; rw [Nat.pow_succ]; omega
 exact ⟨this.1.up (by omega), this.2.up (by omega)⟩
theorem Qop {s : Qfi} {i : Nat} (h : Qk9 (bnd i - 4) s) : Qk9 (bnd (i + 1) - 4) s := by
 have e : bnd (i + 1) = 2 * bnd i := by unfold bnd; rw [Nat.pow_succ]; omega
 exact ⟨h.1.up (by omega), h.2.up (by omega)⟩
def SetOk (s : Qfi) : Prop := Qk9 600000 s
theorem SetOk.sm {s : Qfi} (h : SetOk s) : Sm s.1 /\ Sm s.2 := ⟨h.1.sm (by omega), h.2.sm (by omega)⟩
structure CR where
 v : Vr
 x : D
 y : D
 z : D
def dCR (r : CR) : List D := [.int .i64 r.v.a, .int .i64 r.v.b, .int .i64 r.v.c, .str r.v.p, .str r.v.q, r.x, r.y, r.z]
def CR.ren (r : CR) : CR := ⟨r.v, r.x.renS upN, r.y.renS upN, r.z.renS upN⟩
theorem Ql0 (l : List CR) : (l.map dCR).map (fun r => r.map (D.renS upN)) = (l.map CR.ren).map dCR := by
 rw [List.map_map, List.map_map]; rfl
structure UR where
 n : List UInt8
 f : List UInt8
 k : Nat
 cs : List CR
def dUR (u : UR) : List D := [.str u.n, .str u.f, .osl u.k u.cs.length]
def UR.ren (u : UR) : UR := ⟨u.n, u.f, upN u.k, u.cs.map CR.ren⟩
theorem Qpr (l : List UR) : (l.map dUR).map (fun r => r.map (D.renS upN)) = (l.map UR.ren).map dUR := by
 rw [List.map_map, List.map_map]
 refine List.map_congr_left fun u _ => ?_
 simp [dUR, UR.ren, D.renS]
structure Fam (H : List (Nat × Box)) (kg ku eu ec : Nat) (us : List UR) : Prop where
 ne : ku ≠ kg
 u : ∃ pr, lk H ku = some ⟨us.map dUR, 3, eu, pr⟩
 c : ∀ y ∈ us, y.k ≠ kg /\ ∃ pr, lk H y.k = some ⟨y.cs.map dCR, 8, ec, pr⟩
 v : ∀ y ∈ us, y.cs.length <= 16 /\ ∀ z ∈ y.cs, Qgs z.v
theorem Fam.up {H : List (Nat × Box)} {kg ku eu ec : Nat} {us : List UR} (h : Fam H kg ku eu ec us) : Fam (upH H) (upN kg) (upN ku) eu ec (us.map UR.ren) := by
 obtain ⟨h1, ⟨pu, h2⟩, h3, h4⟩ := h
 refine ⟨fun e => h1 (Qj9 e), ⟨pu, ?_⟩, fun y hy => ?_, fun y hy => ?_⟩
 ·rw [QaD, h2, Option.map_some, Box.ren, Qpr]
 ·obtain ⟨u, hu, rfl⟩ := List.mem_map.1 hy
  obtain ⟨q1, pr, q2⟩ := h3 u hu
  refine ⟨fun e => q1 (Qj9 e), pr, ?_⟩
  show lk (upH H) (upN u.k) = _
  rw [QaD, q2, Option.map_some, Box.ren, Ql0]; rfl
 ·obtain ⟨u, hu, rfl⟩ := List.mem_map.1 hy
  obtain ⟨q1, q2⟩ := h4 u hu
  refine ⟨by simpa [UR.ren] using q1, fun z hz => ?_⟩
  obtain ⟨z0, hz0, rfl⟩ := List.mem_map.1 hz
  exact q2 z0 hz0
theorem Fam.cons {H : List (Nat × Box)} {kg ku eu ec : Nat} {us : List UR} (h : Fam H kg ku eu ec us) {b : Box} : Fam ((kg, b) :: H) kg ku eu ec us := by
 obtain ⟨h1, ⟨pu, h2⟩, h3, h4⟩ := h
 exact ⟨h1, ⟨pu, Qn (Ne.symm h1) h2⟩, fun y hy => let ⟨q1, pr, q2⟩ := h3 y hy; ⟨q1, pr, Qn (Ne.symm q1) q2⟩, h4⟩
def WantIn (n : Nat) (x : WantT) : Prop := 1 <= x.u /\ x.u < n /\ SetOk x.s
def Qic (n : Nat) (r : List WantT) : Prop := r.length <= 2 /\ ∀ x ∈ r, WantIn n x
def Qfe (n : Nat) (m : Int) (ns : List (List WantT)) : Prop := (ns.length : Int) <= m /\ ∀ r ∈ ns, Qic n r
theorem QpJ {n : Nat} {x : WantT} (h : WantIn n x) : Qic n [x] := ⟨by simp, by intro y hy; simp only [List.mem_singleton] at hy; subst hy; exact h⟩
theorem QpK {n : Nat} {x y : WantT} (h : WantIn n x) (h' : WantIn n y) : Qic n [x, y] := ⟨by simp, by
 intro z hz
 simp only [List.mem_cons, List.not_mem_nil, or_false] at hz
 rcases hz with rfl | rfl
 ·exact h
 ·exact h'⟩
theorem Qm3 {n : Nat} {ns : List (List WantT)} {r : List WantT} (h : ∀ r ∈ ns, Qic n r) (hr : Qic n r) : ∀ x ∈ ns ++ [r], Qic n x := fun x hx => by
 rcases List.mem_append.1 hx with hx | hx
 ·exact h x hx
 ·simp only [List.mem_singleton] at hx; subst hx; exact hr
end M25
namespace Go.Proofs
open Go Go.Abs M3 M25
set_option linter.unusedVariables false
set_option linter.unusedSimpArgs false
theorem Qci {s : St} {args : List Opd} {kg : Nat} {L : List Int} {I n : Int} {et : Nat} (ha : Zt s args = some [.ref kg 0 0, .int .i64 n]) (hg : lk s.H kg = some (gB L I et)) (hL : ∀ x ∈ L, I64 x) (hn : n <= 9223372036854775807) : Qbf Tryz.prog 42 args s [(kg, gB L I et)] [] [(kg, gB L (nxI I) et)] (.int .i64 (nx L I n)) := by
 refine Qkl (b' := gB L (nxI I) et) (ds' := [.ref (upN kg) 0 0, .int .i64 n]) ha (fun j x h => ?_) (fun k b hk j hj => ?_) (fun x hx j hj => ?_) ?_ rfl rfl rfl rfl ?_
 ·obtain ⟨rfl, rfl⟩ := Xz h; exact hg
 ·obtain ⟨rfl, rfl⟩ := Xz hk; simp [Box.ids, gB] at hj
 ·simp only [List.mem_cons, List.not_mem_nil, or_false] at hx
  rcases hx with rfl | rfl
  ·simp [D.ids, D.sid] at hj; subst hj; rw [Qx]; rfl
  ·simp [D.ids, D.sid] at hj
 ·rw [Qx]; rfl
 ·exact XP (by unfold upN; omega) hL hn et
theorem Qdo {H : List (Nat × Box)} {kg kc : Nat} {L : List Int} {I : Int} {eg ec : Nat} {pr : Bool} {zs : List CR} (hkg : 1000000 <= kg) (hg : lk H kg = some (gB L I eg)) (hc : lk H kc = some ⟨zs.map dCR, 8, ec, pr⟩) (hne : kg ≠ kc) (hB : Big H) (hC : Closed H) (hL : ∀ x ∈ L, I64 x) (hz : ∀ z ∈ zs, Qgs z.v) (hn : zs.length <= 16) : ∃ d H2, (∃ s I2, SetOk s /\ d = Qhj s /\ H2 = (kg, gB L I2 eg) :: H) /\ OkH Tryz.prog 74 [.ref kg 0 0, .osl kc zs.length] H d H2 := by
 have hkc := hB _ _ hc
 refine OkH.ofX (R := fun d H2 => ∃ s I2, SetOk s /\ d = Qhj s /\ H2 = (kg, gB L I2 eg) :: H) ZX Tryz.func74 QsP (Nat.le_of_ble_eq_true rfl) ?_
 show TX _ _ tf74.body _ _
 refine Q8 fun K hK => ?_
 refine ZC (by repeat (first | exact hB.none (by decide) | refine Zr (by first | decide | omega) ?_)) ?_
 refine hK _ _ (QM (kp3 rfl rfl rfl) ?_)
 refine Q8 fun K hK => Qa rfl (YC (Qci (I := I) rfl (Qn (by omega) hg) hL (by omega)) (Qa rfl ?_))
 refine hK _ _ (QM (kp4 rfl rfl rfl rfl) ?_)
 refine Q8 fun K hK => QC (Z7) rfl rfl (.inl rfl) ?_
 refine ZC (by repeat (first | exact hB.none (by decide) | refine Zr (by first | decide | omega) ?_)) ?_
 refine Q5 rfl rfl rfl rfl rfl rfl rfl rfl ?_
 refine hK _ _ (QM (kp5 rfl rfl rfl rfl rfl) ?_)
 refine Xw ?_ -- 0
 refine Q8 fun K hK => Qa rfl ?_
 refine hK _ _ (QM (kp6 rfl rfl rfl rfl rfl rfl) ?_)
 refine Ys ?_
 refine Qdj (ι := Nat × Qfi) (fun ⟨i, s⟩ => ⟨[(0, .ref kg 0 0), (1, .osl kc zs.length), (4, .ref 4 0 0), (5, .int .i64 (nx L I 8)), (6, .ref 6 0 0), (7, .int .i64 i)], [(4, ⟨[[.fsl [], .fsl []]], 2, 78, true⟩), (6, ⟨[[ZF s.1, ZF s.2]], 2, 78, true⟩), (kg, gB L (nxI I) eg)] ++ H⟩) (fun ⟨i, s⟩ => i <= zs.length /\ Qk9 (bnd i - 4) s) (fun ⟨i, s⟩ => zs.length - i) (0, ([], [])) ?_ ?_ ?_
 ·exact QfK (l := [0, 1, 4, 5, 6, 7]) (B := [_, _, _, _]) (kp6 rfl rfl rfl rfl rfl rfl) rfl (by intro p hp; simp only [List.mem_cons, List.not_mem_nil, or_false] at hp; rcases hp with rfl | rfl | rfl <;> exact ⟨by repeat (first | exact Qx | refine Qn (by first | decide | omega) ?_), rfl⟩) rfl (by intro p hp h; simp only [List.mem_cons, List.not_mem_nil, or_false] at hp; rcases hp with rfl | rfl | rfl | rfl <;> first | (simp only at h; omega) | (repeat (first | exact QZ | refine QX ?_))) hB hC (by intro p hp k hk; simp only [List.mem_cons, List.not_mem_nil, or_false] at hp; rcases hp with rfl | rfl | rfl | rfl | rfl | rfl <;> first | (simp [D.ids, D.sid, Zb, QW, ZH] at hk; done) | (simp [D.ids, D.sid, Zb, QW, ZH] at hk; subst hk; repeat (first | exact QZ | exact Zq hg | exact Zq hc | refine QX ?_)))
 ·exact ⟨Nat.zero_le _, SmN.nil _, SmN.nil _⟩
 intro ⟨i, s⟩ hI
 try dsimp only at hI
 have hb16 := QoH (i := i) (by omega)
 try dsimp only
 refine Xw ?_ -- 1
 refine Q8 fun K hK => Qa rfl (Qa rfl ?_)
 first | refine QU rfl Q1 ?_ | refine QU rfl rfl ?_
 refine Yj rfl rfl ?_
 refine hK _ _ (QM (kp7 rfl rfl rfl rfl rfl rfl rfl) ?_)
 refine YL rfl (fun h1 => ?_) (fun h1 => ?_)
 ·try rw [h1]
  try simp only [qa, qb, qc, qd, qe, List.length_map] at h1
  refine Y0 (Q0 (kp6 rfl rfl rfl rfl rfl rfl) ?_)
  refine Xw ?_ -- 2
  refine Ys (Q8 fun K hK => Qa rfl (Qa rfl (Qib rfl (Qfd (by omega) (by omega)) (Qqe rfl rfl (by omega) (QbQ rfl rfl (Zy rfl rfl ?_))))))
  refine hK _ _ (QM (kp7 rfl rfl rfl rfl rfl rfl rfl) ?_)
  refine YL rfl (fun h2 => ?_) (fun h2 => ?_)
  ·try rw [h2]
   try simp only [qa, qb, qc, qd, qe, List.length_map] at h2
   have hvp := (hz _ (List.getElem_mem (show i < zs.length by omega))).1
   refine ZQ fun K hK => QO (ds0 := [1, 0]) (cs := [_, _]) rfl rfl rfl rfl (by simp [Dr.ok, Qb2]) rfl (Qa rfl (Qa rfl (XN (ds0 := [4, 3, 2, 1, 0]) rfl rfl (Qn (by omega) (Qn (by omega) (Qn (by omega) hc))) (by simp) (by omega) (by omega) rfl (by simp [Dr.ok, Qb2]) rfl (Qh rfl (Zq (Qn (by omega) (Qn (by omega) (Qn (by omega) hc)))) (QO (ds0 := [2, 1, 0]) (cs := [_, _, _, _, _]) rfl (Z5 (Qn (by omega) (Qn (by omega) (Qn (by omega) hc))) (QS (by omega))) rfl rfl (by simp [Dr.ok, Qb2]) rfl (QY (ds0 := [1, 0]) (X1 (hz _ (List.getElem_mem (by omega))).1 (hz _ (List.getElem_mem (by omega))).2) rfl rfl (.inl rfl) (by simp [Dr.ok, Qb2]) rfl (QY (ds0 := [0]) (Qd8 (a := s) (b := (Xg (zs[i]'(by omega)).v.a (zs[i]'(by omega)).v.b (zs[i]'(by omega)).v.c (zs[i]'(by omega)).v.p (zs[i]'(by omega)).v.q)) (hI.2.1.sm (by omega)) (hI.2.2.sm (by omega)) ((Qcs hvp).1.sm (by omega)) ((Qcs hvp).2.sm (by omega)) (by have := hI.2.1.1; have := (Qcs (a := (zs[i]'(by omega)).v.a) (b := (zs[i]'(by omega)).v.b) (c := (zs[i]'(by omega)).v.c) (q := (zs[i]'(by omega)).v.q) hvp).1.1; omega) (by have := hI.2.2.1; have := (Qcs (a := (zs[i]'(by omega)).v.a) (b := (zs[i]'(by omega)).v.b) (c := (zs[i]'(by omega)).v.c) (q := (zs[i]'(by omega)).v.q) hvp).2.1; omega)) rfl rfl (.inl rfl) (by simp [Dr.ok, Qb2]) rfl (Xk (ds0 := []) rfl rfl rfl rfl rfl rfl rfl rfl (by simp [Dr.ok, Qb2]) rfl (hK _ ?_)))))))))
   refine Qi (Q0 (kp6 rfl rfl rfl rfl rfl rfl) (ZQ fun K hK => Qa rfl (Q6 rfl rfl (by first | exact Qs (by omega) (by omega) | rfl) (Qa rfl (hK _ ?_)))))
   refine Ql (i + 1, QoT s (Xg (zs[i]'(by omega)).v.a (zs[i]'(by omega)).v.b (zs[i]'(by omega)).v.c (zs[i]'(by omega)).v.p (zs[i]'(by omega)).v.q)) ?_ ?_ ?_
   ·exact QfK (l := [0, 1, 4, 5, 6, 7]) (B := [_, _, _, _]) (kp6 rfl rfl rfl rfl rfl rfl) rfl (by intro p hp; simp only [List.mem_cons, List.not_mem_nil, or_false] at hp; rcases hp with rfl | rfl | rfl <;> exact ⟨by repeat (first | exact Qx | refine Qn (by first | decide | omega) ?_), rfl⟩) rfl (by intro p hp h; simp only [List.mem_cons, List.not_mem_nil, or_false] at hp; rcases hp with rfl | rfl | rfl | rfl <;> first | (simp only at h; omega) | (repeat (first | exact QZ | refine QX ?_))) hB hC (by intro p hp k hk; simp only [List.mem_cons, List.not_mem_nil, or_false] at hp; rcases hp with rfl | rfl | rfl | rfl | rfl | rfl <;> first | (simp [D.ids, D.sid, Zb, QW, ZH] at hk; done) | (simp [D.ids, D.sid, Zb, QW, ZH] at hk; subst hk; repeat (first | exact QZ | exact Zq hg | exact Zq hc | refine QX ?_)))
   ·exact ⟨by show i + 1 <= _; omega, QqM hI.2 (hz _ (List.getElem_mem (by omega))).1 (by omega)⟩
   ·show zs.length - (i + 1) < zs.length - i; omega
  ·try rw [h2]
   try simp only [qa, qb, qc, qd, qe, List.length_map] at h2
   have hvp := (hz _ (List.getElem_mem (show i < zs.length by omega))).1
   refine Y0 (Qi (Q0 (kp6 rfl rfl rfl rfl rfl rfl) (ZQ fun K hK => Qa rfl (Q6 rfl rfl (by first | exact Qs (by omega) (by omega) | rfl) (Qa rfl (hK _ ?_))))))
   refine Ql (i + 1, s) ?_ ?_ ?_
   ·exact QfK (l := [0, 1, 4, 5, 6, 7]) (B := [_, _, _]) (kp6 rfl rfl rfl rfl rfl rfl) rfl (by intro p hp; simp only [List.mem_cons, List.not_mem_nil, or_false] at hp; rcases hp with rfl | rfl | rfl <;> exact ⟨by repeat (first | exact Qx | refine Qn (by first | decide | omega) ?_), rfl⟩) rfl (by intro p hp h; simp only [List.mem_cons, List.not_mem_nil, or_false] at hp; rcases hp with rfl | rfl | rfl <;> first | (simp only at h; omega) | (repeat (first | exact QZ | refine QX ?_))) hB hC (by intro p hp k hk; simp only [List.mem_cons, List.not_mem_nil, or_false] at hp; rcases hp with rfl | rfl | rfl | rfl | rfl | rfl <;> first | (simp [D.ids, D.sid, Zb, QW, ZH] at hk; done) | (simp [D.ids, D.sid, Zb, QW, ZH] at hk; subst hk; repeat (first | exact QZ | exact Zq hg | exact Zq hc | refine QX ?_)))
   ·exact ⟨by show i + 1 <= _; omega, Qop hI.2⟩
   ·show zs.length - (i + 1) < zs.length - i; omega
 ·try rw [h1]
  try simp only [qa, qb, qc, qd, qe, List.length_map] at h1
  refine QbG (Yz (QB (QI (Q0 (kp3 rfl rfl rfl) ?_))))
  refine Xw ?_ -- 3
  refine Q8 fun K hK => Qa rfl (YC (Qci (I := nxI I) rfl (Qn (by omega) (Qn (by omega) Qx)) hL (by omega)) ?_)
  refine hK _ _ (QM (kp3 rfl rfl rfl) ?_)
  refine Ys (Q8 fun K hK => Zy rfl rfl (Qa rfl ?_))
  refine hK _ _ (QM (kp4 rfl rfl rfl rfl) ?_)
  refine YL rfl (fun h3 => ?_) (fun h3 => ?_)
  ·try rw [h3]
   try simp only [qa, qb, qc, qd, qe, List.length_map] at h3
   refine Q8 fun K hK => QC (Qdr) rfl rfl (.inl rfl) (Q5 rfl (Qn (by omega) rfl) rfl rfl rfl rfl rfl rfl ?_)
   refine hK _ _ (QM (kp1 rfl) ?_)
   refine QeM (Qt (QaH ?_))
   refine ⟨Qhj QlP, (kg, gB L (nxI (nxI I)) eg) :: H, ⟨QlP, _, ⟨QoF.1.up (by omega), QoF.2.up (by omega)⟩, rfl, rfl⟩, (XJ hB hC hkg rfl).1, (XJ hB hC hkg rfl).2, ?_⟩
   refine Qcz (cs := [ZF QlP.1, ZF QlP.2]) rfl (Z5 (by repeat (first | exact Qx | refine Qn (by first | decide | omega) ?_)) rfl) rfl rfl rfl ?_
   exact QaC (B := [_, _, _, _, _]) hB (by repeat (first | exact Qx | refine Qn (by first | decide | omega) ?_)) (by intro p hp h; simp only [List.mem_cons, List.not_mem_nil, or_false] at hp; rcases hp with rfl | rfl | rfl | rfl | rfl <;> first | rfl | (simp only at h; omega))
  ·try rw [h3]
   try simp only [qa, qb, qc, qd, qe, List.length_map] at h3
   refine Q8 fun K hK => Zy rfl rfl (Qa rfl ?_)
   refine hK _ _ (QM (kp3 rfl rfl rfl) ?_)
   refine YL rfl (fun h4 => ?_) (fun h4 => ?_)
   ·try rw [h4]
    try simp only [qa, qb, qc, qd, qe, List.length_map] at h4
    refine Q8 fun K hK => QD (cs := [_, _]) rfl (Z5 (Qn (by omega) rfl) rfl) rfl rfl (QC (Qdt (a := s) (hI.2.1.sm (by omega)) (hI.2.2.sm (by omega))) rfl rfl (.inl rfl) (Q5 rfl (Qn (by omega) rfl) rfl rfl rfl rfl rfl rfl ?_))
    refine hK _ _ (QM (kp1 rfl) ?_)
    refine QeM (Qt (QaH ?_))
    refine ⟨Qhj (QhM s), (kg, gB L (nxI (nxI I)) eg) :: H, ⟨(QhM s), _, ⟨(QmO hI.2 (by omega)).1.up (by omega), (QmO hI.2 (by omega)).2.up (by omega)⟩, rfl, rfl⟩, (XJ hB hC hkg rfl).1, (XJ hB hC hkg rfl).2, ?_⟩
    refine Qcz (cs := [ZF (QhM s).1, ZF (QhM s).2]) rfl (Z5 (by repeat (first | exact Qx | refine Qn (by first | decide | omega) ?_)) rfl) rfl rfl rfl ?_
    exact QaC (B := [_, _, _, _, _]) hB (by repeat (first | exact Qx | refine Qn (by first | decide | omega) ?_)) (by intro p hp h; simp only [List.mem_cons, List.not_mem_nil, or_false] at hp; rcases hp with rfl | rfl | rfl | rfl | rfl <;> first | rfl | (simp only at h; omega))
   ·try rw [h4]
    try simp only [qa, qb, qc, qd, qe, List.length_map] at h4
    refine Y0 (Qi (Q0 (kp2 rfl rfl) (Q8 fun K hK => QD (cs := [_, _]) rfl (Z5 (Qn (by omega) rfl) rfl) rfl rfl (Q5 rfl (Qn (by omega) rfl) rfl rfl rfl rfl rfl rfl ?_))))
    refine hK _ _ (QM (kp1 rfl) ?_)
    refine QeM ?_
    refine ⟨Qhj s, (kg, gB L (nxI (nxI I)) eg) :: H, ⟨s, _, ⟨hI.2.1.up (by omega), hI.2.2.up (by omega)⟩, rfl, rfl⟩, (XJ hB hC hkg rfl).1, (XJ hB hC hkg rfl).2, ?_⟩
    refine Qcz (cs := [ZF s.1, ZF s.2]) rfl (Z5 (by repeat (first | exact Qx | refine Qn (by first | decide | omega) ?_)) rfl) rfl rfl rfl ?_
    exact QaC (B := [_, _, _, _, _]) hB (by repeat (first | exact Qx | refine Qn (by first | decide | omega) ?_)) (by intro p hp h; simp only [List.mem_cons, List.not_mem_nil, or_false] at hp; rcases hp with rfl | rfl | rfl | rfl | rfl <;> first | rfl | (simp only at h; omega))
end Go.Proofs
namespace Go.Proofs
open Go Go.Abs M3 M25
set_option linter.unusedVariables false
set_option linter.unusedSimpArgs false
/-- The call of 'set', over boxes that are lent. -/
theorem Qrh {H : List (Nat × Box)} {kg kc : Nat} {L : List Int} {I : Int} {eg ec : Nat} {pr : Bool} {zs : List CR} (hg : lk H kg = some (gB L I eg)) (hc : lk H kc = some ⟨zs.map dCR, 8, ec, pr⟩) (hne : kg ≠ kc) (hC : Closed H) (hL : ∀ x ∈ L, I64 x) (hz : ∀ z ∈ zs, Qgs z.v) (hn : zs.length <= 16) :
  ∃ s I2, SetOk s /\ ∀ (st : St) (args : List Opd), Zt st args = some [.ref kg 0 0, .osl kc zs.length] -> (∀ j x, lk H j = some x -> lk st.H j = some x) -> Qbf Tryz.prog 74 args st H [] [(kg, gB L I2 eg)] (Qhj s) := by
 obtain ⟨d, H2, ⟨s, I2, hs, rfl, rfl⟩, hok⟩ := Qdo (H := upH H) (kg := upN kg) (kc := upN kc) (L := L) (I := I) (eg := eg) (ec := ec) (pr := pr) (zs := zs.map CR.ren) (by unfold upN; omega) (by rw [QaD, hg]; rfl) (by rw [QaD, hc, Option.map_some, Box.ren, Ql0]) (fun e => hne (Qj9 e)) Qj8 (QeB hC) hL
  (fun z hz' => by obtain ⟨z0, h0, rfl⟩ := List.mem_map.1 hz'; exact hz z0 h0) (by simpa using hn)
 refine ⟨s, I2, hs, fun st args ha hF => Qkl (b' := gB L I2 eg) (ds' := [.ref (upN kg) 0 0, .osl (upN kc) zs.length]) ha hF hC (fun x hx j hj => ?_) (Zq hg) rfl rfl rfl rfl ?_⟩
 ·simp only [List.mem_cons, List.not_mem_nil, or_false] at hx
  rcases hx with rfl | rfl
  ·simp [D.ids, D.sid] at hj; subst hj; exact Zq hg
  ·simp [D.ids, D.sid] at hj; subst hj; exact Zq hc
 ·rw [List.length_map] at hok; exact hok
theorem Qc1 {H : List (Nat × Box)} {kg ku : Nat} {L : List Int} {I : Int} {eg eu ec : Nat} {us : List UR} (hkg : 1000000 <= kg) (hg : lk H kg = some (gB L I eg)) (hU : Fam H kg ku eu ec us) (hB : Big H) (hC : Closed H) (hL : ∀ x ∈ L, I64 x) (h2n : 2 <= us.length) (hn : us.length <= 48) : ∃ d H2, (∃ x I2, WantIn us.length x /\ d = .agg (QeO x) /\ H2 = (kg, gB L I2 eg) :: H) /\ OkH Tryz.prog 43 [.ref kg 0 0, .osl ku us.length] H d H2 := by
 obtain ⟨pu, hu⟩ := hU.u
 have hku := hB _ _ hu
 have hne := hU.ne
 have hx0 := QgR (v := Qnp L (IntKind.i64.wrap (nxI I - 1))) (n := (us.length : Int) - 1)
 have hx1 := QiL (v := Qnp L (IntKind.i64.wrap (nxI I - 1))) (n := (us.length : Int) - 1) (by omega)
 change 0 <= nx L I ((us.length : Int) - 1) at hx0
 change nx L I ((us.length : Int) - 1) < _ at hx1
 obtain ⟨hyk, pr, hy⟩ := hU.c (us[(1 + nx L I ((us.length : Int) - 1)).toNat]'(by omega)) (List.getElem_mem _)
 obtain ⟨hv1, hv2⟩ := hU.v (us[(1 + nx L I ((us.length : Int) - 1)).toNat]'(by omega)) (List.getElem_mem _)
 obtain ⟨s, I2, hs, hcall⟩ := Qrh (H := (kg, gB L (nxI I) eg) :: H) Qx (Qn (Ne.symm hyk) hy) (Ne.symm hyk) (hC.pr rfl) hL hv2 hv1
 refine OkH.ofX (R := fun d H2 => ∃ x I2, WantIn us.length x /\ d = .agg (QeO x) /\ H2 = (kg, gB L I2 eg) :: H) ZX Tryz.func43 Qsq (Nat.le_of_ble_eq_true rfl) ?_
 show TX _ _ tf43.body _ _
 refine Q8 fun K hK => ?_
 refine ZC (by repeat (first | exact hB.none (by decide) | refine Zr (by first | decide | omega) ?_)) ?_
 refine hK _ _ (QM (kp3 rfl rfl rfl) ?_)
 refine Q8 fun K hK => Qa rfl (Qa rfl ?_)
 first | refine QU rfl Q1 ?_ | refine QU rfl rfl ?_
 refine XW rfl rfl (by first | exact Qs (by omega) (by omega) | rfl) (YC (Qci (I := I) rfl (Qn (by omega) hg) hL (by omega)) (Q6 rfl rfl (by first | exact Qs (by omega) (by omega) | rfl) (Qa rfl ?_)))
 refine hK _ _ (QM (kp4 rfl rfl rfl rfl) ?_)
 refine Q8 fun K hK => Qa rfl (Qa rfl (Qa rfl (Qa rfl (Xj rfl rfl (Qn (by omega) (Qn (by omega) hu)) (by simp) (by omega) (by omega) rfl (Qh rfl (Zq (Qn (by omega) (Qn (by omega) hu))) (Qz rfl (Z5 (Qn (by omega) (Qn (by omega) hu)) (ZM (by omega) (by omega))) rfl (YC (hcall _ _ rfl (QaC (B := [_, _]) hB Qx (by intro p hp h; simp only [List.mem_cons, List.not_mem_nil, or_false] at hp; rcases hp with rfl | rfl <;> first | rfl | (simp only at h; omega)))) (QR rfl rfl (Q5 rfl (Qn (by omega) (Qn (by omega) rfl)) rfl rfl rfl rfl rfl rfl ?_)))))))))
 refine hK _ _ (QM (kp1 rfl) ?_)
 refine QeM ?_
 refine ⟨.agg (QeO ⟨1 + nx L I ((us.length : Int) - 1), s⟩), (kg, gB L I2 eg) :: H, ⟨⟨1 + nx L I ((us.length : Int) - 1), s⟩, _, ⟨by show 1 <= 1 + _; omega, by show 1 + _ < (us.length : Int); omega, hs⟩, rfl, rfl⟩, (XJ hB hC hkg rfl).1, (XJ hB hC hkg rfl).2, ?_⟩
 refine Qcz (cs := QeO ⟨1 + nx L I ((us.length : Int) - 1), s⟩) rfl (Z5 (by repeat (first | exact Qx | refine Qn (by first | decide | omega) ?_)) rfl) rfl rfl rfl ?_
 exact QaC (B := [_, _, _, _]) hB (by repeat (first | exact Qx | refine Qn (by first | decide | omega) ?_)) (by intro p hp h; simp only [List.mem_cons, List.not_mem_nil, or_false] at hp; rcases hp with rfl | rfl | rfl | rfl <;> first | rfl | (simp only at h; omega))
/-- The call of 'want'. -/
theorem QkU {H : List (Nat × Box)} {kg ku : Nat} {L : List Int} {I : Int} {eg eu ec : Nat} {us : List UR} (hg : lk H kg = some (gB L I eg)) (hU : Fam H kg ku eu ec us) (hC : Closed H) (hL : ∀ x ∈ L, I64 x) (h2 : 2 <= us.length) (hn : us.length <= 48) :
  ∃ x I2, WantIn us.length x /\ ∀ (st : St) (args : List Opd), Zt st args = some [.ref kg 0 0, .osl ku us.length] -> (∀ j x, lk H j = some x -> lk st.H j = some x) -> Qbf Tryz.prog 43 args st H [] [(kg, gB L I2 eg)] (.agg (QeO x)) := by
 obtain ⟨d, H2, ⟨x, I2, hx, rfl, rfl⟩, hok⟩ := Qc1 (H := upH H) (kg := upN kg) (ku := upN ku) (L := L) (I := I) (eg := eg) (eu := eu) (ec := ec) (us := us.map UR.ren) (by unfold upN; omega) (by rw [QaD, hg]; rfl) hU.up Qj8 (QeB hC) hL (by simpa using h2) (by simpa using hn)
 obtain ⟨pu, hu⟩ := hU.u
 rw [List.length_map] at hx hok
 refine ⟨x, I2, hx, fun st args ha hF => Qkl (b' := gB L I2 eg) (ds' := [.ref (upN kg) 0 0, .osl (upN ku) us.length]) ha hF hC (fun x hx j hj => ?_) (Zq hg) rfl rfl rfl rfl hok⟩
 simp only [List.mem_cons, List.not_mem_nil, or_false] at hx
 rcases hx with rfl | rfl
 ·simp [D.ids, D.sid] at hj; subst hj; exact Zq hg
 ·simp [D.ids, D.sid] at hj; subst hj; exact Zq hu
end Go.Proofs
namespace Go.Proofs
open Go Go.Abs M3 M25
set_option linter.unusedVariables false
set_option linter.unusedSimpArgs false
theorem QcG {H : List (Nat × Box)} {kg ku : Nat} {L : List Int} {I most : Int} {eg eu ec : Nat} {us : List UR} (hkg : 1000000 <= kg) (hg : lk H kg = some (gB L I eg)) (hU : Fam H kg ku eu ec us) (hB : Big H) (hC : Closed H) (hL : ∀ x ∈ L, I64 x) (h2n : 2 <= us.length) (hn : us.length <= 48) (hm0 : 0 <= most) (hm1 : most <= 10) : ∃ d H2, (∃ ns I2, Qfe us.length most ns /\ d = QW ns /\ H2 = (kg, gB L I2 eg) :: H) /\ OkH Tryz.prog 40 [.ref kg 0 0, .osl ku us.length, .int .i64 most] H d H2 := by
 obtain ⟨pu, hu⟩ := hU.u
 have hku := hB _ _ hu
 have hne := hU.ne
 have hk0 : 0 <= nx L I (most + 1) := QgR
 have hk1 : nx L I (most + 1) < most + 1 := QiL (by omega)
 refine OkH.ofX (R := fun d H2 => ∃ ns I2, Qfe us.length most ns /\ d = QW ns /\ H2 = (kg, gB L I2 eg) :: H) ZX Tryz.func40 Qsn (Nat.le_of_ble_eq_true rfl) ?_
 show TX _ _ tf40.body _ _
 refine Q8 fun K hK => Qa rfl ?_
 refine hK _ _ (QM (kp3 rfl rfl rfl) ?_)
 refine Q8 fun K hK => Qa rfl ?_
 refine hK _ _ (QM (kp4 rfl rfl rfl rfl) ?_)
 refine Xw ?_ -- 0
 refine Q8 fun K hK => Qa rfl (Qa rfl (Q6 rfl rfl (by first | exact Qs (by omega) (by omega) | rfl) (YC (Qci (I := I) rfl hg hL (by omega)) (Qa rfl ?_))))
 refine hK _ _ (QM (kp4 rfl rfl rfl rfl) ?_)
 refine Ys ?_
 refine Qdj (ι := Nat × List (List WantT) × Int) (fun ⟨k, ns, J⟩ => ⟨[(0, .ref kg 0 0), (1, .osl ku us.length), (7, .osl 7 ns.length), (8, .int .i64 k)], [(7, ⟨(ns).map (fun r => [Zb r]), 1, 69, true⟩), (kg, gB L J eg)] ++ H⟩) (fun ⟨k, ns, J⟩ => (ns.length : Int) + k <= most /\ ∀ r ∈ ns, Qic us.length r) (fun ⟨k, ns, J⟩ => k) ((nx L I (most + 1)).toNat, [], nxI I) ?_ ?_ ?_
 ·exact le_trans (Yw 7 7 1 69 rfl (by repeat (first | exact hB.none (by decide) | refine Zr (by first | decide | omega) ?_))) (QfK (l := [0, 1, 7, 8]) (B := [_, _]) (kp4 rfl rfl rfl rfl) (by simp only [Int.toNat_of_nonneg hk0] <;> rfl) (by intro p hp; simp only [List.mem_cons, List.not_mem_nil, or_false] at hp; rcases hp with rfl | rfl <;> exact ⟨by repeat (first | exact Qx | refine Qn (by first | decide | omega) ?_), rfl⟩) rfl (by intro p hp h; simp only [List.mem_cons, List.not_mem_nil, or_false] at hp; rcases hp with rfl | rfl <;> first | (simp only at h; omega) | (repeat (first | exact QZ | refine QX ?_))) hB hC (by intro p hp k hk; simp only [List.mem_cons, List.not_mem_nil, or_false] at hp; rcases hp with rfl | rfl | rfl | rfl <;> first | (simp [D.ids, D.sid, Zb, QW, ZH] at hk; done) | (simp [D.ids, D.sid, Zb, QW, ZH] at hk; subst hk; repeat (first | exact QZ | exact Zq hg | exact Zq hu | refine QX ?_))))
 ·exact ⟨by simp only [List.length_nil]; omega, by simp⟩
 intro ⟨k, ns, J⟩ hI
 try dsimp only at hI
 try dsimp only
 refine Xw ?_ -- 1
 refine Q8 fun K hK => Qa rfl (Qh6 rfl rfl ?_)
 refine hK _ _ (QM (kp5 rfl rfl rfl rfl rfl) ?_)
 refine YL rfl (fun h1 => ?_) (fun h1 => ?_)
 ·try rw [h1]
  try simp only [qa, qb, qc, qd, qe, List.length_map] at h1
  refine Y0 (Q0 (kp4 rfl rfl rfl rfl) ?_)
  refine Xw ?_ -- 2
  refine Ys (Q8 fun K hK => Qa rfl (Qa rfl ?_))
  obtain ⟨x1, J1, hx1, hc1⟩ := QkU (I := J) (H := (kg, gB L (J) eg) :: H) Qx hU.cons (hC.pr rfl) hL h2n hn
  refine YC (hc1 _ _ rfl (QaC (B := [_, _]) hB (by repeat (first | exact Qx | refine Qn (by first | decide | omega) ?_)) (by intro p hp h; simp only [List.mem_cons, List.not_mem_nil, or_false] at hp; rcases hp with rfl | rfl <;> first | rfl | (simp only at h; omega)))) ?_
  refine QH rfl (by repeat (first | exact hB.none (by decide) | refine Zr (by first | decide | omega) ?_)) ?_
  refine Qa rfl ?_
  refine hK _ _ (QM (kp5 rfl rfl rfl rfl rfl) ?_)
  refine Qqi (ι := List WantT × Int) (fun ⟨r, J4⟩ => ⟨[(0, .ref kg 0 0), (1, .osl ku us.length), (7, .osl 7 ns.length), (8, .int .i64 k), (9, Zb r)], [(7, ⟨(ns).map (fun r => [Zb r]), 1, 69, true⟩), (kg, gB L J4 eg)] ++ H⟩) (fun ⟨r, J4⟩ => Qic us.length r) ?_ ?_
  ·skip
   refine Q8 fun K hK => Qa rfl (YC (Qci (I := J1) rfl (Qn (by omega) Qx) hL (by omega)) (Zy rfl rfl ?_))
   refine hK _ _ (QM (kp6 rfl rfl rfl rfl rfl rfl) ?_)
   refine YL rfl (fun h2 => ?_) (fun h2 => ?_)
   ·try rw [h2]
    try simp only [qa, qb, qc, qd, qe, List.length_map] at h2
    refine ZQ fun K hK => Qa rfl (Qa rfl (Qa rfl ?_))
    obtain ⟨x2, J2, hx2, hc2⟩ := QkU (I := nxI J1) (H := (kg, gB L (nxI J1) eg) :: H) Qx hU.cons (hC.pr rfl) hL h2n hn
    refine YC (hc2 _ _ rfl (QaC (B := [_, _, _, _, _]) hB (by repeat (first | exact Qx | refine Qn (by first | decide | omega) ?_)) (by intro p hp h; simp only [List.mem_cons, List.not_mem_nil, or_false] at hp; rcases hp with rfl | rfl | rfl | rfl | rfl <;> first | rfl | (simp only at h; omega)))) ?_
    refine QH rfl (by repeat (first | exact hB.none (by decide) | refine Zr (by first | decide | omega) ?_)) ?_
    refine Qo5 rfl rfl (by simp [D.ids, D.sid]) ⟨_, rfl, rfl, rfl, rfl, rfl⟩ (by repeat (first | exact hB.none (by decide) | refine Zr (by first | decide | omega) ?_)) (Qn (by decide) (Qn (by omega) (Qn (by omega) rfl))) rfl rfl rfl (by simp) (by simp) ?_
    refine Qa rfl (hK _ ?_)
    refine Yh ([x1, x2], J2) ?_ ?_
    ·exact le_trans (QjE (l := [0, 1, 7, 8]) (B := [_, _, _, _, _, _, _, _, _]) (A := [(7, ⟨(ns).map (fun r => [Zb r]), 1, 69, true⟩), (kg, gB L J2 eg)]) 30 9 (kp4 rfl rfl rfl rfl) rfl rfl rfl (by first | (simp; done) | (simp; omega)) (by intro p hp hk; simp only [List.mem_cons, List.not_mem_nil, or_false] at hp; rcases hp with rfl | rfl | rfl | rfl <;> first | (simp [D.ids, D.sid, Zb, QW, ZH] at hk; done) | (simp [D.ids, D.sid, Zb, QW, ZH] at hk; omega)) (by intro p hp; simp only [List.mem_cons, List.not_mem_nil, or_false] at hp; rcases hp with rfl | rfl <;> exact ⟨by first | decide | (simp only; omega), by repeat (first | exact Qx | refine Qn (by first | decide | omega) ?_), rfl⟩) (by intro p hp h; simp only [List.mem_cons, List.not_mem_nil, or_false] at hp; rcases hp with rfl | rfl | rfl | rfl | rfl | rfl | rfl | rfl | rfl <;> first | (simp only at h; omega) | (repeat (first | exact QZ | refine QX ?_))) hB hC (by intro p hp k hk; simp only [List.mem_cons, List.not_mem_nil, or_false] at hp; rcases hp with rfl | rfl | rfl | rfl <;> first | (simp [D.ids, D.sid, Zb, QW, ZH] at hk; done) | (simp [D.ids, D.sid, Zb, QW, ZH] at hk; subst hk; repeat (first | exact QZ | exact Zq hg | exact Zq hu | refine QX ?_)))) (QfK (l := [0, 1, 7, 8, 9]) (B := [_, _]) (kp5 rfl rfl rfl rfl rfl) rfl (by intro p hp; simp only [List.mem_cons, List.not_mem_nil, or_false] at hp; rcases hp with rfl | rfl <;> exact ⟨by repeat (first | exact Qx | refine Qn (by first | decide | omega) ?_), rfl⟩) rfl (by intro p hp h; simp only [List.mem_cons, List.not_mem_nil, or_false] at hp; rcases hp with rfl | rfl <;> first | (simp only at h; omega) | (repeat (first | exact QZ | refine QX ?_))) hB hC (by intro p hp k hk; simp only [List.mem_cons, List.not_mem_nil, or_false] at hp; rcases hp with rfl | rfl | rfl | rfl | rfl <;> first | (simp [D.ids, D.sid, Zb, QW, ZH] at hk; done) | (simp [D.ids, D.sid, Zb, QW, ZH] at hk; subst hk; repeat (first | exact QZ | exact Zq hg | exact Zq hu | refine QX ?_))))
    ·exact QpK hx1 hx2
   ·try rw [h2]
    try simp only [qa, qb, qc, qd, qe, List.length_map] at h2
    refine Y0 ?_
    refine Yh ([x1], nxI J1) ?_ ?_
    ·exact le_trans (QjE (l := [0, 1, 7, 8]) (B := [_, _, _, _, _]) (A := [(7, ⟨(ns).map (fun r => [Zb r]), 1, 69, true⟩), (kg, gB L (nxI J1) eg)]) 21 9 (kp4 rfl rfl rfl rfl) rfl (Qn (by omega) rfl) rfl (by first | (simp; done) | (simp; omega)) (by intro p hp hk; simp only [List.mem_cons, List.not_mem_nil, or_false] at hp; rcases hp with rfl | rfl | rfl | rfl <;> first | (simp [D.ids, D.sid, Zb, QW, ZH] at hk; done) | (simp [D.ids, D.sid, Zb, QW, ZH] at hk; omega)) (by intro p hp; simp only [List.mem_cons, List.not_mem_nil, or_false] at hp; rcases hp with rfl | rfl <;> exact ⟨by first | decide | (simp only; omega), by repeat (first | exact Qx | refine Qn (by first | decide | omega) ?_), rfl⟩) (by intro p hp h; simp only [List.mem_cons, List.not_mem_nil, or_false] at hp; rcases hp with rfl | rfl | rfl | rfl | rfl <;> first | (simp only at h; omega) | (repeat (first | exact QZ | refine QX ?_))) hB hC (by intro p hp k hk; simp only [List.mem_cons, List.not_mem_nil, or_false] at hp; rcases hp with rfl | rfl | rfl | rfl <;> first | (simp [D.ids, D.sid, Zb, QW, ZH] at hk; done) | (simp [D.ids, D.sid, Zb, QW, ZH] at hk; subst hk; repeat (first | exact QZ | exact Zq hg | exact Zq hu | refine QX ?_)))) (QfK (l := [0, 1, 7, 8, 9]) (B := [_, _]) (kp5 rfl rfl rfl rfl rfl) rfl (by intro p hp; simp only [List.mem_cons, List.not_mem_nil, or_false] at hp; rcases hp with rfl | rfl <;> exact ⟨by repeat (first | exact Qx | refine Qn (by first | decide | omega) ?_), rfl⟩) rfl (by intro p hp h; simp only [List.mem_cons, List.not_mem_nil, or_false] at hp; rcases hp with rfl | rfl <;> first | (simp only at h; omega) | (repeat (first | exact QZ | refine QX ?_))) hB hC (by intro p hp k hk; simp only [List.mem_cons, List.not_mem_nil, or_false] at hp; rcases hp with rfl | rfl | rfl | rfl | rfl <;> first | (simp [D.ids, D.sid, Zb, QW, ZH] at hk; done) | (simp [D.ids, D.sid, Zb, QW, ZH] at hk; subst hk; repeat (first | exact QZ | exact Zq hg | exact Zq hu | refine QX ?_))))
    ·exact QpJ hx1
  intro ⟨r, J4⟩ hJ
  try dsimp only at hJ
  try dsimp only
  refine ZQ fun K hK => Qa rfl (Qa rfl ?_)
  refine QH rfl (by repeat (first | exact hB.none (by decide) | refine Zr (by first | decide | omega) ?_)) ?_
  refine XM rfl rfl (fun _ h => Xv rfl rfl rfl h) rfl (by simp) rfl rfl rfl (by simp; omega) (by simp; omega) (Qa rfl (hK _ ?_))
  refine Qi (Q0 (kp4 rfl rfl rfl rfl) (ZQ fun K hK => Qa rfl (XW rfl rfl (by first | exact Qs (by omega) (by omega) | rfl) (Qa rfl (hK _ ?_)))))
  refine Ql (k - 1, ns ++ [r], J4) ?_ ?_ ?_
  ·exact le_trans (Qqz (B := [_, _, _, _]) 7 hB hC) (QfK (l := [0, 1, 7, 8]) (A := [(7, ⟨ns.map (fun r => [Zb r]) ++ [[Zb r]], 1, 69, true⟩), (kg, gB L J4 eg)]) (B := [_, _, _, _]) (kp4 rfl rfl rfl rfl) (by simp [D.scrub, show ¬ kg = 7 by omega, show ¬ ku = 7 by omega] <;> omega) (by intro p hp; simp only [List.mem_cons, List.not_mem_nil, or_false] at hp; rcases hp with rfl | rfl <;> exact ⟨by repeat (first | exact Qx | refine Qn (by first | decide | omega) ?_), rfl⟩) (by simp) (by intro p hp h; simp only [List.mem_cons, List.not_mem_nil, or_false] at hp; rcases hp with rfl | rfl | rfl | rfl <;> first | (simp only at h; omega) | (repeat (first | exact QZ | refine QX ?_))) hB hC (by intro p hp k hk; simp only [List.mem_cons, List.not_mem_nil, or_false] at hp; rcases hp with rfl | rfl | rfl | rfl <;> first | (simp [D.ids, D.sid, Zb, QW, ZH] at hk; done) | (simp [D.ids, D.sid, Zb, QW, ZH] at hk; subst hk; repeat (first | exact QZ | exact Zq hg | exact Zq hu | refine QX ?_))))
  ·exact ⟨by simp only [List.length_append, List.length_singleton]; omega, Qm3 hI.2 hJ⟩
  ·show k - 1 < k; omega
 ·try rw [h1]
  try simp only [qa, qb, qc, qd, qe, List.length_map] at h1
  refine QbG (Yz (QB (QI (Q0 (kp1 rfl) (Q8 fun K hK => Qa rfl (Qa rfl ?_))))))
  refine hK _ _ (QM (kp1 rfl) ?_)
  refine QeM ?_
  refine ⟨QW ns, (kg, gB L J eg) :: H, ⟨ns, _, ⟨by omega, hI.2⟩, rfl, rfl⟩, (XJ hB hC hkg rfl).1, (XJ hB hC hkg rfl).2, ?_⟩
  refine Y1 rfl (by simp [QlH, D.fz, D.fzS, QeR, lk, D.can, D.canS, QW]) ?_
  exact QaC (B := [_, _]) hB (by repeat (first | exact Qx | refine Qn (by first | decide | omega) ?_)) (by intro p hp h; simp only [List.mem_cons, List.not_mem_nil, or_false] at hp; rcases hp with rfl | rfl <;> first | rfl | (simp only at h; omega))
end Go.Proofs
namespace M25
open Go Go.Abs M3
/-! ### The boxes of a world under way -/
def fbx (ec : Nat) (us : List UR) : List (Nat × Box) := us.map fun u => (u.k, ⟨u.cs.map dCR, 8, ec, true⟩)
def Ya (us : List UR) : Prop := ∀ j, ∀ h : j < us.length, us[j].k = 500001 + j
theorem QiC {us : List UR} {u : UR} (h : Ya us) (hu : u.k = 500001 + us.length) : Ya (us ++ [u]) := fun j hj => by
 rw [List.length_append, List.length_singleton] at hj
 by_cases e : j < us.length
 ·rw [List.getElem_append_left e]; exact h j e
 ·have : j = us.length := by omega
  subst this
  rw [List.getElem_append_right (Nat.le_refl _)]; simpa using hu
theorem Qfy (ec : Nat) (us : List UR) : Qnr (fbx ec us) := fun p hp => by
 obtain ⟨u, _, rfl⟩ := List.mem_map.1 hp; rfl
theorem QgK {ec : Nat} : ∀ {us : List UR} {k : Nat} {b : Box}, lk (fbx ec us) k = some b -> ∃ u ∈ us, k = u.k /\ b = ⟨u.cs.map dCR, 8, ec, true⟩
 | [], _, _, h => by cases h
 | u :: us, k, b, h => by
  simp only [fbx, List.map_cons] at h
  rw [Qm] at h
  split at h
  ·rename_i e; cases h; exact ⟨u, by simp, e.symm, rfl⟩
  ·obtain ⟨v, hv, q⟩ := QgK (us := us) h
   exact ⟨v, by simp [hv], q⟩
theorem Qbo {us : List UR} (h : Ya us) {u : UR} (hu : u ∈ us) : 500001 <= u.k /\ u.k < 500001 + us.length := by
 obtain ⟨j, hj, rfl⟩ := List.getElem_of_mem hu
 have := h j hj
 omega
theorem Qhm {ec : Nat} {us : List UR} (h : Ya us) : QrW 500001 (fbx ec us) := fun k b hk => by
 obtain ⟨u, hu, rfl, _⟩ := QgK hk
 exact (Qbo h hu).1
theorem YU {ec : Nat} {us : List UR} (h : Ya us) {k : Nat} (hk : k < 500001 \/ 500001 + us.length <= k) : lk (fbx ec us) k = none := by
 cases hh : lk (fbx ec us) k with
 | none => rfl
 | some b =>
  obtain ⟨u, hu, rfl, _⟩ := QgK hh
  have := Qbo h hu
  omega
theorem Qmb {ec : Nat} : ∀ {us : List UR} {n : Nat}, (∀ j, ∀ h : j < us.length, us[j].k = n + j) -> ∀ j, ∀ h : j < us.length, lk (fbx ec us) (n + j) = some ⟨us[j].cs.map dCR, 8, ec, true⟩
 | [], _, _, j, hj => by simp at hj
 | u :: us, n, hk, 0, _ => by
  have := hk 0 (by simp)
  simp only [List.getElem_cons_zero, Nat.add_zero] at this
  simp only [fbx, List.map_cons, Nat.add_zero]
  rw [Qm, if_pos this]; rfl
 | u :: us, n, hk, j + 1, hj => by
  have h0 := hk 0 (by simp)
  simp only [List.getElem_cons_zero, Nat.add_zero] at h0
  simp only [fbx, List.map_cons]
  rw [Qm, if_neg (by omega)]
  have := Qmb (ec := ec) (us := us) (n := n + 1) (fun i hi => by
   have := hk (i + 1) (by simpa using hi)
   simp only [List.getElem_cons_succ] at this
   omega) j (by simpa using hj)
  rw [show n + 1 + j = n + (j + 1) by omega] at this
  simp only [List.getElem_cons_succ]
  exact this
theorem Qma {ec : Nat} {us : List UR} (h : Ya us) {j : Nat} (hj : j < us.length) : lk (fbx ec us) (500001 + j) = some ⟨us[j].cs.map dCR, 8, ec, true⟩ := Qmb h j hj
theorem Qkt (ec : Nat) (us : List UR) (u : UR) : fbx ec (us ++ [u]) = fbx ec us ++ [(u.k, ⟨u.cs.map dCR, 8, ec, true⟩)] := by simp [fbx]
theorem QnN {ec : Nat} {us : List UR} (h : Ya us) {kg : Nat} {x y : Box} {u : UR} (hu : u.k = 500001 + us.length) (hkg : u.k ≠ kg) (k : Nat) :
  lk ((u.k, ⟨u.cs.map dCR, 8, ec, true⟩) :: (500000, x) :: (kg, y) :: fbx ec us) k = lk ((500000, x) :: (kg, y) :: fbx ec (us ++ [u])) k := by
 rw [Qkt]
 by_cases e : u.k = k
 ·subst e
  rw [Qx, Qm, if_neg (by omega), Qm, if_neg (Ne.symm hkg), YV (YU h (.inr (by omega))), Qx]
 ·rw [Qm, if_neg e, Qm, Qm, Qm, Qm]
  split
  ·rfl
  ·split
   ·rfl
   ·rw [ZT]
    cases h2 : lk (fbx ec us) k with
    | some v => rfl
    | none => rw [Qm, if_neg e]; rfl
def zr (v : Vr) (sh : Int) : CR := ⟨v, .int .i64 sh, .fsl [], .fsl []⟩
def Qp7 (u : UR) : Prop := u.cs.length <= 4 /\ ∀ z ∈ u.cs, ∃ v sh, z = zr v sh /\ Qgs v
theorem QoO {u : UR} : (dUR u).flatMap D.sid = [u.k] := by simp [dUR, D.sid]
theorem QbD {us : List UR} {e et : Nat} {k : Nat} (h : k ∈ (Box.ids ⟨us.map dUR, e, et, false⟩)) : ∃ u ∈ us, k = u.k := by
 simp only [Box.ids, Bool.false_eq_true, if_false, List.mem_flatMap, List.mem_map] at h
 obtain ⟨r, ⟨u, hu, rfl⟩, hk⟩ := h
 have : k ∈ (dUR u).flatMap D.sid := List.mem_flatMap.2 hk
 rw [QoO] at this
 exact ⟨u, hu, by simpa using this⟩
theorem QpT {us : List UR} (h : Ya us) : ∀ r ∈ us.map dUR, ∀ d ∈ r, 500000 ∉ d.sid := fun r hr d hd hk => by
 obtain ⟨u, hu, rfl⟩ := List.mem_map.1 hr
 have : 500000 ∈ (dUR u).flatMap D.sid := List.mem_flatMap.2 ⟨d, hd, hk⟩
 rw [QoO] at this
 have h2 := Qbo h hu
 simp only [List.mem_singleton] at this
 omega
theorem Qhb {B F : List (Nat × Box)} {j : Nat} (h : (lk F j).isSome = true) : (lk (B ++ F) j).isSome = true := by
 rw [ZT]; split
 ·rfl
 ·exact h
theorem Qdx {ec : Nat} {us : List UR} (h : Ya us) {u : UR} (hu : u ∈ us) : (lk (fbx ec us) u.k).isSome = true := by
 obtain ⟨j, hj, rfl⟩ := List.getElem_of_mem hu
 rw [h j hj, Qma h hj]; rfl
theorem Qhn {ec : Nat} {us : List UR} {u : UR} (h : Ya us) (hu : u.k = 500001 + us.length) : lk (fbx ec (us ++ [u])) (500001 + us.length) = some ⟨u.cs.map dCR, 8, ec, true⟩ := by
 rw [Qkt, YV (YU h (.inr (Nat.le_refl _))), <- hu, Qx]
section
variable {l : List Nat} {fr fr1 fr' : List (Nat × D)} {B : List (Nat × Box)} {kg eg eu ec : Nat} {L : List Int} {J : Int} {us : List UR}
theorem QrZ (hf : Zd l fr = fr1) (ef : fr1 = fr') (hK : Ya us) (hu : lk B 500000 = some ⟨us.map dUR, 3, eu, false⟩) (hg : lk B kg = some (gB L J eg)) (hB : ∀ p ∈ B, 500001 <= p.1 -> p.1 = kg) (hkg : kg ≠ 500000)
  (hfr : ∀ p ∈ fr', ∀ k ∈ p.2.ids, k = 500000 \/ k = kg \/ ∃ u ∈ us, k = u.k) : St.le ⟨fr, B ++ fbx ec us⟩ ⟨fr', [(500000, ⟨us.map dUR, 3, eu, false⟩), (kg, gB L J eg)] ++ fbx ec us⟩ := by
 have s0 : ∀ k, (k = 500000 \/ k = kg \/ ∃ u ∈ us, k = u.k) -> (lk ([(500000, (⟨us.map dUR, 3, eu, false⟩ : Box)), (kg, gB L J eg)] ++ fbx ec us) k).isSome = true := fun k hk => by
  rcases hk with rfl | rfl | ⟨u, hu, rfl⟩
  ·exact QZ
  ·exact QX QZ
  ·exact Qhb (Qdx hK hu)
 refine QjG (N := 500001) hf ef (fun p hp => ?_) rfl (fun p hp j hj => s0 j ?_) (fun p hp h => ?_) (Qhm hK) (Qfy ec us) (fun p hp k hk => s0 k (hfr p hp k hk))
 ·simp only [List.mem_cons, List.not_mem_nil, or_false] at hp
  rcases hp with rfl | rfl
  ·exact hu
  ·exact hg
 ·simp only [List.mem_cons, List.not_mem_nil, or_false] at hp
  rcases hp with rfl | rfl
  ·exact .inr (.inr (QbD hj))
  ·simp [Box.ids, gB] at hj
 ·rw [hB p hp h]; exact QX QZ
theorem Qp5 {cs : List CR} (hf : Zd l fr = fr1) (ef : fr1 = fr') (hK : Ya us) (hc : lk B (500001 + us.length) = some ⟨cs.map dCR, 8, ec, true⟩) (hu : lk B 500000 = some ⟨us.map dUR, 3, eu, false⟩) (hg : lk B kg = some (gB L J eg)) (hB : ∀ p ∈ B, 500001 <= p.1 -> p.1 = kg \/ p.1 = 500001 + us.length)
  (hfr : ∀ p ∈ fr', ∀ k ∈ p.2.ids, k = 500000 \/ k = kg \/ k = 500001 + us.length \/ ∃ u ∈ us, k = u.k) : St.le ⟨fr, B ++ fbx ec us⟩ ⟨fr', [(500001 + us.length, ⟨cs.map dCR, 8, ec, true⟩), (500000, ⟨us.map dUR, 3, eu, false⟩), (kg, gB L J eg)] ++ fbx ec us⟩ := by
 have s0 : ∀ k, (k = 500000 \/ k = kg \/ k = 500001 + us.length \/ ∃ u ∈ us, k = u.k) -> (lk ([(500001 + us.length, (⟨cs.map dCR, 8, ec, true⟩ : Box)), (500000, (⟨us.map dUR, 3, eu, false⟩ : Box)), (kg, gB L J eg)] ++ fbx ec us) k).isSome = true := fun k hk => by
  rcases hk with rfl | rfl | rfl | ⟨u, hu, rfl⟩
  ·exact QX QZ
  ·exact QX (QX QZ)
  ·exact QZ
  ·exact Qhb (Qdx hK hu)
 refine QjG (N := 500001) hf ef (fun p hp => ?_) rfl (fun p hp j hj => s0 j ?_) (fun p hp h => ?_) (Qhm hK) (Qfy ec us) (fun p hp k hk => s0 k (hfr p hp k hk))
 ·simp only [List.mem_cons, List.not_mem_nil, or_false] at hp
  rcases hp with rfl | rfl | rfl
  ·exact hc
  ·exact hu
  ·exact hg
 ·simp only [List.mem_cons, List.not_mem_nil, or_false] at hp
  rcases hp with rfl | rfl | rfl
  ·simp [Box.ids] at hj
  ·exact .inr (.inr (.inr (QbD hj)))
  ·simp [Box.ids, gB] at hj
 ·rcases hB p hp h with e | e
  ·rw [e]; exact QX (QX QZ)
  ·rw [e]; exact QZ
theorem QqP {u : UR} (hf : Zd l fr = fr1) (ef : fr1 = fr') (hK : Ya us) (huk : u.k = 500001 + us.length) (hc : lk B (500001 + us.length) = some ⟨u.cs.map dCR, 8, ec, true⟩) (hu : lk B 500000 = some ⟨(us ++ [u]).map dUR, 3, eu, false⟩) (hg : lk B kg = some (gB L J eg)) (hB : ∀ p ∈ B, 500001 <= p.1 -> p.1 = kg \/ p.1 = 500001 + us.length) (hkg : 1000000 <= kg) (hlen : us.length <= 100)
  (hfr : ∀ p ∈ fr', ∀ k ∈ p.2.ids, k = 500000 \/ k = kg \/ ∃ v ∈ us ++ [u], k = v.k) : St.le ⟨fr, B ++ fbx ec us⟩ ⟨fr', [(500000, ⟨(us ++ [u]).map dUR, 3, eu, false⟩), (kg, gB L J eg)] ++ fbx ec (us ++ [u])⟩ := by
 have hK1 := QiC hK huk
 have mv := fun k => QnN (ec := ec) hK (kg := kg) (x := ⟨(us ++ [u]).map dUR, 3, eu, false⟩) (y := gB L J eg) huk (by omega) k
 have s0 : ∀ k, (k = 500000 \/ k = kg \/ ∃ v ∈ us ++ [u], k = v.k) -> (lk ([(u.k, (⟨u.cs.map dCR, 8, ec, true⟩ : Box)), (500000, (⟨(us ++ [u]).map dUR, 3, eu, false⟩ : Box)), (kg, gB L J eg)] ++ fbx ec us) k).isSome = true := fun k hk => by
  show (lk ((u.k, _) :: (500000, _) :: (kg, _) :: fbx ec us) k).isSome = true
  rw [mv]
  rcases hk with rfl | rfl | ⟨v, hv, rfl⟩
  ·exact QZ
  ·exact QX QZ
  ·exact QX (QX (Qdx hK1 hv))
 refine le_trans (QjG (N := 500001) (A' := [(u.k, ⟨u.cs.map dCR, 8, ec, true⟩), (500000, ⟨(us ++ [u]).map dUR, 3, eu, false⟩), (kg, gB L J eg)]) hf ef (fun p hp => ?_) rfl (fun p hp j hj => s0 j ?_) (fun p hp h => ?_) (Qhm hK) (Qfy ec us) (fun p hp k hk => s0 k (hfr p hp k hk))) (QhB ⟨fun _ => rfl, mv⟩)
 ·simp only [List.mem_cons, List.not_mem_nil, or_false] at hp
  rcases hp with rfl | rfl | rfl
  ·rw [huk]; exact hc
  ·exact hu
  ·exact hg
 ·simp only [List.mem_cons, List.not_mem_nil, or_false] at hp
  rcases hp with rfl | rfl | rfl
  ·simp [Box.ids] at hj
  ·exact .inr (.inr (QbD hj))
  ·simp [Box.ids, gB] at hj
 ·rcases hB p hp h with e | e
  ·rw [e]; exact QX (QX QZ)
  ·rw [e, <- huk]; exact QZ
end
def u0 (v : Vr) : UR := ⟨[], [], 500001, [zr v (-1)]⟩
def v0 : Vr := ⟨0, 0, 0, [], []⟩
theorem Qov {kg a b : Nat} (h : 1000000 <= kg) (ha : a < 1000000) (hb : b < 1000000) : Qat a b kg = kg := by
 unfold Qat; rw [if_neg (by omega), if_neg (by omega)]
theorem Qmw {l : List Nat} {fr fr1 fr' : List (Nat × D)} {kg eg eu ec : Nat} {L : List Int} {I : Int} (hkg : 1000000 <= kg) (hf : Zd l fr = fr1) (ef : fr1.map (fun p => (p.1, (p.2.ren (Qat 18 500000)).ren (Qat 16 500001))) = fr') :
  St.le ⟨fr, [(18, ⟨[[.str [], .str [], .osl 16 1]], 3, eu, false⟩), (16, ⟨[dCR (zr v0 (-1))], 8, ec, true⟩), (kg, gB L I eg)]⟩ ⟨fr', [(500000, ⟨[u0 v0].map dUR, 3, eu, false⟩), (kg, gB L I eg)] ++ fbx ec [u0 v0]⟩ := by
 subst hf ef
 have k1 := Qov (a := 18) (b := 500000) hkg (by decide) (by decide)
 have k2 := Qov (a := 16) (b := 500001) hkg (by decide) (by decide)
 refine le_trans (Qb8 l fr _) (le_trans (QhD 18 500000 (by decide) (by decide) _) (le_trans (QhD 16 500001 (by decide) (by decide) _) ?_))
 have hH : ∀ k, lk ([(500000, (⟨[u0 v0].map dUR, 3, eu, false⟩ : Box)), (kg, gB L I eg)] ++ fbx ec [u0 v0]) k = lk (Qg1 (Qat 16 500001) (Qg1 (Qat 18 500000) [(18, ⟨[[.str [], .str [], .osl 16 1]], 3, eu, false⟩), (16, ⟨[dCR (zr v0 (-1))], 8, ec, true⟩), (kg, gB L I eg)])) k := fun k => by
  have e : Qg1 (Qat 16 500001) (Qg1 (Qat 18 500000) [(18, (⟨[[.str [], .str [], .osl 16 1]], 3, eu, false⟩ : Box)), (16, ⟨[dCR (zr v0 (-1))], 8, ec, true⟩), (kg, gB L I eg)]) = [(500000, ⟨[u0 v0].map dUR, 3, eu, false⟩), (500001, ⟨[dCR (zr v0 (-1))], 8, ec, true⟩), (kg, gB L I eg)] := by
   simp only [Qg1, List.map_cons, List.map_nil, k1, k2]; rfl
  rw [e]
  show lk ((500000, _) :: (kg, _) :: (500001, _) :: []) k = _
  rw [Qm, Qm, Qm, Qm, Qm, Qm]
  by_cases h1 : 500000 = k
  ·rw [if_pos h1, if_pos h1]
  ·rw [if_neg h1, if_neg h1]
   by_cases h2 : kg = k
   ·rw [if_pos h2, if_neg (by omega), if_pos h2]
   ·rw [if_neg h2, if_neg h2]; rfl
 refine Qbp (by simp only [St.ren, List.map_map]; rfl) fun k => (hH k).symm
def names5 : List (List UInt8) := [[97, 110, 116], [98, 101, 101], [99, 111, 119], [100, 111, 103], [101, 108, 107]]
theorem Ze : names5.length = 5 := rfl
theorem QpU : versions.length = 4 := rfl
theorem QqR {i : Nat} (h : i < versions.length) : Qgs versions[i] := by
 have := Qka _ (List.getElem_mem h)
 exact ⟨Nat.le_trans this.1 (by omega), Nat.le_trans this.2 (by omega)⟩
structure UnitsIn (us : List UR) : Prop where
 keys : Ya us
 fresh : ∀ u ∈ us, Qp7 u
 first : ∃ z rest, us = ⟨[], [], 500001, [z]⟩ :: rest
theorem UnitsIn.zero : UnitsIn [u0 v0] := by
 refine ⟨fun j hj => ?_, fun u hu => ?_, ⟨zr v0 (-1), [], rfl⟩⟩
 ·have : j = 0 := by simp at hj; exact hj
  subst this; rfl
 ·simp only [List.mem_singleton] at hu; subst hu
  refine ⟨by simp [u0], fun z hz => ?_⟩
  simp only [u0, List.mem_singleton] at hz; subst hz
  exact ⟨v0, -1, rfl, ⟨Nat.zero_le _, Nat.zero_le _⟩⟩
theorem UnitsIn.snoc {us : List UR} (h : UnitsIn us) {n f : List UInt8} {cs : List CR} (hc : cs.length <= 4) (hz : ∀ z ∈ cs, ∃ v sh, z = zr v sh /\ Qgs v) : UnitsIn (us ++ [⟨n, f, 500001 + us.length, cs⟩]) := by
 obtain ⟨h1, h2, z, rest, h3⟩ := h
 refine ⟨QiC h1 rfl, fun u hu => ?_, z, rest ++ [⟨n, f, 500001 + us.length, cs⟩], by rw [h3]; rfl⟩
 rcases List.mem_append.1 hu with hu | hu
 ·exact h2 u hu
 ·simp only [List.mem_singleton] at hu; subst hu; exact ⟨hc, hz⟩
def CsIn (n : Nat) (cs : List CR) : Prop := cs.length <= n /\ ∀ z ∈ cs, ∃ v sh, z = zr v sh /\ Qgs v
theorem CsIn.nil (n : Nat) : CsIn n [] := ⟨Nat.zero_le _, by simp⟩
theorem CsIn.keep {n : Nat} {cs : List CR} (h : CsIn n cs) : CsIn (n + 1) cs := ⟨Nat.le_succ_of_le h.1, h.2⟩
theorem CsIn.snoc {n : Nat} {cs : List CR} (h : CsIn n cs) {v : Vr} (hv : Qgs v) {sh : Int} : CsIn (n + 1) (cs ++ [zr v sh]) := by
 refine ⟨by simp; exact h.1, fun z hz => ?_⟩
 rcases List.mem_append.1 hz with hz | hz
 ·exact h.2 z hz
 ·simp only [List.mem_singleton] at hz; subst hz; exact ⟨v, sh, rfl, hv⟩
theorem CsIn.at {n : Nat} {cs : List CR} (h : CsIn n cs) {i : Nat} (hi : i < cs.length) : Qgs cs[i].v := by
 obtain ⟨v, sh, e, hv⟩ := h.2 _ (List.getElem_mem hi)
 rw [e]; exact hv
theorem QkE {α : Type} {k : Nat} {v v' : α} {l : List (Nat × α)} (h : v = v') : lk ((k, v) :: l) k = some v' := by rw [Qx, h]
theorem Qi6 {us : List UR} {e et : Nat} (h : Ya us) : Box.scrub (500001 + us.length) ⟨us.map dUR, e, et, false⟩ = ⟨us.map dUR, e, et, false⟩ := Qi5 fun hk => by
 obtain ⟨u, hu, e⟩ := QbD hk
 have := Qbo h hu
 omega
theorem Qk4 {us : List UR} (h : Ya us) {n f : List UInt8} {k m : Nat} (hk : k ≠ 500000) : ∀ r ∈ us.map dUR ++ [[D.str n, D.str f, D.osl k m]], ∀ d ∈ r, 500000 ∉ d.sid := fun r hr d hd => by
 rcases List.mem_append.1 hr with hr | hr
 ·exact QpT h r hr d hd
 ·simp only [List.mem_singleton] at hr; subst hr
  simp only [List.mem_cons, List.not_mem_nil, or_false] at hd
  rcases hd with rfl | rfl | rfl <;> simp [D.sid]
  exact Ne.symm hk
theorem QpS {us : List UR} {u : UR} : (us ++ [u]).map dUR = us.map dUR ++ [dUR u] := by simp
theorem Qpp {cs : List CR} {z : CR} : (cs ++ [z]).map dCR = cs.map dCR ++ [dCR z] := by simp
theorem Qba {us : List UR} (h : Ya us) {kg eu ec : Nat} {g1 g2 g3 : Box} (hkg : 1000000 <= kg) (h1 : g1.pr = true) (h2 : g2.pr = true) (hlen : us.length <= 100) :
  (∀ k, 1000000 <= k -> (lk [(kg, g1)] k).isSome = true -> (lk (((500000, (⟨us.map dUR, 3, eu, false⟩ : Box)) :: fbx ec us) ++ [(kg, g2), (kg, g1)]) k).isSome = true) /\
  (∀ k b, lk (((500000, (⟨us.map dUR, 3, eu, false⟩ : Box)) :: fbx ec us) ++ [(kg, g2), (kg, g1)]) k = some b -> 500000 <= k /\ ∀ j ∈ b.ids, (lk (((500000, (⟨us.map dUR, 3, eu, false⟩ : Box)) :: fbx ec us) ++ [(kg, g2), (kg, g1)]) j).isSome = true) /\
  (∀ k b, lk (((500000, (⟨us.map dUR, 3, eu, false⟩ : Box)) :: fbx ec us) ++ [(kg, g2), (kg, g1)]) k = some b -> lk ((kg, g2) :: (500000, ⟨us.map dUR, 3, eu, false⟩) :: (kg, g3) :: fbx ec us) k = some b) := by
 have cs : ∀ k b, lk (((500000, (⟨us.map dUR, 3, eu, false⟩ : Box)) :: fbx ec us) ++ [(kg, g2), (kg, g1)]) k = some b -> (k = 500000 /\ b = ⟨us.map dUR, 3, eu, false⟩) \/ (∃ u ∈ us, k = u.k /\ b = ⟨u.cs.map dCR, 8, ec, true⟩) \/ (k = kg /\ b = g2) := fun k b hk => by
  rw [List.cons_append, Qm] at hk
  split at hk
  ·rename_i e; cases hk; exact .inl ⟨e.symm, rfl⟩
  ·rw [ZT] at hk
   cases hh : lk (fbx ec us) k with
   | some v =>
    rw [hh] at hk; cases hk
    exact .inr (.inl (QgK hh))
   | none =>
    rw [hh] at hk
    simp only at hk
    rw [Qm] at hk
    split at hk
    ·rename_i e; cases hk; exact .inr (.inr ⟨e.symm, rfl⟩)
    ·rename_i e
     rw [Qm, if_neg e] at hk; cases hk
 refine ⟨fun k _ hk => ?_, fun k b hk => ?_, fun k b hk => ?_⟩
 ·obtain ⟨b, hb⟩ := Option.isSome_iff_exists.1 hk
  obtain ⟨rfl, _⟩ := Xz hb
  exact Qhb QZ
 ·rcases cs k b hk with ⟨rfl, rfl⟩ | ⟨u, hu, rfl, rfl⟩ | ⟨rfl, rfl⟩
  ·refine ⟨Nat.le_refl _, fun j hj => ?_⟩
   obtain ⟨u, hu, rfl⟩ := QbD hj
   rw [List.cons_append]
   refine QX ?_
   obtain ⟨b, hb⟩ := Option.isSome_iff_exists.1 (Qdx (ec := ec) h hu)
   rw [Yt hb]; rfl
  ·have := Qbo h hu
   exact ⟨by omega, fun j hj => by simp [Box.ids] at hj⟩
  ·exact ⟨by omega, fun j hj => by rw [Qab h2] at hj; cases hj⟩
 ·rcases cs k b hk with ⟨rfl, rfl⟩ | ⟨u, hu, rfl, rfl⟩ | ⟨rfl, rfl⟩
  ·exact Qn (by omega) Qx
  ·have hm := Qbo h hu
   obtain ⟨j, hj, rfl⟩ := List.getElem_of_mem hu
   refine Qn (by omega) (Qn (by omega) (Qn (by omega) ?_))
   rw [h j hj]; exact Qma h hj
  ·exact Qx
end M25
namespace Go.Proofs
open Go Go.Abs M3 M25
set_option linter.unusedVariables false
set_option linter.unusedSimpArgs false
theorem QcH {kg : Nat} {L : List Int} {I most : Int} {eg eu ec : Nat} (heu : eu = 74) (hec : ec = 71) (hkg : 1000000 <= kg) (hL : ∀ x ∈ L, I64 x) (hm0 : 1 <= most) (hm1 : most <= 5) : ∃ d H2, (∃ us I2, (UnitsIn us /\ 2 <= us.length /\ us.length <= 11) /\ d = .osl 500000 us.length /\ H2 = ((500000, ⟨us.map dUR, 3, eu, false⟩) :: fbx ec us) ++ [(kg, gB L I2 eg), (kg, gB L I eg)]) /\ OkH Tryz.prog 39 [.ref kg 0 0, .int .i64 most] [(kg, gB L I eg)] d H2 := by
 subst heu hec
 have e3 : ¬ kg = 500000 := by omega
 have k1 := Qov (a := 18) (b := 500000) hkg (by decide) (by decide)
 have k2 := Qov (a := 16) (b := 500001) hkg (by decide) (by decide)
 refine OkH.ofX (R := fun d H2 => ∃ us I2, (UnitsIn us /\ 2 <= us.length /\ us.length <= 11) /\ d = .osl 500000 us.length /\ H2 = ((500000, ⟨us.map dUR, 3, 74, false⟩) :: fbx 71 us) ++ [(kg, gB L I2 eg), (kg, gB L I eg)]) ZX Tryz.func39 Qsm (Nat.le_of_ble_eq_true rfl) ?_
 show TX _ _ tf39.body _ _
 refine Q8 fun K hK => Qa rfl ?_
 refine hK _ _ (QM (kp2 rfl rfl) ?_)
 refine Q8 fun K hK => ?_
 refine QH rfl (by repeat (first | exact rfl | refine Zr (by first | decide | omega) ?_)) ?_
 refine Qa rfl ?_
 refine hK _ _ (QM (kp3 rfl rfl rfl) ?_)
 refine QlO (QjE (l := [0, 1]) (B := [_]) (A := []) (H0 := [(kg, gB L I eg)]) 14 5 (kp2 rfl rfl) rfl rfl rfl rfl (by intro p hp hk; simp only [List.mem_cons, List.not_mem_nil, or_false] at hp; rcases hp with rfl | rfl <;> first | (simp [D.ids, D.sid, Zb, QW, ZH] at hk; done) | (simp [D.ids, D.sid, Zb, QW, ZH] at hk; omega)) (by intro p hp; cases hp) (by intro p hp h; simp only [List.mem_singleton] at hp; subst hp; simp only at h; omega) (fun k b h => by obtain ⟨rfl, rfl⟩ := Xz h; exact hkg) (fun k b h j hj => by obtain ⟨rfl, rfl⟩ := Xz h; simp [Box.ids, gB] at hj) (by intro p hp k hk; simp only [List.mem_cons, List.not_mem_nil, or_false] at hp; rcases hp with rfl | rfl <;> first | (simp [D.ids, D.sid, Zb, QW, ZH] at hk; done) | (simp [D.ids, D.sid, Zb, QW, ZH] at hk; subst hk; repeat (first | exact QZ | refine QX ?_)))) ?_
 refine Q8 fun K hK => QR rfl rfl ?_
 refine QH rfl (by repeat (first | exact rfl | refine Zr (by first | decide | omega) ?_)) ?_
 refine QR rfl rfl ?_
 refine QH rfl (by repeat (first | exact rfl | refine Zr (by first | decide | omega) ?_)) ?_
 refine Qa rfl ?_
 refine hK _ _ (QM (kp4 rfl rfl rfl rfl) ?_)
 refine Q8 fun K hK => QC (Xn) rfl rfl (.inl rfl) (Qa rfl ?_)
 refine hK _ _ (QM (kp5 rfl rfl rfl rfl rfl) ?_)
 refine Xw ?_ -- 0
 refine Q8 fun K hK => Qa rfl ?_
 refine hK _ _ (QM (kp6 rfl rfl rfl rfl rfl rfl) ?_)
 refine Ys ?_
 refine Qdj (ι := List UR × Int × Nat) (fun ⟨us, J, n⟩ => ⟨[(0, .ref kg 0 0), (1, .int .i64 most), (5, .sl (QaZ names5)), (6, .osl 500000 us.length), (7, .sl (versions.map dVr)), (8, .int .i64 n)], [(500000, ⟨(us).map dUR, 3, 74, false⟩), (kg, gB L (J) eg)] ++ fbx 71 (us)⟩) (fun ⟨us, J, n⟩ => UnitsIn us /\ us.length <= 1 + 2 * n /\ n <= 5 /\ 1 + n <= us.length) (fun ⟨us, J, n⟩ => 5 - n) ([u0 v0], I, 0) ?_ ?_ ?_
 ·refine Qmw (l := [0, 1, 5, 6, 7, 8]) hkg (kp6 rfl rfl rfl rfl rfl rfl) ?_; simp only [List.map_cons, List.map_nil, D.ren, D.renS, k1, k2]; rfl
 ·exact ⟨UnitsIn.zero, by simp, by omega, by simp⟩
 intro ⟨us, J, n⟩ hI
 try dsimp only at hI
 have e1 : ¬ kg = 500001 + us.length := by omega
 have e2 : ¬ 500000 = 500001 + us.length := by omega
 have e4 : ¬ 500001 + us.length = 500000 := by omega
 have hx0 : 0 <= nx L J most := QgR
 have hx1 : nx L J most < most := QiL (by omega)
 have hn5 := Ze
 have hv4 := QpU
 try dsimp only
 refine Xw ?_ -- 1
 refine Q8 fun K hK => Qa rfl (Qa rfl (Qa rfl ?_))
 refine YC (Qci (I := J) rfl (by repeat (first | exact Qx | refine Qn (by omega) ?_)) hL (by omega)) ?_
 refine Q6 rfl rfl (by first | exact Qs (by omega) (by omega) | rfl) (Yj rfl rfl (Qa rfl ?_))
 refine Qy (g := 26) rfl (fun h1 => ?_) (fun h1 => ?_)
 ·try rw [h1]
  try simp only [qa, qb, qc, qd, qe, List.length_map] at h1
  refine Qg rfl (Qa rfl (Qg rfl (Qa rfl (Qg rfl ?_))))
  first | refine QU rfl Q1 ?_ | refine QU rfl rfl ?_
  refine Qg rfl (Yj rfl rfl (Qk rfl rfl ?_))
  refine hK _ _ (QM (kp7 rfl rfl rfl rfl rfl rfl rfl) ?_)
  refine YL rfl (fun h2 => ?_) (fun h2 => ?_)
  ·try rw [h2]
   try simp only [qa, qb, qc, qd, qe, List.length_map] at h2
   refine Y0 (Q0 (kp6 rfl rfl rfl rfl rfl rfl) ?_)
   refine Xw ?_ -- 2
   refine Ys (Q8 fun K hK => Qa rfl ?_)
   refine hK _ _ (QM (kp7 rfl rfl rfl rfl rfl rfl rfl) ?_)
   refine Q8 fun K hK => Qa rfl ?_
   refine YC (Qci (I := nxI J) rfl (by repeat (first | exact Qx | refine Qn (by omega) ?_)) hL (by omega)) ?_
   refine Qa rfl ?_
   refine hK _ _ (QM (kp8 rfl rfl rfl rfl rfl rfl rfl rfl) ?_)
   refine Xw ?_ -- 3
   refine Q8 fun K hK => Qa rfl ?_
   refine hK _ _ (QM (kp9 rfl rfl rfl rfl rfl rfl rfl rfl rfl) ?_)
   refine Ys ?_
   refine Qdj (ι := List CR × Nat) (fun ⟨cs, i⟩ => ⟨[(0, .ref kg 0 0), (1, .int .i64 most), (5, .sl (QaZ names5)), (6, .osl 500000 us.length), (7, .sl (versions.map dVr)), (8, .int .i64 n), (9, .osl (500001 + us.length) cs.length), (10, .int .i64 (nx L (nxI J) 16)), (11, .int .i64 i)], [(500001 + (us).length, ⟨(cs).map dCR, 8, 71, true⟩), (500000, ⟨(us).map dUR, 3, 74, false⟩), (kg, gB L (nxI (nxI J)) eg)] ++ fbx 71 (us)⟩) (fun ⟨cs, i⟩ => i <= 4 /\ CsIn i cs) (fun ⟨cs, i⟩ => 4 - i) ([], 0) ?_ ?_ ?_
   ·exact le_trans (Yw 9 (500001 + us.length) 8 71 rfl (by repeat (first | exact YU hI.1.keys (.inr (by omega)) | refine Zr (by omega) ?_))) (Qp5 (l := [0, 1, 5, 6, 7, 8, 9, 10, 11]) (B := [_, _, _, _, _]) (kp9 rfl rfl rfl rfl rfl rfl rfl rfl rfl) rfl hI.1.keys (by repeat (first | exact Qx | refine Qn (by omega) ?_)) (by repeat (first | exact Qx | refine Qn (by omega) ?_)) (by repeat (first | exact Qx | refine Qn (by omega) ?_)) (by intro p hp h; simp only [List.mem_cons, List.not_mem_nil, or_false] at hp; rcases hp with rfl | rfl | rfl | rfl | rfl <;> first | (simp only at h; omega) | exact .inl rfl | exact .inr rfl) (by intro p hp k hk; simp only [List.mem_cons, List.not_mem_nil, or_false] at hp; rcases hp with rfl | rfl | rfl | rfl | rfl | rfl | rfl | rfl | rfl <;> first | (simp [D.ids, D.sid, Zb, QW, ZH] at hk; done) | (simp [D.ids, D.sid, Zb, QW, ZH] at hk; subst hk; first | exact .inl rfl | exact .inr (.inl rfl) | exact .inr (.inr (.inl rfl)) | (refine .inr (.inr (.inl ?_)); simp; done) | (first | exact .inr (.inr ⟨_, List.mem_append_right _ (List.mem_singleton.2 rfl), rfl⟩) | exact .inr (.inr (.inr ⟨_, List.mem_append_right _ (List.mem_singleton.2 rfl), rfl⟩))))))
   ·exact ⟨by omega, CsIn.nil _⟩
   intro ⟨cs, i⟩ hC
   try dsimp only at hC
   have hcl := hC.2.1
   try dsimp only
   refine Xw ?_ -- 4
   refine Q8 fun K hK => Qa rfl (Qa rfl ?_)
   first | refine QU rfl Q1 ?_ | refine QU rfl rfl ?_
   refine Yj rfl rfl ?_
   refine hK _ _ (QM (Qlr rfl rfl rfl rfl rfl rfl rfl rfl rfl rfl) ?_)
   refine YL rfl (fun h3 => ?_) (fun h3 => ?_)
   ·try rw [h3]
    try simp only [qa, qb, qc, qd, qe, List.length_map] at h3
    refine Y0 (Q0 (kp9 rfl rfl rfl rfl rfl rfl rfl rfl rfl) ?_)
    refine Xw ?_ -- 5
    refine Ys (Q8 fun K hK => Qa rfl (Qa rfl (Qib rfl (Qfd (by omega) (by omega)) (Qqe rfl rfl (by omega) (QbQ rfl rfl (Zy rfl rfl ?_))))))
    refine hK _ _ (QM (Qlr rfl rfl rfl rfl rfl rfl rfl rfl rfl rfl) ?_)
    refine YL rfl (fun h4 => ?_) (fun h4 => ?_)
    ·try rw [h4]
     try simp only [qa, qb, qc, qd, qe, List.length_map] at h4
     refine ZQ fun K hK => Qa rfl (Qa rfl (Qa rfl (QJ rfl rfl rfl (by omega) (QS (by omega)) rfl (QD (cs := [_, _, _, _, _]) rfl rfl rfl rfl (QR rfl rfl ?_)))))
     refine QH rfl (by repeat (first | exact YU hI.1.keys (.inl (by omega)) | exact YU hK1.keys (.inl (by omega)) | refine Zr (by first | decide | omega) ?_)) ?_
     refine XM (hk0 := by omega) rfl rfl (fun _ h => Xv rfl rfl rfl h) (Qn (by omega) Qx) (by simp) rfl rfl rfl (by simp; omega) (by simp; omega) (Qa rfl (hK _ ?_))
     refine Qi (Q0 (kp9 rfl rfl rfl rfl rfl rfl rfl rfl rfl) (ZQ fun K hK => Qa rfl (Q6 rfl rfl (by first | exact Qs (by omega) (by omega) | rfl) (Qa rfl (hK _ ?_)))))
     refine Ql (cs ++ [zr (versions[i]'(by omega)) 0], i + 1) ?_ ?_ ?_
     ·exact le_trans (QhC (B := [_, _, _, _, _]) (500001 + us.length) (Qfy _ _)) (Qp5 (l := [0, 1, 5, 6, 7, 8, 9, 10, 11]) (B := [_, _, _, _, _]) (kp9 rfl rfl rfl rfl rfl rfl rfl rfl rfl) (by simp [D.scrub, e1, e2, e3, e4] <;> omega) hI.1.keys (by rw [List.map_append]; exact Qx) (by repeat (first | exact Qx | exact QkE (Qi6 hI.1.keys) | refine Qn (by omega) ?_)) (by repeat (first | exact Qx | refine Qn (by omega) ?_)) (by intro p hp h; simp only [List.mem_cons, List.not_mem_nil, or_false] at hp; rcases hp with rfl | rfl | rfl | rfl | rfl <;> first | (simp only at h; omega) | exact .inl rfl | exact .inr rfl) (by intro p hp k hk; simp only [List.mem_cons, List.not_mem_nil, or_false] at hp; rcases hp with rfl | rfl | rfl | rfl | rfl | rfl | rfl | rfl | rfl <;> first | (simp [D.ids, D.sid, Zb, QW, ZH] at hk; done) | (simp [D.ids, D.sid, Zb, QW, ZH] at hk; subst hk; first | exact .inl rfl | exact .inr (.inl rfl) | exact .inr (.inr (.inl rfl)) | (refine .inr (.inr (.inl ?_)); simp; done) | (first | exact .inr (.inr ⟨_, List.mem_append_right _ (List.mem_singleton.2 rfl), rfl⟩) | exact .inr (.inr (.inr ⟨_, List.mem_append_right _ (List.mem_singleton.2 rfl), rfl⟩))))))
     ·try dsimp only
      exact ⟨by omega, hC.2.snoc (QqR (by omega))⟩
     ·show 4 - (i + 1) < 4 - i; omega
    ·try rw [h4]
     try simp only [qa, qb, qc, qd, qe, List.length_map] at h4
     refine Y0 (Qi (Q0 (kp9 rfl rfl rfl rfl rfl rfl rfl rfl rfl) (ZQ fun K hK => Qa rfl (Q6 rfl rfl (by first | exact Qs (by omega) (by omega) | rfl) (Qa rfl (hK _ ?_))))))
     refine Ql (cs, i + 1) ?_ ?_ ?_
     ·exact Qp5 (l := [0, 1, 5, 6, 7, 8, 9, 10, 11]) (B := [_, _, _]) (kp9 rfl rfl rfl rfl rfl rfl rfl rfl rfl) rfl hI.1.keys (by repeat (first | exact Qx | refine Qn (by omega) ?_)) (by repeat (first | exact Qx | refine Qn (by omega) ?_)) (by repeat (first | exact Qx | refine Qn (by omega) ?_)) (by intro p hp h; simp only [List.mem_cons, List.not_mem_nil, or_false] at hp; rcases hp with rfl | rfl | rfl <;> first | (simp only at h; omega) | exact .inl rfl | exact .inr rfl) (by intro p hp k hk; simp only [List.mem_cons, List.not_mem_nil, or_false] at hp; rcases hp with rfl | rfl | rfl | rfl | rfl | rfl | rfl | rfl | rfl <;> first | (simp [D.ids, D.sid, Zb, QW, ZH] at hk; done) | (simp [D.ids, D.sid, Zb, QW, ZH] at hk; subst hk; first | exact .inl rfl | exact .inr (.inl rfl) | exact .inr (.inr (.inl rfl)) | (refine .inr (.inr (.inl ?_)); simp; done) | (first | exact .inr (.inr ⟨_, List.mem_append_right _ (List.mem_singleton.2 rfl), rfl⟩) | exact .inr (.inr (.inr ⟨_, List.mem_append_right _ (List.mem_singleton.2 rfl), rfl⟩)))))
     ·try dsimp only
      exact ⟨by omega, hC.2.keep⟩
     ·show 4 - (i + 1) < 4 - i; omega
   ·try rw [h3]
    try simp only [qa, qb, qc, qd, qe, List.length_map] at h3
    refine QbG (Yz (QB (QI (Q0 (kp7 rfl rfl rfl rfl rfl rfl rfl) (Q8 fun K hK => Qa rfl (Qa rfl (Qa rfl (QJ rfl rfl rfl (by omega) (QS (by omega)) rfl (Qz rfl rfl rfl (Qa rfl ?_))))))))))
    refine QR rfl rfl ?_
    refine QH rfl (by repeat (first | exact YU hI.1.keys (.inl (by omega)) | exact YU hK1.keys (.inl (by omega)) | refine Zr (by first | decide | omega) ?_)) ?_
    refine Qjo (hk0 := by decide) rfl rfl (fun _ h => Xv rfl rfl rfl h) (Qn (by omega) (Qn (by omega) Qx)) (by simp) rfl rfl (.inr (Qk4 hI.1.keys (by omega))) (by simp; omega) (by simp; omega) (Qa rfl ?_)
    refine hK _ _ (QM (kp7 rfl rfl rfl rfl rfl rfl rfl) ?_)
    have hc4 : CsIn 4 cs := ⟨by omega, hC.2.2⟩
    refine QlO (le_trans (QhC (B := [_, _, _, _, _]) 500000 (Qfy _ _)) (QqP (u := (UR.mk (names5[n]'(by have := Ze; omega)) [] (500001 + us.length) cs)) (l := [0, 1, 5, 6, 7, 8, 9]) (fr' := [(0, .ref kg 0 0), (1, .int .i64 most), (5, .sl (QaZ names5)), (6, .osl 500000 (us ++ [(UR.mk (names5[n]'(by have := Ze; omega)) [] (500001 + us.length) cs)]).length), (7, .sl (versions.map dVr)), (8, .int .i64 n), (9, .osl (500001 + us.length) cs.length)]) (B := [_, _, _, _, _]) (kp7 rfl rfl rfl rfl rfl rfl rfl) (by simp [D.scrub, e1, e2, e3, e4]) hI.1.keys rfl (by repeat (first | exact Qx | refine Qn (by omega) ?_)) (by rw [List.map_append]; exact Qx) (by repeat (first | exact Qx | refine Qn (by omega) ?_)) (by intro p hp h; simp only [List.mem_cons, List.not_mem_nil, or_false] at hp; rcases hp with rfl | rfl | rfl | rfl | rfl <;> first | (simp only at h; omega) | exact .inl rfl | exact .inr rfl) hkg (by omega) (by intro p hp k hk; simp only [List.mem_cons, List.not_mem_nil, or_false] at hp; rcases hp with rfl | rfl | rfl | rfl | rfl | rfl | rfl <;> first | (simp [D.ids, D.sid, Zb, QW, ZH] at hk; done) | (simp [D.ids, D.sid, Zb, QW, ZH] at hk; subst hk; first | exact .inl rfl | exact .inr (.inl rfl) | (first | exact .inr (.inr ⟨_, List.mem_append_right _ (List.mem_singleton.2 rfl), rfl⟩) | exact .inr (.inr (.inr ⟨_, List.mem_append_right _ (List.mem_singleton.2 rfl), rfl⟩))))))) ?_
    have hK1 := hI.1.snoc (n := (names5[n]'(by have := Ze; omega))) (f := []) hc4.1 hc4.2
    have hl1 : (us ++ [(UR.mk (names5[n]'(by have := Ze; omega)) [] (500001 + us.length) cs)]).length = us.length + 1 := by simp
    have f1 : ¬ kg = 500001 + (us ++ [(UR.mk (names5[n]'(by have := Ze; omega)) [] (500001 + us.length) cs)]).length := by omega
    have f2 : ¬ 500000 = 500001 + (us ++ [(UR.mk (names5[n]'(by have := Ze; omega)) [] (500001 + us.length) cs)]).length := by omega
    have f4 : ¬ 500001 + (us ++ [(UR.mk (names5[n]'(by have := Ze; omega)) [] (500001 + us.length) cs)]).length = 500000 := by omega
    have f5 : ¬ 500001 + us.length = 500001 + (us ++ [(UR.mk (names5[n]'(by have := Ze; omega)) [] (500001 + us.length) cs)]).length := by omega
    refine Q8 fun K hK => Qa rfl (Yj rfl rfl (Qa rfl ?_))
    refine Qy (g := 67) rfl (fun h5 => ?_) (fun h5 => ?_)
    ·try rw [h5]
     try simp only [qa, qb, qc, qd, qe, List.length_map] at h5
     refine Qg rfl (Qa rfl (Qg rfl ?_))
     refine YC (Qci (I := nxI (nxI J)) rfl (by repeat (first | exact Qx | refine Qn (by omega) ?_)) hL (by omega)) ?_
     refine Qg rfl (Zy rfl rfl (Qk rfl rfl ?_))
     refine hK _ _ (QM (kp8 rfl rfl rfl rfl rfl rfl rfl rfl) ?_)
     refine YL rfl (fun h6 => ?_) (fun h6 => ?_)
     ·try rw [h6]
      try simp only [qa, qb, qc, qd, qe, List.length_map] at h6
      refine Q8 fun K hK => Qa rfl ?_
      refine hK _ _ (QM (kp8 rfl rfl rfl rfl rfl rfl rfl rfl) ?_)
      refine Xw ?_ -- 6
      refine Q8 fun K hK => Qa rfl ?_
      refine hK _ _ (QM (kp9 rfl rfl rfl rfl rfl rfl rfl rfl rfl) ?_)
      refine Ys ?_
      refine Qdj (ι := List CR × Nat × Int) (fun ⟨c2, m, J3⟩ => ⟨[(0, .ref kg 0 0), (1, .int .i64 most), (5, .sl (QaZ names5)), (6, .osl 500000 (us ++ [(UR.mk (names5[n]'(by have := Ze; omega)) [] (500001 + us.length) cs)]).length), (7, .sl (versions.map dVr)), (8, .int .i64 n), (9, .osl (500001 + us.length) cs.length), (12, .osl (500001 + (us ++ [(UR.mk (names5[n]'(by have := Ze; omega)) [] (500001 + us.length) cs)]).length) c2.length), (13, .int .i64 m)], [(500001 + (us ++ [(UR.mk (names5[n]'(by have := Ze; omega)) [] (500001 + us.length) cs)]).length, ⟨(c2).map dCR, 8, 71, true⟩), (500000, ⟨(us ++ [(UR.mk (names5[n]'(by have := Ze; omega)) [] (500001 + us.length) cs)]).map dUR, 3, 74, false⟩), (kg, gB L (J3) eg)] ++ fbx 71 (us ++ [(UR.mk (names5[n]'(by have := Ze; omega)) [] (500001 + us.length) cs)])⟩) (fun ⟨c2, m, J3⟩ => m <= cs.length /\ CsIn m c2) (fun ⟨c2, m, J3⟩ => cs.length - m) ([], 0, nxI (nxI (nxI J))) ?_ ?_ ?_
      ·exact le_trans (Yw 12 (500001 + (us ++ [(UR.mk (names5[n]'(by have := Ze; omega)) [] (500001 + us.length) cs)]).length) 8 71 rfl (by repeat (first | exact YU hK1.keys (.inr (by omega)) | refine Zr (by omega) ?_))) (Qp5 (l := [0, 1, 5, 6, 7, 8, 9, 12, 13]) (B := [_, _, _, _]) (kp9 rfl rfl rfl rfl rfl rfl rfl rfl rfl) rfl hK1.keys (by repeat (first | exact Qx | refine Qn (by omega) ?_)) (by repeat (first | exact Qx | refine Qn (by omega) ?_)) (by repeat (first | exact Qx | refine Qn (by omega) ?_)) (by intro p hp h; simp only [List.mem_cons, List.not_mem_nil, or_false] at hp; rcases hp with rfl | rfl | rfl | rfl <;> first | (simp only at h; omega) | exact .inl rfl | exact .inr rfl) (by intro p hp k hk; simp only [List.mem_cons, List.not_mem_nil, or_false] at hp; rcases hp with rfl | rfl | rfl | rfl | rfl | rfl | rfl | rfl | rfl <;> first | (simp [D.ids, D.sid, Zb, QW, ZH] at hk; done) | (simp [D.ids, D.sid, Zb, QW, ZH] at hk; subst hk; first | exact .inl rfl | exact .inr (.inl rfl) | exact .inr (.inr (.inl rfl)) | (refine .inr (.inr (.inl ?_)); simp; done) | (first | exact .inr (.inr ⟨_, List.mem_append_right _ (List.mem_singleton.2 rfl), rfl⟩) | exact .inr (.inr (.inr ⟨_, List.mem_append_right _ (List.mem_singleton.2 rfl), rfl⟩))))))
      ·exact ⟨by omega, CsIn.nil _⟩
      intro ⟨c2, m, J3⟩ hM
      try dsimp only at hM
      have hcl2 := hM.2.1
      try dsimp only
      refine Xw ?_ -- 7
      refine Q8 fun K hK => Qa rfl (Qa rfl ?_)
      first | refine QU rfl Q1 ?_ | refine QU rfl rfl ?_
      refine Yj rfl rfl ?_
      refine hK _ _ (QM (Qlr rfl rfl rfl rfl rfl rfl rfl rfl rfl rfl) ?_)
      refine YL rfl (fun h7 => ?_) (fun h7 => ?_)
      ·try rw [h7]
       try simp only [qa, qb, qc, qd, qe, List.length_map] at h7
       refine Y0 (Q0 (kp9 rfl rfl rfl rfl rfl rfl rfl rfl rfl) ?_)
       refine Xw ?_ -- 8
       refine Ys (Q8 fun K hK => Qa rfl ?_)
       refine YC (Qci (I := J3) rfl (by repeat (first | exact Qx | refine Qn (by omega) ?_)) hL (by omega)) ?_
       refine Qh6 rfl rfl ?_
       refine hK _ _ (QM (Qlr rfl rfl rfl rfl rfl rfl rfl rfl rfl rfl) ?_)
       refine YL rfl (fun h8 => ?_) (fun h8 => ?_)
       ·try rw [h8]
        try simp only [qa, qb, qc, qd, qe, List.length_map] at h8
        refine ZQ fun K hK => Qa rfl (Qa rfl (Qa rfl (Xj rfl rfl (Qn (by omega) (Qn (by omega) (Qn (by omega) (Qn (by omega) (Qhn (u := (UR.mk (names5[n]'(by have := Ze; omega)) [] (500001 + us.length) cs)) hI.1.keys rfl))))) (by simp) (by omega) (by omega) rfl (Qh rfl (Zq (Qn (by omega) (Qn (by omega) (Qn (by omega) (Qn (by omega) (Qhn (u := (UR.mk (names5[n]'(by have := Ze; omega)) [] (500001 + us.length) cs)) hI.1.keys rfl)))))) (QD (cs := [_, _, _, _, _]) rfl (Z5 (Qn (by omega) (Qn (by omega) (Qn (by omega) (Qn (by omega) (Qhn (u := (UR.mk (names5[n]'(by have := Ze; omega)) [] (500001 + us.length) cs)) hI.1.keys rfl))))) (QS (l := cs) (by omega))) rfl rfl (QR rfl rfl ?_))))))
        refine QH rfl (by repeat (first | exact YU hI.1.keys (.inl (by omega)) | exact YU hK1.keys (.inl (by omega)) | refine Zr (by first | decide | omega) ?_)) ?_
        refine XM (hk0 := by omega) rfl rfl (fun _ h => Xv rfl rfl rfl h) (Qn (by omega) (Qn (by omega) Qx)) (by simp) rfl rfl rfl (by simp; omega) (by simp; omega) (Qa rfl (hK _ ?_))
        refine Qi (Q0 (kp9 rfl rfl rfl rfl rfl rfl rfl rfl rfl) (ZQ fun K hK => Qa rfl (Q6 rfl rfl (by first | exact Qs (by omega) (by omega) | rfl) (Qa rfl (hK _ ?_)))))
        refine Ql (c2 ++ [zr (cs[m]'(by omega)).v 0], m + 1, nxI J3) ?_ ?_ ?_
        ·exact le_trans (QhC (B := [_, _, _, _, _, _]) (500001 + (us ++ [(UR.mk (names5[n]'(by have := Ze; omega)) [] (500001 + us.length) cs)]).length) (Qfy _ _)) (Qp5 (l := [0, 1, 5, 6, 7, 8, 9, 12, 13]) (B := [_, _, _, _, _, _]) (kp9 rfl rfl rfl rfl rfl rfl rfl rfl rfl) (by simp [D.scrub, f1, f2, f4, f5] <;> omega) hK1.keys (by rw [Qpp (cs := c2)]; exact Qx) (by repeat (first | exact Qx | exact QkE (Qi6 hK1.keys) | refine Qn (by omega) ?_)) (by repeat (first | exact Qx | refine Qn (by omega) ?_)) (by intro p hp h; simp only [List.mem_cons, List.not_mem_nil, or_false] at hp; rcases hp with rfl | rfl | rfl | rfl | rfl | rfl <;> first | (simp only at h; omega) | exact .inl rfl | exact .inr rfl) (by intro p hp k hk; simp only [List.mem_cons, List.not_mem_nil, or_false] at hp; rcases hp with rfl | rfl | rfl | rfl | rfl | rfl | rfl | rfl | rfl <;> first | (simp [D.ids, D.sid, Zb, QW, ZH] at hk; done) | (simp [D.ids, D.sid, Zb, QW, ZH] at hk; subst hk; first | exact .inl rfl | exact .inr (.inl rfl) | exact .inr (.inr (.inl rfl)) | (refine .inr (.inr (.inl ?_)); simp; done) | (first | exact .inr (.inr ⟨_, List.mem_append_right _ (List.mem_singleton.2 rfl), rfl⟩) | exact .inr (.inr (.inr ⟨_, List.mem_append_right _ (List.mem_singleton.2 rfl), rfl⟩))))))
        ·try dsimp only
         exact ⟨by omega, hM.2.snoc (hC.2.at (by omega))⟩
        ·show cs.length - (m + 1) < cs.length - m; omega
       ·try rw [h8]
        try simp only [qa, qb, qc, qd, qe, List.length_map] at h8
        refine Y0 (Qi (Q0 (kp9 rfl rfl rfl rfl rfl rfl rfl rfl rfl) (ZQ fun K hK => Qa rfl (Q6 rfl rfl (by first | exact Qs (by omega) (by omega) | rfl) (Qa rfl (hK _ ?_))))))
        refine Ql (c2, m + 1, nxI J3) ?_ ?_ ?_
        ·exact Qp5 (l := [0, 1, 5, 6, 7, 8, 9, 12, 13]) (B := [_, _, _, _]) (kp9 rfl rfl rfl rfl rfl rfl rfl rfl rfl) rfl hK1.keys (by repeat (first | exact Qx | refine Qn (by omega) ?_)) (by repeat (first | exact Qx | refine Qn (by omega) ?_)) (by repeat (first | exact Qx | refine Qn (by omega) ?_)) (by intro p hp h; simp only [List.mem_cons, List.not_mem_nil, or_false] at hp; rcases hp with rfl | rfl | rfl | rfl <;> first | (simp only at h; omega) | exact .inl rfl | exact .inr rfl) (by intro p hp k hk; simp only [List.mem_cons, List.not_mem_nil, or_false] at hp; rcases hp with rfl | rfl | rfl | rfl | rfl | rfl | rfl | rfl | rfl <;> first | (simp [D.ids, D.sid, Zb, QW, ZH] at hk; done) | (simp [D.ids, D.sid, Zb, QW, ZH] at hk; subst hk; first | exact .inl rfl | exact .inr (.inl rfl) | exact .inr (.inr (.inl rfl)) | (refine .inr (.inr (.inl ?_)); simp; done) | (first | exact .inr (.inr ⟨_, List.mem_append_right _ (List.mem_singleton.2 rfl), rfl⟩) | exact .inr (.inr (.inr ⟨_, List.mem_append_right _ (List.mem_singleton.2 rfl), rfl⟩)))))
        ·try dsimp only
         exact ⟨by omega, hM.2.keep⟩
        ·show cs.length - (m + 1) < cs.length - m; omega
      ·try rw [h7]
       try simp only [qa, qb, qc, qd, qe, List.length_map] at h7
       refine QbG (Yz (QB (QI (Q0 (kp7 rfl rfl rfl rfl rfl rfl rfl) (ZQ fun K hK => Qa rfl (Qa rfl (Qa rfl (QJ rfl rfl rfl (by omega) (QS (by omega)) rfl (Qz rfl rfl rfl (Qa rfl ?_))))))))))
       refine QR rfl rfl ?_
       refine QH rfl (by repeat (first | exact YU hI.1.keys (.inl (by omega)) | exact YU hK1.keys (.inl (by omega)) | refine Zr (by first | decide | omega) ?_)) ?_
       refine Qjo (hk0 := by decide) rfl rfl (fun _ h => Xv rfl rfl rfl h) (Qn (by omega) (Qn (by omega) Qx)) (by simp) rfl rfl (.inr (Qk4 hK1.keys (by omega))) (by simp; omega) (by simp; omega) (Qa rfl (hK _ ?_))
       refine Qi (Q0 (kp6 rfl rfl rfl rfl rfl rfl) (ZQ fun K hK => Qa rfl (Q6 rfl rfl (by first | exact Qs (by omega) (by omega) | rfl) (Qa rfl (hK _ ?_)))))
       refine Ql (us ++ [(UR.mk (names5[n]'(by have := Ze; omega)) [] (500001 + us.length) cs)] ++ [(UR.mk (names5[n]'(by have := Ze; omega)) [102] (500001 + (us ++ [(UR.mk (names5[n]'(by have := Ze; omega)) [] (500001 + us.length) cs)]).length) c2)], J3, n + 1) ?_ ?_ ?_
       ·exact le_trans (QhC (B := [_, _, _, _, _]) 500000 (Qfy _ _)) (QqP (u := (UR.mk (names5[n]'(by have := Ze; omega)) [102] (500001 + (us ++ [(UR.mk (names5[n]'(by have := Ze; omega)) [] (500001 + us.length) cs)]).length) c2)) (l := [0, 1, 5, 6, 7, 8]) (B := [_, _, _, _, _]) (kp6 rfl rfl rfl rfl rfl rfl) (by simp [D.scrub, f1, f2, e3, f4, e4] <;> omega) hK1.keys rfl (by repeat (first | exact Qx | refine Qn (by omega) ?_)) (by rw [QpS (u := (UR.mk (names5[n]'(by have := Ze; omega)) [102] (500001 + (us ++ [(UR.mk (names5[n]'(by have := Ze; omega)) [] (500001 + us.length) cs)]).length) c2))]; exact Qx) (by repeat (first | exact Qx | refine Qn (by omega) ?_)) (by intro p hp h; simp only [List.mem_cons, List.not_mem_nil, or_false] at hp; rcases hp with rfl | rfl | rfl | rfl | rfl <;> first | (simp only at h; omega) | exact .inl rfl | exact .inr rfl) hkg (by omega) (by intro p hp k hk; simp only [List.mem_cons, List.not_mem_nil, or_false] at hp; rcases hp with rfl | rfl | rfl | rfl | rfl | rfl <;> first | (simp [D.ids, D.sid, Zb, QW, ZH] at hk; done) | (simp [D.ids, D.sid, Zb, QW, ZH] at hk; subst hk; first | exact .inl rfl | exact .inr (.inl rfl) | (first | exact .inr (.inr ⟨_, List.mem_append_right _ (List.mem_singleton.2 rfl), rfl⟩) | exact .inr (.inr (.inr ⟨_, List.mem_append_right _ (List.mem_singleton.2 rfl), rfl⟩))))))
       ·try dsimp only
        exact ⟨hK1.snoc (by omega) hM.2.2, by simp; omega, by omega, by simp; omega⟩
       ·show 5 - (n + 1) < 5 - n; omega
     ·try rw [h6]
      try simp only [qa, qb, qc, qd, qe, List.length_map] at h6
      refine Y0 (Qi (Q0 (kp6 rfl rfl rfl rfl rfl rfl) (ZQ fun K hK => Qa rfl (Q6 rfl rfl (by first | exact Qs (by omega) (by omega) | rfl) (Qa rfl (hK _ ?_))))))
      refine Ql (us ++ [(UR.mk (names5[n]'(by have := Ze; omega)) [] (500001 + us.length) cs)], nxI (nxI (nxI J)), n + 1) ?_ ?_ ?_
      ·exact QrZ (l := [0, 1, 5, 6, 7, 8]) (B := [_, _, _]) (kp6 rfl rfl rfl rfl rfl rfl) rfl hK1.keys (by repeat (first | exact Qx | refine Qn (by omega) ?_)) (by repeat (first | exact Qx | refine Qn (by omega) ?_)) (by intro p hp h; simp only [List.mem_cons, List.not_mem_nil, or_false] at hp; rcases hp with rfl | rfl | rfl <;> first | (simp only at h; omega) | rfl) (by omega) (by intro p hp k hk; simp only [List.mem_cons, List.not_mem_nil, or_false] at hp; rcases hp with rfl | rfl | rfl | rfl | rfl | rfl <;> first | (simp [D.ids, D.sid, Zb, QW, ZH] at hk; done) | (simp [D.ids, D.sid, Zb, QW, ZH] at hk; subst hk; first | exact .inl rfl | exact .inr (.inl rfl) | (first | exact .inr (.inr ⟨_, List.mem_append_right _ (List.mem_singleton.2 rfl), rfl⟩) | exact .inr (.inr (.inr ⟨_, List.mem_append_right _ (List.mem_singleton.2 rfl), rfl⟩)))))
      ·try dsimp only
       exact ⟨hK1, by simp; omega, by omega, by simp; omega⟩
      ·show 5 - (n + 1) < 5 - n; omega
    ·try rw [h5]
     try simp only [qa, qb, qc, qd, qe, List.length_map] at h5
     refine Qo rfl (Qo rfl (Qo rfl (Qk rfl rfl ?_)))
     refine hK _ _ (QM (kp8 rfl rfl rfl rfl rfl rfl rfl rfl) ?_)
     refine Qjq rfl (Y0 (Qi (Q0 (kp6 rfl rfl rfl rfl rfl rfl) (ZQ fun K hK => Qa rfl (Q6 rfl rfl (by first | exact Qs (by omega) (by omega) | rfl) (Qa rfl (hK _ ?_)))))))
     refine Ql (us ++ [(UR.mk (names5[n]'(by have := Ze; omega)) [] (500001 + us.length) cs)], nxI (nxI J), n + 1) ?_ ?_ ?_
     ·exact QrZ (l := [0, 1, 5, 6, 7, 8]) (B := [_, _]) (kp6 rfl rfl rfl rfl rfl rfl) rfl hK1.keys (by repeat (first | exact Qx | refine Qn (by omega) ?_)) (by repeat (first | exact Qx | refine Qn (by omega) ?_)) (by intro p hp h; simp only [List.mem_cons, List.not_mem_nil, or_false] at hp; rcases hp with rfl | rfl <;> first | (simp only at h; omega) | rfl) (by omega) (by intro p hp k hk; simp only [List.mem_cons, List.not_mem_nil, or_false] at hp; rcases hp with rfl | rfl | rfl | rfl | rfl | rfl <;> first | (simp [D.ids, D.sid, Zb, QW, ZH] at hk; done) | (simp [D.ids, D.sid, Zb, QW, ZH] at hk; subst hk; first | exact .inl rfl | exact .inr (.inl rfl) | (first | exact .inr (.inr ⟨_, List.mem_append_right _ (List.mem_singleton.2 rfl), rfl⟩) | exact .inr (.inr (.inr ⟨_, List.mem_append_right _ (List.mem_singleton.2 rfl), rfl⟩)))))
     ·try dsimp only
      exact ⟨hK1, by simp; omega, by omega, by simp; omega⟩
     ·show 5 - (n + 1) < 5 - n; omega
  ·try rw [h2]
   try simp only [qa, qb, qc, qd, qe, List.length_map] at h2
   refine QbG (Yz (QB (QI (Q0 (kp1 rfl) (Q8 fun K hK => Qa rfl (Qa rfl ?_))))))
   refine hK _ _ (QM (kp1 rfl) ?_)
   refine QeM ?_
   refine ⟨.osl 500000 us.length, ((500000, ⟨us.map dUR, 3, 74, false⟩) :: fbx 71 us) ++ [(kg, gB L (nxI J) eg), (kg, gB L I eg)], ⟨us, _, ⟨hI.1, by omega, by omega⟩, rfl, rfl⟩, (Qba (g3 := gB L J eg) hI.1.keys hkg rfl rfl (by omega)).1, (Qba (g3 := gB L J eg) hI.1.keys hkg rfl rfl (by omega)).2.1, Y1 rfl rfl (Qba (g3 := gB L J eg) hI.1.keys hkg rfl rfl (by omega)).2.2⟩
 ·try rw [h1]
  try simp only [qa, qb, qc, qd, qe, List.length_map] at h1
  refine Qo rfl (Qo rfl (Qo rfl (Qo rfl (Qk rfl rfl ?_))))
  refine hK _ _ (QM (kp7 rfl rfl rfl rfl rfl rfl rfl) ?_)
  refine Qjq rfl (QbG (Yz (QB (QI (Q0 (kp1 rfl) (Q8 fun K hK => Qa rfl (Qa rfl ?_)))))))
  refine hK _ _ (QM (kp1 rfl) ?_)
  refine QeM ?_
  refine ⟨.osl 500000 us.length, ((500000, ⟨us.map dUR, 3, 74, false⟩) :: fbx 71 us) ++ [(kg, gB L (nxI J) eg), (kg, gB L I eg)], ⟨us, _, ⟨hI.1, by omega, by omega⟩, rfl, rfl⟩, (Qba (g3 := gB L J eg) hI.1.keys hkg rfl rfl (by omega)).1, (Qba (g3 := gB L J eg) hI.1.keys hkg rfl rfl (by omega)).2.1, Y1 rfl rfl (Qba (g3 := gB L J eg) hI.1.keys hkg rfl rfl (by omega)).2.2⟩
end Go.Proofs
namespace M25
open Go Go.Abs M3
/-! ### A world under way: one candidate after the other is filled -/
def PureC (z : CR) : Prop := z.x.sid = [] /\ z.y.sid = [] /\ z.z.sid = []
theorem PureC.all {z : CR} (h : PureC z) : ∀ d ∈ dCR z, d.sid = [] := fun d hd => by
 simp only [dCR, List.mem_cons, List.not_mem_nil, or_false] at hd
 rcases hd with rfl | rfl | rfl | rfl | rfl | rfl | rfl | rfl
 ·rfl
 ·rfl
 ·rfl
 ·rfl
 ·rfl
 ·exact h.1
 ·exact h.2.1
 ·exact h.2.2
def Qey (u : UR) (k : Nat) (z : CR) : UR := { u with cs := u.cs.set k z }
def QcC (us : List UR) (i k : Nat) (z : CR) : List UR := us.modify i fun u => Qey u k z
theorem Zs (us : List UR) (i k : Nat) (z : CR) : (QcC us i k z).length = us.length := List.length_modify ..
theorem Qk1 (us : List UR) (i k : Nat) (z : CR) : (QcC us i k z).map dUR = us.map dUR := by
 refine List.ext_getElem (by simp [QcC]) fun j h1 h2 => ?_
 simp only [List.getElem_map, QcC, List.getElem_modify]
 split <;> simp [dUR, Qey]
theorem QaR {us : List UR} {i k : Nat} {z : CR} {j : Nat} (h : j < us.length) : (QcC us i k z)[j]'(by rw [Zs]; exact h) = if i = j then Qey us[j] k z else us[j] := by
 simp only [QcC, List.getElem_modify]
theorem QdZ {us : List UR} {i k : Nat} {z : CR} (h : Ya us) : Ya (QcC us i k z) := fun j hj => by
 rw [Zs] at hj
 rw [QaR hj]
 split
 ·exact h j hj
 ·exact h j hj
def wA (us : List UR) (eu ec eg : Nat) (L : List Int) (J : Int) (b4 : Box) : List (Nat × Box) := [(500000, ⟨us.map dUR, 3, eu, false⟩), (12, gB L J eg), (4, b4)] ++ fbx ec us
theorem QbE {us : List UR} {eu ec eg : Nat} {L : List Int} {J : Int} {b4 : Box} (h : Ya us) {k : Nat} {b : Box} (hk : lk (wA us eu ec eg L J b4) k = some b) : (k = 500000 /\ b = ⟨us.map dUR, 3, eu, false⟩) \/ (k = 12 /\ b = gB L J eg) \/ (k = 4 /\ b = b4) \/ ∃ j, ∃ hj : j < us.length, k = 500001 + j /\ b = ⟨us[j].cs.map dCR, 8, ec, true⟩ := by
 unfold wA at hk
 rcases QfP hk with hk | ⟨_, hk⟩
 ·simp only [List.mem_cons, List.not_mem_nil, or_false, Prod.mk.injEq] at hk
  rcases hk with h | h | h
  ·exact .inl h
  ·exact .inr (.inl h)
  ·exact .inr (.inr (.inl h))
 ·obtain ⟨u, hu, e1, e2⟩ := QgK hk
  obtain ⟨j, hj, rfl⟩ := List.getElem_of_mem hu
  exact .inr (.inr (.inr ⟨j, hj, e1.trans (h j hj), e2⟩))
section
variable {us : List UR} {eu ec eg : Nat} {L : List Int} {J : Int} {b4 : Box}
theorem Qfa : lk (wA us eu ec eg L J b4) 500000 = some ⟨us.map dUR, 3, eu, false⟩ := rfl
theorem QeL : lk (wA us eu ec eg L J b4) 12 = some (gB L J eg) := rfl
theorem Qgi : lk (wA us eu ec eg L J b4) 4 = some b4 := rfl
theorem Qdi (h : Ya us) {j : Nat} (hj : j < us.length) : lk (wA us eu ec eg L J b4) (500001 + j) = some ⟨us[j].cs.map dCR, 8, ec, true⟩ := by
 show lk ((500000, _) :: (12, _) :: (4, _) :: fbx ec us) _ = _
 rw [Qm, if_neg (by omega), Qm, if_neg (by omega), Qm, if_neg (by omega)]
 exact Qma h hj
theorem Z0 (h : Ya us) {k : Nat} (h1 : k ≠ 500000) (h2 : k ≠ 12) (h3 : k ≠ 4) (h4 : k < 500001 \/ 500001 + us.length <= k) : lk (wA us eu ec eg L J b4) k = none := by
 show lk ((500000, _) :: (12, _) :: (4, _) :: fbx ec us) _ = _
 rw [Qm, if_neg (Ne.symm h1), Qm, if_neg (Ne.symm h2), Qm, if_neg (Ne.symm h3)]
 exact YU h h4
theorem Qkb (h : Ya us) {k : Nat} (hk : k = 500000 \/ k = 12 \/ k = 4 \/ ∃ u ∈ us, k = u.k) : (lk (wA us eu ec eg L J b4) k).isSome = true := by
 rcases hk with rfl | rfl | rfl | ⟨u, hu, rfl⟩
 ·rfl
 ·rfl
 ·rfl
 ·obtain ⟨j, hj, rfl⟩ := List.getElem_of_mem hu
  rw [h j hj, Qdi h hj]; rfl
theorem Qaq (h : Ya us) (h4 : b4.pr = true) : Closed (wA us eu ec eg L J b4) := fun k b hk j hj => by
 rcases QbE h hk with ⟨rfl, rfl⟩ | ⟨rfl, rfl⟩ | ⟨rfl, rfl⟩ | ⟨i, hi, rfl, rfl⟩
 ·exact Qkb h (.inr (.inr (.inr (QbD hj))))
 ·simp [Box.ids, gB] at hj
 ·rw [Qab h4] at hj; cases hj
 ·simp [Box.ids] at hj
theorem Qep {α : Type} : ∀ {l : List α} {k : Nat} {a x : α}, x ∈ l.set k a -> x = a \/ x ∈ l
 | [], k, a, x, h => by simp at h
 | b :: l, 0, a, x, h => by
  simp only [List.set_cons_zero, List.mem_cons] at h ⊢
  rcases h with h | h
  ·exact .inl h
  ·exact .inr (.inr h)
 | b :: l, k + 1, a, x, h => by
  simp only [List.set_cons_succ, List.mem_cons] at h ⊢
  rcases h with h | h
  ·exact .inr (.inl h)
  ·rcases Qep h with h | h
   ·exact .inl h
   ·exact .inr (.inr h)
theorem QfJ {l : List Nat} {fr fr1 fr' : List (Nat × D)} {H : List (Nat × Box)} {i k : Nat} {row : List D} {p : Bool} (kk : Nat) (z' : CR) (hf : Zd l fr = fr1) (ef : fr1 = fr') (hK : Ya us) (hi : i < us.length) (hk : k < us[i].cs.length)
  (hKi : lk H (500001 + i) = some ⟨(us[i].cs.map dCR).set k row, 8, ec, p⟩) (hp : p = true -> row.map (D.fzS H (· == kk)) = row) (hrow : (row.map (D.fzS H (· == kk))).map D.canS = dCR z') (hoth : ∀ z ∈ us[i].cs, PureC z) (hz : PureC z')
  (hF : ∀ j, ∀ hj : j < us.length, j ≠ i -> lk H (500001 + j) = some ⟨us[j].cs.map dCR, 8, ec, true⟩) (hu : lk H 500000 = some ⟨us.map dUR, 3, eu, false⟩) (hg : lk H 12 = some (gB L J eg)) (h4 : lk H 4 = some b4) (hb4 : b4.pr = true) (hkk : kk < 500000 /\ kk ≠ 12 /\ kk ≠ 4) (hsm : ∀ j, 1000000 <= j -> lk H j = none) (hlen : us.length <= 100)
  (hfr : ∀ p ∈ fr', ∀ j ∈ p.2.ids, j = 500000 \/ j = 12 \/ j = 4 \/ ∃ u ∈ us, j = u.k) : St.le ⟨fr, H⟩ ⟨fr', wA (QcC us i k z') eu ec eg L J b4⟩ := by
 subst hf ef
 have nokk : ∀ j, (j = 500000 \/ j = 12 \/ j = 4 \/ ∃ u ∈ us, j = u.k) -> j ≠ kk := fun j hj e => by
  subst e
  rcases hj with rfl | rfl | rfl | ⟨u, hu, rfl⟩
  ·omega
  ·exact hkk.2.1 rfl
  ·exact hkk.2.2 rfl
  ·have := (Qbo hK hu).1; omega
 have eqkk : ∀ j, j ≠ kk -> (j == kk) = false := fun j hj => by simp [hj]
 have some1 : ∀ b j, (j = 500000 \/ j = 12 \/ j = 4 \/ ∃ u ∈ us, j = u.k) -> (lk ((500001 + i, b) :: wA us eu ec eg L J b4) j).isSome = true := fun b j hj => QX (Qkb hK hj)
 have rowsz : ∀ r ∈ us[i].cs.map dCR, r.map (D.fzS H (· == kk)) = r := fun r hr => by
  obtain ⟨z, hzm, rfl⟩ := List.mem_map.1 hr
  exact Yp fun d hd => Qej fun j hj => by rw [(hoth z hzm).all d hd] at hj; cases hj
 have mapz : ((us[i].cs.map dCR).set k row).map (fun r => r.map (D.fzS H (· == kk))) = (us[i].cs.map dCR).set k (row.map (D.fzS H (· == kk))) := by
  refine List.ext_getElem (by simp) fun j h1 h2 => ?_
  simp only [List.getElem_map, List.getElem_set]
  split
  ·rfl
  ·exact rowsz _ (List.mem_map_of_mem (List.getElem_mem _))
 refine le_trans (Qb8 l fr H) (le_trans (Qmv kk (H' := (500001 + i, ⟨(us[i].cs.map dCR).set k (row.map (D.fzS H (· == kk))), 8, ec, p⟩) :: wA us eu ec eg L J b4) (by omega) (fr' := Zd l fr) (fun t d h => ⟨d, h, QgF fun j hj => eqkk j (nokk j (hfr (t, d) (ZU h) j hj))⟩) (fun j b h => ?_) (fun t d h j hj => some1 _ j (hfr (t, d) (ZU h) j hj)) (fun j b h j2 hj2 => ?_) fun j hj hs => ?_) ?_)
 ·rw [Qm] at h
  split at h
  ·rename_i e; cases h; subst e
   refine ⟨by omega, _, hKi, ?_⟩
   cases p with
   | true => rw [hp rfl]; rfl
   | false => show Box.mk _ _ _ _ = _; rw [mapz]
  ·rename_i e
   rcases QbE hK h with ⟨rfl, rfl⟩ | ⟨rfl, rfl⟩ | ⟨rfl, rfl⟩ | ⟨i2, hi2, rfl, rfl⟩
   ·refine ⟨by omega, _, hu, Xm (.inr fun j hj => eqkk j (nokk j (.inr (.inr (.inr (QbD hj))))))⟩
   ·exact ⟨Ne.symm hkk.2.1, _, hg, rfl⟩
   ·exact ⟨Ne.symm hkk.2.2, _, h4, Xm (.inl hb4)⟩
   ·exact ⟨by omega, _, hF i2 hi2 (fun e2 => e (by omega)), rfl⟩
 ·rw [Qm] at h
  split at h
  ·cases h
   cases hpp : p with
   | true => rw [Qab hpp] at hj2; cases hj2
   | false =>
   simp only [Box.ids, hpp, Bool.false_eq_true, if_false, List.mem_flatMap] at hj2
   obtain ⟨r, hr, d, hd, hj3⟩ := hj2
   rcases Qep hr with rfl | hr
   ·have : (d.canS).sid = [] := hz.all _ (by rw [<- hrow]; exact List.mem_map_of_mem hd)
    rw [Qco] at this
    rw [this] at hj3; cases hj3
   ·obtain ⟨z, hzm, rfl⟩ := List.mem_map.1 hr
    rw [(hoth z hzm).all d hd] at hj3; cases hj3
  ·exact QX (Qaq hK hb4 j b h j2 hj2)
 ·rw [hsm j hj] at hs; cases hs
 ·refine le_trans (Qe0 k Qx) (le_trans (QfI Qx (fun e => ?_) (fun r hr d hd => ?_)) (Qbp rfl fun j => ?_))
  ·have := congrArg List.length e
   simp only [List.length_modify, List.length_set, List.length_map, List.length_nil] at this
   omega
  ·rcases Qa6 hr with h | ⟨y, hy, rfl⟩
   ·rcases Qep h with rfl | h
    ·have : (d.canS).sid = [] := hz.all _ (by rw [<- hrow]; exact List.mem_map_of_mem hd)
     rwa [Qco] at this
    ·obtain ⟨z, hzm, rfl⟩ := List.mem_map.1 h
     exact (hoth z hzm).all d hd
   ·obtain ⟨d0, hd0, rfl⟩ := List.mem_map.1 hd
    rw [Qco]
    rcases Qep hy with rfl | h
    ·have : (d0.canS).sid = [] := hz.all _ (by rw [<- hrow]; exact List.mem_map_of_mem hd0)
     rwa [Qco] at this
    ·obtain ⟨z, hzm, rfl⟩ := List.mem_map.1 h
     exact (hoth z hzm).all d0 hd0
  ·have erows : ((us[i].cs.map dCR).set k (row.map (D.fzS H (· == kk)))).modify k (fun r => r.map D.canS) = ((us[i].cs.set k z').map dCR) := by
    refine List.ext_getElem (by simp) fun m h1 h2 => ?_
    simp only [List.getElem_modify, List.getElem_set, List.getElem_map]
    by_cases e : k = m
    ·subst e
     simp only [if_true]
     exact hrow
    ·simp only [if_neg e]
   have hK' := QdZ (i := i) (k := k) (z := z') hK
   by_cases e : 500001 + i = j
   ·subst e
    rw [Qx, Qdi hK' (by rw [Zs]; exact hi)]
    simp only [QaR hi, if_true, erows]; rfl
   ·rw [Qm, if_neg e, Qm, if_neg e, Qm, if_neg e]
    cases h : lk (wA us eu ec eg L J b4) j with
    | none =>
     cases h' : lk (wA (QcC us i k z') eu ec eg L J b4) j with
     | none => rfl
     | some b =>
      have : (lk (wA us eu ec eg L J b4) j).isSome = true := by
       rcases QbE hK' h' with ⟨rfl, _⟩ | ⟨rfl, _⟩ | ⟨rfl, _⟩ | ⟨m, hm, rfl, _⟩
       ·rfl
       ·rfl
       ·rfl
       ·rw [Zs] at hm; rw [Qdi hK hm]; rfl
      rw [h] at this; cases this
    | some b =>
     rcases QbE hK h with ⟨rfl, rfl⟩ | ⟨rfl, rfl⟩ | ⟨rfl, rfl⟩ | ⟨m, hm, rfl, rfl⟩
     ·rw [Qfa, Qk1]
     ·rfl
     ·rfl
     ·rw [Qdi hK' (by rw [Zs]; exact hm)]
      simp only [QaR hm, if_neg (show ¬ i = m by omega)]
end
theorem QdG : ∀ {H : List (Nat × Box)} {j : Nat}, j ∈ H.map Prod.fst -> (lk H j).isSome = true
 | [], _, h => by cases h
 | (k, b) :: H, j, h => by
  by_cases e : k = j
  ·subst e; exact QZ
  ·refine QX (QdG ?_)
   simp only [List.map_cons, List.mem_cons] at h
   exact h.resolve_left (Ne.symm e)
theorem Qoy {us : List UR} (h : Ya us) {i : Nat} (hi : i < us.length) : (us.map dUR)[((i : Nat) : Int).toNat]? = some [.str us[i].n, .str us[i].f, .osl (500001 + i) us[i].cs.length] := by
 rw [Int.toNat_natCast, List.getElem?_map, List.getElem?_eq_getElem hi, Option.map_some, dUR, h i hi]
theorem Qrb {cs : List CR} {k : Nat} (hk : k < cs.length) : (cs.map dCR)[((k : Nat) : Int).toNat]? = some (dCR cs[k]) := by
 rw [Int.toNat_natCast, List.getElem?_map, List.getElem?_eq_getElem hk]; rfl
theorem Qj7 {us : List UR} {eu ec eg : Nat} {L : List Int} {J : Int} {b4 g1 : Box} (h : Ya us) (k : Nat) : lk (((500000, (⟨us.map dUR, 3, eu, false⟩ : Box)) :: fbx ec us) ++ ([(12, gB L J eg)] ++ [(12, g1), (4, b4)])) k = lk (wA us eu ec eg L J b4) k := by
 show lk ((500000, _) :: (fbx ec us ++ [(12, gB L J eg), (12, g1), (4, b4)])) k = lk ((500000, _) :: (12, _) :: (4, _) :: fbx ec us) k
 rw [Qm, Qm]
 split
 ·rfl
 ·rw [ZT]
  cases hh : lk (fbx ec us) k with
  | some v =>
   have := Qhm h k v hh
   simp only
   rw [Qm, if_neg (by omega), Qm, if_neg (by omega), hh]
  | none =>
   simp only [Qm, hh]
   by_cases e : 12 = k
   ·rw [if_pos e, if_pos e]
   ·rw [if_neg e, if_neg e, if_neg e]; rfl
theorem Qk6 {us : List UR} {eu ec eg : Nat} {L : List Int} {J : Int} {b4 : Box} (h : Ya us) (hv : ∀ y ∈ us, y.cs.length <= 16 /\ ∀ z ∈ y.cs, Qgs z.v) : Fam (wA us eu ec eg L J b4) 12 500000 eu ec us := by
 refine ⟨by decide, ⟨false, rfl⟩, fun y hy => ?_, hv⟩
 obtain ⟨j, hj, rfl⟩ := List.getElem_of_mem hy
 refine ⟨by rw [h j hj]; omega, true, by rw [h j hj]; exact Qdi h hj⟩
/-! ### Filled candidates -/
def Qpd (n : Nat) (x : WantT) : Prop := 0 <= x.u /\ x.u < n /\ SetOk x.s
theorem WantIn.w {n : Nat} {x : WantT} (h : WantIn n x) : Qpd n x := ⟨by have := h.1; omega, h.2.1, h.2.2⟩
structure Qau (n : Nat) (c : CandT) : Prop where
 v : Qgs c.v
 nl : c.ns.length <= 10
 nr : ∀ r ∈ c.ns, r.length <= 2 /\ ∀ x ∈ r, Qpd n x
 bl : c.bs.length <= 1
 bw : ∀ x ∈ c.bs, Qpd n x
def Qh7 (c : CandT) : CR := ⟨c.v, .int .i64 c.sh, QW c.ns, Zb c.bs⟩
def DoneC (n : Nat) (z : CR) : Prop := ∃ c, z = Qh7 c /\ Qau n c
def FreshC (z : CR) : Prop := ∃ v sh, z = zr v sh /\ Qgs v
theorem DoneC.pure {n : Nat} {z : CR} (h : DoneC n z) : PureC z := by obtain ⟨c, rfl, _⟩ := h; exact ⟨rfl, rfl, rfl⟩
theorem FreshC.pure {z : CR} (h : FreshC z) : PureC z := by obtain ⟨v, sh, rfl, _⟩ := h; exact ⟨rfl, rfl, rfl⟩
theorem DoneC.vr {n : Nat} {z : CR} (h : DoneC n z) : Qgs z.v := by obtain ⟨c, rfl, q⟩ := h; exact q.v
theorem FreshC.vr {z : CR} (h : FreshC z) : Qgs z.v := by obtain ⟨v, sh, rfl, q⟩ := h; exact q
structure Prog (n : Nat) (us : List UR) (i k : Nat) : Prop where
 keys : Ya us
 len : us.length = n /\ 2 <= n /\ n <= 11
 cl : ∀ u ∈ us, u.cs.length <= 4
 done : ∀ j, ∀ hj : j < us.length, ∀ m, ∀ hm : m < us[j].cs.length, (j < i \/ (j = i /\ m < k)) -> DoneC n us[j].cs[m]
 fresh : ∀ j, ∀ hj : j < us.length, ∀ m, ∀ hm : m < us[j].cs.length, ¬ (j < i \/ (j = i /\ m < k)) -> FreshC us[j].cs[m]
theorem Prog.pure {n : Nat} {us : List UR} {i k : Nat} (h : Prog n us i k) {j : Nat} (hj : j < us.length) : ∀ z ∈ us[j].cs, PureC z /\ Qgs z.v := fun z hz => by
 obtain ⟨m, hm, rfl⟩ := List.getElem_of_mem hz
 by_cases hd : j < i \/ (j = i /\ m < k)
 ·exact ⟨(h.done j hj m hm hd).pure, (h.done j hj m hm hd).vr⟩
 ·exact ⟨(h.fresh j hj m hm hd).pure, (h.fresh j hj m hm hd).vr⟩
theorem Prog.fam {n : Nat} {us : List UR} {i k : Nat} (h : Prog n us i k) : ∀ y ∈ us, y.cs.length <= 16 /\ ∀ z ∈ y.cs, Qgs z.v := fun y hy => by
 obtain ⟨j, hj, rfl⟩ := List.getElem_of_mem hy
 exact ⟨Nat.le_trans (h.cl _ hy) (by omega), fun z hz => (h.pure hj z hz).2⟩
theorem Prog.put {n : Nat} {us : List UR} {i k : Nat} (h : Prog n us i k) (hi : i < us.length) (hk : k < us[i].cs.length) {z : CR} (hz : DoneC n z) : Prog n (QcC us i k z) i (k + 1) := by
 have at' := fun (j : Nat) (hj : j < us.length) => QaR (i := i) (k := k) (z := z) hj
 refine ⟨QdZ h.keys, by rw [Zs]; exact h.len, fun u hu => ?_, fun j hj m hm hd => ?_, fun j hj m hm hd => ?_⟩
 ·obtain ⟨j, hj, rfl⟩ := List.getElem_of_mem hu
  rw [Zs] at hj
  rw [at' j hj]
  split
  ·simp only [Qey, List.length_set]; exact h.cl _ (List.getElem_mem _)
  ·exact h.cl _ (List.getElem_mem _)
 ·rw [Zs] at hj
  have e := at' j hj
  by_cases hij : i = j
  ·subst hij
   rw [if_pos rfl] at e
   have hm' : m < (Qey us[i] k z).cs.length := by rw [<- e]; exact hm
   have e2 : (QcC us i k z)[i].cs[m] = (Qey us[i] k z).cs[m]'hm' := by congr 1; rw [e]
   rw [e2]
   simp only [Qey, List.getElem_set]
   split
   ·exact hz
   ·simp only [Qey, List.length_set] at hm'
    exact h.done i hi m hm' (by omega)
  ·rw [if_neg hij] at e
   have hm' : m < us[j].cs.length := by rw [<- e]; exact hm
   have e2 : (QcC us i k z)[j].cs[m] = us[j].cs[m]'hm' := by congr 1; rw [e]
   rw [e2]; exact h.done j hj m hm' (by omega)
 ·rw [Zs] at hj
  have e := at' j hj
  by_cases hij : i = j
  ·subst hij
   rw [if_pos rfl] at e
   have hm' : m < (Qey us[i] k z).cs.length := by rw [<- e]; exact hm
   have e2 : (QcC us i k z)[i].cs[m] = (Qey us[i] k z).cs[m]'hm' := by congr 1; rw [e]
   rw [e2]
   simp only [Qey, List.length_set] at hm'
   simp only [Qey, List.getElem_set]
   rw [if_neg (by omega)]
   exact h.fresh i hi m hm' (by omega)
  ·rw [if_neg hij] at e
   have hm' : m < us[j].cs.length := by rw [<- e]; exact hm
   have e2 : (QcC us i k z)[j].cs[m] = us[j].cs[m]'hm' := by congr 1; rw [e]
   rw [e2]; exact h.fresh j hj m hm' (by omega)
theorem Prog.next {n : Nat} {us : List UR} {i k : Nat} (h : Prog n us i k) (hi : i < us.length) (hk : us[i].cs.length <= k) : Prog n us (i + 1) 0 := by
 refine ⟨h.keys, h.len, h.cl, fun j hj m hm hd => h.done j hj m hm ?_, fun j hj m hm hd => h.fresh j hj m hm (by omega)⟩
 by_cases e : j = i
 ·subst e; exact .inr ⟨rfl, by omega⟩
 ·exact .inl (by omega)
theorem Prog.again {n : Nat} {us : List UR} {i k : Nat} (h : Prog n us i (k + 1)) (hi : i < us.length) (hk : k < us[i].cs.length) {z : CR} (hz : DoneC n z) : Prog n (QcC us i k z) i (k + 1) := by
 have at' := fun (j : Nat) (hj : j < us.length) => QaR (i := i) (k := k) (z := z) hj
 refine ⟨QdZ h.keys, by rw [Zs]; exact h.len, fun u hu => ?_, fun j hj m hm hd => ?_, fun j hj m hm hd => ?_⟩
 ·obtain ⟨j, hj, rfl⟩ := List.getElem_of_mem hu
  rw [Zs] at hj
  rw [at' j hj]
  split
  ·simp only [Qey, List.length_set]; exact h.cl _ (List.getElem_mem _)
  ·exact h.cl _ (List.getElem_mem _)
 ·rw [Zs] at hj
  have e := at' j hj
  by_cases hij : i = j
  ·subst hij
   rw [if_pos rfl] at e
   have hm' : m < (Qey us[i] k z).cs.length := by rw [<- e]; exact hm
   have e2 : (QcC us i k z)[i].cs[m] = (Qey us[i] k z).cs[m]'hm' := by congr 1; rw [e]
   rw [e2]
   simp only [Qey, List.getElem_set]
   split
   ·exact hz
   ·simp only [Qey, List.length_set] at hm'
    exact h.done i hi m hm' (by omega)
  ·rw [if_neg hij] at e
   have hm' : m < us[j].cs.length := by rw [<- e]; exact hm
   have e2 : (QcC us i k z)[j].cs[m] = us[j].cs[m]'hm' := by congr 1; rw [e]
   rw [e2]; exact h.done j hj m hm' (by omega)
 ·rw [Zs] at hj
  have e := at' j hj
  by_cases hij : i = j
  ·subst hij
   rw [if_pos rfl] at e
   have hm' : m < (Qey us[i] k z).cs.length := by rw [<- e]; exact hm
   have e2 : (QcC us i k z)[i].cs[m] = (Qey us[i] k z).cs[m]'hm' := by congr 1; rw [e]
   rw [e2]
   simp only [Qey, List.length_set] at hm'
   simp only [Qey, List.getElem_set]
   rw [if_neg (by omega)]
   exact h.fresh i hi m hm' (by omega)
  ·rw [if_neg hij] at e
   have hm' : m < us[j].cs.length := by rw [<- e]; exact hm
   have e2 : (QcC us i k z)[j].cs[m] = us[j].cs[m]'hm' := by congr 1; rw [e]
   rw [e2]; exact h.fresh j hj m hm' (by omega)
theorem Qmu {l : List Nat} {fr fr1 fr' : List (Nat × D)} {us : List UR} {eu ec eg e1 e3 : Nat} {L : List Int} {J : Int} {b4 bK : Box} {i : Nat} {x : WantT} (hf : Zd l fr = fr1) (ef : fr1 = fr') (hK : Ya us) (hi : i < us.length) (hb4 : b4.pr = true) (hbK : ∀ j ∈ bK.ids, j = 64)
  (hfr : ∀ p ∈ fr', ∀ j ∈ p.2.ids, j = 500000 \/ j = 12 \/ j = 4 \/ ∃ u ∈ us, j = u.k) :
  St.le ⟨fr, (500001 + i, bK) :: (64, ⟨[[.osl 63 1]], 1, e1, false⟩) :: (63, ⟨[QeO x], 3, e3, true⟩) :: wA us eu ec eg L J b4⟩ ⟨fr', (500001 + i, bK) :: (64, ⟨[[Zb [x]]], 1, e1, true⟩) :: wA us eu ec eg L J b4⟩ := by
 subst hf ef
 have no63 : ∀ j, (j = 500000 \/ j = 12 \/ j = 4 \/ ∃ u ∈ us, j = u.k) -> j ≠ 63 := fun j hj e => by
  subst e
  rcases hj with h | h | h | ⟨u, hu, h⟩
  ·cases h
  ·cases h
  ·cases h
  ·have := (Qbo hK hu).1; omega
 have eq63 : ∀ j, j ≠ 63 -> (j == 63) = false := fun j hj => by simp [hj]
 have up : ∀ b b' j, (lk (wA us eu ec eg L J b4) j).isSome = true -> (lk ((500001 + i, b) :: (64, b') :: wA us eu ec eg L J b4) j).isSome = true := fun b b' j hj => QX (QX hj)
 refine le_trans (Qb8 l fr _) (le_trans (Qmv 63 (H' := (500001 + i, bK) :: (64, ⟨[[Zb [x]]], 1, e1, false⟩) :: wA us eu ec eg L J b4) (by decide) (fr' := Zd l fr) (fun t d h => ⟨d, h, QgF fun j hj => eq63 j (no63 j (hfr (t, d) (ZU h) j hj))⟩) (fun j b h => ?_) (fun t d h j hj => up _ _ j (Qkb hK (hfr (t, d) (ZU h) j hj))) (fun j b h j2 hj2 => ?_) fun j hj hs => ?_) ?_)
 ·rw [Qm] at h
  split at h
  ·rename_i e; cases h; subst e
   refine ⟨by omega, _, Qx, Xm (.inr fun j hj => ?_)⟩
   rw [hbK j hj]; rfl
  ·rename_i e
   rw [Qm] at h
   split at h
   ·rename_i e2; cases h; subst e2
    refine ⟨by decide, _, Qn e Qx, ?_⟩
    have h63 : lk ((500001 + i, bK) :: (64, (⟨[[.osl 63 1]], 1, e1, false⟩ : Box)) :: (63, ⟨[QeO x], 3, e3, true⟩) :: wA us eu ec eg L J b4) 63 = some ⟨[QeO x], 3, e3, true⟩ := Qn (by omega) (Qn (by decide) Qx)
    simp only [Box.fz, Bool.false_eq_true, if_false, List.map_cons, List.map_nil, D.fzS, beq_self_eq_true, if_true, h63, List.length_singleton, and_self, Zb]
   ·rename_i e2
    have h2 : lk ((500001 + i, bK) :: (64, (⟨[[.osl 63 1]], 1, e1, false⟩ : Box)) :: (63, ⟨[QeO x], 3, e3, true⟩) :: wA us eu ec eg L J b4) j = some b := by
     have hj : j ≠ 63 := by
      rcases QbE hK h with ⟨rfl, _⟩ | ⟨rfl, _⟩ | ⟨rfl, _⟩ | ⟨m, _, rfl, _⟩ <;> omega
     exact Qn e (Qn e2 (Qn (Ne.symm hj) h))
    rcases QbE hK h with ⟨rfl, rfl⟩ | ⟨rfl, rfl⟩ | ⟨rfl, rfl⟩ | ⟨m, hm, rfl, rfl⟩
    ·exact ⟨by decide, _, h2, Xm (.inr fun j hj => eq63 j (no63 j (.inr (.inr (.inr (QbD hj))))))⟩
    ·exact ⟨by decide, _, h2, rfl⟩
    ·exact ⟨by decide, _, h2, Xm (.inl hb4)⟩
    ·exact ⟨by omega, _, h2, rfl⟩
 ·rw [Qm] at h
  split at h
  ·cases h
   rw [hbK j2 hj2]; exact QX QZ
  ·rw [Qm] at h
   split at h
   ·cases h; simp [Box.ids, D.sid, Zb] at hj2
   ·exact up _ _ j2 (Qaq hK hb4 j b h j2 hj2)
 ·by_cases e : 500001 + i = j
  ·subst e; exact QZ
  ·rw [Qm, if_neg e, Qm, if_neg (by omega), Qm, if_neg (by omega)] at hs
   exact up _ _ j hs
 ·have h64 : lk ((500001 + i, bK) :: (64, (⟨[[Zb [x]]], 1, e1, false⟩ : Box)) :: wA us eu ec eg L J b4) 64 = some ⟨[[Zb [x]]], 1, e1, false⟩ := Qn (by omega) Qx
  refine le_trans (QfI h64 (by simp) (by intro r hr d hd; simp only [List.mem_singleton] at hr; subst hr; simp only [List.mem_singleton] at hd; subst hd; rfl)) (Qbp rfl fun j => ?_)
  by_cases e : 64 = j
  ·subst e; rw [Qx, Qm, if_neg (by omega), Qx]
  ·by_cases eK : 500001 + i = j
   ·subst eK; rw [Qm, if_neg e, Qx, Qx]
   ·rw [Qm, if_neg e, Qm, if_neg eK, Qm, if_neg e, Qm, if_neg eK, Qm, if_neg e]
theorem Ql7 {n : Nat} : ∀ {cs : List CR}, (∀ z ∈ cs, DoneC n z) -> ∃ l : List CandT, cs = l.map Qh7 /\ ∀ c ∈ l, Qau n c
 | [], _ => ⟨[], rfl, by simp⟩
 | z :: cs, h => by
  obtain ⟨l, h1, h2⟩ := Ql7 (cs := cs) fun y hy => h y (by simp [hy])
  obtain ⟨c, rfl, hc⟩ := h z (by simp)
  exact ⟨c :: l, by rw [h1]; rfl, fun y hy => by
   rcases List.mem_cons.1 hy with rfl | hy
   ·exact hc
   ·exact h2 y hy⟩
def Qqh (n : Nat) (u : UR) (x : Qnw) : Prop := x.n = u.n /\ x.f = u.f /\ u.cs = x.cs.map Qh7 /\ ∀ c ∈ x.cs, Qau n c
theorem Ql8 {n : Nat} : ∀ {us : List UR}, (∀ u ∈ us, ∀ z ∈ u.cs, DoneC n z) -> ∃ w : Qp, w.length = us.length /\ ∀ j, ∀ h : j < us.length, ∀ h' : j < w.length, Qqh n us[j] w[j]
 | [], _ => ⟨[], rfl, fun j h => by simp at h⟩
 | u :: us, h => by
  obtain ⟨w, h1, h2⟩ := Ql8 (us := us) fun y hy => h y (by simp [hy])
  obtain ⟨l, q1, q2⟩ := Ql7 (h u (by simp))
  refine ⟨⟨u.n, u.f, l⟩ :: w, by simp [h1], fun j hj hj' => ?_⟩
  cases j with
  | zero => exact ⟨rfl, rfl, q1, q2⟩
  | succ j => simp only [List.getElem_cons_succ]; exact h2 j (by simpa using hj) (by simpa using hj')
structure Qnx (w : Qp) : Prop where
 sm : WSm w
 len : 2 <= w.length /\ w.length <= 11
 cs : ∀ u ∈ w, u.cs.length <= 4
 cand : ∀ u ∈ w, ∀ c ∈ u.cs, Qau w.length c
theorem QpE {w : Qp} (h2 : 2 <= w.length) (h11 : w.length <= 11) (hc : ∀ u ∈ w, u.cs.length <= 4) (hd : ∀ u ∈ w, ∀ c ∈ u.cs, Qau w.length c) : Qnx w := by
 refine ⟨⟨by omega, fun u hu => Nat.le_trans (hc u hu) (by omega), fun u hu c hcm => (hd u hu c hcm).v, fun u hu c hcm => ⟨Nat.le_trans (hd u hu c hcm).nl (by omega), Nat.le_trans (hd u hu c hcm).bl (by omega)⟩, fun u hu c hcm r hr => Nat.le_trans ((hd u hu c hcm).nr r hr).1 (by omega), fun u hu c hcm r hr x hx => (((hd u hu c hcm).nr r hr).2 x hx).2.2.sm, fun u hu c hcm x hx => ((hd u hu c hcm).bw x hx).2.2.sm⟩, ⟨h2, h11⟩, hc, hd⟩
theorem QnZ {n : Nat} {us : List UR} {eu ec eg : Nat} {L : List Int} {J : Int} {b4 : Box} {k : Nat} (h : Prog n us us.length k) (hb4 : b4.pr = true) :
  ∃ w : Qp, w.length = us.length /\ Qnx w /\ ∀ {l : List Nat} {fr fr1 fr' : List (Nat × D)}, Zd l fr = fr1 -> fr1 = fr' -> (∀ p ∈ fr', ∀ j ∈ p.2.ids, j = 500000 \/ j = 4) -> St.le ⟨fr, wA us eu ec eg L J b4⟩ ⟨fr', [(500000, ⟨w.map YS, 3, eu, true⟩), (4, b4)]⟩ := by
 obtain ⟨w, hw1, hw2⟩ := Ql8 (n := n) (us := us) fun u hu z hz => by
  obtain ⟨j, hj, rfl⟩ := List.getElem_of_mem hu
  obtain ⟨m, hm, rfl⟩ := List.getElem_of_mem hz
  exact h.done j hj m hm (.inl hj)
 have hcs : ∀ u ∈ w, u.cs.length <= 4 /\ ∀ c ∈ u.cs, Qau n c := fun u hu => by
  obtain ⟨j, hj, rfl⟩ := List.getElem_of_mem hu
  obtain ⟨_, _, q3, q4⟩ := hw2 j (by omega) hj
  have := h.cl us[j] (List.getElem_mem _)
  rw [q3, List.length_map] at this
  exact ⟨this, q4⟩
 have hlen := h.len
 refine ⟨w, hw1, QpE (by omega) (by omega) (fun u hu => (hcs u hu).1) (fun u hu c hc => by have := (hcs u hu).2 c hc; rwa [show w.length = n by omega]), ?_⟩
 intro l fr fr1 fr' hf ef hfr
 subst hf ef
 have hK := h.keys
 let S : Nat -> Bool := fun k => decide (500001 <= k) && decide (k < 1000000)
 have hS1 : ∀ k, k < 500001 -> S k = false := fun k hk => by
  show (decide (500001 <= k) && decide (k < 1000000)) = false
  rw [decide_eq_false (by omega)]; rfl
 have hS2 : ∀ k, 500001 <= k -> k < 1000000 -> S k = true := fun k h1 h2 => by
  show (decide (500001 <= k) && decide (k < 1000000)) = true
  rw [decide_eq_true h1, decide_eq_true h2]; rfl
 have hrow : ∀ j, ∀ h1 : j < us.length, ∀ h2 : j < w.length, (dUR us[j]).map (D.fzS (wA us eu ec eg L J b4) S) = YS w[j] := fun j h1 h2 => by
  obtain ⟨q1, q2, q3, q4⟩ := hw2 j h1 h2
  have hk := hK j h1
  have hc := Qdi (eu := eu) (ec := ec) (eg := eg) (L := L) (J := J) (b4 := b4) hK h1
  generalize us[j] = u at q1 q2 q3 hk hc
  generalize w[j] = x at q1 q2 q3 q4
  obtain ⟨un, uf, uk, ucs⟩ := u
  simp only at q1 q2 q3 hk hc
  subst hk q3
  simp only [dUR, YS, List.map_cons, List.map_nil, D.fzS]
  rw [hS2 _ (by omega) (by omega), hc]
  simp only [if_true, true_and, List.length_map, q1, q2, Qko, List.map_map]
  rfl
 have hrows : (us.map dUR).map (fun r => r.map (D.fzS (wA us eu ec eg L J b4) S)) = w.map YS := by
  refine List.ext_getElem (by simp [hw1]) fun j h1 h2 => ?_
  simp only [List.getElem_map]
  exact hrow j (by simpa using h1) (by simpa using h2)
 refine le_trans (Qb8 l fr _) (le_trans (Qpx S (fun k hk => by
  simp only [S, Bool.and_eq_true, decide_eq_true_eq] at hk; exact hk.2) (fr' := Zd l fr) (H' := [(500000, ⟨w.map YS, 3, eu, false⟩), (4, b4)]) (fun t d hd => ⟨d, hd, QgF fun j hj => ?_⟩) (fun j b hj => ?_) (fun t d hd j hj => ?_) (fun j b hb i hi => ?_) fun j hj hs => ?_) (le_trans (QfI (k := 500000) (b := ⟨w.map YS, 3, eu, false⟩) rfl (fun e => ?_) (fun r hr d hd => ?_)) (Qbp rfl fun j => ?_)))
 ·rcases hfr (t, d) (ZU hd) j hj with rfl | rfl
  ·exact hS1 _ (by decide)
  ·exact hS1 _ (by decide)
 ·rw [Qm] at hj
  split at hj
  ·rename_i e; cases hj; subst e
   refine ⟨hS1 _ (by decide), _, Qfa, ?_⟩
   simp only [Box.fz, Bool.false_eq_true, if_false, hrows]
  ·rw [Qm] at hj
   split at hj
   ·rename_i e; cases hj; subst e
    exact ⟨hS1 _ (by decide), _, Qgi, Xm (.inl hb4)⟩
   ·cases hj
 ·rcases hfr (t, d) (ZU hd) j hj with rfl | rfl
  ·rfl
  ·rfl
 ·rw [Qm] at hb
  split at hb
  ·cases hb
   simp only [Box.ids, Bool.false_eq_true, if_false, List.mem_flatMap, List.mem_map] at hi
   obtain ⟨r, ⟨u, _, rfl⟩, d, hd, hi⟩ := hi
   simp only [YS, List.mem_cons, List.not_mem_nil, or_false] at hd
   rcases hd with rfl | rfl | rfl <;> simp [D.sid, Qko] at hi
  ·rw [Qm] at hb
   split at hb
   ·cases hb; rw [Qab hb4] at hi; cases hi
   ·cases hb
 ·obtain ⟨b, hb⟩ := Option.isSome_iff_exists.1 hs
  rcases QbE hK hb with ⟨rfl, _⟩ | ⟨rfl, _⟩ | ⟨rfl, _⟩ | ⟨m, hm, rfl, _⟩ <;> omega
 ·have := congrArg List.length e
  simp only [List.length_map, List.length_nil] at this
  omega
 ·obtain ⟨u, _, rfl⟩ := List.mem_map.1 hr
  simp only [YS, List.mem_cons, List.not_mem_nil, or_false] at hd
  rcases hd with rfl | rfl | rfl <;> rfl
 ·by_cases e : 500000 = j
  ·subst e; rfl
  ·rw [Qm, if_neg e, Qm, if_neg e]; rw [Qm (k := 500000), if_neg e]
def QjA (us : List UR) (i : Nat) : Nat := match us[i]? with
 | some u => u.cs.length
 | none => 0
theorem QaL {us : List UR} {i : Nat} (h : i < us.length) : QjA us i = us[i].cs.length := by rw [QjA, List.getElem?_eq_getElem h]
theorem QaA (us : List UR) (i k : Nat) (z : CR) : QjA (QcC us i k z) i = QjA us i := by
 by_cases h : i < us.length
 ·rw [QaL h, QaL (by rw [Zs]; exact h), QaR h, if_pos rfl]
  simp [Qey]
 ·have e : (QcC us i k z).length = us.length := Zs ..
  rw [QjA, QjA, List.getElem?_eq_none (show us.length <= i by omega), List.getElem?_eq_none (show (QcC us i k z).length <= i by omega)]
theorem Qi7 {us : List UR} {i k : Nat} {z : CR} (hi : i < us.length) (hk : k < us[i].cs.length) {us2 : List UR} (e : us2 = QcC us i k z) (hi2 : i < us2.length) (hk2 : k < us2[i].cs.length) : us2[i].cs[k] = z := by
 subst e
 have e1 := QaR (i := i) (k := k) (z := z) hi
 rw [if_pos rfl] at e1
 have e2 : (QcC us i k z)[i].cs[k] = (Qey us[i] k z).cs[k]'(by simpa [Qey] using hk) := by congr 1; rw [e1]
 rw [e2]; simp [Qey]
theorem Qpo {cs : List CR} {k : Nat} {z : CR} (hk : k < cs.length) (hz : cs[k] = z) : (cs.map dCR)[((k : Nat) : Int).toNat]? = some (dCR z) := by rw [Qrb hk, hz]
theorem Qo0 {cs : List CR} {k : Nat} {row : List D} (hk : k < cs.length) : ((cs.map dCR).set ((k : Nat) : Int).toNat row)[((k : Nat) : Int).toNat]? = some row := by
 rw [Int.toNat_natCast, List.getElem?_set_self (by simpa using hk)]
theorem QiF {K k e t : Nat} {L : List (List D)} {r1 r2 : List D} {p : Bool} {H : List (Nat × Box)} : lk ((K, (⟨(L.set k r1).set k r2, e, t, p⟩ : Box)) :: H) K = some ⟨L.set k r2, e, t, p⟩ := by rw [Qx, List.set_set]
theorem QeZ {H : List (Nat × Box)} {kk m e t : Nat} {ys : List (List D)} {v : Vr} {sh : Int} (h : lk H kk = some ⟨ys, e, t, true⟩) (hm : m = ys.length) : ([D.int .i64 v.a, .int .i64 v.b, .int .i64 v.c, .str v.p, .str v.q, .int .i64 sh, .osl kk m, .fsl []].map (D.fzS H (· == kk))).map D.canS = [.int .i64 v.a, .int .i64 v.b, .int .i64 v.c, .str v.p, .str v.q, .int .i64 sh, .sl ys, .sl []] := by
 simp only [List.map_cons, List.map_nil, D.fzS, beq_self_eq_true, if_true, h, hm, and_self, D.canS]
theorem Qmh {H : List (Nat × Box)} {kk m e t : Nat} {ys : List (List D)} {v : Vr} {sh : Int} {ns : List (List WantT)} (h : lk H kk = some ⟨ys, e, t, true⟩) (hm : m = ys.length) : ([D.int .i64 v.a, .int .i64 v.b, .int .i64 v.c, .str v.p, .str v.q, .int .i64 sh, QW ns, .osl kk m].map (D.fzS H (· == kk))).map D.canS = [.int .i64 v.a, .int .i64 v.b, .int .i64 v.c, .str v.p, .str v.q, .int .i64 sh, QW ns, .sl ys] := by
 simp only [QW, List.map_cons, List.map_nil, D.fzS, beq_self_eq_true, if_true, h, hm, and_self, D.canS]
theorem QqS {us : List UR} {eu ec eg : Nat} {L : List Int} {J J2 : Int} {b4 : Box} (k : Nat) : lk ((12, gB L J2 eg) :: wA us eu ec eg L J b4) k = lk (wA us eu ec eg L J2 b4) k := by
 show lk ((12, _) :: (500000, _) :: (12, _) :: (4, _) :: fbx ec us) k = lk ((500000, _) :: (12, _) :: (4, _) :: fbx ec us) k
 by_cases e : 12 = k
 ·subst e; rfl
 ·rw [Qm, if_neg e, Qm, Qm (k := 500000)]
  split
  ·rfl
  ·rw [Qm, if_neg e, Qm (k := 12), if_neg e]
theorem QjV {cs : List CR} {k e t : Nat} {row : List D} (h : ∀ z ∈ cs, PureC z) (hr : ∀ d ∈ row, ∀ j ∈ d.sid, j = 64) : ∀ j ∈ Box.ids ⟨(cs.map dCR).set k row, e, t, false⟩, j = 64 := fun j hj => by
 simp only [Box.ids, Bool.false_eq_true, if_false, List.mem_flatMap] at hj
 obtain ⟨r, hrm, d, hd, hj⟩ := hj
 rcases Qep hrm with rfl | hrm
 ·exact hr d hd j hj
 ·obtain ⟨z, hz, rfl⟩ := List.mem_map.1 hrm
  rw [(h z hz).all d hd] at hj; cases hj
theorem Qr3 {us : List UR} {eu ec eg : Nat} {L : List Int} {J : Int} {b4 b64 : Box} {n i k : Nat} (h : Prog n us i k) (hi : i < us.length) (hk : k < us[i].cs.length) {zx : CR} (hv : Qgs zx.v) (hrow : zx.x.sid = [] /\ zx.y.sid = [64] /\ zx.z.sid = []) (hb4 : b4.pr = true) (h64 : b64.pr = true) :
  Fam ((500001 + i, ⟨(us[i].cs.map dCR).set k (dCR zx), 8, ec, false⟩) :: (64, b64) :: wA us eu ec eg L J b4) 12 500000 eu ec (QcC us i k zx) /\ Closed ((500001 + i, ⟨(us[i].cs.map dCR).set k (dCR zx), 8, ec, false⟩) :: (64, b64) :: wA us eu ec eg L J b4) := by
 refine ⟨⟨by decide, ⟨false, ?_⟩, fun y hy => ?_, fun y hy => ?_⟩, ?_⟩
 ·rw [Qm, if_neg (by omega), Qm, if_neg (by decide), Qfa, Qk1]
 ·obtain ⟨j, hj, rfl⟩ := List.getElem_of_mem hy
  have hK' := QdZ (i := i) (k := k) (z := zx) h.keys
  have hj' := hj
  rw [Zs] at hj'
  refine ⟨by rw [hK' j hj]; omega, ?_⟩
  rw [hK' j hj]
  by_cases e : i = j
  ·subst e
   refine ⟨false, ?_⟩
   rw [Qx, QaR hj', if_pos rfl, Qey, List.map_set]
  ·refine ⟨true, ?_⟩
   rw [Qm, if_neg (by omega), Qm, if_neg (by omega), Qdi h.keys hj', QaR hj', if_neg e]
 ·obtain ⟨j, hj, rfl⟩ := List.getElem_of_mem hy
  have hj' := hj
  rw [Zs] at hj'
  rw [QaR hj']
  have hfam := h.fam us[j] (List.getElem_mem _)
  split
  ·refine ⟨by simpa [Qey] using hfam.1, fun z hz => ?_⟩
   rcases Qep hz with rfl | hz
   ·exact hv
   ·exact hfam.2 z hz
  ·exact hfam
 ·refine ((Qaq h.keys hb4).pr h64).cons fun j hj => ?_
  have := QjV (e := 8) (t := ec) (k := k) (row := dCR zx) (fun z hz => (h.pure hi z hz).1) (fun d hd j hj => by
   simp only [dCR, List.mem_cons, List.not_mem_nil, or_false] at hd
   rcases hd with rfl | rfl | rfl | rfl | rfl | rfl | rfl | rfl
   ·cases hj
   ·cases hj
   ·cases hj
   ·cases hj
   ·cases hj
   ·rw [hrow.1] at hj; cases hj
   ·rw [hrow.2.1] at hj; simpa using hj
   ·rw [hrow.2.2] at hj; cases hj) j hj
  subst this; exact QZ
theorem Prog.start {us : List UR} (h : UnitsIn us) (h2 : 2 <= us.length) (h11 : us.length <= 11) : Prog us.length us 0 0 := by
 refine ⟨h.keys, ⟨rfl, h2, h11⟩, fun u hu => (h.fresh u hu).1, fun j hj m hm hd => by omega, fun j hj m hm _ => ?_⟩
 obtain ⟨v, sh, e, hv⟩ := (h.fresh _ (List.getElem_mem hj)).2 _ (List.getElem_mem hm)
 exact ⟨v, sh, e, hv⟩
theorem Qed {n : Nat} {m : Int} {v : Vr} {sh : Int} {ns : List (List WantT)} (hv : Qgs v) (h : Qfe n m ns) (hm : m <= 3) : Qau n ⟨v, sh, ns, []⟩ :=
 ⟨hv, by show ns.length <= 10; have := h.1; omega, fun r hr => ⟨(h.2 r hr).1, fun x hx => ((h.2 r hr).2 x hx).w⟩, Nat.zero_le _, fun x hx => by cases hx⟩
theorem Qin {n i : Nat} {m : Int} {v : Vr} {sh : Int} {ns : List (List WantT)} (hv : Qgs v) (h : Qfe n m ns) (hm : m <= 3) (h1 : 1 <= i) (hi : i < n) : Qau n ⟨v, sh, [⟨(i : Int) - 1, Xg v.a v.b v.c v.p v.q⟩] :: ns, []⟩ := by
 refine ⟨hv, by show (_ :: ns).length <= 10; have := h.1; simp only [List.length_cons]; omega, fun r hr => ?_, Nat.zero_le _, fun x hx => by cases hx⟩
 rcases List.mem_cons.1 hr with rfl | hr
 ·refine ⟨by simp, fun x hx => ?_⟩
  simp only [List.mem_singleton] at hx; subst hx
  have := Qcs (a := v.a) (b := v.b) (c := v.c) (q := v.q) hv.1
  exact ⟨by show 0 <= (i : Int) - 1; omega, by show (i : Int) - 1 < n; omega, this.1.up (by omega), this.2.up (by omega)⟩
 ·exact ⟨(h.2 r hr).1, fun x hx => ((h.2 r hr).2 x hx).w⟩
theorem Qim {n : Nat} {v : Vr} {sh : Int} {ns : List (List WantT)} (h : Qau n ⟨v, sh, ns, []⟩) {x : WantT} (hx : WantIn n x) : Qau n ⟨v, sh, ns, [x]⟩ := ⟨h.v, h.nl, h.nr, by simp, by intro y hy; simp only [List.mem_singleton] at hy; subst hy; exact hx.w⟩
theorem Qi8 {us : List UR} {i k : Nat} {z : CR} (hi : i < us.length) (hk : k < us[i].cs.length) {us2 : List UR} (e : QcC us i k z = us2) (hi2 : i < us2.length) : k < us2[i].cs.length := by
 rw [<- QaL hi2, <- e, QaA, QaL hi]; exact hk
theorem QoX {l : List (List WantT)} : ∀ r ∈ l.map (fun r => [Zb r]), r.length = 1 := fun r hr => by obtain ⟨x, _, rfl⟩ := List.mem_map.1 hr; rfl
end M25
namespace Go.Proofs
open Go Go.Abs M3 M25
set_option linter.unusedVariables false
set_option linter.unusedSimpArgs false
theorem QpH {kg : Nat} {L : List Int} {I most : Int} {eg eu ec : Nat} (heu : eu = 74) (hec : ec = 71) (hL : ∀ x ∈ L, I64 x) (hm0 : 1 <= most) (hm1 : most <= 5) :
  ∃ us I2, (UnitsIn us /\ 2 <= us.length /\ us.length <= 11) /\ ∀ (st : St) (args : List Opd), Zt st args = some [.ref kg 0 0, .int .i64 most] -> lk st.H kg = some (gB L I eg) -> (∀ j, 500000 <= j -> lk st.H j = none) -> Qbf Tryz.prog 39 args st [(kg, gB L I eg)] ((500000, ⟨us.map dUR, 3, eu, false⟩) :: fbx ec us) [(kg, gB L I2 eg)] (.osl 500000 us.length) := by
 obtain ⟨d, H2, ⟨us, I2, hus, rfl, rfl⟩, hok⟩ := QcH (kg := upN kg) (I := I) (eg := eg) heu hec (by unfold upN; omega) hL hm0 hm1
 refine ⟨us, I2, hus, fun st args ha hg hs => ⟨_, ha, fun k b h => ?_, fun k b h j hj => ?_, fun x hx j hj => ?_, fun k b h => ?_, fun k b h => ?_, fun k hk => ?_, hok⟩⟩
 ·obtain ⟨rfl, rfl⟩ := Xz h; exact hg
 ·obtain ⟨rfl, rfl⟩ := Xz h; simp [Box.ids, gB] at hj
 ·simp only [List.mem_cons, List.not_mem_nil, or_false] at hx
  rcases hx with rfl | rfl
  ·simp [D.ids, D.sid] at hj; subst hj; exact QZ
  ·simp [D.ids, D.sid] at hj
 ·obtain ⟨rfl, rfl⟩ := Xz h
  exact ⟨QZ, fun j hj => by simp [Box.ids, gB] at hj⟩
 ·have hK := hus.1.keys
  rw [Qm] at h
  split at h
  ·rename_i e; cases h; subst e
   refine ⟨by decide, hs _ (Nat.le_refl _), fun j hj => ?_⟩
   obtain ⟨u, hu, rfl⟩ := QbD hj
   exact QX (Qdx hK hu)
  ·obtain ⟨u, hu, rfl, rfl⟩ := QgK h
   have := Qbo hK hu
   exact ⟨by omega, hs _ (by omega), fun j hj => by simp [Box.ids] at hj⟩
 ·simp [D.ids, D.sid] at hk; subst hk; exact QZ
theorem QjQ {H : List (Nat × Box)} {kg ku : Nat} {L : List Int} {I most : Int} {eg eu ec : Nat} {us : List UR} (hg : lk H kg = some (gB L I eg)) (hU : Fam H kg ku eu ec us) (hC : Closed H) (hL : ∀ x ∈ L, I64 x) (h2 : 2 <= us.length) (hn : us.length <= 48) (hm0 : 0 <= most) (hm1 : most <= 10) :
  ∃ ns I2, Qfe us.length most ns /\ ∀ (st : St) (args : List Opd), Zt st args = some [.ref kg 0 0, .osl ku us.length, .int .i64 most] -> (∀ j x, lk H j = some x -> lk st.H j = some x) -> Qbf Tryz.prog 40 args st H [] [(kg, gB L I2 eg)] (QW ns) := by
 obtain ⟨d, H2, ⟨ns, I2, hx, rfl, rfl⟩, hok⟩ := QcG (H := upH H) (kg := upN kg) (ku := upN ku) (L := L) (I := I) (most := most) (eg := eg) (eu := eu) (ec := ec) (us := us.map UR.ren) (by unfold upN; omega) (by rw [QaD, hg]; rfl) hU.up Qj8 (QeB hC) hL (by simpa using h2) (by simpa using hn) hm0 hm1
 obtain ⟨pu, hu⟩ := hU.u
 rw [List.length_map] at hx hok
 refine ⟨ns, I2, hx, fun st args ha hF => Qkl (b' := gB L I2 eg) (ds' := [.ref (upN kg) 0 0, .osl (upN ku) us.length, .int .i64 most]) ha hF hC (fun x hx j hj => ?_) (Zq hg) rfl rfl rfl rfl hok⟩
 simp only [List.mem_cons, List.not_mem_nil, or_false] at hx
 rcases hx with rfl | rfl | rfl
 ·simp [D.ids, D.sid] at hj; subst hj; exact Zq hg
 ·simp [D.ids, D.sid] at hj; subst hj; exact Zq hu
 ·simp [D.ids, D.sid] at hj
theorem QcF {ws : List Int} (hL : ∀ x ∈ ws, I64 x) {most : Int} (hm0 : 1 <= most) (hm1 : most <= 5) : ∃ d, (∃ w, Qnx w /\ d = Z8 w) /\ Ok Tryz.prog 10 [ZH ws, .int .i64 most] d := by
 refine Ok.ofX (R := fun d => (∃ w, Qnx w /\ d = Z8 w)) ZX Tryz.func10 Qr6 (Nat.le_of_ble_eq_true rfl) ?_
 show TX _ _ tf10.body _ _
 obtain ⟨us0, J0, ⟨hU, hu2, hu11⟩, hc0⟩ := QpH (kg := 12) (L := ws) (I := 0) (most := most) (eg := 63) rfl rfl hL hm0 hm1
 have hU0 := Prog.start hU hu2 hu11
 obtain ⟨z0, rest0, hfirst⟩ := hU.first
 have hi0 : 0 < us0.length := by omega
 have hcl0 : us0[0].cs = [z0] := by subst hfirst; rfl
 have hk0 : 0 < us0[0].cs.length := by rw [hcl0]; exact Nat.zero_lt_one
 obtain ⟨va, sha, hza, hva⟩ := hU0.fresh 0 hi0 0 hk0 (by omega)
 obtain ⟨ns0, J00, hns0, hc00⟩ := QjQ (H := wA (us0) 74 71 63 ws (J0) ⟨[[.fsl []]], 1, 26, true⟩) (most := 3) QeL (Qk6 hU.keys hU0.fam) (Qaq hU.keys rfl) hL hu2 (by omega) (by decide) (by decide)
 refine Q8 fun K hK => ZC rfl ?_
 refine hK _ _ (QM (kp3 rfl rfl rfl) ?_)
 refine Q8 fun K hK => Qa rfl (QR rfl rfl (Zw rfl rfl rfl (Qa rfl ?_)))
 refine hK _ _ (QM (kp3 rfl rfl rfl) ?_)
 refine Q8 fun K hK => Qa rfl (Qa rfl (YC (hc0 _ _ rfl rfl (by intro j hj; rw [Qm, if_neg (by omega), Qm, if_neg (by omega)]; rfl)) (Qa rfl ?_)))
 refine hK _ _ (QM (kp3 rfl rfl rfl) ?_)
 refine QlO (Qbp rfl (Qj7 hU.keys)) (Q8 fun K hK => Qa rfl (XN (ds0 := [7, 6, 2, 1, 0]) rfl rfl rfl (by simp) (by omega) (by omega) rfl (by first | rfl | ((try simp only [QW, D.ids, D.sid]); simp only [Dr.ok, Zk, Zl, Zm, List.all_append, List.all_cons, List.all_nil, Bool.and_true, Bool.true_and]; (try rw [ZA (by rfl)]); simp [D.ids, D.sid]; done) | ((try simp only [QW, D.ids, D.sid]); simp only [Dr.ok, Zk, Zl, Zm, List.all_append, List.all_cons, List.all_nil, Bool.and_true, Bool.true_and]; (try rw [ZA (by rfl)]); simp [D.ids, D.sid]; omega)) rfl (Qh rfl rfl (QQ (ds0 := [2, 1, 0]) rfl (Z5 rfl (Qoy (i := 0) hU.keys hi0)) rfl (by first | rfl | ((try simp only [QW, D.ids, D.sid]); simp only [Dr.ok, Zk, Zl, Zm, List.all_append, List.all_cons, List.all_nil, Bool.and_true, Bool.true_and]; (try rw [ZA (by rfl)]); simp [D.ids, D.sid]; done) | ((try simp only [QW, D.ids, D.sid]); simp only [Dr.ok, Zk, Zl, Zm, List.all_append, List.all_cons, List.all_nil, Bool.and_true, Bool.true_and]; (try rw [ZA (by rfl)]); simp [D.ids, D.sid]; omega)) rfl (Qa rfl (Qa rfl (Qjp (ds0 := [0]) (hc00 _ _ rfl (fun _ _ h => h)) (fun j hj => QdG hj) (by first | rfl | ((try simp only [QW, D.ids, D.sid]); simp only [Dr.ok, Zk, Zl, Zm, List.all_append, List.all_cons, List.all_nil, Bool.and_true, Bool.true_and]; (try rw [ZA (by rfl)]); simp [D.ids, D.sid]; done) | ((try simp only [QW, D.ids, D.sid]); simp only [Dr.ok, Zk, Zl, Zm, List.all_append, List.all_cons, List.all_nil, Bool.and_true, Bool.true_and]; (try rw [ZA (by rfl)]); simp [D.ids, D.sid]; omega)) rfl (XN (ds0 := [1, 0]) rfl rfl (Qn (by omega) (Qdi (j := 0) hU.keys hi0)) (by simp) (by omega) (by omega) rfl (by first | rfl | ((try simp only [QW, D.ids, D.sid]); simp only [Dr.ok, Zk, Zl, Zm, List.all_append, List.all_cons, List.all_nil, Bool.and_true, Bool.true_and]; (try rw [ZA (by rfl)]); simp [D.ids, D.sid]; done) | ((try simp only [QW, D.ids, D.sid]); simp only [Dr.ok, Zk, Zl, Zm, List.all_append, List.all_cons, List.all_nil, Bool.and_true, Bool.true_and]; (try rw [ZA (by rfl)]); simp [D.ids, D.sid]; omega)) rfl (Qh rfl (Zq (Qn (by omega) (Qdi (j := 0) hU.keys hi0))) (Xk (ds0 := []) rfl (Qn (by omega) (Qdi (j := 0) hU.keys hi0)) (Qpo (k := 0) hk0 hza) rfl rfl rfl rfl rfl (by first | rfl | ((try simp only [QW, D.ids, D.sid]); simp only [Dr.ok, Zk, Zl, Zm, List.all_append, List.all_cons, List.all_nil, Bool.and_true, Bool.true_and]; (try rw [ZA (by rfl)]); simp [D.ids, D.sid]; done) | ((try simp only [QW, D.ids, D.sid]); simp only [Dr.ok, Zk, Zl, Zm, List.all_append, List.all_cons, List.all_nil, Bool.and_true, Bool.true_and]; (try rw [ZA (by rfl)]); simp [D.ids, D.sid]; omega)) rfl ?_))))))))))
 refine hK _ _ (QM (kp3 rfl rfl rfl) ?_)
 refine Xw ?_ -- 0
 refine Q8 fun K hK => Qa rfl ?_
 refine hK _ _ (QM (kp4 rfl rfl rfl rfl) ?_)
 refine Ys ?_
 have hPs : Prog us0.length (QcC us0 0 0 (Qh7 (CandT.mk va sha ns0 []))) 1 0 := (hU0.put hi0 hk0 ⟨_, rfl, Qed hva hns0 (by decide)⟩).next (by rw [Zs]; exact hi0) (by rw [<- QaL (by rw [Zs]; exact hi0), QaA, QaL hi0, hcl0]; exact Nat.le_refl 1)
 refine Qdj (ι := List UR × Int × Nat) (fun ⟨usA, JA, i⟩ => ⟨[(4, .ref 4 0 0), (5, .ref 12 0 0), (6, .osl 500000 usA.length), (7, .int .i64 i)], wA (usA) 74 71 63 ws (JA) ⟨[[.fsl []]], 1, 26, true⟩⟩) (fun ⟨usA, JA, i⟩ => Prog us0.length usA i 0 /\ 1 <= i /\ i <= us0.length) (fun ⟨usA, JA, i⟩ => us0.length - i) (QcC us0 0 0 (Qh7 (CandT.mk va sha ns0 [])), J00, 1) ?_ ?_ ?_
 ·exact QfJ (l := [4, 5, 6, 7]) (i := 0) (k := 0) (row := [.int .i64 va.a, .int .i64 va.b, .int .i64 va.c, .str va.p, .str va.q, .int .i64 sha, QW ns0, .fsl []]) (p := true) 13 (Qh7 (CandT.mk va sha ns0 [])) (kp4 rfl rfl rfl rfl) (by rw [Zs] <;> rfl) hU.keys hi0 hk0 Qx (fun _ => rfl) rfl (fun z hz => (hU0.pure hi0 z hz).1) ⟨rfl, rfl, rfl⟩ (fun j hj hne => (Qn (by omega) (Qn (by omega) (Qdi hU.keys hj)))) (by repeat (first | exact Qx | exact Qfa | exact QeL | exact Qgi | refine Qn (by omega) ?_)) (by repeat (first | exact Qx | exact Qfa | exact QeL | exact Qgi | refine Qn (by omega) ?_)) (by repeat (first | exact Qx | exact Qfa | exact QeL | exact Qgi | refine Qn (by omega) ?_)) rfl (by decide) (by intro j hj; repeat (first | exact Z0 hU.keys (by omega) (by omega) (by omega) (.inr (by omega)) | refine Zr (by omega) ?_)) (by omega) (by intro p hp j hj; simp only [List.mem_cons, List.not_mem_nil, or_false] at hp; rcases hp with rfl | rfl | rfl | rfl <;> first | (simp [D.ids, D.sid] at hj; done) | (simp [D.ids, D.sid] at hj; subst hj; first | exact .inl rfl | exact .inr (.inl rfl) | exact .inr (.inr (.inl rfl)) | exact .inr (.inr (.inr ⟨us0[0], List.getElem_mem hi0, rfl⟩))))
 ·exact ⟨hPs, Nat.le_refl _, by omega⟩
 intro ⟨usA, JA, i⟩ hPA
 try dsimp only at hPA
 have hlA := hPA.1.len.1
 try dsimp only
 refine Xw ?_ -- 1
 refine Q8 fun K hK => Qa rfl (Qa rfl ?_)
 first | refine QU rfl Q1 ?_ | refine QU rfl rfl ?_
 refine Yj rfl rfl ?_
 refine hK _ _ (QM (kp5 rfl rfl rfl rfl rfl) ?_)
 refine YL rfl (fun h1 => ?_) (fun h1 => ?_)
 ·try rw [h1]
  try simp only [qa, qb, qc, qd, qe, List.length_map] at h1
  refine Y0 (Q0 (kp4 rfl rfl rfl rfl) ?_)
  refine Xw ?_ -- 2
  refine Ys (Q8 fun K hK => Qa rfl ?_)
  refine hK _ _ (QM (kp5 rfl rfl rfl rfl rfl) ?_)
  refine Ys ?_
  refine Qdj (ι := List UR × Int × Nat) (fun ⟨us, J, k⟩ => ⟨[(4, .ref 4 0 0), (5, .ref 12 0 0), (6, .osl 500000 us.length), (7, .int .i64 i), (8, .int .i64 k)], wA (us) 74 71 63 ws (J) ⟨[[.fsl []]], 1, 26, true⟩⟩) (fun ⟨us, J, k⟩ => Prog us0.length us i k) (fun ⟨us, J, k⟩ => QjA us i - k) (usA, JA, 0) ?_ ?_ ?_
  ·exact Zh (l := [4, 5, 6, 7, 8]) (kp5 rfl rfl rfl rfl rfl)
  ·exact hPA.1
  intro ⟨us, J, k⟩ hP
  try dsimp only at hP
  have hl := hP.len.1
  have hi : i < us.length := by omega
  have h1i := hPA.2.1
  have hcl4 := hP.cl us[i] (List.getElem_mem hi)
  try dsimp only
  refine Xw ?_ -- 3
  refine Q8 fun K hK => Qa rfl (Qa rfl (Qa rfl (Xj rfl rfl rfl (by simp) (by omega) (by omega) rfl (Qh rfl rfl (Qz rfl (Z5 rfl (Qoy hP.keys hi)) rfl ?_)))))
  first | refine QU rfl Q1 ?_ | refine QU rfl rfl ?_
  refine Yj rfl rfl ?_
  refine hK _ _ (QM (kp6 rfl rfl rfl rfl rfl rfl) ?_)
  refine YL rfl (fun h2 => ?_) (fun h2 => ?_)
  ·try rw [h2]
   try simp only [qa, qb, qc, qd, qe, List.length_map] at h2
   try (have hk : k < us[i].cs.length := (by omega); obtain ⟨v, sh, hz, hv⟩ := hP.fresh i hi k hk (by omega))
   refine Y0 (Q0 (kp5 rfl rfl rfl rfl rfl) ?_)
   refine Xw ?_ -- 4
   refine Ys (Q8 fun K hK => Qa rfl (Qa rfl (Xj rfl rfl rfl (by simp) (by omega) (by omega) rfl (Qh rfl rfl (Qz rfl (Z5 rfl (Qoy hP.keys hi)) rfl (Qa rfl (Xj rfl rfl (Qdi hP.keys hi) (by simp) (by omega) (by omega) rfl (Qa rfl ?_))))))))
   refine hK _ _ (QM (kp6 rfl rfl rfl rfl rfl rfl) ?_)
   refine Xw ?_ -- 5
   refine Q8 fun K hK => Qa rfl (Qa rfl (Xj rfl rfl rfl (by simp) (by omega) (by omega) rfl (Qh rfl rfl (Qz rfl (Z5 rfl (Qoy hP.keys hi)) rfl (Qns rfl rfl ?_)))))
   refine hK _ _ (QM (kp7 rfl rfl rfl rfl rfl rfl rfl) ?_)
   refine YL rfl (fun h3 => ?_) (fun h3 => ?_)
   ·try rw [h3]
    try simp only [qa, qb, qc, qd, qe, List.length_map] at h3
    refine ZQ fun K hK => Qa rfl (Qa rfl (XW rfl rfl (by first | exact Qs (by omega) (by omega) | rfl) (Qa rfl (Yc rfl rfl (Qh rfl (Zq (Qdi hP.keys hi)) (QD (cs := [_, _, _, _, _]) rfl (Z5 (Qdi hP.keys hi) (Qpo hk hz)) rfl rfl (QC (X1 hv.1 hv.2) rfl rfl (.inl rfl) (QR rfl rfl ?_))))))))
    refine QH rfl (by repeat (first | exact Z0 hU.keys (by omega) (by omega) (by omega) (.inl (by omega)) | exact Z0 hP.keys (by omega) (by omega) (by omega) (.inl (by omega)) | exact Z0 hP2.keys (by omega) (by omega) (by omega) (.inl (by omega)) | refine Zr (by omega) ?_)) ?_
    refine QH rfl (by repeat (first | exact Z0 hU.keys (by omega) (by omega) (by omega) (.inl (by omega)) | exact Z0 hP.keys (by omega) (by omega) (by omega) (.inl (by omega)) | exact Z0 hP2.keys (by omega) (by omega) (by omega) (.inl (by omega)) | refine Zr (by omega) ?_)) ?_
    refine Yc rfl rfl (Qh rfl (Zq (Qn (by omega) (Qn (by omega) (Qdi hP.keys hi)))) (Q5 rfl (Qn (by omega) (Qn (by omega) (Qdi hP.keys hi))) (Qpo hk hz) rfl rfl rfl rfl rfl (hK _ ?_)))
    refine Q0 (kp6 rfl rfl rfl rfl rfl rfl) ?_
    first | (refine QlO (Qmu (l := [4, 5, 6, 7, 8, 9]) (fr' := [(4, .ref 4 0 0), (5, .ref 12 0 0), (6, .osl 500000 us.length), (7, .int .i64 i), (8, .int .i64 k), (9, .ref (500001 + i) k 0)]) (x := (WantT.mk ((i : Int) - 1) (Xg v.a v.b v.c v.p v.q))) (kp6 rfl rfl rfl rfl rfl rfl) rfl hP.keys hi rfl (QjV (fun z hz => (hP.pure hi z hz).1) (by intro d hd j hj; simp [dCR, setRow, zr] at hd; rcases hd with rfl | rfl | rfl | rfl | rfl | rfl | rfl | rfl <;> simp [D.sid] at hj <;> exact hj)) (by intro p hp j hj; simp only [List.mem_cons, List.not_mem_nil, or_false] at hp; rcases hp with rfl | rfl | rfl | rfl | rfl | rfl <;> first | (simp [D.ids, D.sid] at hj; done) | (simp [D.ids, D.sid] at hj; subst hj; first | exact .inl rfl | exact .inr (.inl rfl) | exact .inr (.inr (.inl rfl)) | exact .inr (.inr (.inr ⟨us[i], List.getElem_mem hi, (hP.keys i hi).symm⟩))))) ?_) | skip
    refine Q8 fun K hK => Qa rfl (Qa rfl (Yc rfl rfl (Qh rfl QZ (QQ (ds0 := [3, 0]) rfl (Z5 Qx (Qo0 hk)) rfl (by first | rfl | ((try simp only [QW, D.ids, D.sid]); simp only [Dr.ok, Zk, Zl, Zm, List.all_append, List.all_cons, List.all_nil, Bool.and_true, Bool.true_and]; (try rw [ZA (by rfl)]); simp [D.ids, D.sid]; done) | ((try simp only [QW, D.ids, D.sid]); simp only [Dr.ok, Zk, Zl, Zm, List.all_append, List.all_cons, List.all_nil, Bool.and_true, Bool.true_and]; (try rw [ZA (by rfl)]); simp [D.ids, D.sid]; omega)) rfl (Qa rfl (Qa rfl ?_))))))
    have hfx := Qr3 (eu := 74) (ec := 71) (eg := 63) (L := ws) (J := J) (b4 := ⟨[[.fsl []]], 1, 26, true⟩) (b64 := ⟨[[Zb [(WantT.mk ((i : Int) - 1) (Xg v.a v.b v.c v.p v.q))]]], 1, 69, true⟩) (zx := (CR.mk v (.int .i64 sh) (.osl 64 1) (.fsl []))) hP hi hk hv ⟨rfl, rfl, rfl⟩ rfl rfl
    obtain ⟨ns, J1, hns, hc1⟩ := QjQ (H := (500001 + i, ⟨(us[i].cs.map dCR).set k (dCR (CR.mk v (.int .i64 sh) (.osl 64 1) (.fsl []))), 8, 71, false⟩) :: (64, ⟨[[Zb [(WantT.mk ((i : Int) - 1) (Xg v.a v.b v.c v.p v.q))]]], 1, 69, true⟩) :: wA (us) 74 71 63 ws (J) ⟨[[.fsl []]], 1, 26, true⟩) (most := 2) (Qn (by omega) (Qn (by omega) QeL)) hfx.1 hfx.2 hL (by first | omega | (rw [Zs]; omega)) (by first | omega | (rw [Zs]; omega)) (by decide) (by decide)
    rw [Zs] at hns
    refine Qjp (ds0 := [3, 0]) (hc1 _ _ (by rw [Zs]; rfl) (fun _ _ h => h)) (fun j hj => QdG hj) (by first | rfl | ((try simp only [QW, D.ids, D.sid]); simp only [Dr.ok, Zk, Zl, Zm, List.all_append, List.all_cons, List.all_nil, Bool.and_true, Bool.true_and]; (try rw [ZA (by rfl)]); simp [D.ids, D.sid]; done) | ((try simp only [QW, D.ids, D.sid]); simp only [Dr.ok, Zk, Zl, Zm, List.all_append, List.all_cons, List.all_nil, Bool.and_true, Bool.true_and]; (try rw [ZA (by rfl)]); simp [D.ids, D.sid]; omega)) rfl ?_
    refine QbR (ds0 := [0]) rfl rfl (by simp [D.ids, D.sid, QW]) ⟨rfl, QoX, rfl⟩ (by repeat (first | exact Z0 hU.keys (by omega) (by omega) (by omega) (.inl (by omega)) | exact Z0 hP.keys (by omega) (by omega) (by omega) (.inl (by omega)) | exact Z0 hP2.keys (by omega) (by omega) (by omega) (.inl (by omega)) | refine Zr (by omega) ?_)) (Qn (by omega) (Qn (by omega) Qx)) rfl rfl rfl (by have := hns.1; simp; omega) (by have := hns.1; simp; omega) (by first | rfl | ((try simp only [QW, D.ids, D.sid]); simp only [Dr.ok, Zk, Zl, Zm, List.all_append, List.all_cons, List.all_nil, Bool.and_true, Bool.true_and]; (try rw [ZA (by rfl)]); simp [D.ids, D.sid]; done) | ((try simp only [QW, D.ids, D.sid]); simp only [Dr.ok, Zk, Zl, Zm, List.all_append, List.all_cons, List.all_nil, Bool.and_true, Bool.true_and]; (try rw [ZA (by rfl)]); simp [D.ids, D.sid]; omega)) rfl ?_
    refine Yc rfl rfl (Qh rfl (Zq (Qn (by omega) (Qn (by omega) (Qn (by omega) Qx)))) (Xk (ds0 := []) rfl (Qn (by omega) (Qn (by omega) (Qn (by omega) Qx))) (Qo0 hk) rfl rfl rfl rfl rfl (by first | rfl | ((try simp only [QW, D.ids, D.sid]); simp only [Dr.ok, Zk, Zl, Zm, List.all_append, List.all_cons, List.all_nil, Bool.and_true, Bool.true_and]; (try rw [ZA (by rfl)]); simp [D.ids, D.sid]; done) | ((try simp only [QW, D.ids, D.sid]); simp only [Dr.ok, Zk, Zl, Zm, List.all_append, List.all_cons, List.all_nil, Bool.and_true, Bool.true_and]; (try rw [ZA (by rfl)]); simp [D.ids, D.sid]; omega)) rfl ?_))
    refine hK _ _ (QM (kp6 rfl rfl rfl rfl rfl rfl) ?_)
    first | (refine QlO (QfJ (l := [4, 5, 6, 7, 8, 9]) (eu := 74) (ec := 71) (eg := 63) (L := ws) (J := J1) (b4 := ⟨[[.fsl []]], 1, 26, true⟩) (fr' := [(4, .ref 4 0 0), (5, .ref 12 0 0), (6, .osl 500000 us.length), (7, .int .i64 i), (8, .int .i64 k), (9, .ref (500001 + i) k 0)]) (row := [.int .i64 v.a, .int .i64 v.b, .int .i64 v.c, .str v.p, .str v.q, .int .i64 sh, .osl 75 (1 + (ns.map (fun r => [Zb r])).length), .fsl []]) (p := false) 75 (Qh7 (CandT.mk v sh ([(WantT.mk ((i : Int) - 1) (Xg v.a v.b v.c v.p v.q))] :: ns) [])) (kp6 rfl rfl rfl rfl rfl rfl) rfl hP.keys hi hk QiF (fun h => by cases h) (QeZ (Qn (by omega) Qx) (by first | (simp; done) | (simp; omega))) (fun z hz => (hP.pure hi z hz).1) ⟨rfl, rfl, rfl⟩ (fun j hj hne => (Qn (by omega) (Qn (by omega) (Qn (by omega) (Qn (by omega) (Qn (by omega) (Qn (by omega) (Qdi hP.keys hj)))))))) (by repeat (first | exact Qx | exact Qfa | exact QeL | exact Qgi | refine Qn (by omega) ?_)) (by repeat (first | exact Qx | exact Qfa | exact QeL | exact Qgi | refine Qn (by omega) ?_)) (by repeat (first | exact Qx | exact Qfa | exact QeL | exact Qgi | refine Qn (by omega) ?_)) rfl (by decide) (by intro j hj; repeat (first | exact Z0 hP.keys (by omega) (by omega) (by omega) (.inr (by omega)) | refine Zr (by omega) ?_)) (by omega) (by intro p hp j hj; simp only [List.mem_cons, List.not_mem_nil, or_false] at hp; rcases hp with rfl | rfl | rfl | rfl | rfl | rfl <;> first | (simp [D.ids, D.sid] at hj; done) | (simp [D.ids, D.sid] at hj; subst hj; first | exact .inl rfl | exact .inr (.inl rfl) | exact .inr (.inr (.inl rfl)) | exact .inr (.inr (.inr ⟨us[i], List.getElem_mem hi, (hP.keys i hi).symm⟩))))) ?_; have hc2 : Qau us0.length (CandT.mk v sh ([(WantT.mk ((i : Int) - 1) (Xg v.a v.b v.c v.p v.q))] :: ns) []) := (by rw [<- hl]; exact Qin hv hns (by decide) h1i hi); generalize hns2 : ([(WantT.mk ((i : Int) - 1) (Xg v.a v.b v.c v.p v.q))] :: ns) = ns2 at hc2 ⊢) | (refine QlO (QfJ (l := [4, 5, 6, 7, 8, 9]) (eu := 74) (ec := 71) (eg := 63) (L := ws) (J := J1) (b4 := ⟨[[.fsl []]], 1, 26, true⟩) (fr' := [(4, .ref 4 0 0), (5, .ref 12 0 0), (6, .osl 500000 us.length), (7, .int .i64 i), (8, .int .i64 k), (9, .ref (500001 + i) k 0)]) (row := [.int .i64 v.a, .int .i64 v.b, .int .i64 v.c, .str v.p, .str v.q, .int .i64 sh, .osl 75 (0 + (ns.map (fun r => [Zb r])).length), .fsl []]) (p := false) 75 (Qh7 (CandT.mk v sh ns [])) (kp6 rfl rfl rfl rfl rfl rfl) rfl hP.keys hi hk Qx (fun h => by cases h) (QeZ (Qn (by omega) Qx) (by first | (simp; done) | (simp; omega))) (fun z hz => (hP.pure hi z hz).1) ⟨rfl, rfl, rfl⟩ (fun j hj hne => (Qn (by omega) (Qn (by omega) (Qn (by omega) (Qdi hP.keys hj))))) (by repeat (first | exact Qx | exact Qfa | exact QeL | exact Qgi | refine Qn (by omega) ?_)) (by repeat (first | exact Qx | exact Qfa | exact QeL | exact Qgi | refine Qn (by omega) ?_)) (by repeat (first | exact Qx | exact Qfa | exact QeL | exact Qgi | refine Qn (by omega) ?_)) rfl (by decide) (by intro j hj; repeat (first | exact Z0 hP.keys (by omega) (by omega) (by omega) (.inr (by omega)) | refine Zr (by omega) ?_)) (by omega) (by intro p hp j hj; simp only [List.mem_cons, List.not_mem_nil, or_false] at hp; rcases hp with rfl | rfl | rfl | rfl | rfl | rfl <;> first | (simp [D.ids, D.sid] at hj; done) | (simp [D.ids, D.sid] at hj; subst hj; first | exact .inl rfl | exact .inr (.inl rfl) | exact .inr (.inr (.inl rfl)) | exact .inr (.inr (.inr ⟨us[i], List.getElem_mem hi, (hP.keys i hi).symm⟩))))) ?_; have hc2 : Qau us0.length (CandT.mk v sh ns []) := (by rw [<- hl]; exact Qed hv hns (by decide)); generalize hns2 : ns = ns2 at hc2 ⊢)
    generalize hus2 : QcC us i k (Qh7 (CandT.mk v sh ns2 [])) = us2
    have hP2 : Prog us0.length us2 i (k + 1) := hus2 ▸ hP.put hi hk ⟨_, rfl, hc2⟩
    have hl2 : us2.length = us.length := by rw [<- hus2, Zs]
    have hi2 : i < us2.length := by omega
    have hk2 : k < us2[i].cs.length := Qi8 hi hk hus2 hi2
    have hz2 : us2[i].cs[k] = Qh7 (CandT.mk v sh ns2 []) := Qi7 hi hk hus2.symm hi2 hk2
    refine Q8 fun K hK => Qa rfl (YC (Qci (I := J1) rfl QeL hL (by omega)) (Zy rfl rfl ?_))
    refine hK _ _ (QM (kp7 rfl rfl rfl rfl rfl rfl rfl) ?_)
    refine YL rfl (fun h4 => ?_) (fun h4 => ?_)
    ·try rw [h4]
     try simp only [qa, qb, qc, qd, qe, List.length_map] at h4
     refine ZQ fun K hK => Qa rfl (Qa rfl (Qa rfl ?_))
     obtain ⟨xb, J3, hxb, hcb⟩ := QkU (H := (12, gB ws (nxI J1) 63) :: wA (us2) 74 71 63 ws (J1) ⟨[[.fsl []]], 1, 26, true⟩) Qx (Qk6 hP2.keys hP2.fam).cons ((Qaq hP2.keys rfl).pr rfl) hL (by omega) (by omega)
     refine YC (hcb _ _ (by rw [hl2]; rfl) (fun _ _ h => h)) ?_
     refine QH rfl (by repeat (first | exact Z0 hU.keys (by omega) (by omega) (by omega) (.inl (by omega)) | exact Z0 hP.keys (by omega) (by omega) (by omega) (.inl (by omega)) | exact Z0 hP2.keys (by omega) (by omega) (by omega) (.inl (by omega)) | refine Zr (by omega) ?_)) ?_
     refine Yc rfl rfl (Qh rfl (Zq (Qn (by omega) (Qn (by omega) (Qn (by omega) (Qdi hP2.keys hi2))))) (Q5 rfl (Qn (by omega) (Qn (by omega) (Qn (by omega) (Qdi hP2.keys hi2)))) (Qpo hk2 hz2) rfl rfl rfl rfl rfl (hK _ ?_)))
     refine Qi (Q0 (kp5 rfl rfl rfl rfl rfl) (ZQ fun K hK => Qa rfl (Q6 rfl rfl (by first | exact Qs (by omega) (by omega) | rfl) (Qa rfl (hK _ ?_)))))
     refine Ql (QcC us2 i k (Qh7 (CandT.mk v sh ns2 [xb])), J3, k + 1) ?_ ?_ ?_
     ·exact QfJ (l := [4, 5, 6, 7, 8]) (row := [.int .i64 v.a, .int .i64 v.b, .int .i64 v.c, .str v.p, .str v.q, .int .i64 sh, QW ns2, .osl 85 1]) (p := false) 85 (Qh7 (CandT.mk v sh ns2 [xb])) (kp5 rfl rfl rfl rfl rfl) (by rw [Zs, hl2] <;> rfl) hP2.keys hi2 hk2 Qx (fun h => by cases h) (Qmh (Qn (by omega) Qx) rfl) (fun z hz => (hP2.pure hi2 z hz).1) ⟨rfl, rfl, rfl⟩ (fun j hj hne => (Qn (by omega) (Qn (by omega) (Qn (by omega) (Qn (by omega) (Qdi hP2.keys hj)))))) (by repeat (first | exact Qx | exact Qfa | exact QeL | exact Qgi | refine Qn (by omega) ?_)) (by repeat (first | exact Qx | exact Qfa | exact QeL | exact Qgi | refine Qn (by omega) ?_)) (by repeat (first | exact Qx | exact Qfa | exact QeL | exact Qgi | refine Qn (by omega) ?_)) rfl (by decide) (by intro j hj; repeat (first | exact Z0 hP2.keys (by omega) (by omega) (by omega) (.inr (by omega)) | refine Zr (by omega) ?_)) (by omega) (by intro p hp j hj; simp only [List.mem_cons, List.not_mem_nil, or_false] at hp; rcases hp with rfl | rfl | rfl | rfl | rfl <;> first | (simp [D.ids, D.sid] at hj; done) | (simp [D.ids, D.sid] at hj; subst hj; first | exact .inl rfl | exact .inr (.inl rfl) | exact .inr (.inr (.inl rfl)) | exact .inr (.inr (.inr ⟨us2[i], List.getElem_mem hi2, (hP2.keys i hi2).symm⟩))))
     ·exact hP2.again hi2 hk2 ⟨_, rfl, Qim hc2 (by have := hxb; rwa [hl2, hl] at this)⟩
     ·show QjA (QcC us2 i k _) i - (k + 1) < QjA us i - k; rw [QaA, <- hus2, QaA, QaL hi]; omega
    ·try rw [h4]
     try simp only [qa, qb, qc, qd, qe, List.length_map] at h4
     refine Y0 (Qi (Q0 (kp5 rfl rfl rfl rfl rfl) (ZQ fun K hK => Qa rfl (Q6 rfl rfl (by first | exact Qs (by omega) (by omega) | rfl) (Qa rfl (hK _ ?_))))))
     refine Ql (us2, nxI J1, k + 1) ?_ ?_ ?_
     ·exact le_trans (Zh (l := [4, 5, 6, 7, 8]) (kp5 rfl rfl rfl rfl rfl)) (Qbp (by rw [hl2] <;> rfl) QqS)
     ·exact hP2
     ·show QjA us2 i - (k + 1) < QjA us i - k; rw [<- hus2, QaA, QaL hi]; omega
   ·try rw [h3]
    try simp only [qa, qb, qc, qd, qe, List.length_map] at h3
    refine Y0 (Q0 (kp6 rfl rfl rfl rfl rfl rfl) ?_)
    first | (refine QlO (Qmu (l := [4, 5, 6, 7, 8, 9]) (fr' := [(4, .ref 4 0 0), (5, .ref 12 0 0), (6, .osl 500000 us.length), (7, .int .i64 i), (8, .int .i64 k), (9, .ref (500001 + i) k 0)]) (x := (WantT.mk ((i : Int) - 1) (Xg v.a v.b v.c v.p v.q))) (kp6 rfl rfl rfl rfl rfl rfl) rfl hP.keys hi rfl (QjV (fun z hz => (hP.pure hi z hz).1) (by intro d hd j hj; simp [dCR, setRow, zr] at hd; rcases hd with rfl | rfl | rfl | rfl | rfl | rfl | rfl | rfl <;> simp [D.sid] at hj <;> exact hj)) (by intro p hp j hj; simp only [List.mem_cons, List.not_mem_nil, or_false] at hp; rcases hp with rfl | rfl | rfl | rfl | rfl | rfl <;> first | (simp [D.ids, D.sid] at hj; done) | (simp [D.ids, D.sid] at hj; subst hj; first | exact .inl rfl | exact .inr (.inl rfl) | exact .inr (.inr (.inl rfl)) | exact .inr (.inr (.inr ⟨us[i], List.getElem_mem hi, (hP.keys i hi).symm⟩))))) ?_) | skip
    refine Q8 fun K hK => Qa rfl (Qa rfl (Yc rfl rfl (Qh rfl (Zq (Qdi hP.keys hi)) (QQ (ds0 := [3, 0]) rfl (Z5 (Qdi hP.keys hi) (Qpo hk hz)) rfl (by first | rfl | ((try simp only [QW, D.ids, D.sid]); simp only [Dr.ok, Zk, Zl, Zm, List.all_append, List.all_cons, List.all_nil, Bool.and_true, Bool.true_and]; (try rw [ZA (by rfl)]); simp [D.ids, D.sid]; done) | ((try simp only [QW, D.ids, D.sid]); simp only [Dr.ok, Zk, Zl, Zm, List.all_append, List.all_cons, List.all_nil, Bool.and_true, Bool.true_and]; (try rw [ZA (by rfl)]); simp [D.ids, D.sid]; omega)) rfl (Qa rfl (Qa rfl ?_))))))
    obtain ⟨ns, J1, hns, hc1⟩ := QjQ (H := wA (us) 74 71 63 ws (J) ⟨[[.fsl []]], 1, 26, true⟩) (most := 2) QeL (Qk6 hP.keys hP.fam) (Qaq hP.keys rfl) hL (by first | omega | (rw [Zs]; omega)) (by first | omega | (rw [Zs]; omega)) (by decide) (by decide)
    refine Qjp (ds0 := [3, 0]) (hc1 _ _ rfl (fun _ _ h => h)) (fun j hj => QdG hj) (by first | rfl | ((try simp only [QW, D.ids, D.sid]); simp only [Dr.ok, Zk, Zl, Zm, List.all_append, List.all_cons, List.all_nil, Bool.and_true, Bool.true_and]; (try rw [ZA (by rfl)]); simp [D.ids, D.sid]; done) | ((try simp only [QW, D.ids, D.sid]); simp only [Dr.ok, Zk, Zl, Zm, List.all_append, List.all_cons, List.all_nil, Bool.and_true, Bool.true_and]; (try rw [ZA (by rfl)]); simp [D.ids, D.sid]; omega)) rfl ?_
    refine Qd5 (ds0 := [0]) rfl rfl (fun _ h => ⟨QoX, h⟩) (by repeat (first | exact Z0 hU.keys (by omega) (by omega) (by omega) (.inl (by omega)) | exact Z0 hP.keys (by omega) (by omega) (by omega) (.inl (by omega)) | exact Z0 hP2.keys (by omega) (by omega) (by omega) (.inl (by omega)) | refine Zr (by omega) ?_)) (.inl rfl) (by simp) (by have := hns.1; simp; omega) (by have := hns.1; simp; omega) (by first | rfl | ((try simp only [QW, D.ids, D.sid]); simp only [Dr.ok, Zk, Zl, Zm, List.all_append, List.all_cons, List.all_nil, Bool.and_true, Bool.true_and]; (try rw [ZA (by rfl)]); simp [D.ids, D.sid]; done) | ((try simp only [QW, D.ids, D.sid]); simp only [Dr.ok, Zk, Zl, Zm, List.all_append, List.all_cons, List.all_nil, Bool.and_true, Bool.true_and]; (try rw [ZA (by rfl)]); simp [D.ids, D.sid]; omega)) rfl ?_
    refine Yc rfl rfl (Qh rfl (Zq (Qn (by omega) (Qn (by omega) (Qdi hP.keys hi)))) (Xk (ds0 := []) rfl (Qn (by omega) (Qn (by omega) (Qdi hP.keys hi))) (Qpo hk hz) rfl rfl rfl rfl rfl (by first | rfl | ((try simp only [QW, D.ids, D.sid]); simp only [Dr.ok, Zk, Zl, Zm, List.all_append, List.all_cons, List.all_nil, Bool.and_true, Bool.true_and]; (try rw [ZA (by rfl)]); simp [D.ids, D.sid]; done) | ((try simp only [QW, D.ids, D.sid]); simp only [Dr.ok, Zk, Zl, Zm, List.all_append, List.all_cons, List.all_nil, Bool.and_true, Bool.true_and]; (try rw [ZA (by rfl)]); simp [D.ids, D.sid]; omega)) rfl ?_))
    refine hK _ _ (QM (kp6 rfl rfl rfl rfl rfl rfl) ?_)
    first | (refine QlO (QfJ (l := [4, 5, 6, 7, 8, 9]) (eu := 74) (ec := 71) (eg := 63) (L := ws) (J := J1) (b4 := ⟨[[.fsl []]], 1, 26, true⟩) (fr' := [(4, .ref 4 0 0), (5, .ref 12 0 0), (6, .osl 500000 us.length), (7, .int .i64 i), (8, .int .i64 k), (9, .ref (500001 + i) k 0)]) (row := [.int .i64 v.a, .int .i64 v.b, .int .i64 v.c, .str v.p, .str v.q, .int .i64 sh, .osl 75 (1 + (ns.map (fun r => [Zb r])).length), .fsl []]) (p := false) 75 (Qh7 (CandT.mk v sh ([(WantT.mk ((i : Int) - 1) (Xg v.a v.b v.c v.p v.q))] :: ns) [])) (kp6 rfl rfl rfl rfl rfl rfl) rfl hP.keys hi hk QiF (fun h => by cases h) (QeZ (Qn (by omega) Qx) (by first | (simp; done) | (simp; omega))) (fun z hz => (hP.pure hi z hz).1) ⟨rfl, rfl, rfl⟩ (fun j hj hne => (Qn (by omega) (Qn (by omega) (Qn (by omega) (Qn (by omega) (Qn (by omega) (Qn (by omega) (Qdi hP.keys hj)))))))) (by repeat (first | exact Qx | exact Qfa | exact QeL | exact Qgi | refine Qn (by omega) ?_)) (by repeat (first | exact Qx | exact Qfa | exact QeL | exact Qgi | refine Qn (by omega) ?_)) (by repeat (first | exact Qx | exact Qfa | exact QeL | exact Qgi | refine Qn (by omega) ?_)) rfl (by decide) (by intro j hj; repeat (first | exact Z0 hP.keys (by omega) (by omega) (by omega) (.inr (by omega)) | refine Zr (by omega) ?_)) (by omega) (by intro p hp j hj; simp only [List.mem_cons, List.not_mem_nil, or_false] at hp; rcases hp with rfl | rfl | rfl | rfl | rfl | rfl <;> first | (simp [D.ids, D.sid] at hj; done) | (simp [D.ids, D.sid] at hj; subst hj; first | exact .inl rfl | exact .inr (.inl rfl) | exact .inr (.inr (.inl rfl)) | exact .inr (.inr (.inr ⟨us[i], List.getElem_mem hi, (hP.keys i hi).symm⟩))))) ?_; have hc2 : Qau us0.length (CandT.mk v sh ([(WantT.mk ((i : Int) - 1) (Xg v.a v.b v.c v.p v.q))] :: ns) []) := (by rw [<- hl]; exact Qin hv hns (by decide) h1i hi); generalize hns2 : ([(WantT.mk ((i : Int) - 1) (Xg v.a v.b v.c v.p v.q))] :: ns) = ns2 at hc2 ⊢) | (refine QlO (QfJ (l := [4, 5, 6, 7, 8, 9]) (eu := 74) (ec := 71) (eg := 63) (L := ws) (J := J1) (b4 := ⟨[[.fsl []]], 1, 26, true⟩) (fr' := [(4, .ref 4 0 0), (5, .ref 12 0 0), (6, .osl 500000 us.length), (7, .int .i64 i), (8, .int .i64 k), (9, .ref (500001 + i) k 0)]) (row := [.int .i64 v.a, .int .i64 v.b, .int .i64 v.c, .str v.p, .str v.q, .int .i64 sh, .osl 75 (0 + (ns.map (fun r => [Zb r])).length), .fsl []]) (p := false) 75 (Qh7 (CandT.mk v sh ns [])) (kp6 rfl rfl rfl rfl rfl rfl) rfl hP.keys hi hk Qx (fun h => by cases h) (QeZ (Qn (by omega) Qx) (by first | (simp; done) | (simp; omega))) (fun z hz => (hP.pure hi z hz).1) ⟨rfl, rfl, rfl⟩ (fun j hj hne => (Qn (by omega) (Qn (by omega) (Qn (by omega) (Qdi hP.keys hj))))) (by repeat (first | exact Qx | exact Qfa | exact QeL | exact Qgi | refine Qn (by omega) ?_)) (by repeat (first | exact Qx | exact Qfa | exact QeL | exact Qgi | refine Qn (by omega) ?_)) (by repeat (first | exact Qx | exact Qfa | exact QeL | exact Qgi | refine Qn (by omega) ?_)) rfl (by decide) (by intro j hj; repeat (first | exact Z0 hP.keys (by omega) (by omega) (by omega) (.inr (by omega)) | refine Zr (by omega) ?_)) (by omega) (by intro p hp j hj; simp only [List.mem_cons, List.not_mem_nil, or_false] at hp; rcases hp with rfl | rfl | rfl | rfl | rfl | rfl <;> first | (simp [D.ids, D.sid] at hj; done) | (simp [D.ids, D.sid] at hj; subst hj; first | exact .inl rfl | exact .inr (.inl rfl) | exact .inr (.inr (.inl rfl)) | exact .inr (.inr (.inr ⟨us[i], List.getElem_mem hi, (hP.keys i hi).symm⟩))))) ?_; have hc2 : Qau us0.length (CandT.mk v sh ns []) := (by rw [<- hl]; exact Qed hv hns (by decide)); generalize hns2 : ns = ns2 at hc2 ⊢)
    generalize hus2 : QcC us i k (Qh7 (CandT.mk v sh ns2 [])) = us2
    have hP2 : Prog us0.length us2 i (k + 1) := hus2 ▸ hP.put hi hk ⟨_, rfl, hc2⟩
    have hl2 : us2.length = us.length := by rw [<- hus2, Zs]
    have hi2 : i < us2.length := by omega
    have hk2 : k < us2[i].cs.length := Qi8 hi hk hus2 hi2
    have hz2 : us2[i].cs[k] = Qh7 (CandT.mk v sh ns2 []) := Qi7 hi hk hus2.symm hi2 hk2
    refine Q8 fun K hK => Qa rfl (YC (Qci (I := J1) rfl QeL hL (by omega)) (Zy rfl rfl ?_))
    refine hK _ _ (QM (kp7 rfl rfl rfl rfl rfl rfl rfl) ?_)
    refine YL rfl (fun h5 => ?_) (fun h5 => ?_)
    ·try rw [h5]
     try simp only [qa, qb, qc, qd, qe, List.length_map] at h5
     refine ZQ fun K hK => Qa rfl (Qa rfl (Qa rfl ?_))
     obtain ⟨xb, J3, hxb, hcb⟩ := QkU (H := (12, gB ws (nxI J1) 63) :: wA (us2) 74 71 63 ws (J1) ⟨[[.fsl []]], 1, 26, true⟩) Qx (Qk6 hP2.keys hP2.fam).cons ((Qaq hP2.keys rfl).pr rfl) hL (by omega) (by omega)
     refine YC (hcb _ _ (by rw [hl2]; rfl) (fun _ _ h => h)) ?_
     refine QH rfl (by repeat (first | exact Z0 hU.keys (by omega) (by omega) (by omega) (.inl (by omega)) | exact Z0 hP.keys (by omega) (by omega) (by omega) (.inl (by omega)) | exact Z0 hP2.keys (by omega) (by omega) (by omega) (.inl (by omega)) | refine Zr (by omega) ?_)) ?_
     refine Yc rfl rfl (Qh rfl (Zq (Qn (by omega) (Qn (by omega) (Qn (by omega) (Qdi hP2.keys hi2))))) (Q5 rfl (Qn (by omega) (Qn (by omega) (Qn (by omega) (Qdi hP2.keys hi2)))) (Qpo hk2 hz2) rfl rfl rfl rfl rfl (hK _ ?_)))
     refine Qi (Q0 (kp5 rfl rfl rfl rfl rfl) (ZQ fun K hK => Qa rfl (Q6 rfl rfl (by first | exact Qs (by omega) (by omega) | rfl) (Qa rfl (hK _ ?_)))))
     refine Ql (QcC us2 i k (Qh7 (CandT.mk v sh ns2 [xb])), J3, k + 1) ?_ ?_ ?_
     ·exact QfJ (l := [4, 5, 6, 7, 8]) (row := [.int .i64 v.a, .int .i64 v.b, .int .i64 v.c, .str v.p, .str v.q, .int .i64 sh, QW ns2, .osl 85 1]) (p := false) 85 (Qh7 (CandT.mk v sh ns2 [xb])) (kp5 rfl rfl rfl rfl rfl) (by rw [Zs, hl2] <;> rfl) hP2.keys hi2 hk2 Qx (fun h => by cases h) (Qmh (Qn (by omega) Qx) rfl) (fun z hz => (hP2.pure hi2 z hz).1) ⟨rfl, rfl, rfl⟩ (fun j hj hne => (Qn (by omega) (Qn (by omega) (Qn (by omega) (Qn (by omega) (Qdi hP2.keys hj)))))) (by repeat (first | exact Qx | exact Qfa | exact QeL | exact Qgi | refine Qn (by omega) ?_)) (by repeat (first | exact Qx | exact Qfa | exact QeL | exact Qgi | refine Qn (by omega) ?_)) (by repeat (first | exact Qx | exact Qfa | exact QeL | exact Qgi | refine Qn (by omega) ?_)) rfl (by decide) (by intro j hj; repeat (first | exact Z0 hP2.keys (by omega) (by omega) (by omega) (.inr (by omega)) | refine Zr (by omega) ?_)) (by omega) (by intro p hp j hj; simp only [List.mem_cons, List.not_mem_nil, or_false] at hp; rcases hp with rfl | rfl | rfl | rfl | rfl <;> first | (simp [D.ids, D.sid] at hj; done) | (simp [D.ids, D.sid] at hj; subst hj; first | exact .inl rfl | exact .inr (.inl rfl) | exact .inr (.inr (.inl rfl)) | exact .inr (.inr (.inr ⟨us2[i], List.getElem_mem hi2, (hP2.keys i hi2).symm⟩))))
     ·exact hP2.again hi2 hk2 ⟨_, rfl, Qim hc2 (by have := hxb; rwa [hl2, hl] at this)⟩
     ·show QjA (QcC us2 i k _) i - (k + 1) < QjA us i - k; rw [QaA, <- hus2, QaA, QaL hi]; omega
    ·try rw [h5]
     try simp only [qa, qb, qc, qd, qe, List.length_map] at h5
     refine Y0 (Qi (Q0 (kp5 rfl rfl rfl rfl rfl) (ZQ fun K hK => Qa rfl (Q6 rfl rfl (by first | exact Qs (by omega) (by omega) | rfl) (Qa rfl (hK _ ?_))))))
     refine Ql (us2, nxI J1, k + 1) ?_ ?_ ?_
     ·exact le_trans (Zh (l := [4, 5, 6, 7, 8]) (kp5 rfl rfl rfl rfl rfl)) (Qbp (by rw [hl2] <;> rfl) QqS)
     ·exact hP2
     ·show QjA us2 i - (k + 1) < QjA us i - k; rw [<- hus2, QaA, QaL hi]; omega
  ·try rw [h2]
   try simp only [qa, qb, qc, qd, qe, List.length_map] at h2
   try (have hk : k < us[i].cs.length := (by omega); obtain ⟨v, sh, hz, hv⟩ := hP.fresh i hi k hk (by omega))
   refine QbG (Yz (QB (QI (Qi (Q0 (kp4 rfl rfl rfl rfl) (ZQ fun K hK => Qa rfl (Q6 rfl rfl (by first | exact Qs (by omega) (by omega) | rfl) (Qa rfl (hK _ ?_)))))))))
   refine Ql (us, J, i + 1) ?_ ?_ ?_
   ·exact Zh (l := [4, 5, 6, 7]) (kp4 rfl rfl rfl rfl)
   ·try dsimp only
    exact ⟨hP.next hi (by omega), by omega, by omega⟩
   ·show us0.length - (i + 1) < us0.length - i; omega
 ·try rw [h1]
  try simp only [qa, qb, qc, qd, qe, List.length_map] at h1
  refine QbG (Yz (QB (QI (Q0 (kp2 rfl rfl) ?_))))
  have hend : i = usA.length := by have := hPA.1.len.1; omega
  obtain ⟨w, hwl, hwm, hle⟩ := QnZ (eu := 74) (ec := 71) (eg := 63) (L := ws) (J := JA) (b4 := ⟨[[.fsl []]], 1, 26, true⟩) (hend ▸ hPA.1) rfl
  refine QlO (hle (fr' := [(4, .ref 4 0 0), (6, .osl 500000 usA.length)]) (l := [4, 6]) (kp2 rfl rfl) rfl (by intro p hp j hj; simp only [List.mem_cons, List.not_mem_nil, or_false] at hp; rcases hp with rfl | rfl <;> (simp [D.ids, D.sid] at hj; subst hj; first | exact .inl rfl | exact .inr rfl))) (Q8 fun K hK => Qa rfl (QR rfl rfl (Q5 rfl rfl rfl rfl rfl rfl rfl rfl ?_)))
  refine hK _ _ (QM (kp1 rfl) ?_)
  refine QeM ?_
  refine ⟨_, ⟨w, hwm, rfl⟩, ?_⟩
  exact ZE (cs := [.osl 500000 usA.length]) (ds := [.sl (w.map YS)]) rfl rfl rfl rfl (by simp [Qbb, D.fz, D.fzS, Qd4, lk, D.can, D.canS, hwl])
end Go.Proofs
namespace M25
open Go Go.Abs M3
/-! ### Trails that may be -/
theorem Qa5 {w : Qp} {l : List QL} {s : QL} : Xq w (l ++ [s]) = (Xq w l && Qbu w l s) := by
 rw [QkI, QkI, List.length_append, List.length_singleton, List.range_succ, List.all_append]
 congr 1
 ·rw [Bool.eq_iff_iff, List.all_eq_true, List.all_eq_true]
  refine forall_congr' fun i => ?_
  constructor
  ·intro h hi
   have := h hi
   rw [List.mem_range] at hi
   rw [QdQ (by simp; omega)] at this
   rw [QdQ hi]
   rw [List.take_append_of_le_length (by omega), List.getElem_append_left hi] at this
   exact this
  ·intro h hi
   have := h hi
   rw [List.mem_range] at hi
   rw [QdQ hi] at this
   rw [QdQ (by simp; omega), List.take_append_of_le_length (by omega), List.getElem_append_left hi]
   exact this
 ·simp only [List.all_cons, List.all_nil, Bool.and_true]
  rw [QdQ (by simp), List.take_append_of_le_length (Nat.le_refl _), List.take_length, List.getElem_append_right (Nat.le_refl _)]
  simp
theorem Qng {w : Qp} {l : List QL} {s : QL} (h : Qbu w l s = true) : XV s.m (Q9 w l s.u) = s.m := by
 unfold Qbu at h
 simp only [Bool.and_eq_true, decide_eq_true_eq] at h
 exact h.1.2
theorem QgL {x y : Int} (h : XV x y = x) (hy : Lo y) : Lo x := by
 have hx : I64 x := by rw [<- h]; exact Qhy x y
 refine Lo.of hx fun i hi => ?_
 cases ht : tb x i
 ·rfl
 ·have := (Xe hx).1 h i ht
  rw [hy.hi hi] at this; cases this
theorem Qa4 {w : Qp} : ∀ (n : Nat) (l : List QL), l.length = n -> Xq w l = true -> QbI w l
 | 0, l, hl, _ => by rw [List.eq_nil_of_length_eq_zero hl]; intro s hs; cases hs
 | n + 1, l, hl, h => by
  have hne : l ≠ [] := by intro e; subst e; simp at hl
  have e := (List.dropLast_concat_getLast hne).symm
  rw [e, Qa5, Bool.and_eq_true] at h
  have hp := Qa4 n l.dropLast (by simp [hl]) h.1
  rw [e]
  exact Qlz hp (QgL (Qng h.2) (Qbq hp _))
theorem Qli {w : Qp} {l l' : List QL} {t : TermT} {c : Int} (h : Xq w l = true) (hd : ZJ w l t c = some l') : Xq w l' = true := by
 have hp := Qa4 _ l rfl h
 unfold ZJ at hd
 split at hd
 ·cases hd
 ·rename_i h1
  split at hd
  ·cases hd
  ·rename_i h2
   cases hd
   rw [Qa5, h, Bool.true_and]
   have hin : inW w t.u = true := by
    cases e : inW w t.u
    ·exact absurd (.inr e) h1
    ·rfl
   have hc : ¬ c < 0 := fun e => h1 (.inl e)
   rw [Qdb] at hin
   rw [ZZ hin.1 hin.2 (by show -1 <= c; omega)]
   simp only
   rw [if_neg (by omega), QaU]
   rw [QaU] at h2
   have hx := Qbq hp t.u
   have hb : XV (Qgh (Q9 w l t.u) t.m) (Q9 w l t.u) = Qgh (Q9 w l t.u) t.m := (Xe (QfH _ _)).2 fun i hi => by
    rw [Qge] at hi; simp at hi; exact hi.1
   rw [decide_eq_true hb, decide_eq_false (fun e => h2 (.inl e)), decide_eq_false (fun e => h2 (.inr e))]
   simp
theorem Qlg {w : Qp} {l l' : List QL} {u p : Int} (h : Xq w l = true) (hd : YG w l u p = some l') : Xq w l' = true := by
 unfold YG at hd
 split at hd
 ·cases hd
 ·split at hd
  ·cases hd
  ·split at hd
   ·rename_i hs
    cases hd
    rw [Qa5, h, Bool.true_and]; exact hs
   ·cases hd
theorem Qlf {w : Qp} {l : List QL} {u p : Int} : ((YG w l u p).getD []).length <= l.length + 1 := by
 unfold YG
 split
 ·simp
 ·split
  ·simp
  ·split <;> simp
theorem Qm7 {w : Qp} {db : List (List TermT)} : ∀ (n : Nat) {l : List QL}, Xq w l = true -> Xq w (QeQ w db n l).1 = true
 | 0, l, h => h
 | n + 1, l, h => by
  rw [QeQ]
  split
  ·exact h
  ·refine Qm7 n ?_
   cases hd : ZJ w l ⟨(Yn w db l).2, QdL w (db.getD (Yn w db l).1.toNat []) (Yn w db l).2⟩ (Yn w db l).1 with
   | none => rfl
   | some l' => exact Qli h hd
def TrOk (w : Qp) (t : List QL) : Prop := Xq w t = true /\ t.length <= 20000
theorem TrOk.plain {w : Qp} {t : List QL} (h : TrOk w t) : QbI w t := Qa4 _ t rfl h.1
theorem Qon {w : Qp} (hw : w.length <= 48) {db : List (List TermT)} {l : List QL} : (QfY w db l).1.length <= l.length + 865 := by
 have := Qm6 (w := w) (db := db) (w.length * 18 + 1) l
 unfold QfY; omega
theorem getD_some {α : Type} {o : Option (List α)} (h : o.isSome = true) : o = some (o.getD []) := by
 cases o with
 | none => cases h
 | some x => rfl
theorem Qh2 {a : Int} {n : Nat} (h0 : 0 <= a) (hn : 0 < n) : 0 <= a.tmod (n : Int) /\ a.tmod (n : Int) < n :=
 ⟨Int.tmod_nonneg _ h0, Int.tmod_lt_of_pos a (by omega)⟩
end M25
namespace Go.Proofs
open Go Go.Abs M3 M25
set_option linter.unusedVariables false
set_option linter.unusedSimpArgs false
theorem QcE {w : Qp} (hw : WSm w) (h0 : 0 < w.length) {db : List (List TermT)} (hd : db.length <= 100000000) (hi : ∀ x ∈ db, x.length <= 1000000) {l : List Int} (hL : ∀ x ∈ l, I64 x) (hl : l.length <= 1000000) : ∃ d, (∃ t a, TrOk w t /\ d = .tup [Zz t, .int .i64 a]) /\ Ok Tryz.prog 11 [Z8 w, dDb db, ZH l] d := by
 refine Ok.ofX (R := fun d => (∃ t a, TrOk w t /\ d = .tup [Zz t, .int .i64 a])) ZX Tryz.func11 Qr7 (Nat.le_of_ble_eq_true rfl) ?_
 show TX _ _ tf11.body _ _
 have hn := hw.len
 refine Q8 fun K hK => Zw rfl rfl rfl (Qa rfl (Qa rfl ?_))
 refine hK _ _ (QM (kp3 rfl rfl rfl) ?_)
 refine Q8 fun K hK => Qa rfl ?_
 refine hK _ _ (QM (kp4 rfl rfl rfl rfl) ?_)
 refine Xw ?_ -- 0
 refine Q8 fun K hK => Qa rfl ?_
 refine hK _ _ (QM (kp5 rfl rfl rfl rfl rfl) ?_)
 refine Ys ?_
 refine Qdj (ι := Nat × List QL) (fun ⟨i, t⟩ => ⟨[(1, dDb db), (2, ZH l), (3, .ref 3 0 0), (8, Zz t), (9, .int .i64 i)], [(3, ⟨[[.sl ((w).map YS)]], 1, 26, true⟩)]⟩) (fun ⟨i, t⟩ => i <= 12 /\ Xq w t = true /\ t.length <= i * 1000) (fun ⟨i, t⟩ => 12 - i) (0, []) ?_ ?_ ?_
 ·exact le_trans (Qpy 8 rfl) (Zc (l := [1, 2, 3, 8, 9]) (lH := [3]) (kp5 rfl rfl rfl rfl rfl) (Qf rfl Qr) rfl rfl rfl)
 ·exact ⟨by decide, rfl, Nat.le_refl _⟩
 intro ⟨i, t⟩ hI
 try dsimp only at hI
 obtain ⟨hI1, hI2, hI3⟩ := hI
 have hrl := Qon hn (db := db) (l := t)
 have hrm : Xq w (QfY w db t).1 = true := Qm7 _ hI2
 try dsimp only
 refine Xw ?_ -- 1
 refine Q8 fun K hK => Qa rfl (Qa rfl ?_)
 first | refine QU rfl Q1 ?_ | refine QU rfl rfl ?_
 refine Qo9 rfl rfl (Qa rfl ?_)
 refine Qy (g := 21) rfl (fun h1 => ?_) (fun h1 => ?_)
 ·try rw [h1]
  try simp only [qa, qb, qc, qd, qe, List.length_map] at h1
  refine Qg rfl (Qa rfl (Qg rfl (Yj rfl rfl (Qk rfl rfl ?_))))
  refine hK _ _ (QM (kp6 rfl rfl rfl rfl rfl rfl) ?_)
  refine YL rfl (fun h2 => ?_) (fun h2 => ?_)
  ·try rw [h2]
   try simp only [qa, qb, qc, qd, qe, List.length_map] at h2
   refine Y0 (Q0 (kp5 rfl rfl rfl rfl rfl) ?_)
   refine Xw ?_ -- 2
   refine Ys (Q8 fun K hK => QD (cs := [_]) rfl rfl rfl rfl (Qa rfl (Qa rfl (QC (Qc4 hw hd hi (by omega)) rfl rfl (.inl rfl) (Qa rfl (Q3 rfl rfl (Q3 rfl rfl (Qa rfl (Qa rfl ?_)))))))))
   refine hK _ _ (QM (kp6 rfl rfl rfl rfl rfl rfl) ?_)
   refine Q8 fun K hK => Qa rfl (Qa rfl ?_)
   refine hK _ _ (QM (kp6 rfl rfl rfl rfl rfl rfl) ?_)
   refine Xw ?_ -- 3
   refine Q8 fun K hK => Qa rfl (Qfg rfl rfl (Qa rfl ?_))
   refine Qy (g := 37) rfl (fun h3 => ?_) (fun h3 => ?_)
   ·try rw [h3]
    try simp only [qa, qb, qc, qd, qe, List.length_map] at h3
    refine Qo rfl (Qo rfl (Qo rfl (Qo rfl (Qk rfl rfl ?_))))
    refine hK _ _ (QM (kp7 rfl rfl rfl rfl rfl rfl rfl) ?_)
    refine Qpe rfl (Q8 fun K hK => Qa rfl (Qa rfl (Qa rfl (Qa rfl ?_))))
    refine hK _ _ (QM (kp2 rfl rfl) ?_)
    refine QeM (QaH (Qt (QaH (Q4 (Qt (QaH ?_))))))
    refine ⟨_, ⟨(QfY w db t).1, (QfY w db t).2, ⟨hrm, by omega⟩, rfl⟩, ?_⟩
    exact QT rfl rfl ⟨rfl, rfl⟩
   ·try rw [h3]
    try simp only [qa, qb, qc, qd, qe, List.length_map] at h3
    refine Qg rfl (Qa rfl (Qg rfl (Qa rfl (Qg rfl ?_))))
    first | refine QU rfl Q1 ?_ | refine QU rfl rfl ?_
    refine Qg rfl (Zy rfl rfl (Qk rfl rfl ?_))
    refine hK _ _ (QM (kp7 rfl rfl rfl rfl rfl rfl rfl) ?_)
    refine YL rfl (fun h4 => ?_) (fun h4 => ?_)
    ·try rw [h4]
     try simp only [qa, qb, qc, qd, qe, List.length_map] at h4
     refine Q8 fun K hK => Qa rfl (Qa rfl (Qa rfl (Qa rfl ?_)))
     refine hK _ _ (QM (kp2 rfl rfl) ?_)
     refine QeM (QaH (Qt (QaH (Q4 (Qt (QaH ?_))))))
     refine ⟨_, ⟨(QfY w db t).1, (QfY w db t).2, ⟨hrm, by omega⟩, rfl⟩, ?_⟩
     exact QT rfl rfl ⟨rfl, rfl⟩
    ·try rw [h4]
     try simp only [qa, qb, qc, qd, qe, List.length_map] at h4
     refine Y0 (Q0 (kp5 rfl rfl rfl rfl rfl) (Q8 fun K hK => Qa rfl (Qa rfl (QJ rfl rfl rfl (by omega) (QS (by omega)) rfl (QQ (ds0 := [1, 0]) rfl rfl rfl rfl rfl (Qh rfl rfl (QQ (ds0 := [2, 1, 0]) rfl rfl rfl rfl rfl ?_)))))))
     first | refine QU rfl Q1 ?_ | refine QU rfl rfl ?_
     refine QY (ds0 := [0]) (Z1 (by omega) (hL _ (List.getElem_mem (by omega)))) rfl rfl (.inr rfl) rfl rfl (Qa rfl ?_)
     refine hK _ _ (QM (kp6 rfl rfl rfl rfl rfl rfl) ?_)
     refine Q8 fun K hK => QD (cs := [_]) rfl rfl rfl rfl (Qa rfl (Qa rfl (QC (ZO hw (by omega)) rfl rfl (.inr rfl) (QC (XZ) rfl rfl (.inl rfl) (Qa rfl ?_)))))
     refine hK _ _ (QM (kp7 rfl rfl rfl rfl rfl rfl rfl) ?_)
     refine Q8 fun K hK => Qa rfl ?_
     refine hK _ _ (QM (kp8 rfl rfl rfl rfl rfl rfl rfl rfl) ?_)
     refine Ys ?_
     refine Qdj (ι := Nat) (fun k => ⟨[(1, dDb db), (2, ZH l), (3, .ref 3 0 0), (8, Zz (QfY w db t).1), (9, .int .i64 i), (12, .int .i64 (mPl (l[i]'(by omega)) w.length)), (13, ZH (QbN (Q9 w (QfY w db t).1 (mPl (l[i]'(by omega)) w.length)))), (14, .int .i64 k)], [(3, ⟨[[.sl ((w).map YS)]], 1, 26, true⟩)]⟩) (fun k => k <= (QbN (Q9 w (QfY w db t).1 (mPl (l[i]'(by omega)) w.length))).length) (fun k => (QbN (Q9 w (QfY w db t).1 (mPl (l[i]'(by omega)) w.length))).length - k) 0 ?_ ?_ ?_
     ·exact Zc (l := [1, 2, 3, 8, 9, 12, 13, 14]) (lH := [3]) (kp8 rfl rfl rfl rfl rfl rfl rfl rfl) (Qf rfl Qr) rfl rfl rfl
     ·exact Nat.zero_le _
     intro k hK0
     have hel : (QbN (Q9 w (QfY w db t).1 (mPl (l[i]'(by omega)) w.length))).length <= 17 := Qeh _ 17
     have hp0 := QgR (v := l[i]'(by omega)) (n := 7)
     have hp7 := QiL (v := l[i]'(by omega)) (n := 7) (by omega)
     try dsimp only
     refine Xw ?_ -- 4
     refine Q8 fun K hK => Qa rfl (Qa rfl ?_)
     first | refine QU rfl Q1 ?_ | refine QU rfl rfl ?_
     refine Yj rfl rfl ?_
     refine hK _ _ (QM (kp9 rfl rfl rfl rfl rfl rfl rfl rfl rfl) ?_)
     refine YL rfl (fun h5 => ?_) (fun h5 => ?_)
     ·try rw [h5]
      try simp only [qa, qb, qc, qd, qe, List.length_map] at h5
      refine Y0 (Q0 (kp8 rfl rfl rfl rfl rfl rfl rfl rfl) ?_)
      refine Xw ?_ -- 5
      refine Ys (Q8 fun K hK => QO (ds0 := [5, 4, 3, 2, 1, 0]) (cs := [_]) rfl rfl rfl rfl rfl rfl (Qa rfl (Qa rfl (Qa rfl (Qa rfl (Qa rfl (Qa rfl (QJ rfl rfl rfl (by omega) (QS (by omega)) rfl (QQ (ds0 := [12, 11, 8, 7, 6, 5, 4, 3, 2, 1, 0]) rfl rfl rfl rfl rfl (QY (ds0 := [11, 8, 7, 6, 5, 4, 3, 2, 1, 0]) (Z1 (by omega) (hL _ (List.getElem_mem (by omega)))) rfl rfl (.inr rfl) rfl rfl ?_))))))))))
      refine Q6 rfl rfl (by first | exact Qs (by omega) (by omega) | rfl) (Qa rfl ?_)
      first | refine QU rfl Q1 ?_ | refine QU rfl rfl ?_
      refine Qnt rfl rfl (by omega) (QJ rfl rfl rfl (by exact (Qh2 (by omega) (by omega)).1) (ZM (Qh2 (by omega) (by omega)).1 (Qh2 (by omega) (by omega)).2) rfl (QQ (ds0 := [5, 4, 3, 2, 1, 0]) rfl rfl rfl rfl rfl (QY (ds0 := [4, 3, 2, 1, 0]) (QbL hw (by omega)) rfl rfl (.inl rfl) rfl rfl (Qa rfl (Q3 rfl rfl (Q3 rfl rfl (Qa rfl (Qa rfl ?_))))))))
      refine hK _ _ (QM (Qlr rfl rfl rfl rfl rfl rfl rfl rfl rfl rfl) ?_)
      refine Q8 fun K hK => Qa rfl ?_
      refine hK _ _ (QM (Qlr rfl rfl rfl rfl rfl rfl rfl rfl rfl rfl) ?_)
      refine YL rfl (fun h6 => ?_) (fun h6 => ?_)
      ·try rw [h6]
       try simp only [qa, qb, qc, qd, qe, List.length_map] at h6
       refine Q8 fun K hK => Qa rfl (Qa rfl ?_)
       refine hK _ _ (QM (kp5 rfl rfl rfl rfl rfl) ?_)
       refine QbG (Qla (by decide) (Yz (QB (QI (Qi (Q0 (kp5 rfl rfl rfl rfl rfl) (ZQ fun K hK => Qa rfl (Q6 rfl rfl (by first | exact Qs (by omega) (by omega) | rfl) (Qa rfl (hK _ ?_))))))))))
       refine Ql (i + 1, ((YG w (QfY w db t).1 (mPl (l[i]'(by omega)) w.length) ((QbN (Q9 w (QfY w db t).1 (mPl (l[i]'(by omega)) w.length)))[((k : Int) + (mPl (l[i]'(by omega)) 7)).tmod ((QbN (Q9 w (QfY w db t).1 (mPl (l[i]'(by omega)) w.length))).length : Int) |>.toNat]'(by have := Qh2 (a := (k : Int) + (mPl (l[i]'(by omega)) 7)) (n := (QbN (Q9 w (QfY w db t).1 (mPl (l[i]'(by omega)) w.length))).length) (by omega) (by omega); omega)))).getD []) ?_ ?_ ?_
       ·exact Zc (l := [1, 2, 3, 8, 9]) (lH := [3]) (kp5 rfl rfl rfl rfl rfl) (Qf rfl Qr) rfl rfl rfl
       ·exact ⟨by show i + 1 <= 12; omega, Qlg hrm (getD_some h6), Nat.le_trans Qlf (by omega)⟩
       ·show 12 - (i + 1) < 12 - i; omega
      ·try rw [h6]
       try simp only [qa, qb, qc, qd, qe, List.length_map] at h6
       refine Y0 (Qi (Q0 (kp8 rfl rfl rfl rfl rfl rfl rfl rfl) (ZQ fun K hK => Qa rfl (Q6 rfl rfl (by first | exact Qs (by omega) (by omega) | rfl) (Qa rfl (hK _ ?_))))))
       refine Ql (k + 1) ?_ ?_ ?_
       ·exact Zc (l := [1, 2, 3, 8, 9, 12, 13, 14]) (lH := [3]) (kp8 rfl rfl rfl rfl rfl rfl rfl rfl) (Qf rfl Qr) rfl rfl rfl
       ·show k + 1 <= _; omega
       ·show (QbN (Q9 w (QfY w db t).1 (mPl (l[i]'(by omega)) w.length))).length - (k + 1) < (QbN (Q9 w (QfY w db t).1 (mPl (l[i]'(by omega)) w.length))).length - k; omega
     ·try rw [h5]
      try simp only [qa, qb, qc, qd, qe, List.length_map] at h5
      refine QbG (Yz (QB (QI (Qi (Q0 (kp5 rfl rfl rfl rfl rfl) (ZQ fun K hK => Qa rfl (Q6 rfl rfl (by first | exact Qs (by omega) (by omega) | rfl) (Qa rfl (hK _ ?_)))))))))
      refine Ql (i + 1, (QfY w db t).1) ?_ ?_ ?_
      ·exact Zc (l := [1, 2, 3, 8, 9]) (lH := [3]) (kp5 rfl rfl rfl rfl rfl) (Qf rfl Qr) rfl rfl rfl
      ·exact ⟨by show i + 1 <= 12; omega, hrm, by show (QfY w db t).1.length <= (i + 1) * 1000; omega⟩
      ·show 12 - (i + 1) < 12 - i; omega
  ·try rw [h2]
   try simp only [qa, qb, qc, qd, qe, List.length_map] at h2
   refine QbG (Yz (QB (QI (Q0 (kp1 rfl) (Q8 fun K hK => Qa rfl (Qa rfl (Qa rfl ?_)))))))
   refine hK _ _ (QM (kp2 rfl rfl) ?_)
   refine QeM ?_
   refine ⟨_, ⟨t, -1, ⟨hI2, by omega⟩, rfl⟩, ?_⟩
   exact QT rfl rfl ⟨rfl, rfl⟩
 ·try rw [h1]
  try simp only [qa, qb, qc, qd, qe, List.length_map] at h1
  refine Qo rfl (Qo rfl (Qk rfl rfl ?_))
  refine hK _ _ (QM (kp6 rfl rfl rfl rfl rfl rfl) ?_)
  refine Qjq rfl (QbG (Yz (QB (QI (Q0 (kp1 rfl) (Q8 fun K hK => Qa rfl (Qa rfl (Qa rfl ?_))))))))
  refine hK _ _ (QM (kp2 rfl rfl) ?_)
  refine QeM ?_
  refine ⟨_, ⟨t, -1, ⟨hI2, by omega⟩, rfl⟩, ?_⟩
  exact QT rfl rfl ⟨rfl, rfl⟩
end Go.Proofs
namespace M25
open Go Go.Abs M3
/-! ### What every program says -/
/-! ### A world's facts, and more -/
end M25
namespace M25
open Go Go.Abs M3
/-! ### What a run is: steps, one open after the other -/
inductive Qnv (w : Qp) (db : List (List TermT)) : List QL -> List QL -> Prop
 | nil (l : List QL) : Qnv w db l l
 | cons {l x : List QL} (a k : Nat) (ho : Qp9 w db l a k) (h : Qnv w db (l ++ [Qr2 w l ((db[a]'ho.ha)[k]'ho.hk) a]) x) : Qnv w db l x
section
variable {w : Qp} {db : List (List TermT)}
def Below (w : Qp) (b l : List QL) : Prop := ∀ u i, tb (Q9 w b u) i = true -> tb (Q9 w l u) i = true
/-! ### Sound: a choice stays -/
end
end M25
namespace M25
open Go Go.Abs M3
end M25
namespace Go.Proofs
open Go Go.Abs M3 M25
set_option linter.unusedVariables false
set_option linter.unusedSimpArgs false
end Go.Proofs
namespace M25
open Go Go.Abs M3
/-! ### Powers of two -/
theorem QjR : ∀ (n : Nat), n ≠ 0 -> n &&& (n - 1) = 0 -> ∃ k, n = 2 ^ k := by
 intro n
 induction n using Nat.strongRecOn with
 | ind n ih =>
  intro h0 h
  have hd : (n &&& (n - 1)) / 2 = n / 2 &&& (n - 1) / 2 := Nat.and_div_two
  rw [h] at hd
  rcases Nat.mod_two_eq_zero_or_one n with e | e
  ·have h1 : (n - 1) / 2 = n / 2 - 1 := by omega
   rw [h1] at hd
   obtain ⟨k, hk⟩ := ih (n / 2) (by omega) (by omega) hd.symm
   exact ⟨k + 1, by rw [Nat.pow_succ]; omega⟩
  ·have h1 : (n - 1) / 2 = n / 2 := by omega
   rw [h1, Nat.and_self] at hd
   exact ⟨0, by simp; omega⟩
theorem Qjr (k : Nat) : 2 ^ k &&& (2 ^ k - 1) = 0 := by
 refine Nat.eq_of_testBit_eq fun i => ?_
 rw [Nat.testBit_and, Nat.testBit_two_pow, Nat.testBit_two_pow_sub_one, Nat.zero_testBit]
 by_cases h : k = i
 ·subst h; simp
 ·simp [h]
theorem Qki {n m : Nat} (hn : n < 9223372036854775808) (hm : m < 9223372036854775808) : XV (n : Int) (m : Int) = ((n &&& m : Nat) : Int) := by
 have h := Nat.and_le_left (n := n) (m := m)
 refine Qjf (Qhy _ _) ⟨by omega, by omega⟩ fun i => ?_
 rw [Qk2]
 by_cases hi : i < 64
 ·rw [Qjg _ hi, Qjg _ hi, Qjg _ hi, Nat.testBit_and]
 ·rw [Qnk _ (by omega), Qnk _ (by omega), Qnk _ (by omega)]; rfl
def mOne (m : Int) : Bool := decide (1 < m) && decide (XV m (m - 1) = 0)
theorem QpG {m : Int} (h : Lo m) : mOne m = true ↔ ∃ k, 1 <= k /\ k < 17 /\ m = 2 ^ k := by
 obtain ⟨n, rfl⟩ := Int.eq_ofNat_of_zero_le h.1
 have h2 := h.2
 unfold mOne
 simp only [Bool.and_eq_true, decide_eq_true_eq]
 constructor
 ·rintro ⟨h1, hb⟩
  rw [show (n : Int) - 1 = ((n - 1 : Nat) : Int) by omega, Qki (by omega) (by omega)] at hb
  obtain ⟨k, hk⟩ := QjR n (by omega) (by omega)
  have h17 : (2 : Nat) ^ 17 = 131072 := by decide
  refine ⟨k, ?_, ?_, by rw [hk]; simp⟩
  ·cases k with
   | zero => simp at hk; omega
   | succ k => omega
  ·refine Classical.byContradiction fun hn => ?_
   have := Nat.pow_le_pow_right (show 0 < 2 by omega) (show 17 <= k by omega)
   omega
 ·rintro ⟨k, h1, h3, hk⟩
  have e : n = 2 ^ k := by
   have : ((2 ^ k : Nat) : Int) = (2 : Int) ^ k := by simp
   omega
  have h4 : 2 ^ 1 <= 2 ^ k := Nat.pow_le_pow_right (by omega) h1
  refine ⟨by omega, ?_⟩
  rw [show (n : Int) - 1 = ((n - 1 : Nat) : Int) by omega, Qki (by omega) (by omega), e, Qjr]; rfl
theorem Qgz {k : Nat} (hk : k < 64) : ∀ n, n <= 64 -> XR (2 ^ k) n = if k < n then [(k : Int) - 1] else []
 | 0, _ => by rw [if_neg (by omega)]; rfl
 | n + 1, hn => by
  rw [XR, Qgz hk n (by omega)]
  have hb := Qhe (x := (2 : Int) ^ k) (k := n) (by omega)
  rw [Qg5 hk] at hb
  by_cases e : n = k
  ·subst e
   rw [if_neg (by omega), if_neg (by rw [hb]; simp), if_pos (by omega)]; rfl
  ·rw [if_pos (hb.2 (decide_eq_false e)), List.append_nil]
   by_cases h : k < n
   ·rw [if_pos h, if_pos (by omega)]
   ·rw [if_neg h, if_neg (by omega)]
theorem QiU {k : Nat} (hk : k < 17) : XX (2 ^ k) = (k : Int) - 1 := by
 rw [XX, QbN, Qgz (by omega) 17 (by omega), if_pos hk]; rfl
theorem Qei {m x : Int} : ∀ n, n <= 64 -> (x ∈ XR m n ↔ ∃ k, k < n /\ tb m k = true /\ x = (k : Int) - 1)
 | 0, _ => by simp [XR]
 | n + 1, hn => by
  rw [XR, List.mem_append, Qei n (by omega)]
  have hb := Qhe (x := m) (k := n) (by omega)
  constructor
  ·rintro (⟨k, h1, h2, h3⟩ | h)
   ·exact ⟨k, by omega, h2, h3⟩
   ·split at h
    ·cases h
    ·rename_i hn2
     simp only [List.mem_singleton] at h
     refine ⟨n, by omega, ?_, h⟩
     cases ht : tb m n
     ·exact absurd (hb.2 ht) hn2
     ·rfl
  ·rintro ⟨k, h1, h2, h3⟩
   by_cases e : k = n
   ·subst e
    right
    rw [if_neg (by rw [hb, h2]; simp), h3]; simp
   ·exact .inl ⟨k, by omega, h2, h3⟩
theorem Qoa : ∀ {l : List Int}, 0 <= Qly l -> ∃ x, l = [x] /\ 0 <= x
 | [], h => by simp [Qly] at h
 | [x], h => ⟨x, rfl, h⟩
 | _ :: _ :: _, h => by simp [Qly] at h
theorem QmU {m : Int} (h : Lo m) : 0 <= XX m ↔ ∃ k, 1 <= k /\ k < 17 /\ m = 2 ^ k := by
 constructor
 ·intro hp
  obtain ⟨x, hx, h0⟩ := Qoa hp
  have hm := Qei (m := m) (x := x) 17 (by omega)
  rw [<- QbN, hx] at hm
  obtain ⟨k, h1, h2, h3⟩ := hm.1 (by simp)
  refine ⟨k, by omega, h1, Qjf h.i64 (Qmz (by omega)).i64 fun i => ?_⟩
  rw [Qg5 (by omega)]
  by_cases e : i = k
  ·subst e; simp [h2]
  ·rw [decide_eq_false e]
   cases hi : tb m i
   ·rfl
   ·exfalso
    have hi17 : i < 17 := Classical.byContradiction fun hn => by rw [h.hi (by omega)] at hi; cases hi
    have := (Qei (m := m) (x := (i : Int) - 1) 17 (by omega)).2 ⟨i, hi17, hi, rfl⟩
    rw [<- QbN, hx, List.mem_singleton] at this
    omega
 ·rintro ⟨k, h1, h2, rfl⟩
  rw [QiU h2]; omega
theorem QqE {m : Int} (h : Lo m) : mOne m = decide (0 <= XX m) := by
 rw [Bool.eq_iff_iff, QpG h, decide_eq_true_eq, QmU h]
/-! ### Qnv that may be: the program's -/
def mFits (w : Qp) (l : List QL) (s : QL) : Bool :=
 if YH w s.u = 0 \/ s.c < -1 \/ s.m = 0 \/ ¬ Qgh s.m (QaE w l s.u) = 0 then false
 else if s.c = -1 then mOne s.m && !Xp l s.u && decide (s.l = IntKind.i64.wrap (Ym l + 1))
 else !decide (s.m = QaE w l s.u) && decide (s.l = Ym l)
theorem Qpt {w : Qp} {l : List QL} {s : QL} (hl : QbI w l) (hs : I64 s.m) : mFits w l s = Qbu w l s := by
 unfold mFits
 by_cases h1 : YH w s.u = 0
 ·rw [if_pos (.inl h1)]
  rw [XS] at h1
  unfold Qbu; rw [h1]; rfl
 ·have hin : inW w s.u = true := by
   cases e : inW w s.u
   ·exact absurd (XS.2 e) h1
   ·rfl
  rw [QhE hin]
  have hi := Qdb.1 hin
  by_cases h2 : s.c < -1
  ·rw [if_pos (.inr (.inl h2)), Y8 (.inr (.inr h2))]
  ·rw [ZZ hi.1 hi.2 (by omega)]
   have hlo := Qbq hl s.u
   have hb : Qgh s.m (Q9 w l s.u) = 0 ↔ XV s.m (Q9 w l s.u) = s.m := not_zero.trans (Xe hs).symm
   by_cases h4 : Qgh s.m (Q9 w l s.u) = 0
   ·have hlm : Lo s.m := QgL (hb.1 h4) hlo
    rw [decide_eq_true (hb.1 h4), Bool.true_and]
    by_cases h3 : s.m = 0
    ·rw [if_pos (.inr (.inr (.inl h3)))]
     rw [h3]
     split
     ·have : XX 0 = -1 := by decide
      rw [this]; rfl
     ·simp
    ·rw [if_neg (by simp [h1, h2, h3, h4])]
     split
     ·rw [QqE hlm]
     ·rw [decide_eq_false h3]; rfl
   ·rw [if_pos (.inr (.inr (.inr h4))), decide_eq_false (fun e => h4 (hb.2 e))]; rfl
def Qiu (w : Qp) (l : List QL) (i : Nat) : Bool := match l[i]? with
 | some s => mFits w (l.take i) s
 | none => true
theorem Qfz {w : Qp} {l : List QL} {i : Nat} (h : i < l.length) : Qiu w l i = mFits w (l.take i) l[i] := by
 rw [Qiu, List.getElem?_eq_getElem h]
def Qn5 (w : Qp) (l : List QL) : Bool := (List.range l.length).all (Qiu w l)
theorem QiO {w : Qp} {l : List QL} (hI : ∀ s ∈ l, I64 s.m) : ∀ n, n <= l.length -> (List.range n).all (Qiu w l) = Xq w (l.take n)
 | 0, _ => rfl
 | n + 1, hn => by
  have ih := QiO (w := w) hI n (by omega)
  rw [List.range_succ, List.all_append, ih, List.take_succ_eq_append_getElem (by omega), Qa5]
  cases hm : Xq w (l.take n)
  ·rfl
  ·simp only [List.all_cons, List.all_nil, Bool.and_true, Bool.true_and]
   rw [Qfz (by omega), Qpt (Qa4 _ _ rfl hm) (hI _ (List.getElem_mem _))]
theorem QkM {w : Qp} {l : List QL} (hI : ∀ s ∈ l, I64 s.m) : Qn5 w l = Xq w l := by
 rw [Qn5, QiO hI l.length (Nat.le_refl _), List.take_length]
/-! ### Deciding -/
def Y4 (w : Qp) (l : List QL) (u p : Int) : Option (List QL) := match uAt w u with
 | none => none
 | some x => if p < 0 \/ (x.cs.length : Int) <= p then none
  else if XV (Q9 w l u) (2 ^ (p + 1).toNat) = 0 \/ Xp l u = true then none else some (l ++ [⟨u, 2 ^ (p + 1).toNat, IntKind.i64.wrap (Ym l + 1), -1⟩])
theorem Qqq {p : Int} (h0 : 0 <= p) (h1 : p < 16) : IntKind.i64.wrap (2 * 2 ^ min p.toNat 64) = 2 ^ (p + 1).toNat := by
 rw [show min p.toNat 64 = p.toNat by omega, show (p + 1).toNat = p.toNat + 1 by omega, Int.pow_succ, Int.mul_comm]
 have := Qmz (k := p.toNat + 1) (by omega)
 rw [Int.pow_succ] at this
 exact Qhz this.i64
theorem Qa0 {w : Qp} (hw : ∀ u ∈ w, u.cs.length <= 16) {l : List QL} (hl : QbI w l) (u p : Int) : Y4 w l u p = YG w l u p := by
 unfold Y4 YG
 cases hu : uAt w u with
 | none => rfl
 | some x =>
  simp only
  by_cases hp : p < 0 \/ (x.cs.length : Int) <= p
  ·rw [if_pos hp, if_pos hp]
  ·rw [if_neg hp, if_neg hp]
   have hux : 0 <= u /\ u < w.length /\ x ∈ w := by
    unfold uAt at hu
    split at hu
    ·cases hu
    ·have := (List.getElem?_eq_some_iff.1 hu).1
     exact ⟨by omega, by omega, List.mem_of_getElem? hu⟩
   have hx := hw x hux.2.2
   rw [Qqq (by omega) (by omega)]
   have hk : (p + 1).toNat < 17 := by omega
   have hlm : Lo ((2 : Int) ^ (p + 1).toNat) := Qmz (by omega)
   rw [ZZ hux.1 hux.2.1 (by show (-1 : Int) <= -1; omega)]
   simp only [if_true]
   have hb : XV (Q9 w l u) (2 ^ (p + 1).toNat) = 0 ↔ tb (Q9 w l u) (p + 1).toNat = false := Qhe (by omega)
   have hb2 : XV (2 ^ (p + 1).toNat) (Q9 w l u) = 2 ^ (p + 1).toNat ↔ tb (Q9 w l u) (p + 1).toNat = true := by
    rw [Xe hlm.i64]
    constructor
    ·intro h; exact h _ (by rw [Qg5 (by omega)]; simp)
    ·intro h i hi
     rw [Qg5 (by omega)] at hi
     rw [of_decide_eq_true hi]; exact h
   have hpl : decide (0 <= XX (2 ^ (p + 1).toNat)) = true := by rw [decide_eq_true_eq, QiU hk]; omega
   rw [hpl]
   cases ht : tb (Q9 w l u) (p + 1).toNat
   ·rw [if_pos (.inl (hb.2 ht)), if_neg (by rw [decide_eq_false (by rw [hb2, ht]; simp)]; simp)]
   ·have h1 : ¬ XV (Q9 w l u) (2 ^ (p + 1).toNat) = 0 := by rw [hb, ht]; simp
    cases hd : Xp l u
    ·rw [if_neg (by simp [h1]), decide_eq_true (hb2.2 ht)]; simp
    ·rw [if_pos (.inr rfl)]; simp
end M25
namespace M25
open Go Go.Abs M3
/-! ### Back, Sure, When -/
/-! ### What valid trails are -/
theorem QjM {w : Qp} : ∀ (n : Nat) {l : List QL}, Xq w l = true -> Xq w (l.take n) = true := by
 intro n l
 by_cases hn : l.length <= n
 ·intro h; rw [List.take_of_length_le hn]; exact h
 ·intro h
  have hall : ∀ (k : Nat) (l : List QL), Xq w l = true -> l.length <= n + k -> Xq w (l.take n) = true := by
   intro k
   induction k with
   | zero => intro l h hl; rw [List.take_of_length_le (by omega)]; exact h
   | succ k ih =>
    intro l h hl
    by_cases hn : l.length <= n
    ·rw [List.take_of_length_le hn]; exact h
    ·have hne : l ≠ [] := by intro e; subst e; simp at hn
     have e := (List.dropLast_concat_getLast hne).symm
     rw [e, Qa5, Bool.and_eq_true] at h
     have := ih l.dropLast h.1 (by simp; omega)
     rw [e, List.take_append_of_le_length (by simp; omega)]
     exact this
  exact hall l.length l h (by omega)
theorem QqC {w : Qp} {l : List QL} {i : Nat} (h : Xq w l = true) (hi : i < l.length) : Qbu w (l.take i) l[i] = true := by
 have := QjM (i + 1) h
 rw [List.take_succ_eq_append_getElem hi, Qa5, Bool.and_eq_true] at this
 exact this.2
theorem QpQ {w : Qp} {l : List QL} {s : QL} (h : Qbu w l s = true) : s.m ≠ 0 := by
 intro h0
 unfold Qbu at h
 rw [Bool.and_eq_true] at h
 have h2 := h.2
 split at h2
 ·rw [h0, show XX 0 = -1 from by decide] at h2; simp at h2
 ·rw [h0] at h2; simp at h2
theorem Qpz {w : Qp} {l : List QL} (h : Xq w l = true) {u : Int} (hu : inW w u = true) : Q9 w l u ≠ 0 := by
 have key : ∀ n, Q9 w (l.take n) u ≠ 0 := by
  intro n
  induction n with
  | zero =>
   show YH w u ≠ 0
   intro e; rw [XS, hu] at e; cases e
  | succ n ih =>
   by_cases hl : n < l.length
   ·rw [List.take_succ_eq_append_getElem hl, Qb9]
    split
    ·exact QpQ (QqC h hl)
    ·exact ih
   ·rw [List.take_of_length_le (by omega)] at ih ⊢; exact ih
 have := key l.length
 rwa [List.take_length] at this
def Qc0 (w : Qp) (l : List QL) (inc : List TermT) : Nat -> Nat -> Int
 | 0, _ => -1
 | r + 1, n => if Qdd w (l.take n) inc = true then n else Qc0 w l inc r (n + 1)
def QhQ (w : Qp) (l : List QL) (inc : List TermT) : Int := Qc0 w l inc (l.length + 1) 0
theorem QoA {w : Qp} {l : List QL} {inc : List TermT} {n : Nat} (hn : n < l.length + 1) (hs : Qdd w (l.take n) inc = true) (h : QhQ w l inc = Qc0 w l inc (l.length + 1 - n) n) : QhQ w l inc = n := by
 rw [h, show l.length + 1 - n = (l.length - n) + 1 by omega, Qc0, if_pos hs]
theorem QpV {w : Qp} {l : List QL} {inc : List TermT} {n : Nat} (hn : n < l.length + 1) (hs : Qdd w (l.take n) inc = false) (h : QhQ w l inc = Qc0 w l inc (l.length + 1 - n) n) : QhQ w l inc = Qc0 w l inc (l.length + 1 - (n + 1)) (n + 1) := by
 rw [h, show l.length + 1 - n = (l.length - n) + 1 by omega, Qc0, if_neg (by rw [hs]; simp), show l.length + 1 - (n + 1) = l.length - n by omega]
theorem Qoz {w : Qp} {l : List QL} {inc : List TermT} {n : Nat} (hn : l.length + 1 <= n) (h : QhQ w l inc = Qc0 w l inc (l.length + 1 - n) n) : QhQ w l inc = -1 := by
 rw [h, show l.length + 1 - n = 0 by omega, Qc0]
def QaB (w : Qp) (l : List QL) (inc : List TermT) (n : Nat) : List Int := inc.map fun t => Q9 w (l.take n) t.u
theorem Yl (w : Qp) (l : List QL) (inc : List TermT) (n : Nat) : (QaB w l inc n).length = inc.length := by simp [QaB]
def QbP (w : Qp) (l : List QL) (inc : List TermT) (n k : Nat) : List Int := (QaB w l inc n).take k ++ (QaB w l inc (n - 1)).drop k
theorem Qe6 {w : Qp} {l : List QL} {inc : List TermT} {n k : Nat} (hk : k <= inc.length) : (QbP w l inc n k).length = inc.length := by
 simp [QbP, Yl]; omega
theorem QiQ (w : Qp) (l : List QL) (inc : List TermT) (n : Nat) : QbP w l inc n 0 = QaB w l inc (n - 1) := by simp [QbP]
theorem QkP {w : Qp} {l : List QL} {inc : List TermT} {n k : Nat} (hk : inc.length <= k) : QbP w l inc n k = QaB w l inc n := by
 rw [QbP, List.take_of_length_le (by rw [Yl]; exact hk), List.drop_eq_nil_of_le (by rw [Yl]; exact hk), List.append_nil]
theorem QjN {w : Qp} {l : List QL} {inc : List TermT} {n k : Nat} (hk : k < inc.length) (h : k < (QbP w l inc n k).length) : (QbP w l inc n k)[k] = Q9 w (l.take (n - 1)) inc[k].u := by
 simp only [QbP]
 rw [List.getElem_append_right (by simp [Yl]; omega)]
 simp [QaB, Yl, List.length_take, Nat.min_eq_left (show k <= inc.length by omega)]
theorem QmM {w : Qp} {l : List QL} {inc : List TermT} {n k : Nat} (hk : k < inc.length) : QbP w l inc n (k + 1) = (QbP w l inc n k).set k (Q9 w (l.take n) inc[k].u) := by
 have h1 : k < (QaB w l inc n).length := by rw [Yl]; exact hk
 have h2 : k < (QaB w l inc (n - 1)).length := by rw [Yl]; exact hk
 rw [QbP, QbP, List.take_succ_eq_append_getElem h1, List.drop_eq_getElem_cons h2]
 rw [List.set_append_right _ _ (by simp [Yl]; omega)]
 simp [Yl, Nat.min_eq_left (show k <= inc.length by omega), QaB]
theorem Qf0 {w : Qp} {l : List QL} {inc : List TermT} {n k : Nat} (hk : k < inc.length) (h : Q9 w (l.take n) inc[k].u = Q9 w (l.take (n - 1)) inc[k].u) : QbP w l inc n (k + 1) = QbP w l inc n k := by
 rw [QmM hk, h, <- QjN hk (by rw [Qe6 (by omega)]; exact hk), List.set_getElem_self]
theorem QfN {w : Qp} {l : List QL} {n : Nat} (h0 : 0 < n) (hn : n <= l.length) (u : Int) : Q9 w (l.take n) u = if (l[n - 1]'(by omega)).u = u /\ inW w u = true then (l[n - 1]'(by omega)).m else Q9 w (l.take (n - 1)) u := by
 rw [Qcm (k := n - 1) (by omega) (by omega), Qb9]
theorem Qno {w : Qp} {l : List QL} (h : Xq w l = true) {n : Nat} {u : Int} : Q9 w (l.take n) u = 0 ↔ inW w u = false := by
 constructor
 ·intro e
  cases hu : inW w u
  ·rfl
  ·exact absurd e (Qpz (QjM n h) hu)
 ·exact QhF
/-! ### Levels -/
end M25
namespace M25
open Go Go.Abs M3
def QoR {α : Type} (p : α -> Bool) (l : List α) : Int := match l.findIdx? p with
 | some i => i
 | none => -1
theorem QdC {α : Type} {p : α -> Bool} {l : List α} {i : Nat} (h : i < l.length) (ha : (l.take i).any p = false) (hp : p l[i] = true) : QoR p l = i := by
 have e : l.findIdx? p = some i := by
  rw [List.findIdx?_eq_some_iff_getElem]
  refine ⟨h, hp, fun j hj => ?_⟩
  have := List.any_eq_false.1 ha l[j] (by
   rw [List.mem_take_iff_getElem]
   exact ⟨j, by omega, rfl⟩)
  simpa using this
 rw [QoR, e]
theorem Qqt {α : Type} {p : α -> Bool} {l : List α} {i : Nat} (h : l.length <= i) (ha : (l.take i).any p = false) : QoR p l = -1 := by
 have e : l.findIdx? p = none := by
  rw [List.findIdx?_eq_none_iff]
  rw [List.take_of_length_le h] at ha
  intro x hx
  simpa using List.any_eq_false.1 ha x hx
 rw [QoR, e]
theorem Qpv {α : Type} (p : α -> Bool) (l : List α) : decide (QoR p l >= 0) = l.any p := by
 cases e : l.findIdx? p with
 | none =>
  rw [QoR, e]
  rw [List.findIdx?_eq_none_iff] at e
  have : l.any p = false := List.any_eq_false.2 fun x hx => by simpa using e x hx
  rw [this]; rfl
 | some i =>
  rw [QoR, e]
  rw [List.findIdx?_eq_some_iff_getElem] at e
  obtain ⟨h, hp, _⟩ := e
  rw [Qha h hp]
  simp
theorem Qh3 {w : Qp} {u : Int} (h0 : 0 <= u) (h1 : u < w.length) : uAt w u = some (w[u.toNat]'(by omega)) := by
 rw [uAt, if_neg (by omega), List.getElem?_eq_getElem]
theorem QnG {w : Qp} {l : List QL} {u p : Int} (h : YH w u = 0) : Y4 w l u p = none := by
 have h2 : uAt w u = none := by
  have hi := XS.1 h
  rw [uAt]
  split
  ·rfl
  ·refine List.getElem?_eq_none ?_
   apply Classical.byContradiction
   intro hn
   rw [QeF (by omega) (by omega)] at hi
   cases hi
 rw [Y4, h2]
theorem QnF {w : Qp} {l : List QL} {u p : Int} (h : p < 0) : Y4 w l u p = none := by
 rw [Y4]
 split
 ·rfl
 ·rw [if_pos (.inl h)]
theorem QnE {w : Qp} {l : List QL} {u p : Int} (h0 : 0 <= u) (h1 : u < w.length) (h : ((w[u.toNat]'(by omega)).cs.length : Int) <= p) : Y4 w l u p = none := by
 rw [Y4, Qh3 h0 h1]; exact if_pos (.inr h)
theorem Ql2 {w : Qp} {l : List QL} {u p : Int} (h0 : 0 <= u) (h1 : u < w.length) (h2 : 0 <= p) (h3 : p < (w[u.toNat]'(by omega)).cs.length) (h : XV (Q9 w l u) (2 ^ (p + 1).toNat) = 0 \/ Xp l u = true) : Y4 w l u p = none := by
 rw [Y4, Qh3 h0 h1]; dsimp only; rw [if_neg (by omega), if_pos h]
theorem QnH {w : Qp} {l : List QL} {u p : Int} (h0 : 0 <= u) (h1 : u < w.length) (h2 : 0 <= p) (h3 : p < (w[u.toNat]'(by omega)).cs.length) (h4 : ¬ XV (Q9 w l u) (2 ^ (p + 1).toNat) = 0) (h5 : Xp l u = false) :
  Y4 w l u p = some (l ++ [⟨u, 2 ^ (p + 1).toNat, IntKind.i64.wrap (Ym l + 1), -1⟩]) := by
 rw [Y4, Qh3 h0 h1]; dsimp only; rw [if_neg (by omega), if_neg (by simp [h4, h5])]
theorem Qqk {w : Qp} {l : List QL} {u : Int} (h : inW w u = true) (m : Int) : XV (QaE w l u) m = XV (Q9 w l u) m := by rw [QhE h]
theorem Qpu {w : Qp} {u : Int} (h : ¬ YH w u = 0) : inW w u = true /\ 0 <= u /\ u < w.length := by
 have e : inW w u = true := by
  cases e : inW w u
  ·exact absurd (XS.2 e) h
  ·rfl
 exact ⟨e, Qdb.1 e⟩
/-! ### The first row of lefts -/
def QeP (w : Qp) (inc : List TermT) (i : Nat) : List Int := (inc.take i).map (fun t => YH w t.u) ++ List.replicate (inc.length - i) 0
theorem Qmg (w : Qp) (inc : List TermT) {i : Nat} (h : i <= inc.length) : (QeP w inc i).length = inc.length := by simp [QeP]; omega
theorem QgD (w : Qp) (inc : List TermT) : QeP w inc 0 = List.replicate inc.length 0 := by simp [QeP]
theorem Qit {w : Qp} {inc : List TermT} {i : Nat} (h : inc.length <= i) (l : List QL) : QeP w inc i = QaB w l inc 0 := by
 rw [QeP, List.take_of_length_le h, show inc.length - i = 0 by omega, List.replicate_zero, List.append_nil]
 refine List.map_congr_left fun t _ => ?_
 rw [List.take_zero]; rfl
theorem Qku {w : Qp} {inc : List TermT} {i : Nat} (h : i < inc.length) : QeP w inc (i + 1) = (QeP w inc i).set i (YH w inc[i].u) := by
 rw [QeP, QeP, List.set_append_right _ _ (by simp; omega), List.take_succ_eq_append_getElem h, List.map_append, show inc.length - i = (inc.length - (i + 1)) + 1 by omega, List.replicate_succ]
 simp [List.length_take, Nat.min_eq_left (Nat.le_of_lt h)]
end M25
namespace Go.Proofs
open Go Go.Abs M3 M25
set_option linter.unusedVariables false
set_option linter.unusedSimpArgs false
theorem Z2 {l : List QL} {f : Nat} {caps : List D} {p : QL -> Bool} (hl : l.length <= 10000000) (hcc : caps.all D.capOk = true) (hca : ∀ s : St, caps.map (Qbb s) = caps) (hcb : ∀ H, caps.map (D.fzS H Qd4) = caps) (hf : ∀ x ∈ l, Ok Tryz.prog f (.agg (Qft x) :: caps) (.bool (p x))) : Ok Tryz.prog 63 [Zz l, .clo f caps] (.int .i64 (QoR p l)) := by
 refine Ok.ofT ZX Tryz.func63 QsG (Nat.le_of_ble_eq_true rfl) ?_
 show TW _ _ tf63.body _ _
 refine Qe fun K hK => Qa rfl ?_
 refine hK _ _ (Qb (kp2 rfl rfl) ?_)
 refine QG ?_ -- 0
 refine Qe fun K hK => Qa rfl ?_
 first | refine QU rfl Q1 ?_ | refine QU rfl rfl ?_
 refine Qa rfl ?_
 refine hK _ _ (Qb (kp4 rfl rfl rfl rfl) ?_)
 refine QE ?_
 refine Zv (ι := Nat) (fun i => ⟨[(0, Zz l), (1, .clo f caps), (7, .int .i64 l.length), (8, .int .i64 i)], []⟩) (fun i => i <= l.length /\ (l.take i).any p = false) (fun i => l.length - i) 0 ?_ ?_ ?_
 ·exact Zh (kp4 rfl rfl rfl rfl)
 ·exact ⟨Nat.zero_le _, by simp⟩
 intro i hI
 try dsimp only
 refine Qe fun K hK => Yj rfl rfl ?_
 refine hK _ _ (Qb (kp5 rfl rfl rfl rfl rfl) ?_)
 refine QG ?_ -- 1
 refine Qw rfl (fun h1 => ?_) (fun h1 => ?_)
 ·try rw [h1]
  try simp only [qa, qb, qc, qd, qe, List.length_map] at h1
  refine Qv (Qd (kp4 rfl rfl rfl rfl) ?_)
  refine QG ?_ -- 2
  refine QE (Qe fun K hK => Qa rfl (Qa rfl ?_))
  refine hK _ _ (Qb (kp5 rfl rfl rfl rfl rfl) ?_)
  refine Qe fun K hK => Qa rfl (Qa rfl (Qa rfl (QJ rfl rfl rfl (by omega) (QS (by omega)) rfl (QD (cs := [_, _, _, _]) rfl rfl rfl rfl (Qo7 rfl hcc rfl (hf _ (List.getElem_mem (show i < l.length by omega))) (by rw [List.map_append, hca]; rfl) (.inr rfl) ?_)))))
  refine hK _ _ (Qb (kp6 rfl rfl rfl rfl rfl rfl) ?_)
  refine Qw rfl (fun h2 => ?_) (fun h2 => ?_)
  ·try rw [h2]
   try simp only [qa, qb, qc, qd, qe, List.length_map] at h2
   refine Qe fun K hK => Qa rfl (Qa rfl ?_)
   refine hK _ _ (Qb (kp1 rfl) ?_)
   refine Qu (Qt (Qj (Q4 (Qt (Qj (QA rfl ?_))))))
   rw [QdC (i := i) (by omega) hI.2 h2]
  ·try rw [h2]
   try simp only [qa, qb, qc, qd, qe, List.length_map] at h2
   refine Qv (Qi (Qd (kp4 rfl rfl rfl rfl) (QP fun K hK => Q6 rfl rfl (by first | exact Qs (by omega) (by omega) | exact Zn (by omega) (by omega) | exact ZG (by omega) (by omega) | rfl) (Qa rfl (hK _ ?_)))))
   refine Ql (i + 1) ?_ ?_ ?_
   ·exact Zh (kp4 rfl rfl rfl rfl)
   ·exact ⟨by omega, Qgu (by omega) hI.2 h2⟩
   ·first | omega | (simp only; omega) | (dsimp only; omega)
 ·try rw [h1]
  try simp only [qa, qb, qc, qd, qe, List.length_map] at h1
  refine Zo (QN (QB (QI (Qd (Q2) (Qe fun K hK => Qa rfl ?_)))))
  refine hK _ _ (Qb (kp1 rfl) ?_)
  refine Qu (QA rfl ?_)
  rw [Qqt (i := i) (by omega) hI.2]
theorem ZS {l : List QL} {f : Nat} {caps : List D} (p : QL -> Bool) (hl : l.length <= 10000000) (hcc : caps.all D.capOk = true) (hca : ∀ s : St, caps.map (Qbb s) = caps) (hcb : ∀ H, caps.map (D.fzS H Qd4) = caps) (hf : ∀ x ∈ l, Ok Tryz.prog f (.agg (Qft x) :: caps) (.bool (p x))) : Ok Tryz.prog 86 [Zz l, .clo f caps] (.bool (l.any p)) := by
 refine Ok.ofT ZX Tryz.func86 QsZ (Nat.le_of_ble_eq_true rfl) ?_
 show TW _ _ tf86.body _ _
 refine Qe fun K hK => Qa rfl ?_
 refine hK _ _ (Qb (kp2 rfl rfl) ?_)
 refine Qe fun K hK => Qa rfl (Qa rfl (QC (Z2 (p := p) hl hcc hca hcb hf) rfl (by show [_, D.clo _ _] = _; simp only [hcb]; rfl) (.inr rfl) (Qfg rfl rfl (Qa rfl ?_))))
 refine hK _ _ (Qb (kp1 rfl) ?_)
 refine Qu (Qq rfl ?_)
 rw [<- Qpv]
theorem Qd9 {s : QL} {u : Int} : Ok Tryz.prog 87 [.agg (Qft s), .ptr [.int .i64 u]] (.bool (decide (s.u = u) && decide (s.c = -1))) := by
 refine Ok.ofT ZX Tryz.func87 Qs0 (Nat.le_of_ble_eq_true rfl) ?_
 show TW _ _ tf87.body _ _
 refine Qe fun K hK => Zw rfl rfl rfl (Qa rfl ?_)
 refine hK _ _ (Qb (kp2 rfl rfl) ?_)
 refine Qe fun K hK => Qh rfl rfl (Qz rfl rfl rfl (Zy rfl rfl (Qa rfl ?_)))
 refine Qy (g := 7) rfl (fun h1 => ?_) (fun h1 => ?_)
 ·try rw [h1]
  try simp only [qa, qb, qc, qd, qe] at h1
  refine Qg rfl (Qh rfl rfl (Qg rfl (Qz rfl rfl rfl (Qg rfl (Qz rfl rfl rfl (Qg rfl ?_))))))
  first | refine Zy rfl rfl ?_ | refine Qff rfl rfl ?_
  refine Qk rfl rfl (Qa rfl ?_)
  refine hK _ _ (Qb (kp1 rfl) ?_)
  refine Qu (Qq rfl ?_)
  simp [h1]
 ·try rw [h1]
  try simp only [qa, qb, qc, qd, qe] at h1
  refine Qo rfl (Qo rfl (Qo rfl (Qo rfl (Qk rfl rfl (Qa rfl ?_)))))
  refine hK _ _ (Qb (kp1 rfl) ?_)
  refine Qu (Qq rfl ?_)
  simp [h1]
theorem Qb0 {l : List QL} (hl : l.length <= 10000000) {u : Int} : Ok Tryz.prog 61 [Zz l, .int .i64 u] (.bool (Xp l u)) := by
 refine Ok.ofT ZX Tryz.func61 QsE (Nat.le_of_ble_eq_true rfl) ?_
 show TW _ _ tf61.body _ _
 refine Qe fun K hK => Zw rfl rfl rfl (Qa rfl ?_)
 refine hK _ _ (Qb (kp2 rfl rfl) ?_)
 refine Qe fun K hK => Qa rfl (Qqd rfl rfl (QC (ZS (l := l) (fun s => decide (s.u = u) && decide (s.c = -1)) hl rfl (fun _ => rfl) (fun _ => rfl) (fun s _ => Qd9)) rfl rfl (.inr rfl) (Qa rfl ?_)))
 refine hK _ _ (Qb (kp1 rfl) ?_)
 refine Qu (Qq rfl ?_)
 rfl
theorem Qjv {m : Int} (hm : I64 m) : Ok Tryz.prog 85 [.int .i64 m] (.bool (mOne m)) := by
 refine Ok.ofT ZX Tryz.func85 QsY (Nat.le_of_ble_eq_true rfl) ?_
 show TW _ _ tf85.body _ _
 have hm1 := hm.1
 have hm2 := hm.2
 refine Qe fun K hK => Qa rfl ?_
 refine hK _ _ (Qb (kp1 rfl) ?_)
 refine Qe fun K hK => Qa rfl (Qh6 rfl rfl (Qa rfl ?_))
 refine Qy (g := 5) rfl (fun h1 => ?_) (fun h1 => ?_)
 ·try rw [h1]
  try simp only [qa, qb, qc, qd, qe] at h1
  refine Qg rfl (Qa rfl (Qg rfl (Qa rfl (Qg rfl (XW rfl rfl (by first | exact Qs (by omega) (by omega) | exact Zn (by omega) (by omega) | exact ZG (by omega) (by omega) | rfl) (Qg rfl (QbQ rfl rfl (Qg rfl (Zy rfl rfl (Qk rfl rfl (Qa rfl ?_)))))))))))
  refine hK _ _ (Qb (kp1 rfl) ?_)
  refine Qu (Qq rfl ?_)
  simp [M25.mOne, h1]
 ·try rw [h1]
  try simp only [qa, qb, qc, qd, qe] at h1
  refine Qo rfl (Qo rfl (Qo rfl (Qo rfl (Qo rfl (Qk rfl rfl (Qa rfl ?_))))))
  refine hK _ _ (Qb (kp1 rfl) ?_)
  refine Qu (Qq rfl ?_)
  simp [M25.mOne, h1]
theorem Qil {w : Qp} (hw : WSm w) {l : List QL} (hl : l.length <= 10000000) {s : QL} (hs : I64 s.m) : Ok Tryz.prog 58 [Z8 w, Zz l, .agg (Qft s)] (.bool (mFits w l s)) := by
 refine Ok.ofT ZX Tryz.func58 QsB (Nat.le_of_ble_eq_true rfl) ?_
 show TW _ _ tf58.body _ _
 refine Qe fun K hK => Zw rfl rfl rfl (Zw rfl rfl rfl (Qa rfl ?_))
 refine hK _ _ (Qb (kp3 rfl rfl rfl) ?_)
 refine Qe fun K hK => QD (cs := [_]) rfl rfl rfl rfl (Qa rfl (Qh rfl rfl (Qz rfl rfl rfl (QC (Qb1 hw hl) rfl rfl (.inr rfl) (Qa rfl ?_)))))
 refine hK _ _ (Qb (kp4 rfl rfl rfl rfl) ?_)
 refine QG ?_ -- 0
 refine QE (Qe fun K hK => QD (cs := [_]) rfl rfl rfl rfl (Qh rfl rfl (Qz rfl rfl rfl (QC (Qam hw) rfl rfl (.inr rfl) (Zy rfl rfl (Qa rfl ?_))))))
 refine Qy (g := 19) rfl (fun h1 => ?_) (fun h1 => ?_)
 ·try rw [h1]
  try simp only [qa, qb, qc, qd, qe, List.length_map] at h1
  refine Qo rfl (Qo rfl (Qo rfl (Qk rfl rfl (Qa rfl (Qo rfl (Qo rfl (Qo rfl (Qk rfl rfl (Qa rfl (Qo rfl (Qo rfl ?_)))))))))))
  refine Qo rfl (Qo rfl (Qo rfl (Qk rfl rfl (Qa rfl ?_))))
  refine hK _ _ (Qb (kp4 rfl rfl rfl rfl) ?_)
  refine Zp rfl (Qe fun K hK => Qa rfl ?_)
  refine hK _ _ (Qb (kp1 rfl) ?_)
  refine Qu (Qt (Qj (Qq rfl ?_)))
  rw [M25.mFits]; simp_all
 ·try rw [h1]
  try simp only [qa, qb, qc, qd, qe, List.length_map] at h1
  refine Qg rfl (Qh rfl rfl (Qg rfl (Qz rfl rfl rfl (Qg rfl (Yj rfl rfl (Qk rfl rfl (Qa rfl ?_)))))))
  refine Qy (g := 24) rfl (fun h2 => ?_) (fun h2 => ?_)
  ·try rw [h2]
   try simp only [qa, qb, qc, qd, qe, List.length_map] at h2
   refine Qo rfl (Qo rfl (Qo rfl (Qk rfl rfl (Qa rfl (Qo rfl (Qo rfl (Qo rfl (Qo rfl (Qo rfl (Qk rfl rfl (Qa rfl ?_)))))))))))
   refine hK _ _ (Qb (kp4 rfl rfl rfl rfl) ?_)
   refine Zp rfl (Qe fun K hK => Qa rfl ?_)
   refine hK _ _ (Qb (kp1 rfl) ?_)
   refine Qu (Qt (Qj (Qq rfl ?_)))
   rw [M25.mFits]; simp_all
  ·try rw [h2]
   try simp only [qa, qb, qc, qd, qe, List.length_map] at h2
   refine Qg rfl (Qh rfl rfl (Qg rfl (Qz rfl rfl rfl (Qg rfl (Zy rfl rfl (Qk rfl rfl (Qa rfl ?_)))))))
   refine Qy (g := 29) rfl (fun h3 => ?_) (fun h3 => ?_)
   ·try rw [h3]
    try simp only [qa, qb, qc, qd, qe, List.length_map] at h3
    refine Qo rfl (Qo rfl (Qo rfl (Qo rfl (Qo rfl (Qk rfl rfl (Qa rfl ?_))))))
    refine hK _ _ (Qb (kp4 rfl rfl rfl rfl) ?_)
    refine Zp rfl (Qe fun K hK => Qa rfl ?_)
    refine hK _ _ (Qb (kp1 rfl) ?_)
    refine Qu (Qt (Qj (Qq rfl ?_)))
    rw [M25.mFits]; simp_all
   ·try rw [h3]
    try simp only [qa, qb, qc, qd, qe, List.length_map] at h3
    refine Qg rfl (Qh rfl rfl (Qg rfl (Qz rfl rfl rfl (Qg rfl (Qa rfl (Qg rfl (QeT rfl rfl (Qg rfl (X5 rfl rfl (Qk rfl rfl (Qa rfl ?_)))))))))))
    refine hK _ _ (Qb (kp4 rfl rfl rfl rfl) ?_)
    refine Qw rfl (fun h4 => ?_) (fun h4 => ?_)
    ·try rw [h4]
     try simp only [qa, qb, qc, qd, qe, List.length_map] at h4
     refine Qe fun K hK => Qa rfl ?_
     refine hK _ _ (Qb (kp1 rfl) ?_)
     refine Qu (Qt (Qj (Qq rfl ?_)))
     rw [M25.mFits]; simp_all
    ·try rw [h4]
     try simp only [qa, qb, qc, qd, qe, List.length_map] at h4
     refine Qe fun K hK => Qh rfl rfl (Qz rfl rfl rfl (Zy rfl rfl (Qa rfl ?_)))
     refine hK _ _ (Qb (kp4 rfl rfl rfl rfl) ?_)
     refine Qw rfl (fun h5 => ?_) (fun h5 => ?_)
     ·try rw [h5]
      try simp only [qa, qb, qc, qd, qe, List.length_map] at h5
      refine Qe fun K hK => Qh rfl rfl (QQ (ds0 := [16, 15, 14, 13, 12, 11, 10, 9, 8, 7, 6, 5, 4, 3, 2, 1, 0]) rfl rfl rfl rfl rfl (QY (ds0 := [15, 14, 13, 12, 11, 10, 9, 8, 7, 6, 5, 4, 3, 2, 1, 0]) (Qjv hs) rfl rfl (.inr rfl) rfl rfl (Qa rfl ?_)))
      refine Qy (g := 43) rfl (fun h6 => ?_) (fun h6 => ?_)
      ·try rw [h6]
       try simp only [qa, qb, qc, qd, qe, List.length_map] at h6
       refine Qg rfl (Qa rfl (Qg rfl (Qh rfl rfl (Qg rfl (QQ (ds0 := [11, 10, 9, 8, 7, 6, 5, 4, 3, 2, 1, 0]) rfl rfl rfl rfl rfl (Qg rfl (QY (ds0 := [10, 9, 8, 7, 6, 5, 4, 3, 2, 1, 0]) (Qb0 hl) rfl rfl (.inr rfl) rfl rfl (Qg rfl (Yb rfl (Qk rfl rfl (Qa rfl ?_)))))))))))
       refine Qy (g := 50) rfl (fun h7 => ?_) (fun h7 => ?_)
       ·try rw [h7]
        try simp only [qa, qb, qc, qd, qe, List.length_map] at h7
        refine Qg rfl (Qh rfl rfl (Qg rfl (QQ (ds0 := [2, 1, 0]) rfl rfl rfl rfl rfl (Qg rfl (Qa rfl (Qg rfl (QY (ds0 := [3, 2, 1, 0]) (YR hl) rfl rfl (.inr rfl) rfl rfl (Qg rfl (Q6 rfl rfl rfl (Qg rfl (Zy rfl rfl ?_)))))))))))
        refine Qk rfl rfl (Qa rfl ?_)
        refine hK _ _ (Qb (kp1 rfl) ?_)
        refine Qu (Qt (Qj (Qq rfl ?_)))
        rw [M25.mFits]; simp_all
       ·try rw [h7]
        try simp only [qa, qb, qc, qd, qe, List.length_map] at h7
        refine Qo rfl (Qo rfl (Qo rfl (Qo rfl (Qo rfl (Qo rfl (Qk rfl rfl (Qa rfl ?_)))))))
        refine hK _ _ (Qb (kp1 rfl) ?_)
        refine Qu (Qt (Qj (Qq rfl ?_)))
        rw [M25.mFits]; simp_all
      ·try rw [h6]
       try simp only [qa, qb, qc, qd, qe, List.length_map] at h6
       refine Qo rfl (Qo rfl (Qo rfl (Qo rfl (Qo rfl (Qk rfl rfl (Qa rfl (Qo rfl (Qo rfl (Qo rfl (Qo rfl (Qo rfl ?_)))))))))))
       refine Qo rfl (Qk rfl rfl (Qa rfl ?_))
       refine hK _ _ (Qb (kp1 rfl) ?_)
       refine Qu (Qt (Qj (Qq rfl ?_)))
       rw [M25.mFits]; simp_all
     ·try rw [h5]
      try simp only [qa, qb, qc, qd, qe, List.length_map] at h5
      refine Qv (Qi (Qd (kp3 rfl rfl rfl) (Qe fun K hK => Qh rfl rfl (QQ (ds0 := [8, 7, 6, 5, 4, 3, 2, 1, 0]) rfl rfl rfl rfl rfl (Qa rfl (X5 rfl rfl (Qa rfl ?_)))))))
      refine Qy (g := 62) rfl (fun h8 => ?_) (fun h8 => ?_)
      ·try rw [h8]
       try simp only [qa, qb, qc, qd, qe, List.length_map] at h8
       refine Qg rfl (Qh rfl rfl (Qg rfl (QQ (ds0 := [2, 1, 0]) rfl rfl rfl rfl rfl (Qg rfl (Qa rfl (Qg rfl (QY (ds0 := [2, 1, 0]) (YR hl) rfl rfl (.inr rfl) rfl rfl (Qg rfl (Zy rfl rfl (Qk rfl rfl (Qa rfl ?_)))))))))))
       refine hK _ _ (Qb (kp1 rfl) ?_)
       refine Qu (Qq rfl ?_)
       rw [M25.mFits]; simp_all
      ·try rw [h8]
       try simp only [qa, qb, qc, qd, qe, List.length_map] at h8
       refine Qo rfl (Qo rfl (Qo rfl (Qo rfl (Qo rfl (Qk rfl rfl (Qa rfl ?_))))))
       refine hK _ _ (Qb (kp1 rfl) ?_)
       refine Qu (Qq rfl ?_)
       rw [M25.mFits]; simp_all
theorem Qju {w : Qp} (hw : WSm w) {l : List QL} (hl : l.length <= 10000000) (hm : ∀ s ∈ l, I64 s.m) : Ok Tryz.prog 26 [Z8 w, Zz l] (.bool (Xq w l)) := by
 refine Ok.ofT ZX Tryz.func26 Qsf (Nat.le_of_ble_eq_true rfl) ?_
 show TW _ _ tf26.body _ _
 refine Qe fun K hK => Zw rfl rfl rfl (Qa rfl ?_)
 refine hK _ _ (Qb (kp2 rfl rfl) ?_)
 refine QG ?_ -- 0
 refine Qe fun K hK => Qa rfl ?_
 first | refine QU rfl Q1 ?_ | refine QU rfl rfl ?_
 refine Qa rfl ?_
 refine hK _ _ (Qb (kp5 rfl rfl rfl rfl rfl) ?_)
 refine QE ?_
 refine Zv (ι := Nat) (fun i => ⟨[(1, Zz l), (2, .ref 2 0 0), (7, Zz l), (8, .int .i64 l.length), (9, .int .i64 i)], [(2, ⟨[[.sl ((w).map YS)]], 1, 26, true⟩)]⟩) (fun i => i <= l.length /\ (List.range i).all (Qiu w l) = true) (fun i => l.length - i) 0 ?_ ?_ ?_
 ·exact Zc (l := [1, 2, 7, 8, 9]) (lH := [2]) (kp5 rfl rfl rfl rfl rfl) (Qf rfl Qr) rfl rfl rfl
 ·exact ⟨Nat.zero_le _, rfl⟩
 intro i hI
 try dsimp only
 refine Qe fun K hK => Yj rfl rfl ?_
 refine hK _ _ (Qb (kp6 rfl rfl rfl rfl rfl rfl) ?_)
 refine QG ?_ -- 1
 refine Qw rfl (fun h1 => ?_) (fun h1 => ?_)
 ·try rw [h1]
  try simp only [qa, qb, qc, qd, qe, List.length_map] at h1
  refine Qv (Qd (kp5 rfl rfl rfl rfl rfl) ?_)
  refine QG ?_ -- 2
  refine QE (Qe fun K hK => Qa rfl (QJ rfl rfl rfl (by omega) (QS (by omega)) rfl (QD (cs := [_, _, _, _]) rfl rfl rfl rfl (ZC rfl (Qa rfl (Q5 rfl rfl rfl rfl rfl rfl rfl rfl ?_))))))
  refine hK _ _ (Qb (kp7 rfl rfl rfl rfl rfl rfl rfl) ?_)
  refine Qe fun K hK => QO (ds0 := [1, 0]) (cs := [_]) rfl rfl rfl rfl rfl rfl (Qa rfl (Qa rfl (Qa rfl (Qkf rfl rfl rfl rfl rfl (by omega) (by omega) (by simp; omega) QlB (QlF) (QO (ds0 := [1, 0]) (cs := [_, _, _, _]) rfl rfl rfl rfl rfl rfl (QY (ds0 := [0]) (Qil (l := l.take i) hw (by have := List.length_take_le' i l; omega) (hm _ (List.getElem_mem (show i < l.length by omega)))) rfl rfl (.inr rfl) rfl rfl (Yb rfl ?_)))))))
  refine hK _ _ (Qb (kp6 rfl rfl rfl rfl rfl rfl) ?_)
  refine Qw rfl (fun h2 => ?_) (fun h2 => ?_)
  ·try rw [h2]
   try simp only [qa, qb, qc, qd, qe, List.length_map] at h2
   refine Qe fun K hK => Qa rfl ?_
   refine hK _ _ (Qb (kp1 rfl) ?_)
   refine Qu (Qt (Qj (Q4 (Qt (Qj (Qq rfl ?_))))))
   rw [<- QkM hm, Qn5, Qby (i := i) (by omega) (by rw [Qfz (by omega)]; exact h2)]
  ·try rw [h2]
   try simp only [qa, qb, qc, qd, qe, List.length_map] at h2
   refine Qv (Qi (Qd (kp5 rfl rfl rfl rfl rfl) (QP fun K hK => Q6 rfl rfl (by first | exact Qs (by omega) (by omega) | exact Zn (by omega) (by omega) | exact ZG (by omega) (by omega) | rfl) (Qa rfl (hK _ ?_)))))
   refine Ql (i + 1) ?_ ?_ ?_
   ·exact Zc (l := [1, 2, 7, 8, 9]) (lH := [2]) (kp5 rfl rfl rfl rfl rfl) (Qf rfl Qr) rfl rfl rfl
   ·exact ⟨by omega, QhU hI.2 (by rw [Qfz (by omega)]; exact h2)⟩
   ·first | omega | (simp only; omega) | (dsimp only; omega)
 ·try rw [h1]
  try simp only [qa, qb, qc, qd, qe, List.length_map] at h1
  refine Zo (QN (QB (QI (Qd (Q2) (Qe fun K hK => Qa rfl ?_)))))
  refine hK _ _ (Qb (kp1 rfl) ?_)
  refine Qu (Qq rfl ?_)
  rw [<- QkM hm, Qn5, Qe9 hI.2 (by omega)]
theorem Qgj {w : Qp} (hw : WSm w) {l : List QL} (hl : l.length <= 10000000) (hp : QbI w l) {u p : Int} : Ok Tryz.prog 33 [Z8 w, Zz l, .int .i64 u, .int .i64 p] (dOS (YG w l u p)) := by
 refine Ok.ofT ZX Tryz.func33 Qsi (Nat.le_of_ble_eq_true rfl) ?_
 show TW _ _ tf33.body _ _
 refine Qe fun K hK => Zw rfl rfl rfl (Qa rfl (Qa rfl ?_))
 refine hK _ _ (Qb (kp4 rfl rfl rfl rfl) ?_)
 refine QG ?_ -- 0
 refine Qe fun K hK => QD (cs := [_]) rfl rfl rfl rfl (Qa rfl (QC (Qam hw) rfl rfl (.inr rfl) (Zy rfl rfl (Qa rfl ?_))))
 refine Qy (g := 15) rfl (fun h1 => ?_) (fun h1 => ?_)
 ·try rw [h1]
  try simp only [qa, qb, qc, qd, qe, List.length_map] at h1
  refine Qo rfl (Qo rfl (Qk rfl rfl (Qa rfl (Qo rfl (Qo rfl (Qo rfl (Qo rfl (Qo rfl (Qo rfl (Qo rfl (Qo rfl ?_)))))))))))
  refine Qo rfl (Qk rfl rfl ?_)
  refine hK _ _ (Qb (kp5 rfl rfl rfl rfl rfl) ?_)
  refine Zp rfl (Qe fun K hK => Qa rfl (Qa rfl ?_))
  refine hK _ _ (Qb (kp2 rfl rfl) ?_)
  refine Qu (Qj ?_)
  rw [<- Qa0 hw.cs hp, QnG h1]
  exact QT rfl rfl ⟨rfl, rfl⟩
 ·try rw [h1]
  try simp only [qa, qb, qc, qd, qe, List.length_map] at h1
  obtain ⟨hin, h1a, h1b⟩ := Qpu h1; have hcs := hw.cs _ (List.getElem_mem (show u.toNat < w.length by omega))
  refine Qg rfl (Qa rfl (Qg rfl (Yj rfl rfl (Qk rfl rfl (Qa rfl ?_)))))
  refine Qy (g := 19) rfl (fun h2 => ?_) (fun h2 => ?_)
  ·try rw [h2]
   try simp only [qa, qb, qc, qd, qe, List.length_map] at h2
   refine Qo rfl (Qo rfl (Qo rfl (Qo rfl (Qo rfl (Qo rfl (Qo rfl (Qo rfl (Qo rfl (Qk rfl rfl ?_)))))))))
   refine hK _ _ (Qb (kp5 rfl rfl rfl rfl rfl) ?_)
   refine Zp rfl (Qe fun K hK => Qa rfl (Qa rfl ?_))
   refine hK _ _ (Qb (kp2 rfl rfl) ?_)
   refine Qu (Qj ?_)
   rw [<- Qa0 hw.cs hp, QnF h2]
   exact QT rfl rfl ⟨rfl, rfl⟩
  ·try rw [h2]
   try simp only [qa, qb, qc, qd, qe, List.length_map] at h2
   refine Qg rfl (Qa rfl (Qg rfl (Qh rfl rfl (Qg rfl (Qz rfl rfl rfl (Qg rfl (Qa rfl (Qg rfl (QJ rfl rfl rfl (by omega) (ZM (by omega) (by omega)) rfl (Qg rfl (Q7 rfl rfl ?_)))))))))))
   refine Qg rfl (Qz rfl rfl rfl (Qg rfl ?_))
   first | refine QU rfl Q1 ?_ | refine QU rfl rfl ?_
   refine Qg rfl (Qfg rfl rfl (Qk rfl rfl ?_))
   refine hK _ _ (Qb (kp5 rfl rfl rfl rfl rfl) ?_)
   refine Qw rfl (fun h3 => ?_) (fun h3 => ?_)
   ·try rw [h3]
    try simp only [qa, qb, qc, qd, qe, List.length_map] at h3
    refine Qe fun K hK => Qa rfl (Qa rfl ?_)
    refine hK _ _ (Qb (kp2 rfl rfl) ?_)
    refine Qu (Qj ?_)
    rw [<- Qa0 hw.cs hp, QnE h1a h1b h3]
    exact QT rfl rfl ⟨rfl, rfl⟩
   ·try rw [h3]
    try simp only [qa, qb, qc, qd, qe, List.length_map] at h3
    refine Qv (Qd (kp4 rfl rfl rfl rfl) (Qe fun K hK => Qa rfl (Q6 rfl rfl (by first | exact Qs (by omega) (by omega) | exact Zn (by omega) (by omega) | exact ZG (by omega) (by omega) | rfl) (Qnu rfl rfl (by omega) (Qjj (by omega)) (Qa rfl ?_)))))
    refine hK _ _ (Qb (kp4 rfl rfl rfl rfl) ?_)
    refine QG ?_ -- 1
    refine Qe fun K hK => QD (cs := [_]) rfl rfl rfl rfl (Qa rfl (Qa rfl (QC (Qb1 hw hl) rfl rfl (.inr rfl) (Qa rfl (QbQ rfl rfl (Zy rfl rfl (Qa rfl ?_)))))))
    refine Qy (g := 40) rfl (fun h4 => ?_) (fun h4 => ?_)
    ·try rw [h4]
     try simp only [qa, qb, qc, qd, qe, List.length_map] at h4
     refine Qo rfl (Qo rfl (Qo rfl (Qk rfl rfl ?_)))
     refine hK _ _ (Qb (kp4 rfl rfl rfl rfl) ?_)
     refine Zp rfl (Qe fun K hK => Qa rfl (Qa rfl ?_))
     refine hK _ _ (Qb (kp2 rfl rfl) ?_)
     refine Qu (Qj ?_)
     rw [<- Qa0 hw.cs hp, Ql2 h1a h1b (by omega) (by omega) (.inl (by rw [<- Qqk hin]; exact h4))]
     exact QT rfl rfl ⟨rfl, rfl⟩
    ·try rw [h4]
     try simp only [qa, qb, qc, qd, qe, List.length_map] at h4
     refine Qg rfl (Qa rfl (Qg rfl (Qa rfl (Qg rfl (QC (Qb0 hl) rfl rfl (.inr rfl) (Qk rfl rfl ?_))))))
     refine hK _ _ (Qb (kp4 rfl rfl rfl rfl) ?_)
     refine Qw rfl (fun h5 => ?_) (fun h5 => ?_)
     ·try rw [h5]
      try simp only [qa, qb, qc, qd, qe, List.length_map] at h5
      refine Qe fun K hK => Qa rfl (Qa rfl ?_)
      refine hK _ _ (Qb (kp2 rfl rfl) ?_)
      refine Qu (Qj ?_)
      rw [<- Qa0 hw.cs hp, Ql2 h1a h1b (by omega) (by omega) (.inr h5)]
      exact QT rfl rfl ⟨rfl, rfl⟩
     ·try rw [h5]
      try simp only [qa, qb, qc, qd, qe, List.length_map] at h5
      refine Qv (Qd (kp3 rfl rfl rfl) (Qe fun K hK => Qa rfl (Qa rfl (Qa rfl (Qa rfl (QC (YR hl) rfl rfl (.inr rfl) (Q6 rfl rfl rfl (QR rfl rfl (QC (Qgv (s := ⟨u, 2 ^ (p + 1).toNat, IntKind.i64.wrap (Ym l + 1), -1⟩) hl) rfl rfl (.inl rfl) (Qa rfl ?_))))))))))
      refine Qa rfl ?_
      refine hK _ _ (Qb (kp2 rfl rfl) ?_)
      refine Qu ?_
      rw [<- Qa0 hw.cs hp, QnH h1a h1b (by omega) (by omega) (by rw [<- Qqk hin]; exact h4) h5]
      exact QT rfl rfl ⟨rfl, rfl⟩
end Go.Proofs
namespace M25
open Go Go.Abs M3
/-! ### When, Qjm by Qjm -/
theorem QeA {i : Nat} (h : (0 : Int) < i) : ((i : Int) - 1).toNat = i - 1 := by omega
theorem QkQ {w : Qp} {l : List QL} {inc : List TermT} {i k : Nat} (hm : Xq w l = true) (h0 : (0 : Int) < i) (hi : i <= l.length) (hk : k < inc.length) (hkl : k < (QbP w l inc i k).length)
  (hu : (l[((i : Int) - 1).toNat]'(by omega)).u = inc[k].u) (hz : ¬ (QbP w l inc i k)[k] = 0) : QbP w l inc i (k + 1) = (QbP w l inc i k).set k (l[((i : Int) - 1).toNat]'(by omega)).m := by
 rw [QmM hk, QfN (by omega) hi, if_pos]
 ·simp only [QeA h0]
 ·refine ⟨by simpa only [QeA h0] using hu, ?_⟩
  rw [QjN hk hkl] at hz
  cases e : inW w inc[k].u
  ·exact absurd ((Qno hm).2 e) hz
  ·rfl
theorem QkR {w : Qp} {l : List QL} {inc : List TermT} {i k : Nat} (hm : Xq w l = true) (h0 : (0 : Int) < i) (hi : i <= l.length) (hk : k < inc.length) (hkl : k < (QbP w l inc i k).length) (hz : (QbP w l inc i k)[k] = 0) : QbP w l inc i (k + 1) = QbP w l inc i k := by
 refine Qf0 hk ?_
 rw [QjN hk hkl] at hz
 have e := (Qno hm).1 hz
 rw [QfN (by omega) hi, if_neg (by rw [e]; simp)]
theorem QiP {w : Qp} {l : List QL} {inc : List TermT} {i k : Nat} (h0 : (0 : Int) < i) (hi : i <= l.length) (hk : k < inc.length) (hu : ¬ (l[((i : Int) - 1).toNat]'(by omega)).u = inc[k].u) : QbP w l inc i (k + 1) = QbP w l inc i k := by
 refine Qf0 hk ?_
 rw [QfN (by omega) hi, if_neg]
 intro h
 exact hu (by simpa only [QeA h0] using h.1)
theorem QgV {w : Qp} {l : List QL} {inc : List TermT} {i k : Nat} (h0 : ¬ (0 : Int) < i) (hk : k < inc.length) : QbP w l inc i (k + 1) = QbP w l inc i k := by
 have : i = 0 := by omega
 subst this
 exact Qf0 hk rfl
theorem Qn9 {w : Qp} {l : List QL} {inc : List TermT} {i k : Nat} (hk : k < inc.length) (hkl : k < (QbP w l inc i (k + 1)).length) : (QbP w l inc i (k + 1))[k] = Q9 w (l.take i) inc[k].u := by
 simp only [QbP]
 rw [List.getElem_append_left (by simp [Yl]; omega)]
 simp [QaB]
def Qgp (w : Qp) (l : List QL) (inc : List TermT) (i k : Nat) : Bool := Qdd w (l.take i) (inc.take k)
theorem Qou {w : Qp} {l : List QL} {inc : List TermT} {i k : Nat} (hm : Xq w l = true) (hk : k < inc.length) (hkl : k < (QbP w l inc i (k + 1)).length) (h : Qgp w l inc i k = true) : Qgp w l inc i (k + 1) = decide (Qde (QbP w l inc i (k + 1))[k] inc[k].m = 2) := by
 rw [Qn9 hk hkl, Qow (Qbq (Qa4 _ _ rfl (QjM i hm)) _).i64]
 unfold Qgp Qdd at *
 rw [List.take_succ_eq_append_getElem hk, List.all_append, h]
 simp
theorem Qot {w : Qp} {l : List QL} {inc : List TermT} {i k : Nat} (hk : k < inc.length) (h : Qgp w l inc i k = false) : Qgp w l inc i (k + 1) = false := by
 unfold Qgp Qdd at *
 rw [List.take_succ_eq_append_getElem hk, List.all_append, h]
 simp
theorem Qjd {w : Qp} {l : List QL} {inc : List TermT} {i k : Nat} (hk : inc.length <= k) : Qgp w l inc i k = Qdd w (l.take i) inc := by
 rw [Qgp, List.take_of_length_le hk]
/-! ### The QeR world -/
def Qac : Qp := [⟨[], [], [⟨⟨0, 0, 0, [], []⟩, -1, [], []⟩]⟩, ⟨[97, 110, 116], [], [⟨versions.head (by decide), 0, [], []⟩, ⟨versions[1]'(by decide), 0, [], []⟩]⟩]
theorem Qa9 : WSm Qac := by
 refine ⟨by decide, ?_, ?_, ?_, ?_, ?_, ?_⟩ <;> intro u hu <;> simp only [Qac, List.mem_cons, List.not_mem_nil, or_false] at hu <;> rcases hu with rfl | rfl
 all_goals first | decide | (intro c hc; simp only [List.mem_cons, List.not_mem_nil, or_false] at hc; rcases hc with rfl | rfl <;> first | (constructor <;> decide) | decide | skip) | (intro c hc; simp only [List.mem_cons, List.not_mem_nil, or_false] at hc; subst hc; first | (constructor <;> decide) | decide | skip)
 all_goals (intro x hx; simp only [List.mem_cons, List.not_mem_nil, or_false] at hx; done)
theorem Qj1 : ZJ Qac [] ⟨1, 1⟩ 4 = some [⟨1, 6, 0, 4⟩] := by decide +kernel
theorem Qj0 : YG Qac [⟨1, 6, 0, 4⟩] 1 1 = some [⟨1, 6, 0, 4⟩, ⟨1, 4, 1, -1⟩] := by decide +kernel
theorem Qgb : Xq Qac [⟨1, 6, 0, 4⟩, ⟨1, 4, 1, -1⟩] = true := by decide +kernel
theorem Qi9 : Q9 Qac [⟨1, 6, 0, 4⟩, ⟨1, 4, 1, -1⟩] 1 = 4 := by decide +kernel
theorem Qja : QhQ Qac [⟨1, 6, 0, 4⟩, ⟨1, 4, 1, -1⟩] [⟨1, 4⟩] = 2 := by decide +kernel
theorem QhY : QbI Qac [⟨1, 6, 0, 4⟩] := by
 intro s hs
 simp only [List.mem_cons, List.not_mem_nil, or_false] at hs
 subst hs
 constructor <;> decide
end M25
