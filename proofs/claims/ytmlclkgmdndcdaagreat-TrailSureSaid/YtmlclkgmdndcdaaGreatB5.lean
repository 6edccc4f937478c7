/- Part 5 of the means of the proof: a verified abstract evaluator, the prepared functions, and contracts of functions. It states nothing of the claim by itself. -/
import Derived.Test.YtmlclkgmdndcdaaGreatB4
set_option linter.unusedSimpArgs false
set_option linter.unusedVariables false
namespace Go.Proofs
open Go Go.Abs M3 M25
set_option linter.unusedVariables false
set_option linter.unusedSimpArgs false
theorem Z4 {w : Qm} (hw : WSm w) {l : List QK} (hl : l.length <= 10000000) {u : Int} : Ok Tryz.prog 14 [ZP w, Zs l, .int .i64 u] (.int .i64 (Q8 w l u)) := by
 refine Ok.ofT ZQ Tryz.func14 Qs3 (Nat.le_of_ble_eq_true rfl) ?_
 show TW _ _ tf14.body _ _
 refine Qe fun K hK => Zo rfl rfl rfl (Qa rfl ?_)
 refine hK _ _ (Qb (kp3 rfl rfl rfl) ?_)
 refine QD ?_ -- 0
 refine Qe fun K hK => Qa rfl ?_
 first | refine QR rfl QX ?_ | refine QR rfl rfl ?_
 refine X2 rfl rfl (by first | exact Qr (by omega) (by omega) | rfl) (Qa rfl ?_)
 refine hK _ _ (Qb (kp4 rfl rfl rfl rfl) ?_)
 refine Qz ?_
 refine Zm (ι := Nat) (fun i => ⟨[(1, Zs l), (2, .int .i64 u), (3, .ref 3 0 0), (7, .int .i64 ((i : Int) - 1))], [(3, ⟨[[.sl ((w).map Ym)]], 1, 26, true⟩)]⟩) (fun i => i <= l.length /\ Q8 w l u = Q8 w (l.take i) u) (fun i => i) l.length ?_ ?_ ?_
 ·exact Q2 (l := [1, 2, 3, 7]) (lH := [3]) (kp4 rfl rfl rfl rfl) (Qf rfl Qn) rfl rfl rfl
 ·exact ⟨Nat.le_refl _, by rw [List.take_length]⟩
 intro i hI
 try dsimp only
 refine QD ?_ -- 1
 refine Qe fun K hK => Qa rfl (Qdx rfl rfl ?_)
 refine hK _ _ (Qb (kp5 rfl rfl rfl rfl rfl) ?_)
 refine Qw rfl (fun h1 => ?_) (fun h1 => ?_)
 ·try rw [h1]
  try simp only [qa, qb, qc, qd, qe, List.length_map] at h1
  refine Qv (Qd (kp4 rfl rfl rfl rfl) ?_)
  refine QD ?_ -- 2
  refine Qz (Qe fun K hK => Qa rfl (Qa rfl (QJ rfl rfl rfl (by omega) (ZA (by omega) (by omega)) rfl (Q6 rfl rfl (QC rfl rfl rfl (Qa rfl (ZI rfl rfl (Qa rfl ?_))))))))
  refine QB (g := 22) rfl (fun h2 => ?_) (fun h2 => ?_)
  ·try rw [h2]
   try simp only [qa, qb, qc, qd, qe, List.length_map] at h2
   refine Qg rfl (Qa rfl (Qg rfl (Qdx rfl rfl (Ql rfl rfl (Qa rfl ?_)))))
   refine QB (g := 26) rfl (fun h3 => ?_) (fun h3 => ?_)
   ·try rw [h3]
    try simp only [qa, qb, qc, qd, qe, List.length_map] at h3
    refine Qg rfl (Qa rfl (Qg rfl (Qi rfl rfl (Qg rfl (QC rfl rfl rfl (Qg rfl ?_))))))
    first | refine QR rfl QX ?_ | refine QR rfl rfl ?_
    refine Qg rfl (Yb rfl rfl (Ql rfl rfl ?_))
    refine hK _ _ (Qb (kp5 rfl rfl rfl rfl rfl) ?_)
    refine Qw rfl (fun h4 => ?_) (fun h4 => ?_)
    ·try rw [h4]
     try simp only [qa, qb, qc, qd, qe, List.length_map] at h4
     refine Qe fun K hK => Qa rfl (Qa rfl (QJ rfl rfl rfl (by omega) (ZA (by omega) (by omega)) rfl (Q6 rfl rfl (QC rfl rfl rfl (Qa rfl ?_)))))
     refine hK _ _ (Qb (kp1 rfl) ?_)
     refine Qu (Qt (Qj (Q4 (Qt (Qj (Qy rfl ?_))))))
     rw [hI.2, QoC (k := ((i : Int) - 1).toNat) (by omega) (by omega) h2 (QdV (by omega) (by omega))]
    ·try rw [h4]
     try simp only [qa, qb, qc, qd, qe, List.length_map] at h4
     refine Qv (Qh (Qd (kp4 rfl rfl rfl rfl) (QN fun K hK => Qa rfl (X2 rfl rfl (by first | exact Qr (by omega) (by omega) | rfl) (Qa rfl (hK _ ?_))))))
     refine Qk (i - 1) ?_ ?_ ?_
     ·exact Q2 (l := [1, 2, 3, 7]) (lH := [3]) (kp4 rfl rfl rfl rfl) (Qf rfl Qn) (by simp only [List.cons.injEq, Prod.mk.injEq, D.int.injEq, and_true, true_and]; omega) rfl rfl
     ·exact ⟨by omega, by rw [hI.2, Qf3 (k := ((i : Int) - 1).toNat) (by omega) (by omega) (by first | exact .inl h2 | exact .inr (.inl h3) | exact .inr (.inr h4))]⟩
     ·first | omega | (simp only; omega) | (dsimp only; omega)
   ·try rw [h3]
    try simp only [qa, qb, qc, qd, qe, List.length_map] at h3
    refine Qq rfl (Qq rfl (Qq rfl (Qq rfl (Qq rfl (Ql rfl rfl ?_)))))
    refine hK _ _ (Qb (kp5 rfl rfl rfl rfl rfl) ?_)
    refine ZM rfl (Qv (Qh (Qd (kp4 rfl rfl rfl rfl) (QN fun K hK => Qa rfl (X2 rfl rfl (by first | exact Qr (by omega) (by omega) | rfl) (Qa rfl (hK _ ?_)))))))
    refine Qk (i - 1) ?_ ?_ ?_
    ·exact Q2 (l := [1, 2, 3, 7]) (lH := [3]) (kp4 rfl rfl rfl rfl) (Qf rfl Qn) (by simp only [List.cons.injEq, Prod.mk.injEq, D.int.injEq, and_true, true_and]; omega) rfl rfl
    ·exact ⟨by omega, by rw [hI.2, Qf3 (k := ((i : Int) - 1).toNat) (by omega) (by omega) (by first | exact .inl h2 | exact .inr (.inl h3) | exact .inr (.inr h4))]⟩
    ·first | omega | (simp only; omega) | (dsimp only; omega)
  ·try rw [h2]
   try simp only [qa, qb, qc, qd, qe, List.length_map] at h2
   refine Qq rfl (Qq rfl (Ql rfl rfl (Qa rfl (Qq rfl (Qq rfl (Qq rfl (Qq rfl (Qq rfl (Ql rfl rfl ?_)))))))))
   refine hK _ _ (Qb (kp5 rfl rfl rfl rfl rfl) ?_)
   refine ZM rfl (Qv (Qh (Qd (kp4 rfl rfl rfl rfl) (QN fun K hK => Qa rfl (X2 rfl rfl (by first | exact Qr (by omega) (by omega) | rfl) (Qa rfl (hK _ ?_)))))))
   refine Qk (i - 1) ?_ ?_ ?_
   ·exact Q2 (l := [1, 2, 3, 7]) (lH := [3]) (kp4 rfl rfl rfl rfl) (Qf rfl Qn) (by simp only [List.cons.injEq, Prod.mk.injEq, D.int.injEq, and_true, true_and]; omega) rfl rfl
   ·exact ⟨by omega, by rw [hI.2, Qf3 (k := ((i : Int) - 1).toNat) (by omega) (by omega) (by first | exact .inl h2 | exact .inr (.inl h3) | exact .inr (.inr h4))]⟩
   ·first | omega | (simp only; omega) | (dsimp only; omega)
 ·try rw [h1]
  try simp only [qa, qb, qc, qd, qe, List.length_map] at h1
  refine Zh (QL (Qx (QE (Qd (kp2 rfl rfl) (Qe fun K hK => QG (cs := [_]) rfl rfl rfl rfl (Qa rfl (QF (ZD hw) rfl rfl (.inr rfl) (Qa rfl ?_))))))))
  refine hK _ _ (Qb (kp1 rfl) ?_)
  refine Qu (Qy rfl ?_)
  rw [hI.2, show i = 0 by omega]; rfl
theorem Yh {l : List QK} (hl : l.length <= 10000000) : Ok Tryz.prog 27 [Zs l] (.int .i64 (YZ l)) := by
 refine Ok.ofT ZQ Tryz.func27 Qtf (Nat.le_of_ble_eq_true rfl) ?_
 show TW _ _ tf27.body _ _
 refine Qe fun K hK => Qa rfl ?_
 refine hK _ _ (Qb (kp1 rfl) ?_)
 refine QD ?_ -- 0
 refine Qe fun K hK => Qa rfl ?_
 first | refine QR rfl QX ?_ | refine QR rfl rfl ?_
 refine ZI rfl rfl ?_
 refine hK _ _ (Qb (kp2 rfl rfl) ?_)
 refine Qw rfl (fun h1 => ?_) (fun h1 => ?_)
 ·try rw [h1]
  try simp only [qa, qb, qc, qd, qe, List.length_map] at h1
  refine Qe fun K hK => Qa rfl ?_
  refine hK _ _ (Qb (kp1 rfl) ?_)
  refine Qu (Qj (Qy rfl ?_))
  rw [Qi1 h1]
 ·try rw [h1]
  try simp only [qa, qb, qc, qd, qe, List.length_map] at h1
  refine Qv (Qd (kp1 rfl) (Qe fun K hK => Qa rfl (Qa rfl ?_)))
  first | refine QR rfl QX ?_ | refine QR rfl rfl ?_
  refine X2 rfl rfl (by first | exact Qr (by omega) (by omega) | rfl) (QJ rfl rfl rfl (by omega) (ZA (by omega) (by omega)) rfl (Q6 rfl rfl (QC rfl rfl rfl (Qa rfl ?_))))
  refine hK _ _ (Qb (kp1 rfl) ?_)
  refine Qu (Qy rfl ?_)
  rw [Qk2 (k := ((l.length : Int) - 1).toNat) (by omega)]
theorem Qbs {l : List QK} (hl : l.length <= 10000000) {u : Int} : Ok Tryz.prog 88 [Zs l, .int .i64 u] (.bool (Xt l u)) := by
 refine Ok.ofT ZQ Tryz.func88 Qt4 (Nat.le_of_ble_eq_true rfl) ?_
 show TW _ _ tf88.body _ _
 refine Qe fun K hK => Qa rfl ?_
 refine hK _ _ (Qb (kp2 rfl rfl) ?_)
 refine QD ?_ -- 0
 refine Qe fun K hK => Qa rfl ?_
 refine hK _ _ (Qb (kp3 rfl rfl rfl) ?_)
 refine Qz ?_
 refine Zm (ι := Nat) (fun i => ⟨[(0, Zs l), (1, .int .i64 u), (5, .int .i64 i)], []⟩) (fun i => i <= l.length /\ (l.take i).any (fun s => decide (s.u = u) && decide (s.c = -1)) = false) (fun i => l.length - i) 0 ?_ ?_ ?_
 ·exact Zf (kp3 rfl rfl rfl)
 ·exact ⟨Nat.zero_le _, by simp⟩
 intro i hI
 try dsimp only
 refine QD ?_ -- 1
 refine Qe fun K hK => Qa rfl (Qa rfl ?_)
 first | refine QR rfl QX ?_ | refine QR rfl rfl ?_
 refine Yb rfl rfl ?_
 refine hK _ _ (Qb (kp4 rfl rfl rfl rfl) ?_)
 refine Qw rfl (fun h1 => ?_) (fun h1 => ?_)
 ·try rw [h1]
  try simp only [qa, qb, qc, qd, qe, List.length_map] at h1
  refine Qv (Qd (kp3 rfl rfl rfl) ?_)
  refine QD ?_ -- 2
  refine Qz (Qe fun K hK => Qa rfl (Qa rfl (QJ rfl rfl rfl (by omega) (QT (by omega)) rfl (Q6 rfl rfl (QC rfl rfl rfl (Qa rfl (ZI rfl rfl (Qa rfl ?_))))))))
  refine QB (g := 19) rfl (fun h2 => ?_) (fun h2 => ?_)
  ·try rw [h2]
   try simp only [qa, qb, qc, qd, qe, List.length_map] at h2
   refine Qg rfl (Qa rfl (Qg rfl (Qa rfl (Qg rfl (QJ rfl rfl rfl (by omega) (QT (by omega)) rfl (Qg rfl (Q6 rfl rfl (Qg rfl (QC rfl rfl rfl (Qg rfl (ZI rfl rfl ?_)))))))))))
   refine Ql rfl rfl ?_
   refine hK _ _ (Qb (kp4 rfl rfl rfl rfl) ?_)
   refine Qw rfl (fun h3 => ?_) (fun h3 => ?_)
   ·try rw [h3]
    try simp only [qa, qb, qc, qd, qe, List.length_map] at h3
    refine Qe fun K hK => Qa rfl ?_
    refine hK _ _ (Qb (kp1 rfl) ?_)
    refine Qu (Qt (Qj (Q4 (Qt (Qj (Qs rfl ?_))))))
    rw [Xt, Qhw (i := i) (by omega) (by simp [h2, h3])]
   ·try rw [h3]
    try simp only [qa, qb, qc, qd, qe, List.length_map] at h3
    refine Qv (Qh (Qd (kp3 rfl rfl rfl) (QN fun K hK => Qa rfl (QY rfl rfl (by first | exact Qr (by omega) (by omega) | rfl) (Qa rfl (hK _ ?_))))))
    refine Qk (i + 1) ?_ ?_ ?_
    ·exact Zf (kp3 rfl rfl rfl)
    ·exact ⟨by omega, QfD (by omega) hI.2 (by first | (simp [h2, h3]; done) | (simp [h2]; done))⟩
    ·first | omega | (simp only; omega) | (dsimp only; omega)
  ·try rw [h2]
   try simp only [qa, qb, qc, qd, qe, List.length_map] at h2
   refine Qq rfl (Qq rfl (Qq rfl (Qq rfl (Qq rfl (Qq rfl (Ql rfl rfl ?_))))))
   refine hK _ _ (Qb (kp4 rfl rfl rfl rfl) ?_)
   refine ZM rfl (Qv (Qh (Qd (kp3 rfl rfl rfl) (QN fun K hK => Qa rfl (QY rfl rfl (by first | exact Qr (by omega) (by omega) | rfl) (Qa rfl (hK _ ?_)))))))
   refine Qk (i + 1) ?_ ?_ ?_
   ·exact Zf (kp3 rfl rfl rfl)
   ·exact ⟨by omega, QfD (by omega) hI.2 (by first | (simp [h2, h3]; done) | (simp [h2]; done))⟩
   ·first | omega | (simp only; omega) | (dsimp only; omega)
 ·try rw [h1]
  try simp only [qa, qb, qc, qd, qe, List.length_map] at h1
  refine Zh (QL (Qx (QE (Qd (Q0) (Qe fun K hK => Qa rfl ?_)))))
  refine hK _ _ (Qb (kp1 rfl) ?_)
  refine Qu (Qs rfl ?_)
  rw [Xt, Qmm (i := i) (by omega) hI.2]
theorem Qb9 {m : Int} : Ok Tryz.prog 59 [.int .i64 m] (.int .i64 (X3 m)) := by
 refine Ok.ofT ZQ Tryz.func59 QtE (Nat.le_of_ble_eq_true rfl) ?_
 show TW _ _ tf59.body _ _
 refine Qe fun K hK => Qa rfl ?_
 refine hK _ _ (Qb (kp1 rfl) ?_)
 refine Qe fun K hK => Qa rfl (QF (X5) rfl rfl (.inl rfl) (Qa rfl ?_))
 refine hK _ _ (Qb (kp1 rfl) ?_)
 refine QD ?_ -- 0
 refine Qe fun K hK => Qa rfl ?_
 first | refine QR rfl QX ?_ | refine QR rfl rfl ?_
 refine XJ rfl rfl ?_
 refine hK _ _ (Qb (kp2 rfl rfl) ?_)
 refine Qw rfl (fun h1 => ?_) (fun h1 => ?_)
 ·try rw [h1]
  try simp only [qa, qb, qc, qd, qe, List.length_map] at h1
  refine Qe fun K hK => Qa rfl ?_
  refine hK _ _ (Qb (kp1 rfl) ?_)
  refine Qu (Qj (Qy rfl ?_))
  rw [QoT h1]
 ·try rw [h1]
  try simp only [qa, qb, qc, qd, qe, List.length_map] at h1
  refine Qv (Qd (kp1 rfl) (Qe fun K hK => Qa rfl (QJ rfl rfl rfl (by omega) (ZA (by omega) (by omega)) rfl (QC rfl rfl rfl (Qa rfl ?_)))))
  refine hK _ _ (Qb (kp1 rfl) ?_)
  refine Qu (Qy rfl ?_)
  rw [Qnt h1]
theorem Qc4 {w : Qm} (hw : WSm w) {l : List QK} (hl : l.length <= 10000000) {s : QK} : Ok Tryz.prog 62 [ZP w, Zs l, .agg (QfL s)] (.bool (Qbh w l s)) := by
 refine Ok.ofT ZQ Tryz.func62 QtH (Nat.le_of_ble_eq_true rfl) ?_
 show TW _ _ tf62.body _ _
 refine Qe fun K hK => Zo rfl rfl rfl (Zo rfl rfl rfl (Qa rfl ?_))
 refine hK _ _ (Qb (kp3 rfl rfl rfl) ?_)
 refine QD ?_ -- 0
 refine Qe fun K hK => Qi rfl rfl (QC rfl rfl rfl (Yb rfl rfl (Qa rfl ?_)))
 refine QB (g := 11) rfl (fun h1 => ?_) (fun h1 => ?_)
 ·try rw [h1]
  try simp only [qa, qb, qc, qd, qe, List.length_map] at h1
  refine Qq rfl (Qq rfl (Qq rfl (Qq rfl (Qq rfl (Qq rfl (Ql rfl rfl (Qa rfl (Qq rfl (Qq rfl (Qq rfl (Ql rfl rfl ?_)))))))))))
  refine hK _ _ (Qb (kp4 rfl rfl rfl rfl) ?_)
  refine Zl rfl (Qe fun K hK => Qa rfl ?_)
  refine hK _ _ (Qb (kp1 rfl) ?_)
  refine Qu (Qj (Qs rfl ?_))
  first | (rw [Xc (by omega)]; done) | (rw [Z1 (by omega) (by omega) (by omega)]; simp_all; done) | (rw [Z1 (by omega) (by omega) (by omega)]; simp_all; omega)
 ·try rw [h1]
  try simp only [qa, qb, qc, qd, qe, List.length_map] at h1
  refine Qg rfl (Qi rfl rfl (Qg rfl (QC rfl rfl rfl (Qg rfl (Qi rfl rfl (Qg rfl (QC rfl rfl rfl (Qg rfl ?_))))))))
  first | refine QR rfl QX ?_ | refine QR rfl rfl ?_
  refine Qg rfl (Qdx rfl rfl (Ql rfl rfl (Qa rfl ?_)))
  refine QB (g := 19) rfl (fun h2 => ?_) (fun h2 => ?_)
  ·try rw [h2]
   try simp only [qa, qb, qc, qd, qe, List.length_map] at h2
   refine Qq rfl (Qq rfl (Qq rfl (Ql rfl rfl ?_)))
   refine hK _ _ (Qb (kp4 rfl rfl rfl rfl) ?_)
   refine Zl rfl (Qe fun K hK => Qa rfl ?_)
   refine hK _ _ (Qb (kp1 rfl) ?_)
   refine Qu (Qj (Qs rfl ?_))
   first | (rw [Xc (by omega)]; done) | (rw [Z1 (by omega) (by omega) (by omega)]; simp_all; done) | (rw [Z1 (by omega) (by omega) (by omega)]; simp_all; omega)
  ·try rw [h2]
   try simp only [qa, qb, qc, qd, qe, List.length_map] at h2
   refine Qg rfl (Qi rfl rfl (Qg rfl (QC rfl rfl rfl (Qg rfl (Yb rfl rfl (Ql rfl rfl ?_))))))
   refine hK _ _ (Qb (kp4 rfl rfl rfl rfl) ?_)
   refine Qw rfl (fun h3 => ?_) (fun h3 => ?_)
   ·try rw [h3]
    try simp only [qa, qb, qc, qd, qe, List.length_map] at h3
    refine Qe fun K hK => Qa rfl ?_
    refine hK _ _ (Qb (kp1 rfl) ?_)
    refine Qu (Qj (Qs rfl ?_))
    first | (rw [Xc (by omega)]; done) | (rw [Z1 (by omega) (by omega) (by omega)]; simp_all; done) | (rw [Z1 (by omega) (by omega) (by omega)]; simp_all; omega)
   ·try rw [h3]
    try simp only [qa, qb, qc, qd, qe, List.length_map] at h3
    refine Qv (Qd (kp3 rfl rfl rfl) (Qe fun K hK => QG (cs := [_]) rfl rfl rfl rfl (Qa rfl (Qi rfl rfl (QC rfl rfl rfl (QF (Z4 hw hl) rfl rfl (.inr rfl) (Qa rfl ?_)))))))
    refine hK _ _ (Qb (kp3 rfl rfl rfl) ?_)
    refine QD ?_ -- 1
    refine Qe fun K hK => Qi rfl rfl (QC rfl rfl rfl (ZI rfl rfl ?_))
    refine hK _ _ (Qb (kp4 rfl rfl rfl rfl) ?_)
    refine Qw rfl (fun h4 => ?_) (fun h4 => ?_)
    ·try rw [h4]
     try simp only [qa, qb, qc, qd, qe, List.length_map] at h4
     refine Qe fun K hK => Qi rfl rfl (QP (ds0 := [26, 25, 24, 23, 22, 21, 20, 19, 18, 17, 16, 15, 14, 13, 12, 11, 10, 9, 8, 7, 6, 5, 4, 3, 2, 1, 0]) rfl rfl rfl rfl rfl (QS (ds0 := [25, 24, 23, 22, 21, 20, 19, 18, 17, 16, 15, 14, 13, 12, 11, 10, 9, 8, 7, 6, 5, 4, 3, 2, 1, 0]) (Qb9) rfl rfl (.inr rfl) rfl rfl (Qdx rfl rfl (Qa rfl ?_))))
     refine QB (g := 36) rfl (fun h5 => ?_) (fun h5 => ?_)
     ·try rw [h5]
      try simp only [qa, qb, qc, qd, qe, List.length_map] at h5
      refine Qg rfl (Qi rfl rfl (Qg rfl (QP (ds0 := [20, 17, 16, 15, 14, 13, 12, 11, 10, 9, 8, 7, 6, 5, 4, 3, 2, 1, 0]) rfl rfl rfl rfl rfl (Qg rfl (Qa rfl (Qg rfl (QcS rfl rfl (Qg rfl (Qi rfl rfl (Qg rfl (QP (ds0 := [17, 16, 15, 14, 13, 12, 11, 10, 9, 8, 7, 6, 5, 4, 3, 2, 1, 0]) rfl rfl rfl rfl rfl ?_)))))))))))
      refine Qg rfl (ZI rfl rfl (Ql rfl rfl (Qa rfl ?_)))
      refine QB (g := 45) rfl (fun h6 => ?_) (fun h6 => ?_)
      ·try rw [h6]
       try simp only [qa, qb, qc, qd, qe, List.length_map] at h6
       refine Qg rfl (Qa rfl (Qg rfl (Qi rfl rfl (Qg rfl (QP (ds0 := [11, 10, 9, 8, 7, 6, 5, 4, 3, 2, 1, 0]) rfl rfl rfl rfl rfl (Qg rfl (QS (ds0 := [10, 9, 8, 7, 6, 5, 4, 3, 2, 1, 0]) (Qbs hl) rfl rfl (.inr rfl) rfl rfl (Qg rfl (Ye rfl (Ql rfl rfl (Qa rfl ?_)))))))))))
       refine QB (g := 52) rfl (fun h7 => ?_) (fun h7 => ?_)
       ·try rw [h7]
        try simp only [qa, qb, qc, qd, qe, List.length_map] at h7
        refine Qg rfl (Qi rfl rfl (Qg rfl (QP (ds0 := [2, 1, 0]) rfl rfl rfl rfl rfl (Qg rfl (Qa rfl (Qg rfl (QS (ds0 := [3, 2, 1, 0]) (Yh hl) rfl rfl (.inr rfl) rfl rfl (Qg rfl (QY rfl rfl rfl (Qg rfl (ZI rfl rfl ?_)))))))))))
        refine Ql rfl rfl (Qa rfl ?_)
        refine hK _ _ (Qb (kp1 rfl) ?_)
        refine Qu (Qj (Qs rfl ?_))
        first | (rw [Xc (by omega)]; done) | (rw [Z1 (by omega) (by omega) (by omega)]; simp_all; done) | (rw [Z1 (by omega) (by omega) (by omega)]; simp_all; omega)
       ·try rw [h7]
        try simp only [qa, qb, qc, qd, qe, List.length_map] at h7
        refine Qq rfl (Qq rfl (Qq rfl (Qq rfl (Qq rfl (Qq rfl (Ql rfl rfl (Qa rfl ?_)))))))
        refine hK _ _ (Qb (kp1 rfl) ?_)
        refine Qu (Qj (Qs rfl ?_))
        first | (rw [Xc (by omega)]; done) | (rw [Z1 (by omega) (by omega) (by omega)]; simp_all; done) | (rw [Z1 (by omega) (by omega) (by omega)]; simp_all; omega)
      ·try rw [h6]
       try simp only [qa, qb, qc, qd, qe, List.length_map] at h6
       refine Qq rfl (Qq rfl (Qq rfl (Qq rfl (Qq rfl (Ql rfl rfl (Qa rfl (Qq rfl (Qq rfl (Qq rfl (Qq rfl (Qq rfl ?_)))))))))))
       refine Qq rfl (Ql rfl rfl (Qa rfl ?_))
       refine hK _ _ (Qb (kp1 rfl) ?_)
       refine Qu (Qj (Qs rfl ?_))
       first | (rw [Xc (by omega)]; done) | (rw [Z1 (by omega) (by omega) (by omega)]; simp_all; done) | (rw [Z1 (by omega) (by omega) (by omega)]; simp_all; omega)
     ·try rw [h5]
      try simp only [qa, qb, qc, qd, qe, List.length_map] at h5
      refine Qq rfl (Qq rfl (Qq rfl (Qq rfl (Qq rfl (Qq rfl (Qq rfl (Ql rfl rfl (Qa rfl (Qq rfl (Qq rfl (Qq rfl ?_)))))))))))
      refine Qq rfl (Qq rfl (Ql rfl rfl (Qa rfl (Qq rfl (Qq rfl (Qq rfl (Qq rfl (Qq rfl (Qq rfl (Ql rfl rfl (Qa rfl ?_)))))))))))
      refine hK _ _ (Qb (kp1 rfl) ?_)
      refine Qu (Qj (Qs rfl ?_))
      first | (rw [Xc (by omega)]; done) | (rw [Z1 (by omega) (by omega) (by omega)]; simp_all; done) | (rw [Z1 (by omega) (by omega) (by omega)]; simp_all; omega)
    ·try rw [h4]
     try simp only [qa, qb, qc, qd, qe, List.length_map] at h4
     refine Qv (Qd (kp3 rfl rfl rfl) (Qe fun K hK => Qi rfl rfl (QP (ds0 := [23, 22, 21, 20, 19, 18, 17, 16, 15, 14, 13, 12, 11, 10, 9, 8, 7, 6, 5, 4, 3, 2, 1, 0]) rfl rfl rfl rfl rfl (XJ rfl rfl (Qa rfl ?_)))))
     refine QB (g := 63) rfl (fun h8 => ?_) (fun h8 => ?_)
     ·try rw [h8]
      try simp only [qa, qb, qc, qd, qe, List.length_map] at h8
      refine Qg rfl (Qi rfl rfl (Qg rfl (QP (ds0 := [18, 15, 14, 13, 12, 11, 10, 9, 8, 7, 6, 5, 4, 3, 2, 1, 0]) rfl rfl rfl rfl rfl (Qg rfl (Qa rfl (Qg rfl (QcS rfl rfl (Qg rfl (Qi rfl rfl (Qg rfl (QP (ds0 := [15, 14, 13, 12, 11, 10, 9, 8, 7, 6, 5, 4, 3, 2, 1, 0]) rfl rfl rfl rfl rfl ?_)))))))))))
      refine Qg rfl (ZI rfl rfl (Ql rfl rfl (Qa rfl ?_)))
      refine QB (g := 72) rfl (fun h9 => ?_) (fun h9 => ?_)
      ·try rw [h9]
       try simp only [qa, qb, qc, qd, qe, List.length_map] at h9
       refine Qg rfl (Qi rfl rfl (Qg rfl (QP (ds0 := [9, 8, 7, 6, 5, 4, 3, 2, 1, 0]) rfl rfl rfl rfl rfl (Qg rfl (Qa rfl (Qg rfl (XJ rfl rfl (Ql rfl rfl (Qa rfl ?_)))))))))
       refine QB (g := 78) rfl (fun h10 => ?_) (fun h10 => ?_)
       ·try rw [h10]
        try simp only [qa, qb, qc, qd, qe, List.length_map] at h10
        refine Qg rfl (Qi rfl rfl (Qg rfl (QP (ds0 := [2, 1, 0]) rfl rfl rfl rfl rfl (Qg rfl (Qa rfl (Qg rfl (QS (ds0 := [2, 1, 0]) (Yh hl) rfl rfl (.inr rfl) rfl rfl (Qg rfl (ZI rfl rfl (Ql rfl rfl (Qa rfl ?_)))))))))))
        refine hK _ _ (Qb (kp1 rfl) ?_)
        refine Qu (Qs rfl ?_)
        first | (rw [Xc (by omega)]; done) | (rw [Z1 (by omega) (by omega) (by omega)]; simp_all; done) | (rw [Z1 (by omega) (by omega) (by omega)]; simp_all; omega)
       ·try rw [h10]
        try simp only [qa, qb, qc, qd, qe, List.length_map] at h10
        refine Qq rfl (Qq rfl (Qq rfl (Qq rfl (Qq rfl (Ql rfl rfl (Qa rfl ?_))))))
        refine hK _ _ (Qb (kp1 rfl) ?_)
        refine Qu (Qs rfl ?_)
        first | (rw [Xc (by omega)]; done) | (rw [Z1 (by omega) (by omega) (by omega)]; simp_all; done) | (rw [Z1 (by omega) (by omega) (by omega)]; simp_all; omega)
      ·try rw [h9]
       try simp only [qa, qb, qc, qd, qe, List.length_map] at h9
       refine Qq rfl (Qq rfl (Qq rfl (Qq rfl (Ql rfl rfl (Qa rfl (Qq rfl (Qq rfl (Qq rfl (Qq rfl (Qq rfl (Ql rfl rfl ?_)))))))))))
       refine Qa rfl ?_
       refine hK _ _ (Qb (kp1 rfl) ?_)
       refine Qu (Qs rfl ?_)
       first | (rw [Xc (by omega)]; done) | (rw [Z1 (by omega) (by omega) (by omega)]; simp_all; done) | (rw [Z1 (by omega) (by omega) (by omega)]; simp_all; omega)
     ·try rw [h8]
      try simp only [qa, qb, qc, qd, qe, List.length_map] at h8
      refine Qq rfl (Qq rfl (Qq rfl (Qq rfl (Qq rfl (Qq rfl (Qq rfl (Ql rfl rfl (Qa rfl (Qq rfl (Qq rfl (Qq rfl ?_)))))))))))
      refine Qq rfl (Ql rfl rfl (Qa rfl (Qq rfl (Qq rfl (Qq rfl (Qq rfl (Qq rfl (Ql rfl rfl (Qa rfl ?_)))))))))
      refine hK _ _ (Qb (kp1 rfl) ?_)
      refine Qu (Qs rfl ?_)
      first | (rw [Xc (by omega)]; done) | (rw [Z1 (by omega) (by omega) (by omega)]; simp_all; done) | (rw [Z1 (by omega) (by omega) (by omega)]; simp_all; omega)
theorem QbY {w : Qm} (hw : WSm w) {l : List QK} (hl : l.length <= 10000000) {t : TermT} {c : Int} : Ok Tryz.prog 35 [ZP w, Zs l, .agg (QbZ t), .int .i64 c] (dOS (Yq w l t c)) := by
 refine Ok.ofT ZQ Tryz.func35 Qtj (Nat.le_of_ble_eq_true rfl) ?_
 show TW _ _ tf35.body _ _
 refine Qe fun K hK => Zo rfl rfl rfl (Zo rfl rfl rfl (Qa rfl (Qa rfl ?_)))
 refine hK _ _ (Qb (kp4 rfl rfl rfl rfl) ?_)
 refine QD ?_ -- 0
 refine Qe fun K hK => Qa rfl (Yb rfl rfl (Qa rfl ?_))
 refine QB (g := 14) rfl (fun h1 => ?_) (fun h1 => ?_)
 ·try rw [h1]
  try simp only [qa, qb, qc, qd, qe, List.length_map] at h1
  refine Qq rfl (Qq rfl (Qq rfl (Ql rfl rfl (Qa rfl (Qq rfl (Qq rfl (Qq rfl (Qq rfl (Qq rfl (Qq rfl (Ql rfl rfl ?_)))))))))))
  refine hK _ _ (Qb (kp5 rfl rfl rfl rfl rfl) ?_)
  refine Zl rfl (Qe fun K hK => Qa rfl (Qa rfl ?_))
  refine hK _ _ (Qb (kp2 rfl rfl) ?_)
  refine Qu (Qj ?_)
  rw [QcF (by omega)]
  exact QV rfl rfl ⟨rfl, rfl⟩
 ·try rw [h1]
  try simp only [qa, qb, qc, qd, qe, List.length_map] at h1
  refine Qg rfl (Qi rfl rfl (Qg rfl (QC rfl rfl rfl (Qg rfl (Yb rfl rfl (Ql rfl rfl (Qa rfl ?_)))))))
  refine QB (g := 19) rfl (fun h2 => ?_) (fun h2 => ?_)
  ·try rw [h2]
   try simp only [qa, qb, qc, qd, qe, List.length_map] at h2
   refine Qq rfl (Qq rfl (Qq rfl (Qq rfl (Qq rfl (Qq rfl (Ql rfl rfl ?_))))))
   refine hK _ _ (Qb (kp5 rfl rfl rfl rfl rfl) ?_)
   refine Zl rfl (Qe fun K hK => Qa rfl (Qa rfl ?_))
   refine hK _ _ (Qb (kp2 rfl rfl) ?_)
   refine Qu (Qj ?_)
   rw [QcF (by omega)]
   exact QV rfl rfl ⟨rfl, rfl⟩
  ·try rw [h2]
   try simp only [qa, qb, qc, qd, qe, List.length_map] at h2
   refine Qg rfl (Qi rfl rfl (Qg rfl (QC rfl rfl rfl (Qg rfl (Qi rfl rfl (Qg rfl (QC rfl rfl rfl (Qg rfl ?_))))))))
   first | refine QR rfl QX ?_ | refine QR rfl rfl ?_
   refine Qg rfl (Qdx rfl rfl (Ql rfl rfl ?_))
   refine hK _ _ (Qb (kp5 rfl rfl rfl rfl rfl) ?_)
   refine Qw rfl (fun h3 => ?_) (fun h3 => ?_)
   ·try rw [h3]
    try simp only [qa, qb, qc, qd, qe, List.length_map] at h3
    refine Qe fun K hK => Qa rfl (Qa rfl ?_)
    refine hK _ _ (Qb (kp2 rfl rfl) ?_)
    refine Qu (Qj ?_)
    rw [QcF (by omega)]
    exact QV rfl rfl ⟨rfl, rfl⟩
   ·try rw [h3]
    try simp only [qa, qb, qc, qd, qe, List.length_map] at h3
    refine Qv (Qd (kp4 rfl rfl rfl rfl) (Qe fun K hK => QG (cs := [_]) rfl rfl rfl rfl (Qa rfl (Qi rfl rfl (QC rfl rfl rfl (QF (Z4 hw hl) rfl rfl (.inr rfl) (Qa rfl ?_)))))))
    refine hK _ _ (Qb (kp4 rfl rfl rfl rfl) ?_)
    refine Qe fun K hK => Qi rfl rfl (QP (ds0 := [2, 0]) rfl rfl rfl rfl rfl (Qa rfl (Qa rfl (Qi rfl rfl (QP (ds0 := [7, 6, 2, 0]) rfl rfl rfl rfl rfl (QcS rfl rfl (X2 rfl rfl rfl (Qa rfl (QS (ds0 := [2, 0]) (Yh hl) rfl rfl (.inr rfl) rfl rfl (Qa rfl ?_))))))))))
    refine QU rfl rfl (ZK rfl (Xn (ds0 := []) rfl rfl rfl rfl rfl rfl rfl rfl rfl rfl ?_))
    refine hK _ _ (Qb (kp3 rfl rfl rfl) ?_)
    refine QD ?_ -- 1
    refine Qe fun K hK => Qi rfl rfl (QC rfl rfl rfl (ZI rfl rfl (Qa rfl ?_)))
    refine QB (g := 47) rfl (fun h4 => ?_) (fun h4 => ?_)
    ·try rw [h4]
     try simp only [qa, qb, qc, qd, qe, List.length_map] at h4
     refine Qq rfl (Qq rfl (Qq rfl (Qq rfl (Ql rfl rfl ?_))))
     refine hK _ _ (Qb (kp3 rfl rfl rfl) ?_)
     refine Zl rfl (Qe fun K hK => Qa rfl (Qa rfl ?_))
     refine hK _ _ (Qb (kp2 rfl rfl) ?_)
     refine Qu (Qj ?_)
     rw [Qbw (by first | exact .inl h4 | exact .inr h5)]
     exact QV rfl rfl ⟨rfl, rfl⟩
    ·try rw [h4]
     try simp only [qa, qb, qc, qd, qe, List.length_map] at h4
     refine Qg rfl (Qi rfl rfl (Qg rfl (QC rfl rfl rfl (Qg rfl (Qa rfl (Qg rfl (ZI rfl rfl (Ql rfl rfl ?_))))))))
     refine hK _ _ (Qb (kp3 rfl rfl rfl) ?_)
     refine Qw rfl (fun h5 => ?_) (fun h5 => ?_)
     ·try rw [h5]
      try simp only [qa, qb, qc, qd, qe, List.length_map] at h5
      refine Qe fun K hK => Qa rfl (Qa rfl ?_)
      refine hK _ _ (Qb (kp2 rfl rfl) ?_)
      refine Qu (Qj ?_)
      rw [Qbw (by first | exact .inl h4 | exact .inr h5)]
      exact QV rfl rfl ⟨rfl, rfl⟩
     ·try rw [h5]
      try simp only [qa, qb, qc, qd, qe, List.length_map] at h5
      refine Qv (Qd (kp2 rfl rfl) (Qe fun K hK => Qa rfl (Qeo (ds0 := [2, 1]) rfl rfl (fun _ h => ⟨Qkm, h⟩) rfl (.inl rfl) (by simp) (by simp; omega) (by simp; omega) rfl rfl (QO (ds0 := [3, 2, 1]) (cs := [_, _, _, _]) rfl rfl rfl rfl rfl rfl (QH rfl rfl (Qbp (ds0 := [1]) rfl rfl (by simp [D.ids, D.sid]) ⟨_, rfl, rfl, rfl, rfl, rfl⟩ rfl rfl (by simp) rfl rfl (by simp; omega) (by simp; omega) rfl rfl (Qa rfl (Qa rfl ?_))))))))
      refine hK _ _ (Qb (kp2 rfl rfl) ?_)
      refine Qu ?_
      rw [QgR (by omega) (QdV (by omega) (by omega)) h4 h5]
      exact Qgk rfl rfl rfl (by simp) (by simp [Zs, QfL]) rfl rfl
theorem QbX {w : Qm} (hw : WSm w) {l : List QK} (hl : l.length <= 10000000) {u p : Int} : Ok Tryz.prog 34 [ZP w, Zs l, .int .i64 u, .int .i64 p] (dOS (YL w l u p)) := by
 refine Ok.ofT ZQ Tryz.func34 Qti (Nat.le_of_ble_eq_true rfl) ?_
 show TW _ _ tf34.body _ _
 refine Qe fun K hK => Zo rfl rfl rfl (Qa rfl (Qa rfl ?_))
 refine hK _ _ (Qb (kp4 rfl rfl rfl rfl) ?_)
 refine QD ?_ -- 0
 refine Qe fun K hK => Qa rfl (Yb rfl rfl (Qa rfl ?_))
 refine QB (g := 13) rfl (fun h1 => ?_) (fun h1 => ?_)
 ·try rw [h1]
  try simp only [qa, qb, qc, qd, qe, List.length_map] at h1
  refine Qq rfl (Qq rfl (Qq rfl (Qq rfl (Qq rfl (Ql rfl rfl (Qa rfl (Qq rfl (Qq rfl (Ql rfl rfl (Qa rfl (Qq rfl ?_)))))))))))
  refine Qq rfl (Qq rfl (Qq rfl (Qq rfl (Qq rfl (Qq rfl (Qq rfl (Qq rfl (Ql rfl rfl ?_))))))))
  refine hK _ _ (Qb (kp5 rfl rfl rfl rfl rfl) ?_)
  refine Zl rfl (Qe fun K hK => Qa rfl (Qa rfl ?_))
  refine hK _ _ (Qb (kp2 rfl rfl) ?_)
  refine Qu (Qj ?_)
  rw [Qez (by omega)]
  exact QV rfl rfl ⟨rfl, rfl⟩
 ·try rw [h1]
  try simp only [qa, qb, qc, qd, qe, List.length_map] at h1
  refine Qg rfl (Qa rfl (Qg rfl (Qi rfl rfl (Qg rfl (QC rfl rfl rfl (Qg rfl ?_))))))
  first | refine QR rfl QX ?_ | refine QR rfl rfl ?_
  refine Qg rfl (Qdx rfl rfl (Ql rfl rfl (Qa rfl ?_)))
  refine QB (g := 20) rfl (fun h2 => ?_) (fun h2 => ?_)
  ·try rw [h2]
   try simp only [qa, qb, qc, qd, qe, List.length_map] at h2
   refine Qq rfl (Qq rfl (Ql rfl rfl (Qa rfl (Qq rfl (Qq rfl (Qq rfl (Qq rfl (Qq rfl (Qq rfl (Qq rfl (Qq rfl ?_)))))))))))
   refine Qq rfl (Ql rfl rfl ?_)
   refine hK _ _ (Qb (kp5 rfl rfl rfl rfl rfl) ?_)
   refine Zl rfl (Qe fun K hK => Qa rfl (Qa rfl ?_))
   refine hK _ _ (Qb (kp2 rfl rfl) ?_)
   refine Qu (Qj ?_)
   rw [Qez (by omega)]
   exact QV rfl rfl ⟨rfl, rfl⟩
  ·try rw [h2]
   try simp only [qa, qb, qc, qd, qe, List.length_map] at h2
   refine Qg rfl (Qa rfl (Qg rfl (Yb rfl rfl (Ql rfl rfl (Qa rfl ?_)))))
   refine QB (g := 24) rfl (fun h3 => ?_) (fun h3 => ?_)
   ·try rw [h3]
    try simp only [qa, qb, qc, qd, qe, List.length_map] at h3
    refine Qq rfl (Qq rfl (Qq rfl (Qq rfl (Qq rfl (Qq rfl (Qq rfl (Qq rfl (Qq rfl (Ql rfl rfl ?_)))))))))
    refine hK _ _ (Qb (kp5 rfl rfl rfl rfl rfl) ?_)
    refine Zl rfl (Qe fun K hK => Qa rfl (Qa rfl ?_))
    refine hK _ _ (Qb (kp2 rfl rfl) ?_)
    refine Qu (Qj ?_)
    rw [Qez (by omega)]
    exact QV rfl rfl ⟨rfl, rfl⟩
   ·try rw [h3]
    try simp only [qa, qb, qc, qd, qe, List.length_map] at h3
    refine Qg rfl (Qa rfl (Qg rfl (Qi rfl rfl (Qg rfl (QC rfl rfl rfl (Qg rfl (Qa rfl (Qg rfl (QJ rfl rfl rfl (by omega) (ZA (by omega) (by omega)) rfl (Qg rfl (Q6 rfl rfl ?_)))))))))))
    refine Qg rfl (QC rfl rfl rfl (Qg rfl ?_))
    first | refine QR rfl QX ?_ | refine QR rfl rfl ?_
    refine Qg rfl (Qdx rfl rfl (Ql rfl rfl ?_))
    refine hK _ _ (Qb (kp5 rfl rfl rfl rfl rfl) ?_)
    refine Qw rfl (fun h4 => ?_) (fun h4 => ?_)
    ·try rw [h4]
     try simp only [qa, qb, qc, qd, qe, List.length_map] at h4
     refine Qe fun K hK => Qa rfl (Qa rfl ?_)
     refine hK _ _ (Qb (kp2 rfl rfl) ?_)
     refine Qu (Qj ?_)
     rw [QlH (by omega) (by omega) (by omega)]
     exact QV rfl rfl ⟨rfl, rfl⟩
    ·try rw [h4]
     try simp only [qa, qb, qc, qd, qe, List.length_map] at h4
     refine Qv (Qd (kp4 rfl rfl rfl rfl) (Qe fun K hK => Qa rfl (Qa rfl (QiA rfl (Qfw (by omega) (by have := hw.cs _ (List.getElem_mem (show u.toNat < w.length by omega)); omega)) (Qn6 rfl rfl (by omega) rfl (Qa rfl (QF (Yh hl) rfl rfl (.inr rfl) (QY rfl rfl rfl (QU rfl rfl (ZK rfl ?_))))))))))
     refine Q7 rfl rfl rfl rfl rfl rfl rfl rfl ?_
     refine hK _ _ (Qb (kp3 rfl rfl rfl) ?_)
     refine QD ?_ -- 1
     refine Qe fun K hK => QG (cs := [_]) rfl rfl rfl rfl (Qa rfl (QG (cs := [_, _, _, _]) rfl rfl rfl rfl (QF (Qc4 (s := Qqd l u p) hw hl) rfl rfl (.inr rfl) (Ye rfl ?_))))
     refine hK _ _ (Qb (kp3 rfl rfl rfl) ?_)
     refine Qw rfl (fun h5 => ?_) (fun h5 => ?_)
     ·try rw [h5]
      try simp only [qa, qb, qc, qd, qe, List.length_map] at h5
      refine Qe fun K hK => Qa rfl (Qa rfl ?_)
      refine hK _ _ (Qb (kp2 rfl rfl) ?_)
      refine Qu (Qj ?_)
      rw [Qmy h5]
      exact QV rfl rfl ⟨rfl, rfl⟩
     ·try rw [h5]
      try simp only [qa, qb, qc, qd, qe, List.length_map] at h5
      refine Qv (Qd (kp2 rfl rfl) (Qe fun K hK => Qa rfl (Qeo (ds0 := [2, 1]) rfl rfl (fun _ h => ⟨Qkm, h⟩) rfl (.inl rfl) (by simp) (by simp; omega) (by simp; omega) rfl rfl (QO (ds0 := [3, 2, 1]) (cs := [_, _, _, _]) rfl rfl rfl rfl rfl rfl (QH rfl rfl (Qbp (ds0 := [1]) rfl rfl (by simp [D.ids, D.sid]) ⟨_, rfl, rfl, rfl, rfl, rfl⟩ rfl rfl (by simp) rfl rfl (by simp; omega) (by simp; omega) rfl rfl (Qa rfl (Qa rfl ?_))))))))
      refine hK _ _ (Qb (kp2 rfl rfl) ?_)
      refine Qu ?_
      rw [QlK (by omega) (by omega) (by omega) (by omega) h5]
      exact Qgk rfl rfl rfl (by simp) (by simp [Zs, QfL, Qqd]; rfl) rfl rfl
theorem Qc2 {w : Qm} (hw : WSm w) {l : List QK} (hl : l.length <= 10000000) {inc : List TermT} (hi : inc.length <= 1000000) : Ok Tryz.prog 30 [ZP w, Zs l, Zt inc] (.bool (XK w l inc)) := by
 refine Ok.ofT ZQ Tryz.func30 Qtg (Nat.le_of_ble_eq_true rfl) ?_
 show TW _ _ tf30.body _ _
 refine Qe fun K hK => Zo rfl rfl rfl (Qa rfl ?_)
 refine hK _ _ (Qb (kp3 rfl rfl rfl) ?_)
 refine QD ?_ -- 0
 refine Qe fun K hK => Qa rfl ?_
 refine hK _ _ (Qb (kp4 rfl rfl rfl rfl) ?_)
 refine Qz ?_
 refine Zm (ι := Nat) (fun i => ⟨[(1, Zs l), (2, Zt inc), (3, .ref 3 0 0), (7, .int .i64 i)], [(3, ⟨[[.sl ((w).map Ym)]], 1, 26, true⟩)]⟩) (fun i => i <= inc.length /\ (inc.take i).all (fun t => decide (XF (Q8 w l t.u) t.m = 2)) = true) (fun i => inc.length - i) 0 ?_ ?_ ?_
 ·exact Q2 (l := [1, 2, 3, 7]) (lH := [3]) (kp4 rfl rfl rfl rfl) (Qf rfl Qn) rfl rfl rfl
 ·exact ⟨Nat.zero_le _, by simp⟩
 intro i hI
 try dsimp only
 refine QD ?_ -- 1
 refine Qe fun K hK => Qa rfl (Qa rfl ?_)
 first | refine QR rfl QX ?_ | refine QR rfl rfl ?_
 refine Yb rfl rfl ?_
 refine hK _ _ (Qb (kp5 rfl rfl rfl rfl rfl) ?_)
 refine Qw rfl (fun h1 => ?_) (fun h1 => ?_)
 ·try rw [h1]
  try simp only [qa, qb, qc, qd, qe, List.length_map] at h1
  refine Qv (Qd (kp4 rfl rfl rfl rfl) ?_)
  refine QD ?_ -- 2
  refine Qz (Qe fun K hK => QO (ds0 := [7, 1, 0]) (cs := [_]) rfl rfl rfl rfl rfl rfl (Qa rfl (Qa rfl (Qa rfl (QJ rfl rfl rfl (by omega) (QT (by omega)) rfl (Q6 rfl rfl (QP (ds0 := [7, 1, 0]) rfl rfl rfl rfl rfl (QS (ds0 := [1, 0]) (Z4 hw hl) rfl rfl (.inr rfl) rfl rfl (Qa rfl (Qa rfl ?_))))))))))
  refine QJ rfl rfl rfl (by omega) (QT (by omega)) rfl (Q6 rfl rfl (QP (ds0 := [1, 0]) rfl rfl rfl rfl rfl (QS (ds0 := [0]) (XW) rfl rfl (.inr rfl) rfl rfl (XJ rfl rfl ?_))))
  refine hK _ _ (Qb (kp5 rfl rfl rfl rfl rfl) ?_)
  refine Qw rfl (fun h2 => ?_) (fun h2 => ?_)
  ·try rw [h2]
   try simp only [qa, qb, qc, qd, qe, List.length_map] at h2
   refine Qe fun K hK => Qa rfl ?_
   refine hK _ _ (Qb (kp1 rfl) ?_)
   refine Qu (Qt (Qj (Q4 (Qt (Qj (Qs rfl ?_))))))
   rw [XK, XA (i := i) (by omega) (by simpa using h2)]
  ·try rw [h2]
   try simp only [qa, qb, qc, qd, qe, List.length_map] at h2
   refine Qv (Qh (Qd (kp4 rfl rfl rfl rfl) (QN fun K hK => Qa rfl (QY rfl rfl (by first | exact Qr (by omega) (by omega) | rfl) (Qa rfl (hK _ ?_))))))
   refine Qk (i + 1) ?_ ?_ ?_
   ·exact Q2 (l := [1, 2, 3, 7]) (lH := [3]) (kp4 rfl rfl rfl rfl) (Qf rfl Qn) rfl rfl rfl
   ·exact ⟨by omega, Ya (by omega) hI.2 (by simpa using h2)⟩
   ·first | omega | (simp only; omega) | (dsimp only; omega)
 ·try rw [h1]
  try simp only [qa, qb, qc, qd, qe, List.length_map] at h1
  refine Zh (QL (Qx (QE (Qd (Q0) (Qe fun K hK => Qa rfl ?_)))))
  refine hK _ _ (Qb (kp1 rfl) ?_)
  refine Qu (Qs rfl ?_)
  rw [XK, Xp (i := i) (by omega) hI.2]
theorem Qc3 {w : Qm} (hw : WSm w) {l : List QK} (hl : l.length <= 10000000) {inc : List TermT} (hi : inc.length <= 1000000) : Ok Tryz.prog 100 [ZP w, Zs l, Zt inc] (.int .i64 (Qgc w l inc)) := by
 refine Ok.ofT ZQ Tryz.func100 Qsf (Nat.le_of_ble_eq_true rfl) ?_
 show TW _ _ tf100.body _ _
 refine Qe fun K hK => Zo rfl rfl rfl (Qa rfl ?_)
 refine hK _ _ (Qb (kp3 rfl rfl rfl) ?_)
 refine Qe fun K hK => Qa rfl ?_
 refine hK _ _ (Qb (kp4 rfl rfl rfl rfl) ?_)
 refine QD ?_ -- 0
 refine Qe fun K hK => Qa rfl ?_
 refine hK _ _ (Qb (kp5 rfl rfl rfl rfl rfl) ?_)
 refine Qz ?_
 refine Zm (ι := Nat × Int) (fun ⟨i, a⟩ => ⟨[(1, Zs l), (2, Zt inc), (3, .ref 3 0 0), (7, .int .i64 a), (8, .int .i64 i)], [(3, ⟨[[.sl ((w).map Ym)]], 1, 26, true⟩)]⟩) (fun ⟨i, a⟩ => i <= inc.length /\ Xu (Q8 w l) inc (-1) = Xu (Q8 w l) (inc.drop i) a) (fun ⟨i, a⟩ => inc.length - i) (0, -1) ?_ ?_ ?_
 ·exact Q2 (l := [1, 2, 3, 7, 8]) (lH := [3]) (kp5 rfl rfl rfl rfl rfl) (Qf rfl Qn) rfl rfl rfl
 ·exact ⟨Nat.zero_le _, by simp⟩
 intro ⟨i, a⟩ hI
 dsimp only at hI
 try dsimp only
 refine QD ?_ -- 1
 refine Qe fun K hK => Qa rfl (Qa rfl ?_)
 first | refine QR rfl QX ?_ | refine QR rfl rfl ?_
 refine Yb rfl rfl ?_
 refine hK _ _ (Qb (kp6 rfl rfl rfl rfl rfl rfl) ?_)
 refine Qw rfl (fun h1 => ?_) (fun h1 => ?_)
 ·try rw [h1]
  try simp only [qa, qb, qc, qd, qe, List.length_map] at h1
  refine Qv (Qd (kp5 rfl rfl rfl rfl rfl) ?_)
  refine QD ?_ -- 2
  refine Qz (Qe fun K hK => QO (ds0 := [6, 0]) (cs := [_]) rfl rfl rfl rfl rfl rfl (Qa rfl (Qa rfl (Qa rfl (QJ rfl rfl rfl (by omega) (QT (by omega)) rfl (Q6 rfl rfl (QP (ds0 := [6, 0]) rfl rfl rfl rfl rfl (QS (ds0 := [0]) (Z4 hw hl) rfl rfl (.inr rfl) rfl rfl (Qa rfl (Qa rfl ?_))))))))))
  refine QJ rfl rfl rfl (by omega) (QT (by omega)) rfl (Q6 rfl rfl (QP (ds0 := [0]) rfl rfl rfl rfl rfl (QS (ds0 := []) (XW) rfl rfl (.inr rfl) rfl rfl ?_)))
  refine hK _ _ (Qb (kp6 rfl rfl rfl rfl rfl rfl) ?_)
  refine Qz (Qe fun K hK => ZI rfl rfl (Qa rfl ?_))
  refine hK _ _ (Qb (kp7 rfl rfl rfl rfl rfl rfl rfl) ?_)
  refine Qw rfl (fun h2 => ?_) (fun h2 => ?_)
  ·try rw [h2]
   try simp only [qa, qb, qc, qd, qe, List.length_map] at h2
   refine Qe fun K hK => Qa rfl ?_
   refine hK _ _ (Qb (kp1 rfl) ?_)
   refine Qu (Qt (Qt (Qj (Q4 (Qt (Qj (Qy rfl ?_)))))))
   rw [Qgc, hI.2, QbI (by omega), if_pos h2]
  ·try rw [h2]
   try simp only [qa, qb, qc, qd, qe, List.length_map] at h2
   refine Qe fun K hK => ZI rfl rfl (Qa rfl ?_)
   refine hK _ _ (Qb (kp6 rfl rfl rfl rfl rfl rfl) ?_)
   refine Qw rfl (fun h3 => ?_) (fun h3 => ?_)
   ·try rw [h3]
    try simp only [qa, qb, qc, qd, qe, List.length_map] at h3
    refine QD ?_ -- 3
    refine Qe fun K hK => Qa rfl (Qdx rfl rfl ?_)
    refine hK _ _ (Qb (kp5 rfl rfl rfl rfl rfl) ?_)
    refine Qw rfl (fun h4 => ?_) (fun h4 => ?_)
    ·try rw [h4]
     try simp only [qa, qb, qc, qd, qe, List.length_map] at h4
     refine Qe fun K hK => Qa rfl ?_
     refine hK _ _ (Qb (kp1 rfl) ?_)
     refine Qu (Qj (Qt (Qt (Qj (Q4 (Qt (Qj (Qy rfl ?_))))))))
     rw [Qgc, hI.2, QbI (by omega), if_neg h2, if_pos h3, if_pos h4]
    ·try rw [h4]
     try simp only [qa, qb, qc, qd, qe, List.length_map] at h4
     refine Qv (Qd (kp4 rfl rfl rfl rfl) (QN fun K hK => Qa rfl (Qa rfl (QJ rfl rfl rfl (by omega) (QT (by omega)) rfl (Q6 rfl rfl (QC rfl rfl rfl (Qa rfl (hK _ ?_))))))))
     refine Qh (Qh (Qd (kp5 rfl rfl rfl rfl rfl) (QN fun K hK => Qa rfl (QY rfl rfl (by first | exact Qr (by omega) (by omega) | rfl) (Qa rfl (hK _ ?_))))))
     refine Qk (i + 1, (inc[i]'(by omega)).u) ?_ ?_ ?_
     ·exact Q2 (l := [1, 2, 3, 7, 8]) (lH := [3]) (kp5 rfl rfl rfl rfl rfl) (Qf rfl Qn) rfl rfl rfl
     ·exact ⟨by omega, by rw [hI.2, QbI (by omega), if_neg h2, if_pos h3, if_neg h4]⟩
     ·show inc.length - (i + 1) < inc.length - i; omega
   ·try rw [h3]
    try simp only [qa, qb, qc, qd, qe, List.length_map] at h3
    refine Qv (Qh (Qh (Qd (kp5 rfl rfl rfl rfl rfl) (QN fun K hK => Qa rfl (QY rfl rfl (by first | exact Qr (by omega) (by omega) | rfl) (Qa rfl (hK _ ?_)))))))
    refine Qk (i + 1, a) ?_ ?_ ?_
    ·exact Q2 (l := [1, 2, 3, 7, 8]) (lH := [3]) (kp5 rfl rfl rfl rfl rfl) (Qf rfl Qn) rfl rfl rfl
    ·exact ⟨by omega, by rw [hI.2, QbI (by omega), if_neg h2, if_neg h3]⟩
    ·show inc.length - (i + 1) < inc.length - i; omega
 ·try rw [h1]
  try simp only [qa, qb, qc, qd, qe, List.length_map] at h1
  refine Zh (QL (Qx (QE (Qd (kp1 rfl) (Qe fun K hK => Qa rfl (Qa rfl ?_))))))
  refine hK _ _ (Qb (kp1 rfl) ?_)
  refine Qu (Qy rfl ?_)
  rw [Qgc, hI.2, Qjg (by omega)]
theorem Qc1 {w : Qm} (hw : WSm w) {db : List (List TermT)} (hd : db.length <= 100000000) (hi : ∀ x ∈ db, x.length <= 1000000) {l : List QK} (hl : l.length <= 10000000) : Ok Tryz.prog 75 [ZP w, dDb db, Zs l] (.tup [.int .i64 (Yr w db l).1, .int .i64 (Yr w db l).2]) := by
 refine Ok.ofT ZQ Tryz.func75 QtS (Nat.le_of_ble_eq_true rfl) ?_
 show TW _ _ tf75.body _ _
 refine Qe fun K hK => Zo rfl rfl rfl (Qa rfl (Qa rfl ?_))
 refine hK _ _ (Qb (kp3 rfl rfl rfl) ?_)
 refine QD ?_ -- 0
 refine Qe fun K hK => Qa rfl ?_
 refine hK _ _ (Qb (kp4 rfl rfl rfl rfl) ?_)
 refine Qz ?_
 refine Zm (ι := Nat) (fun i => ⟨[(1, dDb db), (2, Zs l), (3, .ref 3 0 0), (8, .int .i64 i)], [(3, ⟨[[.sl ((w).map Ym)]], 1, 26, true⟩)]⟩) (fun i => i <= db.length /\ Yr w db l = Xb w l i (db.drop i)) (fun i => db.length - i) 0 ?_ ?_ ?_
 ·exact Q2 (l := [1, 2, 3, 8]) (lH := [3]) (kp4 rfl rfl rfl rfl) (Qf rfl Qn) rfl rfl rfl
 ·exact ⟨Nat.zero_le _, rfl⟩
 intro i hI
 try dsimp only
 refine QD ?_ -- 1
 refine Qe fun K hK => Qa rfl (Qa rfl ?_)
 first | refine QR rfl QX ?_ | refine QR rfl rfl ?_
 refine Yb rfl rfl ?_
 refine hK _ _ (Qb (kp5 rfl rfl rfl rfl rfl) ?_)
 refine Qw rfl (fun h1 => ?_) (fun h1 => ?_)
 ·try rw [h1]
  try simp only [qa, qb, qc, qd, qe, List.length_map] at h1
  refine Qv (Qd (kp4 rfl rfl rfl rfl) ?_)
  refine QD ?_ -- 2
  refine Qz ?_
  refine QD ?_ -- 3
  refine Qe fun K hK => QO (ds0 := [0]) (cs := [_]) rfl rfl rfl rfl rfl rfl (Qa rfl (Qa rfl (Qa rfl (QJ rfl rfl rfl (by omega) (QT (by omega)) rfl (QP (ds0 := [0]) rfl rfl rfl rfl rfl (QS (ds0 := []) (Qc2 hw hl (hi _ (List.getElem_mem (by omega)))) rfl rfl (.inr rfl) rfl rfl ?_))))))
  refine hK _ _ (Qb (kp5 rfl rfl rfl rfl rfl) ?_)
  refine Qw rfl (fun h2 => ?_) (fun h2 => ?_)
  ·try rw [h2]
   try simp only [qa, qb, qc, qd, qe, List.length_map] at h2
   refine Qe fun K hK => Qa rfl (Qa rfl (Qa rfl ?_))
   refine hK _ _ (Qb (kp2 rfl rfl) ?_)
   refine Qu (Qj (Qt (Qj (Q4 (Qt (Qj ?_))))))
   rw [hI.2, Qko (by omega), if_pos h2]
   exact QV rfl rfl ⟨rfl, rfl⟩
  ·try rw [h2]
   try simp only [qa, qb, qc, qd, qe, List.length_map] at h2
   refine Qv (Qd (kp4 rfl rfl rfl rfl) (Qe fun K hK => QO (ds0 := [1, 0]) (cs := [_]) rfl rfl rfl rfl rfl rfl (Qa rfl (Qa rfl (Qa rfl (QJ rfl rfl rfl (by omega) (QT (by omega)) rfl (QP (ds0 := [1, 0]) rfl rfl rfl rfl rfl (QS (ds0 := [0]) (Qc3 hw hl (hi _ (List.getElem_mem (by omega)))) rfl rfl (.inr rfl) rfl rfl (Qa rfl ?_)))))))))
   refine hK _ _ (Qb (kp5 rfl rfl rfl rfl rfl) ?_)
   refine Qe fun K hK => Qa rfl (Qdx rfl rfl ?_)
   refine hK _ _ (Qb (kp6 rfl rfl rfl rfl rfl rfl) ?_)
   refine Qw rfl (fun h3 => ?_) (fun h3 => ?_)
   ·try rw [h3]
    try simp only [qa, qb, qc, qd, qe, List.length_map] at h3
    refine Qe fun K hK => Qa rfl (Qa rfl (Qa rfl (Qa rfl ?_)))
    refine hK _ _ (Qb (kp2 rfl rfl) ?_)
    refine Qu (Qt (Qj (Q4 (Qt (Qj ?_)))))
    rw [hI.2, Qko (by omega), if_neg (by rw [h2]; simp), if_pos h3]
    exact QV rfl rfl ⟨rfl, rfl⟩
   ·try rw [h3]
    try simp only [qa, qb, qc, qd, qe, List.length_map] at h3
    refine Qv (Qh (Qd (kp4 rfl rfl rfl rfl) (QN fun K hK => Qa rfl (QY rfl rfl (by first | exact Qr (by omega) (by omega) | rfl) (Qa rfl (hK _ ?_))))))
    refine Qk (i + 1) ?_ ?_ ?_
    ·exact Q2 (l := [1, 2, 3, 8]) (lH := [3]) (kp4 rfl rfl rfl rfl) (Qf rfl Qn) rfl rfl rfl
    ·exact ⟨by omega, by rw [hI.2, Qko (by omega), if_neg (by rw [h2]; simp), if_neg h3]⟩
    ·first | omega | (simp only; omega) | (dsimp only; omega)
 ·try rw [h1]
  try simp only [qa, qb, qc, qd, qe, List.length_map] at h1
  refine Zh (QL (Qx (QE (Qd (Q0) (Qe fun K hK => Qa rfl (Qa rfl ?_))))))
  refine hK _ _ (Qb (kp2 rfl rfl) ?_)
  refine Qu ?_
  rw [hI.2, Qo1 (by omega)]
  exact QV rfl rfl ⟨rfl, rfl⟩
end Go.Proofs
namespace M25
open Go Go.Abs M3
def Qoe (w : Qm) (i : Nat) : List (List TermT) := ((QdZ w).take i).map RowT.t
theorem QhG {w : Qm} {i : Nat} (h : i < (QdZ w).length) : Qoe w (i + 1) = Qoe w i ++ [(QdZ w)[i].t] := by
 rw [Qoe, List.take_succ_eq_append_getElem h, List.map_append]; rfl
theorem Qpw {w : Qm} {i : Nat} (h : (QdZ w).length <= i) : Qoe w i = mDB w := by rw [Qoe, List.take_of_length_le h]; rfl
theorem Qof (w : Qm) (i : Nat) : (Qoe w i).length <= (QdZ w).length := by rw [Qoe, List.length_map]; exact List.length_take_le' ..
theorem Qoa {w : Qm} (hw : WSm w) (h0 : 0 < w.length) : (QdZ w).length <= 1600000 := by
 have := (Qcz hw h0 w.length (Nat.le_refl _)).2
 have := hw.len
 rw [QdZ]; omega
def Qqg (w : Qm) (l : List Int) (j : Nat) : TermT := ⟨mPl (l.getD (2 * j) 0) w.length, 1 + mPl (l.getD (2 * j + 1) 0) (Yz w (mPl (l.getD (2 * j) 0) w.length))⟩
def QgE (w : Qm) (l : List Int) : Nat -> List TermT
 | 0 => []
 | j + 1 => QgE w l j ++ [Qqg w l j]
theorem Qci (w : Qm) (l : List Int) : ∀ j, (QgE w l j).length = j
 | 0 => rfl
 | j + 1 => by rw [QgE, List.length_append, Qci w l j]; rfl
theorem Qrm (w : Qm) (l : List Int) (j : Nat) : QgE w l (j + 1) = QgE w l j ++ [Qqg w l j] := rfl
def QlY (w : Qm) (l : List Int) : List TermT := (Qdf w (QgE w l (min 4 (l.length / 2)))).getD []
theorem Qqo (w : Qm) (l : List Int) : IncOk w (QlY w l) := by
 unfold QlY
 cases h : Qdf w (QgE w l (min 4 (l.length / 2))) with
 | none => exact IncOk.nil w
 | some t => exact Qd4 h
theorem QmN {l : List Int} {k : Int} {j : Nat} (e : k.toNat = j) (h : j < l.length) : l[k.toNat]'(by omega) = l.getD j 0 := by
 subst e; rw [List.getD_eq_getElem?_getD, List.getElem?_eq_getElem h]; rfl
theorem Qox {w : Qm} {l : List Int} {j : Nat} (h : 2 * j + 1 < l.length) : Qqg w l j = ⟨mPl (l[(2 * (j : Int)).toNat]'(by omega)) w.length, 1 + mPl (l[(2 * (j : Int) + 1).toNat]'(by omega)) (Yz w (mPl (l[(2 * (j : Int)).toNat]'(by omega)) w.length))⟩ := by
 rw [QmN (j := 2 * j) (by omega) (by omega), QmN (j := 2 * j + 1) (by omega) (by omega)]; rfl
theorem Qpg (v : Int) {n : Int} (h : n <= 131071) : IntKind.i64.wrap (1 + mPl v n) = 1 + mPl v n := by
 have h0 := Qi9 (v := v) (n := n)
 by_cases h1 : 1 <= n
 ·have := Qi8 (v := v) h1; exact Qr (by omega) (by omega)
 ·have : mPl v n = 0 := by rw [mPl, if_pos (by omega)]
  rw [this]; rfl
def Qn1 : List Qmj -> Int -> Int
 | [], n => n
 | u :: r, n => if n < 1000000 then Qn1 r (n * ((u.cs.length : Int) + 1)) else n
def Qrs (w : Qm) : Int := Qn1 w 1
theorem Qse {w : Qm} {i : Nat} {n : Int} (h : i < w.length) (hn : n < 1000000) : Qn1 (w.drop i) n = Qn1 (w.drop (i + 1)) (n * ((w[i].cs.length : Int) + 1)) := by
 rw [List.drop_eq_getElem_cons h, Qn1, if_pos hn]
theorem QrG {w : Qm} {i : Nat} {n : Int} (h : w.length <= i) : Qn1 (w.drop i) n = n := by rw [List.drop_eq_nil_of_le h, Qn1]
theorem QrF {w : Qm} {i : Nat} {n : Int} (hn : ¬ n < 1000000) : Qn1 (w.drop i) n = n := by
 cases h : w.drop i with
 | nil => rfl
 | cons u r => rw [Qn1, if_neg hn]
theorem QqE {n : Int} {k : Nat} (h0 : 1 <= n) (h1 : n < 1000000) (hk : k <= 16) : 1 <= n * ((k : Int) + 1) /\ n * ((k : Int) + 1) <= 17000000 := by
 obtain ⟨m, rfl⟩ := Int.eq_ofNat_of_zero_le (show 0 <= n by omega)
 have h2 : m * (k + 1) <= 1000000 * 17 := Nat.mul_le_mul (by omega) (by omega)
 have h3 : 1 * 1 <= m * (k + 1) := Nat.mul_le_mul (by omega) (by omega)
 have e : (m : Int) * ((k : Int) + 1) = ((m * (k + 1) : Nat) : Int) := by simp
 rw [e]; omega
def chN (w : Qm) (n : Int) : Nat -> Int
 | 0 => n
 | i + 1 => match w[i]? with
  | some u => (chN w n i).tdiv ((u.cs.length : Int) + 1)
  | none => chN w n i
def chL (w : Qm) (n : Int) : Nat -> List Int
 | 0 => []
 | i + 1 => match w[i]? with
  | some u => chL w n i ++ [(chN w n i).tmod ((u.cs.length : Int) + 1) - 1]
  | none => chL w n i
def Qh5 (w : Qm) (n : Int) : List Int := chL w n w.length
theorem Qre {w : Qm} {n : Int} {i : Nat} (h : i < w.length) : chN w n (i + 1) = (chN w n i).tdiv ((w[i].cs.length : Int) + 1) := by rw [chN, List.getElem?_eq_getElem h]
theorem Qpu {w : Qm} {n : Int} {i : Nat} (h : i < w.length) : chL w n (i + 1) = chL w n i ++ [(chN w n i).tmod ((w[i].cs.length : Int) + 1) - 1] := by rw [chL, List.getElem?_eq_getElem h]
theorem QnU {a : Int} {k : Nat} (h0 : 0 <= a) : 0 <= a.tdiv ((k : Int) + 1) /\ a.tdiv ((k : Int) + 1) <= a := by
 obtain ⟨m, rfl⟩ := Int.eq_ofNat_of_zero_le h0
 have : ((m : Int)).tdiv ((k : Int) + 1) = ((m / (k + 1) : Nat) : Int) := by
  rw [show (k : Int) + 1 = ((k + 1 : Nat) : Int) by simp, Int.ofNat_tdiv]
 rw [this]
 have := Nat.div_le_self m (k + 1)
 exact ⟨Int.natCast_nonneg _, Int.ofNat_le.2 this⟩
theorem Qpv {w : Qm} {n : Int} (h0 : 0 <= n) : ∀ i, 0 <= chN w n i /\ chN w n i <= n
 | 0 => ⟨h0, Int.le_refl _⟩
 | i + 1 => by
  obtain ⟨h1, h2⟩ := Qpv (w := w) h0 i
  rw [chN]
  split
  ·rename_i u _
   have := QnU (k := u.cs.length) h1
   omega
  ·exact ⟨h1, h2⟩
theorem Qmt (w : Qm) (n : Int) : ∀ i, (chL w n i).length <= i
 | 0 => Nat.le_refl _
 | i + 1 => by
  have := Qmt w n i
  rw [chL]; split <;> simp <;> omega
theorem QqL {a : Int} {k : Nat} (hk : k <= 16) : IntKind.i64.wrap (a.tmod ((k : Int) + 1) - 1) = a.tmod ((k : Int) + 1) - 1 := by
 have h1 := Int.lt_tmod_of_pos a (show (0 : Int) < (k : Int) + 1 by omega)
 have h2 := Int.tmod_lt_of_pos a (show (0 : Int) < (k : Int) + 1 by omega)
 exact Qr (by omega) (by omega)
theorem QqK {a : Int} {k : Nat} (h0 : 0 <= a) (h1 : a <= 9223372036854775807) : IntKind.i64.wrap (a.tdiv ((k : Int) + 1)) = a.tdiv ((k : Int) + 1) := by
 have := QnU (k := k) h0
 exact Qr (by omega) (by omega)
theorem QnE {w : Qm} {db : List (List TermT)} : ∀ (n : Nat) (out : List QK), (Qe9 w db n out).1.length <= out.length + n
 | 0, out => Nat.le_refl _
 | n + 1, out => by
  rw [Qe9]
  split
  ·simp
  ·refine Nat.le_trans (QnE n _) ?_
   have := QgQ w out ⟨(Yr w db out).2, Qd5 w (db.getD (Yr w db out).1.toNat []) (Yr w db out).2⟩ (Yr w db out).1
   omega
theorem QjJ {v : Int} (h : (v + 1).toNat <= 61) : IntKind.i64.wrap ((1 : Int) * 2 ^ min (v + 1).toNat IntKind.i64.bits) = 2 ^ (v + 1).toNat := by
 rw [show min (v + 1).toNat IntKind.i64.bits = (v + 1).toNat from by simp only [IntKind.bits]; omega, Int.one_mul]
 have := Qig (i := (v + 1).toNat) (by omega)
 exact Qr (by omega) (by omega)
theorem QnJ {α : Type} {f : α -> List D} {l : List α} {k : Int} (h : k = (l.length : Int)) : ((l.map f).take k.toNat).drop (((0 : Nat) : Int)).toNat = l.map f := by
 subst h; rw [Int.toNat_natCast, List.take_of_length_le (by simp)]; rfl
end M25
namespace Go.Proofs
open Go Go.Abs M3 M25
set_option linter.unusedVariables false
set_option linter.unusedSimpArgs false
theorem Qdl {w : Qm} (hw : WSm w) {db : List (List TermT)} (hd : db.length <= 100000000) (hi : ∀ x ∈ db, x.length <= 1000000) {l : List QK} (hl : l.length <= 1000000) : Ok Tryz.prog 44 [ZP w, dDb db, Zs l] (.tup [Zs (Qge w db l).1, .int .i64 (Qge w db l).2]) := by
 refine Ok.ofT ZQ Tryz.func44 Qtq (Nat.le_of_ble_eq_true rfl) ?_
 show TW _ _ tf44.body _ _
 have hn := hw.len
 refine Qe fun K hK => Zo rfl rfl rfl (Qa rfl (Qa rfl ?_))
 refine hK _ _ (Qb (kp3 rfl rfl rfl) ?_)
 refine Qe fun K hK => Qa rfl (Qpj rfl rfl (fun _ h => QnM Qkm h) rfl (.inl rfl) (by simp) (by simp; omega) (by simp; omega) (Qa rfl ?_))
 refine hK _ _ (Qb (kp3 rfl rfl rfl) ?_)
 refine QD ?_ -- 0
 refine Qe fun K hK => Qa rfl ?_
 refine hK _ _ (Qb (kp4 rfl rfl rfl rfl) ?_)
 refine Qz ?_
 refine Zm (ι := Nat × List QK) (fun ⟨n, out⟩ => ⟨[(1, dDb db), (3, .ref 3 0 0), (8, Zs out), (9, .int .i64 n)], [(3, ⟨[[.sl ((w).map Ym)]], 1, 26, true⟩)]⟩) (fun ⟨n, out⟩ => n <= w.length * 18 + 1 /\ out.length <= l.length + n /\ Qge w db l = Qe9 w db (w.length * 18 + 1 - n) out) (fun ⟨n, out⟩ => w.length * 18 + 1 - n) (0, l) ?_ ?_ ?_
 ·exact le_trans (Qg2 (l := [1, 3, 9]) (lH := [3]) 13 8 (kp3 rfl rfl rfl) (Qf rfl Qn) rfl rfl rfl (by simp) rfl rfl rfl rfl) (Q2 (l := [1, 3, 8, 9]) (lH := [3]) (kp4 rfl rfl rfl rfl) (Qf rfl Qn) rfl rfl rfl)
 ·exact ⟨Nat.zero_le _, Nat.le_refl _, rfl⟩
 intro ⟨n, out⟩ hI
 obtain ⟨hI1, hI2, hI3⟩ := hI
 try dsimp only at hI1 hI2 hI3
 try dsimp only
 refine QD ?_ -- 1
 refine Qe fun K hK => Qa rfl (Qi rfl rfl (QC rfl rfl rfl ?_))
 first | refine QR rfl QX ?_ | refine QR rfl rfl ?_
 refine Qn4 rfl rfl (by first | exact Qr (by omega) (by omega) | rfl) (Qpk rfl rfl ?_)
 refine hK _ _ (Qb (kp5 rfl rfl rfl rfl rfl) ?_)
 refine Qw rfl (fun h1 => ?_) (fun h1 => ?_)
 ·try rw [h1]
  try simp only [qa, qb, qc, qd, qe, List.length_map] at h1
  refine Qv (Qd (kp4 rfl rfl rfl rfl) ?_)
  refine QD ?_ -- 2
  refine Qz (Qe fun K hK => QG (cs := [_]) rfl rfl rfl rfl (Qa rfl (Qa rfl (QF (Qc1 hw hd hi (by omega)) rfl rfl (.inl rfl) (Qa rfl (Za rfl rfl (Za rfl rfl (Qa rfl (Qa rfl ?_)))))))))
  refine hK _ _ (Qb (kp6 rfl rfl rfl rfl rfl rfl) ?_)
  refine QD ?_ -- 3
  refine Qe fun K hK => Qa rfl (Yb rfl rfl ?_)
  refine hK _ _ (Qb (kp7 rfl rfl rfl rfl rfl rfl rfl) ?_)
  refine Qw rfl (fun h2 => ?_) (fun h2 => ?_)
  ·try rw [h2]
   try simp only [qa, qb, qc, qd, qe, List.length_map] at h2
   try have hu := Qjr h2
   refine Qe fun K hK => Qa rfl (Qa rfl (Qa rfl (Qa rfl ?_)))
   refine hK _ _ (Qb (kp2 rfl rfl) ?_)
   refine Qu (Qj (Qt (Qj (Q4 (Qt (Qj ?_))))))
   rw [hI3, Ql6 h2 (by omega)]
   exact QV rfl rfl ⟨rfl, rfl⟩
  ·try rw [h2]
   try simp only [qa, qb, qc, qd, qe, List.length_map] at h2
   try have hu := Qjr h2
   refine Qv (Qd (kp6 rfl rfl rfl rfl rfl rfl) (QN fun K hK => QO (ds0 := [4, 3, 2, 1, 0]) (cs := [_]) rfl rfl rfl rfl rfl rfl (Qa rfl (Qa rfl (QO (ds0 := [7, 6, 4, 3, 2, 1, 0]) (cs := [_]) rfl rfl rfl rfl rfl rfl (Qa rfl (Qa rfl (QJ rfl rfl rfl (by omega) (ZA (by omega) (by omega)) rfl (QP (ds0 := [7, 6, 4, 3, 2, 1, 0]) rfl rfl rfl rfl rfl (Qa rfl ?_))))))))))
   refine QS (ds0 := [6, 4, 3, 2, 1, 0]) (Y1 hw (hi _ (List.getElem_mem (by omega)))) rfl rfl (.inr rfl) rfl rfl (QU rfl rfl (Qa rfl (QS (ds0 := [3, 2, 1, 0]) (QbY (t := ⟨(Yr w db out).2, Qd5 w (db[(Yr w db out).1.toNat]'(by omega)) (Yr w db out).2⟩) hw (by omega)) rfl rfl (.inl rfl) rfl rfl (Qa rfl (Za rfl rfl (Za rfl rfl (Qa rfl (hK _ ?_))))))))
   refine Qh (Qd (kp4 rfl rfl rfl rfl) (QN fun K hK => Qa rfl (QY rfl rfl (by first | exact Qr (by omega) (by omega) | rfl) (Qa rfl (hK _ ?_)))))
   refine Qk (n + 1, (Yq w out ⟨(Yr w db out).2, Qd5 w (db[(Yr w db out).1.toNat]'(by omega)) (Yr w db out).2⟩ (Yr w db out).1).getD []) ?_ ?_ ?_
   ·exact Q2 (l := [1, 3, 8, 9]) (lH := [3]) (kp4 rfl rfl rfl rfl) (Qf rfl Qn) rfl rfl rfl
   ·exact ⟨by omega, by have := QgQ w out ⟨(Yr w db out).2, Qd5 w (db[(Yr w db out).1.toNat]'(by omega)) (Yr w db out).2⟩ (Yr w db out).1; simp only; omega, by rw [hI3, QoZ h2 (by omega) (by omega), show w.length * 18 + 1 - (n + 1) = w.length * 18 + 1 - n - 1 by omega]⟩
   ·show w.length * 18 + 1 - (n + 1) < w.length * 18 + 1 - n; omega
 ·try rw [h1]
  try simp only [qa, qb, qc, qd, qe, List.length_map] at h1
  refine Zh (QL (Qx (QE (Qd (kp1 rfl) (Qe fun K hK => Qa rfl (Qa rfl (Qa rfl ?_)))))))
  refine hK _ _ (Qb (kp2 rfl rfl) ?_)
  refine Qu ?_
  rw [hI3, show w.length * 18 + 1 - n = 0 by omega]
  exact QV rfl rfl ⟨rfl, rfl⟩
theorem Qdh {w : Qm} (hw : WSm w) : Ok Tryz.prog 21 [ZP w] (.int .i64 (Qrs w)) := by
 refine Ok.ofT ZQ Tryz.func21 Qta (Nat.le_of_ble_eq_true rfl) ?_
 show TW _ _ tf21.body _ _
 have hn := hw.len
 refine Qe fun K hK => Zo rfl rfl rfl (Qa rfl ?_)
 refine hK _ _ (Qb (kp1 rfl) ?_)
 refine Qe fun K hK => Qa rfl ?_
 refine hK _ _ (Qb (kp2 rfl rfl) ?_)
 refine QD ?_ -- 0
 refine Qe fun K hK => Qa rfl ?_
 refine hK _ _ (Qb (kp3 rfl rfl rfl) ?_)
 refine Qz ?_
 refine Zm (ι := Nat × Int) (fun ⟨i, n⟩ => ⟨[(1, .ref 1 0 0), (3, .int .i64 n), (4, .int .i64 i)], [(1, ⟨[[.sl ((w).map Ym)]], 1, 26, true⟩)]⟩) (fun ⟨i, n⟩ => i <= w.length /\ 1 <= n /\ Qrs w = Qn1 (w.drop i) n) (fun ⟨i, n⟩ => w.length - i) (0, 1) ?_ ?_ ?_
 ·exact Q2 (l := [1, 3, 4]) (lH := [1]) (kp3 rfl rfl rfl) (Qf rfl Qn) rfl rfl rfl
 ·exact ⟨Nat.zero_le _, Int.le_refl _, rfl⟩
 intro ⟨i, n⟩ hI
 obtain ⟨hI1, hI2, hI3⟩ := hI
 try dsimp only at hI1 hI2 hI3
 try dsimp only
 refine QD ?_ -- 1
 refine Qe fun K hK => Qa rfl (Qi rfl rfl (QC rfl rfl rfl ?_))
 first | refine QR rfl QX ?_ | refine QR rfl rfl ?_
 refine Yb rfl rfl (Qa rfl ?_)
 refine QB (g := 10) rfl (fun h1 => ?_) (fun h1 => ?_)
 ·try rw [h1]
  try simp only [qa, qb, qc, qd, qe, List.length_map] at h1
  refine Qg rfl (Qa rfl (Qg rfl (Yb rfl rfl (Ql rfl rfl ?_))))
  refine hK _ _ (Qb (kp4 rfl rfl rfl rfl) ?_)
  refine Qw rfl (fun h2 => ?_) (fun h2 => ?_)
  ·try rw [h2]
   try simp only [qa, qb, qc, qd, qe, List.length_map] at h2
   refine Qv (Qd (kp3 rfl rfl rfl) ?_)
   refine QD ?_ -- 2
   refine Qz (QN fun K hK => Qa rfl (Qi rfl rfl (QC rfl rfl rfl (Qa rfl (QJ rfl rfl rfl (by omega) (QT (by omega)) rfl (Q6 rfl rfl (QC rfl rfl rfl ?_)))))))
   first | refine QR rfl QX ?_ | refine QR rfl rfl ?_
   refine QY rfl rfl (Qr (by have := hw.csLen (show i < w.length by omega); omega) (by have := hw.csLen (show i < w.length by omega); omega)) (Qn4 rfl rfl (Qr (by have := QqE hI2 h2 (hw.csLen (show i < w.length by omega)); omega) (by have := QqE hI2 h2 (hw.csLen (show i < w.length by omega)); omega)) (Qa rfl (hK _ ?_)))
   refine Qh (Qd (kp3 rfl rfl rfl) (QN fun K hK => Qa rfl (QY rfl rfl (by first | exact Qr (by omega) (by omega) | rfl) (Qa rfl (hK _ ?_)))))
   refine Qk (i + 1, n * (((w[i]'(by omega)).cs.length : Int) + 1)) ?_ ?_ ?_
   ·exact Q2 (l := [1, 3, 4]) (lH := [1]) (kp3 rfl rfl rfl) (Qf rfl Qn) rfl rfl rfl
   ·exact ⟨by omega, (QqE hI2 h2 (hw.csLen (by omega))).1, by rw [hI3, Qse (by omega) h2]⟩
   ·show w.length - (i + 1) < w.length - i; omega
  ·try rw [h2]
   try simp only [qa, qb, qc, qd, qe, List.length_map] at h2
   refine Zh (QL (Qx (QE (Qd (kp1 rfl) (Qe fun K hK => Qa rfl (Qa rfl ?_))))))
   refine hK _ _ (Qb (kp1 rfl) ?_)
   refine Qu (Qy rfl ?_)
   rw [hI3, QrF (by omega)]
 ·try rw [h1]
  try simp only [qa, qb, qc, qd, qe, List.length_map] at h1
  refine Qq rfl (Qq rfl (Ql rfl rfl ?_))
  refine hK _ _ (Qb (kp4 rfl rfl rfl rfl) ?_)
  refine ZM rfl (Zh (QL (Qx (QE (Qd (kp1 rfl) (Qe fun K hK => Qa rfl (Qa rfl ?_)))))))
  refine hK _ _ (Qb (kp1 rfl) ?_)
  refine Qu (Qy rfl ?_)
  rw [hI3, QrG (by omega)]
theorem Qb6 {w : Qm} (hw : WSm w) {n : Int} (h0n : 0 <= n) (h1n : n <= 9223372036854775807) : Ok Tryz.prog 22 [ZP w, .int .i64 n] (ZC (Qh5 w n)) := by
 refine Ok.ofT ZQ Tryz.func22 Qtb (Nat.le_of_ble_eq_true rfl) ?_
 show TW _ _ tf22.body _ _
 have hn := hw.len
 refine Qe fun K hK => Zo rfl rfl rfl (Qa rfl ?_)
 refine hK _ _ (Qb (kp2 rfl rfl) ?_)
 refine Qe fun K hK => Qa rfl ?_
 refine hK _ _ (Qb (kp3 rfl rfl rfl) ?_)
 refine QD ?_ -- 0
 refine Qe fun K hK => Qa rfl ?_
 refine hK _ _ (Qb (kp4 rfl rfl rfl rfl) ?_)
 refine Qz ?_
 refine Zm (ι := Nat) (fun i => ⟨[(1, .int .i64 (chN w n i)), (2, .ref 2 0 0), (5, .osl 5 (chL w n i).length), (6, .int .i64 i)], [(2, ⟨[[.sl ((w).map Ym)]], 1, 26, true⟩), (5, ⟨(chL w n i).map (fun x => [.int .i64 x]), 1, 3, true⟩)]⟩) (fun i => i <= w.length) (fun i => w.length - i) 0 ?_ ?_ ?_
 ·exact le_trans (Yj 5 5 1 3 rfl rfl) (Q2 (l := [1, 2, 5, 6]) (lH := [2, 5]) (kp4 rfl rfl rfl rfl) (Qf rfl (Qf rfl Qn)) rfl rfl rfl)
 ·exact Nat.zero_le _
 intro i hI
 have hlen := Qmt w n i
 have hbd := Qpv (w := w) h0n i
 try dsimp only
 refine QD ?_ -- 1
 refine Qe fun K hK => Qa rfl (Qi rfl rfl (QC rfl rfl rfl ?_))
 first | refine QR rfl QX ?_ | refine QR rfl rfl ?_
 refine Yb rfl rfl ?_
 refine hK _ _ (Qb (kp5 rfl rfl rfl rfl rfl) ?_)
 refine Qw rfl (fun h1 => ?_) (fun h1 => ?_)
 ·try rw [h1]
  try simp only [qa, qb, qc, qd, qe, List.length_map] at h1
  refine Qv (Qd (kp4 rfl rfl rfl rfl) ?_)
  refine QD ?_ -- 2
  refine Qz (Qe fun K hK => Qi rfl rfl (QC rfl rfl rfl (Qa rfl (QJ rfl rfl rfl (by omega) (QT (by omega)) rfl (Q6 rfl rfl (QC rfl rfl rfl ?_))))))
  first | refine QR rfl QX ?_ | refine QR rfl rfl ?_
  refine QY rfl rfl (Qr (by omega) (by have := hw.csLen (show i < w.length by omega); omega)) (Qa rfl ?_)
  refine hK _ _ (Qb (kp5 rfl rfl rfl rfl rfl) ?_)
  refine Qe fun K hK => Qa rfl (Qa rfl (Qa rfl (Qmi rfl rfl (by omega) (X2 rfl rfl (QqL (hw.csLen (by omega))) (QH rfl rfl (Xz rfl rfl (fun _ h => Xj rfl rfl rfl h) rfl (by simp) rfl rfl rfl (by simp; omega) (by simp; omega) (Qa rfl ?_)))))))
  refine hK _ _ (Qb (kp5 rfl rfl rfl rfl rfl) ?_)
  refine QN fun K hK => Qa rfl (Qa rfl (QrW rfl rfl (by omega) (QqK hbd.1 (by omega)) (Qa rfl (hK _ ?_))))
  refine Qh (Qd (kp4 rfl rfl rfl rfl) (QN fun K hK => Qa rfl (QY rfl rfl (by first | exact Qr (by omega) (by omega) | rfl) (Qa rfl (hK _ ?_)))))
  refine Qk (i + 1) ?_ ?_ ?_
  ·exact Q2 (l := [1, 2, 5, 6]) (lH := [2, 5]) (kp4 rfl rfl rfl rfl) (Qf rfl (Qf rfl Qn)) (by rw [Qpu (by omega), Qre (by omega), List.length_append]; rfl) (by rw [Qpu (by omega), List.map_append]; rfl) rfl
  ·omega
  ·first | omega | (simp only; omega) | (dsimp only; omega)
 ·try rw [h1]
  try simp only [qa, qb, qc, qd, qe, List.length_map] at h1
  refine Zh (QL (Qx (QE (Qd (kp1 rfl) (Qe fun K hK => Qa rfl (Qa rfl ?_))))))
  refine hK _ _ (Qb (kp1 rfl) ?_)
  refine Qu ?_
  exact QbJ rfl rfl rfl (by simp) (by rw [Qh5, show w.length = i by omega]; rfl)
theorem QdF {w : Qm} (hw : WSm w) {l : List Int} (hL : ∀ x ∈ l, I64 x) (hl : l.length <= 1000000) : Ok Tryz.prog 18 [ZP w, ZC l] (Zt (QlY w l)) := by
 refine Ok.ofT ZQ Tryz.func18 Qs7 (Nat.le_of_ble_eq_true rfl) ?_
 show TW _ _ tf18.body _ _
 have hn := hw.len
 refine Qe fun K hK => Zo rfl rfl rfl (Qa rfl ?_)
 refine hK _ _ (Qb (kp2 rfl rfl) ?_)
 refine Qe fun K hK => Qa rfl ?_
 refine hK _ _ (Qb (kp3 rfl rfl rfl) ?_)
 refine QgL (ι := Unit) (fun _ => ⟨[(2, .ref 2 0 0), (5, Zt (QgE w l (min 4 (l.length / 2))))], [(2, ⟨[[.sl ((w).map Ym)]], 1, 26, true⟩)]⟩) (fun _ => True) ?_ ?_
 ·skip
  refine Qe fun K hK => Qa rfl ?_
  refine hK _ _ (Qb (kp4 rfl rfl rfl rfl) ?_)
  refine Qz ?_
  refine Zm (ι := Nat) (fun j => ⟨[(1, ZC l), (2, .ref 2 0 0), (5, .osl 5 (QgE w l j).length), (6, .int .i64 (2 * (j : Int)))], [(2, ⟨[[.sl ((w).map Ym)]], 1, 26, true⟩), (5, ⟨(QgE w l j).map QbZ, 2, 35, true⟩)]⟩) (fun j => j <= min 4 (l.length / 2)) (fun j => min 4 (l.length / 2) - j) 0 ?_ ?_ ?_
  ·exact le_trans (Yj 5 5 2 35 rfl rfl) (Q2 (l := [1, 2, 5, 6]) (lH := [2, 5]) (kp4 rfl rfl rfl rfl) (Qf rfl (Qf rfl Qn)) rfl rfl rfl)
  ·exact Nat.zero_le _
  intro j hI
  have hlen := Qci w l j
  try dsimp only
  refine QD ?_ -- 1
  refine Qe fun K hK => Qa rfl (QY rfl rfl (by first | exact Qr (by omega) (by omega) | rfl) (Qa rfl ?_))
  first | refine QR rfl QX ?_ | refine QR rfl rfl ?_
  refine Yb rfl rfl (Qa rfl ?_)
  refine QB (g := 15) rfl (fun h1 => ?_) (fun h1 => ?_)
  ·try rw [h1]
   try simp only [qa, qb, qc, qd, qe, List.length_map] at h1
   refine Qg rfl (Qa rfl (Qg rfl (Yb rfl rfl (Ql rfl rfl ?_))))
   refine hK _ _ (Qb (kp5 rfl rfl rfl rfl rfl) ?_)
   refine Qw rfl (fun h2 => ?_) (fun h2 => ?_)
   ·try rw [h2]
    try simp only [qa, qb, qc, qd, qe, List.length_map] at h2
    refine Qv (Qd (kp4 rfl rfl rfl rfl) ?_)
    refine QD ?_ -- 2
    refine Qz (Qe fun K hK => Qa rfl (Qa rfl (QJ rfl rfl rfl (by omega) (ZA (by omega) (by omega)) rfl (QP (ds0 := [1, 0]) rfl rfl rfl rfl rfl (Qi rfl rfl (QP (ds0 := [2, 1, 0]) rfl rfl rfl rfl rfl ?_))))))
    first | refine QR rfl QX ?_ | refine QR rfl rfl ?_
    refine QS (ds0 := [0]) (Z3 (by omega) (hL _ (List.getElem_mem (by omega)))) rfl rfl (.inr rfl) rfl rfl (Qa rfl ?_)
    refine hK _ _ (Qb (kp5 rfl rfl rfl rfl rfl) ?_)
    refine QN fun K hK => Qa rfl (Qa rfl (Qa rfl (Qa rfl (QY rfl rfl (by first | exact Qr (by omega) (by omega) | rfl) (QJ rfl rfl rfl (by omega) (ZA (by omega) (by omega)) rfl (QP (ds0 := [5, 4, 3, 2, 1, 0]) rfl rfl rfl rfl rfl (QO (ds0 := [6, 5, 4, 3, 2, 1, 0]) (cs := [_]) rfl rfl rfl rfl rfl rfl (Qa rfl (QS (ds0 := [5, 4, 3, 2, 1, 0]) (ZD hw) rfl rfl (.inr rfl) rfl rfl (QS (ds0 := [4, 3, 2, 1, 0]) (Z3 (by have := Qd1 w (mPl (l[(2 * (j : Int)).toNat]'(by omega)) w.length); omega) (hL _ (List.getElem_mem (by omega)))) rfl rfl (.inr rfl) rfl rfl ?_))))))))))
    refine QY rfl rfl (Qpg _ (Qd1 _ _).2) (QU rfl rfl (QH rfl rfl (Qbp (ds0 := [0]) rfl rfl (by simp [D.ids, D.sid]) ⟨_, rfl, rfl, rfl, rfl, rfl⟩ rfl rfl (by simp) rfl rfl (by simp; omega) (by simp; omega) rfl rfl (Qa rfl (hK _ ?_)))))
    refine Qh (Qd (kp4 rfl rfl rfl rfl) (QN fun K hK => Qa rfl (QY rfl rfl (by first | exact Qr (by omega) (by omega) | rfl) (Qa rfl (hK _ ?_)))))
    refine Qk (j + 1) ?_ ?_ ?_
    ·exact le_trans (QhX (l := [1, 2, 6]) (lH := [2]) 43 5 5 (kp3 rfl rfl rfl) (Qf rfl Qn) rfl rfl rfl rfl rfl rfl rfl) (Q2 (l := [1, 2, 5, 6]) (lH := [2, 5]) (kp4 rfl rfl rfl rfl) (Qf rfl (Qf rfl Qn)) (by simp only [List.cons.injEq, Prod.mk.injEq, D.int.injEq, D.osl.injEq, true_and, and_true, Qci]; first | omega | (constructor <;> first | omega | rfl | (simp [Qci]; done))) (by rw [Qrm, List.map_append, Qox (by omega)]; rfl) rfl)
    ·show j + 1 <= _; omega
    ·show min 4 (l.length / 2) - (j + 1) < min 4 (l.length / 2) - j; omega
   ·try rw [h2]
    try simp only [qa, qb, qc, qd, qe, List.length_map] at h2
    refine Zh (QL (Qx (QE ?_)))
    refine Z0 () ?_ ?_
    ·exact le_trans (Qg2 (l := [2]) (lH := [2]) 5 5 (kp1 rfl) (Qf rfl Qn) rfl rfl rfl (by first | (simp; done) | (simp; omega)) rfl rfl rfl rfl) (Q2 (l := [2, 5]) (lH := [2]) (kp2 rfl rfl) (Qf rfl Qn) (by rw [show min 4 (l.length / 2) = j by omega]; rfl) rfl rfl)
    ·exact trivial
  ·try rw [h1]
   try simp only [qa, qb, qc, qd, qe, List.length_map] at h1
   refine Qq rfl (Qq rfl (Ql rfl rfl ?_))
   refine hK _ _ (Qb (kp5 rfl rfl rfl rfl rfl) ?_)
   refine ZM rfl (Zh (QL (Qx (QE ?_))))
   refine Z0 () ?_ ?_
   ·exact le_trans (Qg2 (l := [2]) (lH := [2]) 5 5 (kp1 rfl) (Qf rfl Qn) rfl rfl rfl (by first | (simp; done) | (simp; omega)) rfl rfl rfl rfl) (Q2 (l := [2, 5]) (lH := [2]) (kp2 rfl rfl) (Qf rfl Qn) (by rw [show min 4 (l.length / 2) = j by omega]; rfl) rfl rfl)
   ·exact trivial
 intro _ hJ
 try dsimp only
 refine Qe fun K hK => QG (cs := [_]) rfl rfl rfl rfl (Qa rfl (QF (X6 hw (by rw [Qci]; omega)) rfl rfl (.inl rfl) (Qa rfl (Za rfl rfl (Za rfl rfl (Qa rfl (Qa rfl ?_)))))))
 refine hK _ _ (Qb (kp1 rfl) ?_)
 refine Qe fun K hK => Qa rfl (Qa rfl ?_)
 refine hK _ _ (Qb (kp1 rfl) ?_)
 refine Qu (Yk rfl ?_)
 rfl
theorem Qer {w : Qm} (hw : WSm w) (h0 : 0 < w.length) : Ok Tryz.prog 12 [ZP w, ZC []] (dDb (mDB w)) := by
 refine Ok.ofT ZQ Tryz.func12 Qs1 (Nat.le_of_ble_eq_true rfl) ?_
 show TW _ _ tf12.body _ _
 have hn := Qoa hw h0
 refine Qe fun K hK => Zo rfl rfl rfl (Qa rfl ?_)
 refine hK _ _ (Qb (kp2 rfl rfl) ?_)
 refine Qe fun K hK => QG (cs := [_]) rfl rfl rfl rfl (QF (Qdk hw) rfl rfl (.inl rfl) (Qa rfl ?_))
 refine hK _ _ (Qb (kp3 rfl rfl rfl) ?_)
 refine Qe fun K hK => Qa rfl ?_
 refine hK _ _ (Qb (kp4 rfl rfl rfl rfl) ?_)
 refine QD ?_ -- 0
 refine Qe fun K hK => Qa rfl ?_
 refine hK _ _ (Qb (kp5 rfl rfl rfl rfl rfl) ?_)
 refine Qz ?_
 refine Zm (ι := Nat) (fun i => ⟨[(1, ZC []), (2, .ref 2 0 0), (5, Qrg (QdZ w)), (6, .osl 6 (Qoe w i).length), (7, .int .i64 i)], [(2, ⟨[[.sl ((w).map Ym)]], 1, 26, true⟩), (6, ⟨(Qoe w i).map (fun t => [Zt t]), 1, 41, true⟩)]⟩) (fun i => i <= (QdZ w).length) (fun i => (QdZ w).length - i) 0 ?_ ?_ ?_
 ·exact le_trans (Yj 6 6 1 41 rfl rfl) (Q2 (l := [1, 2, 5, 6, 7]) (lH := [2, 6]) (kp5 rfl rfl rfl rfl rfl) (Qf rfl (Qf rfl Qn)) rfl rfl rfl)
 ·exact Nat.zero_le _
 intro i hI
 have hlen := Qof w i
 try dsimp only
 refine QD ?_ -- 1
 refine Qe fun K hK => Qa rfl (Qa rfl ?_)
 first | refine QR rfl QX ?_ | refine QR rfl rfl ?_
 refine Yb rfl rfl ?_
 refine hK _ _ (Qb (kp6 rfl rfl rfl rfl rfl rfl) ?_)
 refine Qw rfl (fun h1 => ?_) (fun h1 => ?_)
 ·try rw [h1]
  try simp only [qa, qb, qc, qd, qe, List.length_map, List.length_nil] at h1
  refine Qv (Qd (kp5 rfl rfl rfl rfl rfl) ?_)
  refine QD ?_ -- 2
  refine Qz (QN fun K hK => Qa rfl (Qa rfl (Qa rfl (QJ rfl rfl rfl (by omega) (QT (by omega)) rfl (Q6 rfl rfl (QC rfl rfl rfl (QH rfl rfl (Xz rfl rfl (fun _ h => Xj rfl rfl rfl h) rfl (by simp) rfl rfl rfl (by simp; omega) (by simp; omega) (Qa rfl (hK _ ?_))))))))))
  refine Qh (Qd (kp5 rfl rfl rfl rfl rfl) (QN fun K hK => Qa rfl (QY rfl rfl (by first | exact Qr (by omega) (by omega) | rfl) (Qa rfl (hK _ ?_)))))
  refine Qk (i + 1) ?_ ?_ ?_
  ·exact Q2 (l := [1, 2, 5, 6, 7]) (lH := [2, 6]) (kp5 rfl rfl rfl rfl rfl) (Qf rfl (Qf rfl Qn)) (by first | (rw [QhG (by omega)]; done) | (rw [QhG (by omega)]; rfl) | (rw [QhG (by omega), List.length_append]; rfl) | (simp [QhG (by omega)]; done) | (simp [QhG (by omega)]; omega) | rfl) (by first | (rw [QhG (by omega)]; done) | (rw [QhG (by omega)]; rfl) | (rw [QhG (by omega), List.map_append]; rfl) | (simp [QhG (by omega)]; done) | rfl) rfl
  ·omega
  ·first | omega | (simp only; omega) | (dsimp only; omega)
 ·try rw [h1]
  try simp only [qa, qb, qc, qd, qe, List.length_map, List.length_nil] at h1
  refine Zh (QL (Qx (QE (Qd (kp3 rfl rfl rfl) ?_))))
  refine QD ?_ -- 3
  refine Qe fun K hK => Qa rfl ?_
  refine hK _ _ (Qb (kp4 rfl rfl rfl rfl) ?_)
  refine Qz ?_
  refine Zm (ι := Unit) (fun _ => ⟨[(1, ZC []), (2, .ref 2 0 0), (6, .osl 6 (mDB w).length), (8, .int .i64 0)], [(2, ⟨[[.sl ((w).map Ym)]], 1, 26, true⟩), (6, ⟨(mDB w).map (fun t => [Zt t]), 1, 41, true⟩)]⟩) (fun _ => True) (fun _ => 0) () ?_ ?_ ?_
  ·exact Q2 (l := [1, 2, 6, 8]) (lH := [2, 6]) (kp4 rfl rfl rfl rfl) (Qf rfl (Qf rfl Qn)) (by rw [Qpw (by omega)]) (by rw [Qpw (by omega)]) rfl
  ·trivial
  intro _ hJ
  try dsimp only
  refine QD ?_ -- 4
  refine Qe fun K hK => Qa rfl (Qa rfl ?_)
  first | refine QR rfl QX ?_ | refine QR rfl rfl ?_
  refine Yb rfl rfl (Qa rfl ?_)
  refine QB (g := 31) rfl (fun h2 => ?_) (fun h2 => ?_)
  ·try rw [h2]
   try simp only [qa, qb, qc, qd, qe, List.length_map, List.length_nil] at h2
   exact absurd h2 (by decide)
  ·try rw [h2]
   try simp only [qa, qb, qc, qd, qe, List.length_map, List.length_nil] at h2
   refine Qq rfl (Qq rfl (Qq rfl (Qq rfl (Qq rfl (Ql rfl rfl ?_)))))
   refine hK _ _ (Qb (kp5 rfl rfl rfl rfl rfl) ?_)
   refine ZM rfl (Zh (QL (Qx (QE (Qd (kp1 rfl) (Qe fun K hK => Qa rfl (Qa rfl ?_)))))))
   refine hK _ _ (Qb (kp1 rfl) ?_)
   refine Qu ?_
   exact QbJ rfl rfl rfl (by simp) (by rfl)
theorem QlF {v : Int} (h0 : -1 <= v) (h1v : v <= 60) : Ok Tryz.prog 82 [.int .i64 v] (.int .i64 (2 ^ (v + 1).toNat)) := by
 refine Ok.ofT ZQ Tryz.func82 QtZ (Nat.le_of_ble_eq_true rfl) ?_
 show TW _ _ tf82.body _ _
 refine Qe fun K hK => Qa rfl ?_
 refine hK _ _ (Qb (kp1 rfl) ?_)
 refine Qe fun K hK => Qa rfl (QY rfl rfl (by first | exact Qr (by omega) (by omega) | rfl) (Qn6 rfl rfl (by omega) (QjJ (by omega)) (Qa rfl ?_)))
 refine hK _ _ (Qb (kp1 rfl) ?_)
 refine Qu (Qy rfl ?_)
 rfl
theorem QlG {w : Qm} (hw : WSm w) {u : Int} : Ok Tryz.prog 81 [ZP w, .int .i64 u] (.bool (inW w u)) := by
 refine Ok.ofT ZQ Tryz.func81 QtY (Nat.le_of_ble_eq_true rfl) ?_
 show TW _ _ tf81.body _ _
 refine Qe fun K hK => Zo rfl rfl rfl (Qa rfl ?_)
 refine hK _ _ (Qb (kp2 rfl rfl) ?_)
 refine Qe fun K hK => Qa rfl (Qdx rfl rfl (Qa rfl ?_))
 refine QB (g := 7) rfl (fun h1 => ?_) (fun h1 => ?_)
 ·try rw [h1]
  try simp only [qa, qb, qc, qd, qe, List.length_map] at h1
  refine Qg rfl (Qa rfl (Qg rfl (Qi rfl rfl (Qg rfl (QC rfl rfl rfl (Qg rfl ?_))))))
  first | refine QR rfl QX ?_ | refine QR rfl rfl ?_
  refine Qg rfl (Yb rfl rfl (Ql rfl rfl (Qa rfl ?_)))
  refine hK _ _ (Qb (kp1 rfl) ?_)
  refine Qu (Qs rfl ?_)
  first | rfl | (rw [Qds (by omega)]; done) | (rw [inW, decide_eq_true h1, Bool.true_and])
 ·try rw [h1]
  try simp only [qa, qb, qc, qd, qe, List.length_map] at h1
  refine Qq rfl (Qq rfl (Qq rfl (Qq rfl (Qq rfl (Ql rfl rfl (Qa rfl ?_))))))
  refine hK _ _ (Qb (kp1 rfl) ?_)
  refine Qu (Qs rfl ?_)
  first | rfl | (rw [Qds (by omega)]; done) | (rw [inW, decide_eq_true h1, Bool.true_and])
theorem Qax {w : Qm} (hw : WSm w) {u : Int} : Ok Tryz.prog 50 [ZP w, .int .i64 u] (.int .i64 (Yz w u)) := by
 refine Ok.ofT ZQ Tryz.func50 Qtw (Nat.le_of_ble_eq_true rfl) ?_
 show TW _ _ tf50.body _ _
 refine Qe fun K hK => Zo rfl rfl rfl (Qa rfl ?_)
 refine hK _ _ (Qb (kp2 rfl rfl) ?_)
 refine QD ?_ -- 0
 refine Qe fun K hK => QG (cs := [_]) rfl rfl rfl rfl (Qa rfl (QF (QlG hw) rfl rfl (.inr rfl) (Ye rfl ?_)))
 refine hK _ _ (Qb (kp3 rfl rfl rfl) ?_)
 refine Qw rfl (fun h1 => ?_) (fun h1 => ?_)
 ·try rw [h1]
  try simp only [qa, qb, qc, qd, qe, List.length_map] at h1
  try have h1b := Qch.1 h1
  refine Qe fun K hK => Qa rfl ?_
  refine hK _ _ (Qb (kp1 rfl) ?_)
  refine Qu (Qj (Qy rfl ?_))
  rw [XZ.2 h1]
 ·try rw [h1]
  try simp only [qa, qb, qc, qd, qe, List.length_map] at h1
  try have h1b := Qch.1 h1
  refine Qv (Qd (kp2 rfl rfl) (Qe fun K hK => Qi rfl rfl (QC rfl rfl rfl (Qa rfl (QJ rfl rfl rfl (by omega) (ZA (by omega) (by omega)) rfl (Q6 rfl rfl (QC rfl rfl rfl ?_)))))))
  first | refine QR rfl QX ?_ | refine QR rfl rfl ?_
  refine QF (QlF (by omega) (by have := hw.cs _ (List.getElem_mem (show u.toNat < w.length by omega)); omega)) rfl rfl (.inr rfl) (X2 rfl rfl (QjI (by have := hw.cs _ (List.getElem_mem (show u.toNat < w.length by omega)); omega)) (Qa rfl ?_))
  refine hK _ _ (Qb (kp1 rfl) ?_)
  refine Qu (Qy rfl ?_)
  rw [Qh6 h1b.1 h1b.2, show min (w[u.toNat]'(by omega)).cs.length 16 = (w[u.toNat]'(by omega)).cs.length from Nat.min_eq_left (hw.cs _ (List.getElem_mem _)), QnW]
theorem Qcd {w : Qm} (hw : WSm w) {l : List QK} (hl : l.length <= 10000000) {u : Int} : Ok Tryz.prog 51 [ZP w, Zs l, .int .i64 u] (.int .i64 (QaR w l u)) := by
 refine Ok.ofT ZQ Tryz.func51 Qtx (Nat.le_of_ble_eq_true rfl) ?_
 show TW _ _ tf51.body _ _
 refine Qe fun K hK => Zo rfl rfl rfl (Qa rfl ?_)
 refine hK _ _ (Qb (kp3 rfl rfl rfl) ?_)
 refine QD ?_ -- 0
 refine Qe fun K hK => Qa rfl ?_
 first | refine QR rfl QX ?_ | refine QR rfl rfl ?_
 refine X2 rfl rfl (by first | exact Qr (by omega) (by omega) | rfl) (Qa rfl ?_)
 refine hK _ _ (Qb (kp4 rfl rfl rfl rfl) ?_)
 refine Qz ?_
 refine Zm (ι := Nat) (fun i => ⟨[(1, Zs l), (2, .int .i64 u), (3, .ref 3 0 0), (7, .int .i64 ((i : Int) - 1))], [(3, ⟨[[.sl ((w).map Ym)]], 1, 26, true⟩)]⟩) (fun i => i <= l.length /\ QaR w l u = QaR w (l.take i) u) (fun i => i) l.length ?_ ?_ ?_
 ·exact Q2 (l := [1, 2, 3, 7]) (lH := [3]) (kp4 rfl rfl rfl rfl) (Qf rfl Qn) rfl rfl rfl
 ·exact ⟨Nat.le_refl _, by rw [List.take_length]⟩
 intro i hI
 try dsimp only
 refine QD ?_ -- 1
 refine Qe fun K hK => Qa rfl (Qdx rfl rfl ?_)
 refine hK _ _ (Qb (kp5 rfl rfl rfl rfl rfl) ?_)
 refine Qw rfl (fun h1 => ?_) (fun h1 => ?_)
 ·try rw [h1]
  try simp only [qa, qb, qc, qd, qe, List.length_map] at h1
  refine Qv (Qd (kp4 rfl rfl rfl rfl) ?_)
  refine QD ?_ -- 2
  refine Qz (Qe fun K hK => Qa rfl (Qa rfl (QJ rfl rfl rfl (by omega) (ZA (by omega) (by omega)) rfl (Q6 rfl rfl (QC rfl rfl rfl (Qa rfl (ZI rfl rfl ?_)))))))
  refine hK _ _ (Qb (kp5 rfl rfl rfl rfl rfl) ?_)
  refine Qw rfl (fun h2 => ?_) (fun h2 => ?_)
  ·try rw [h2]
   try simp only [qa, qb, qc, qd, qe, List.length_map] at h2
   refine Qe fun K hK => Qa rfl (Qa rfl (QJ rfl rfl rfl (by omega) (ZA (by omega) (by omega)) rfl (Q6 rfl rfl (QC rfl rfl rfl (Qa rfl ?_)))))
   refine hK _ _ (Qb (kp1 rfl) ?_)
   refine Qu (Qt (Qj (Q4 (Qt (Qj (Qy rfl ?_))))))
   rw [hI.2, Qm4 (k := ((i : Int) - 1).toNat) (by omega) (by omega) h2]
  ·try rw [h2]
   try simp only [qa, qb, qc, qd, qe, List.length_map] at h2
   refine Qv (Qh (Qd (kp4 rfl rfl rfl rfl) (QN fun K hK => Qa rfl (X2 rfl rfl (by first | exact Qr (by omega) (by omega) | rfl) (Qa rfl (hK _ ?_))))))
   refine Qk (i - 1) ?_ ?_ ?_
   ·exact Q2 (l := [1, 2, 3, 7]) (lH := [3]) (kp4 rfl rfl rfl rfl) (Qf rfl Qn) (by simp only [List.cons.injEq, Prod.mk.injEq, D.int.injEq, and_true, true_and]; omega) rfl rfl
   ·exact ⟨by omega, by rw [hI.2, QlV (k := ((i : Int) - 1).toNat) (by omega) (by omega) h2]⟩
   ·first | omega | (simp only; omega) | (dsimp only; omega)
 ·try rw [h1]
  try simp only [qa, qb, qc, qd, qe, List.length_map] at h1
  refine Zh (QL (Qx (QE (Qd (kp2 rfl rfl) (Qe fun K hK => QG (cs := [_]) rfl rfl rfl rfl (Qa rfl (QF (Qax hw) rfl rfl (.inr rfl) (Qa rfl ?_))))))))
  refine hK _ _ (Qb (kp1 rfl) ?_)
  refine Qu (Qy rfl ?_)
  rw [hI.2, show i = 0 by omega]; rfl
theorem QaL {w : Qm} (hw : WSm w) {l : List QK} (hl : l.length <= 10000000) {u : Int} : Ok Tryz.prog 16 [ZP w, Zs l, .int .i64 u] (.int .i64 (Q8 w l u)) := by
 refine Ok.ofT ZQ Tryz.func16 Qs5 (Nat.le_of_ble_eq_true rfl) ?_
 show TW _ _ tf16.body _ _
 refine Qe fun K hK => Zo rfl rfl rfl (Qa rfl ?_)
 refine hK _ _ (Qb (kp3 rfl rfl rfl) ?_)
 refine QD ?_ -- 0
 refine Qe fun K hK => QG (cs := [_]) rfl rfl rfl rfl (Qa rfl (QF (Qax hw) rfl rfl (.inr rfl) (ZI rfl rfl ?_)))
 refine hK _ _ (Qb (kp4 rfl rfl rfl rfl) ?_)
 refine Qw rfl (fun h1 => ?_) (fun h1 => ?_)
 ·try rw [h1]
  try simp only [qa, qb, qc, qd, qe, List.length_map] at h1
  refine Qe fun K hK => Qa rfl ?_
  refine hK _ _ (Qb (kp1 rfl) ?_)
  refine Qu (Qj (Qy rfl ?_))
  rw [Qh2 (XZ.1 h1)]
 ·try rw [h1]
  try simp only [qa, qb, qc, qd, qe, List.length_map] at h1
  refine Qv (Qd (kp3 rfl rfl rfl) (Qe fun K hK => QG (cs := [_]) rfl rfl rfl rfl (Qa rfl (Qa rfl (QF (Qcd hw hl) rfl rfl (.inr rfl) (Qa rfl ?_))))))
  refine hK _ _ (Qb (kp1 rfl) ?_)
  refine Qu (Qy rfl ?_)
  rw [Qh1 (by simpa using fun e => h1 (XZ.2 e))]
theorem Qae {l : List QK} (hl : l.length <= 10000000) : Ok Tryz.prog 17 [Zs l] (.int .i64 (YZ l)) := by
 refine Ok.ofT ZQ Tryz.func17 Qs6 (Nat.le_of_ble_eq_true rfl) ?_
 show TW _ _ tf17.body _ _
 refine Qe fun K hK => Qa rfl ?_
 refine hK _ _ (Qb (kp1 rfl) ?_)
 refine QD ?_ -- 0
 refine Qe fun K hK => Qa rfl ?_
 first | refine QR rfl QX ?_ | refine QR rfl rfl ?_
 refine ZI rfl rfl ?_
 refine hK _ _ (Qb (kp2 rfl rfl) ?_)
 refine Qw rfl (fun h1 => ?_) (fun h1 => ?_)
 ·try rw [h1]
  try simp only [qa, qb, qc, qd, qe, List.length_map] at h1
  refine Qe fun K hK => Qa rfl ?_
  refine hK _ _ (Qb (kp1 rfl) ?_)
  refine Qu (Qj (Qy rfl ?_))
  rw [Qi1 h1]
 ·try rw [h1]
  try simp only [qa, qb, qc, qd, qe, List.length_map] at h1
  refine Qv (Qd (kp1 rfl) (Qe fun K hK => Qa rfl (Qa rfl ?_)))
  first | refine QR rfl QX ?_ | refine QR rfl rfl ?_
  refine X2 rfl rfl (by first | exact Qr (by omega) (by omega) | rfl) (QJ rfl rfl rfl (by omega) (ZA (by omega) (by omega)) rfl (Q6 rfl rfl (QC rfl rfl rfl (Qa rfl ?_))))
  refine hK _ _ (Qb (kp1 rfl) ?_)
  refine Qu (Qy rfl ?_)
  rw [Qk2 (k := ((l.length : Int) - 1).toNat) (by omega)]
theorem QgO {l : List QK} (hl : l.length <= 10000000) {s : QK} : Ok Tryz.prog 49 [Zs l, .agg (QfL s)] (Zs (l ++ [s])) := by
 refine Ok.ofT ZQ Tryz.func49 Qtv (Nat.le_of_ble_eq_true rfl) ?_
 show TW _ _ tf49.body _ _
 refine Qe fun K hK => Zo rfl rfl rfl (Qa rfl ?_)
 refine hK _ _ (Qb (kp2 rfl rfl) ?_)
 refine Qe fun K hK => Qa rfl (Qa rfl ?_)
 first | refine QR rfl QX ?_ | refine QR rfl rfl ?_
 refine Qa rfl ?_
 first | refine QR rfl QX ?_ | refine QR rfl rfl ?_
 refine QkF rfl rfl rfl rfl rfl (by omega) (by omega) (by simp) Qkm (QnJ rfl) (QO (ds0 := [2, 1, 0]) (cs := [_, _, _, _]) rfl rfl rfl rfl rfl rfl (QH rfl rfl (Qeo (ds0 := [0]) rfl rfl (fun _ h => Xj rfl rfl rfl h) rfl (.inr (by simp)) Qkm (by simp; omega) (by simp; omega) rfl rfl (Qa rfl ?_))))
 refine hK _ _ (Qb (kp1 rfl) ?_)
 refine Qu ?_
 exact QbJ rfl rfl rfl (by simp) (by simp [Zs, QfL])
theorem QgA {w : Qm} (hw : WSm w) {l : List QK} (hl : l.length <= 10000000) (hp : Plain w l) {t : TermT} {c : Int} : Ok Tryz.prog 15 [ZP w, Zs l, .agg (QbZ t), .int .i64 c] (dOS (Yq w l t c)) := by
 refine Ok.ofT ZQ Tryz.func15 Qs4 (Nat.le_of_ble_eq_true rfl) ?_
 show TW _ _ tf15.body _ _
 refine Qe fun K hK => Zo rfl rfl rfl (Zo rfl rfl rfl (Qa rfl (Qa rfl ?_)))
 refine hK _ _ (Qb (kp4 rfl rfl rfl rfl) ?_)
 refine Qe fun K hK => QG (cs := [_]) rfl rfl rfl rfl (Qa rfl (Qi rfl rfl (QC rfl rfl rfl (QF (QaL hw hl) rfl rfl (.inr rfl) (Qa rfl ?_)))))
 refine hK _ _ (Qb (kp4 rfl rfl rfl rfl) ?_)
 refine QD ?_ -- 0
 refine Qe fun K hK => Qa rfl (Yb rfl rfl (Qa rfl ?_))
 refine QB (g := 18) rfl (fun h1 => ?_) (fun h1 => ?_)
 ·try rw [h1]
  try simp only [qa, qb, qc, qd, qe, List.length_map] at h1
  refine Qq rfl (Qq rfl (Qq rfl (Qq rfl (Qq rfl (Ql rfl rfl (Qa rfl (Qq rfl (Qq rfl (Qq rfl (Qq rfl (Qq rfl ?_)))))))))))
  refine Ql rfl rfl ?_
  refine hK _ _ (Qb (kp5 rfl rfl rfl rfl rfl) ?_)
  refine Zl rfl (Qe fun K hK => Qa rfl (Qa rfl ?_))
  refine hK _ _ (Qb (kp2 rfl rfl) ?_)
  refine Qu (Qj ?_)
  rw [QcF (.inl h1)]
  exact QV rfl rfl ⟨rfl, rfl⟩
 ·try rw [h1]
  try simp only [qa, qb, qc, qd, qe, List.length_map] at h1
  refine Qg rfl (Qa rfl (Qg rfl (Qi rfl rfl (Qg rfl (QC rfl rfl rfl (Qg rfl (QcS rfl rfl (Qg rfl (ZI rfl rfl (Ql rfl rfl (Qa rfl ?_)))))))))))
  refine QB (g := 25) rfl (fun h2 => ?_) (fun h2 => ?_)
  ·try rw [h2]
   try simp only [qa, qb, qc, qd, qe, List.length_map] at h2
   refine Qq rfl (Qq rfl (Qq rfl (Qq rfl (Qq rfl (Ql rfl rfl ?_)))))
   refine hK _ _ (Qb (kp5 rfl rfl rfl rfl rfl) ?_)
   refine Zl rfl (Qe fun K hK => Qa rfl (Qa rfl ?_))
   refine hK _ _ (Qb (kp2 rfl rfl) ?_)
   refine Qu (Qj ?_)
   rw [Qmz hp h2]
   exact QV rfl rfl ⟨rfl, rfl⟩
  ·try rw [h2]
   try simp only [qa, qb, qc, qd, qe, List.length_map] at h2
   refine Qg rfl (Qa rfl (Qg rfl (Qi rfl rfl (Qg rfl (QC rfl rfl rfl (Qg rfl (Qfc rfl rfl (Qg rfl (ZI rfl rfl (Ql rfl rfl ?_))))))))))
   refine hK _ _ (Qb (kp5 rfl rfl rfl rfl rfl) ?_)
   refine Qw rfl (fun h3 => ?_) (fun h3 => ?_)
   ·try rw [h3]
    try simp only [qa, qb, qc, qd, qe, List.length_map] at h3
    refine Qe fun K hK => Qa rfl (Qa rfl ?_)
    refine hK _ _ (Qb (kp2 rfl rfl) ?_)
    refine Qu (Qj ?_)
    rw [QmA h3]
    exact QV rfl rfl ⟨rfl, rfl⟩
   ·try rw [h3]
    try simp only [qa, qb, qc, qd, qe, List.length_map] at h3
    refine Qv (Qd (kp4 rfl rfl rfl rfl) (Qe fun K hK => Qa rfl (Qi rfl rfl (QP (ds0 := [3, 2, 1]) rfl rfl rfl rfl rfl (Qa rfl (Qi rfl rfl (QP (ds0 := [7, 3, 2, 1]) rfl rfl rfl rfl rfl (Qfc rfl rfl (Qa rfl (QS (ds0 := [3, 2, 1]) (Qae hl) rfl rfl (.inr rfl) rfl rfl ?_))))))))))
    refine Qa rfl (QU rfl rfl (QS (ds0 := [1]) (QgO (s := ⟨t.u, Qiv (Q8 w l t.u) t.m, YZ l, c⟩) hl) rfl rfl (.inl rfl) rfl rfl (Qa rfl (Qa rfl ?_))))
    refine hK _ _ (Qb (kp2 rfl rfl) ?_)
    refine Qu ?_
    rw [QmB hp (by omega) h2 h3]
    exact QV rfl rfl ⟨rfl, rfl⟩
end Go.Proofs
namespace M25
open Go Go.Abs M3
/-! ### prop: what is left of each unit, scans -/
theorem Qpa {w : Qm} {l : List QK} {inc : List TermT} : XK w l inc = true ↔ ∀ t ∈ inc, XF (Q8 w l t.u) t.m = 2 := by simp [XK]
structure QqY (w : Qm) (db : List (List TermT)) (l : List QK) (a : Nat) (k : Nat) : Prop where
  ha : a < db.length
  hk : k < db[a].length
  eq : Yr w db l = ((a : Int), db[a][k].u)
  one : XF (Q8 w l db[a][k].u) db[a][k].m = 1
  two : ∀ j, ∀ hj : j < db[a].length, j ≠ k -> XF (Q8 w l db[a][j].u) db[a][j].m = 2
theorem Qgu {x m : Int} : XF x m = 2 ↔ XU x m = x := by
  unfold XF
  split
  · rename_i h; exact ⟨fun _ => h, fun _ => rfl⟩
  · rename_i h
    split
    · exact ⟨(fun h2 => by cases h2), fun h2 => absurd h2 h⟩
    · exact ⟨(fun h2 => by cases h2), fun h2 => absurd h2 h⟩
theorem Ql4 {w : Qm} {l : List QK} {s : QK} (hp : Plain w l) (hs : Lo s.m) : Plain w (l ++ [s]) := fun t ht => by
  rcases List.mem_append.1 ht with ht | ht
  · exact hp t ht
  · simp only [List.mem_singleton] at ht; subst ht; exact hs
def QsV (w : Qm) (l : List QK) (t : TermT) (c : Int) : QK := ⟨t.u, Qiv (Q8 w l t.u) t.m, YZ l, c⟩
end M25
namespace M25
open Go Go.Abs M3
/-! ### Sets that are made: moderate sizes -/
theorem Qou (l : List (Cu × Cu)) (x y : Cu) : (Qcs l x y).length <= l.length + 1 := Qi5 l x y
theorem QhK (f : Cu -> Cu -> Bool) : ∀ (c : List Cu) (out : List (Cu × Cu)), (∀ x ∈ c, Cu.sm x) -> (∀ s ∈ out, Cu.sm s.1 /\ Cu.sm s.2) -> (Qcr f c out).length <= out.length + c.length /\ ∀ s ∈ Qcr f c out, Cu.sm s.1 /\ Cu.sm s.2
 | [], out, _, h => ⟨by simp [Qcr], by simpa [Qcr] using h⟩
 | [x], out, _, h => ⟨by simp [Qcr], by simpa [Qcr] using h⟩
 | x :: y :: r, out, hc, h => by
  rw [Qcr]
  have hxy := Qou out x y
  split
  ·obtain ⟨h1, h2⟩ := QhK f (y :: r) (Qcs out x y) (fun z hz => hc z (by simp at hz ⊢; exact .inr hz)) (Qk7 h (hc x (by simp)) (hc y (by simp)))
   exact ⟨by simp only [List.length_cons] at h1 ⊢; omega, h2⟩
  ·obtain ⟨h1, h2⟩ := QhK f (y :: r) out (fun z hz => hc z (by simp at hz ⊢; exact .inr hz)) h
   exact ⟨by simp only [List.length_cons] at h1 ⊢; omega, h2⟩
def SmN (n : Nat) (l : List (Cu × Cu)) : Prop := l.length <= n /\ ∀ s ∈ l, Cu.sm s.1 /\ Cu.sm s.2
theorem SmN.sm {n : Nat} {l : List (Cu × Cu)} (h : SmN n l) (hn : n <= 1000000) : Sm l := ⟨Nat.le_trans h.1 hn, h.2⟩
theorem SmN.up {n m : Nat} {l : List (Cu × Cu)} (h : SmN n l) (hn : n <= m) : SmN m l := ⟨Nat.le_trans h.1 hn, h.2⟩
theorem SmN.nil (n : Nat) : SmN n [] := ⟨Nat.zero_le _, by simp⟩
theorem QpH {a b : List (Cu × Cu)} {n m : Nat} (ha : SmN n a) (hb : SmN m b) (h : n + m <= 1000000) : SmN (2 + 2 * (n + m)) (QpD a b) := by
 unfold QpD
 split
 ·have hab : Sm (a ++ b) := (ha.sm (by omega)).app (hb.sm (by omega)) (by have := ha.1; have := hb.1; omega)
  unfold Qkb
  split
  ·obtain ⟨h1, h2⟩ := QhK (mIn (a ++ b)) (YY (a ++ b)) [] (YC hab) (by simp)
   have := Qcq (a ++ b)
   have := ha.1
   have := hb.1
   exact ⟨by simp only [List.length_nil, List.length_append] at *; omega, h2⟩
  ·exact SmN.nil _
 ·exact SmN.nil _
theorem Qnl {a : List (Cu × Cu)} {n : Nat} (ha : SmN n a) (h : n <= 1000000) : SmN (2 + 2 * n) (Qkc a) := by
 unfold Qkc
 split
 ·obtain ⟨h1, h2⟩ := QhK (fun x y => !mIn a x y) (YY a) [] (YC (ha.sm h)) (by simp)
  have := Qcq a
  have := ha.1
  exact ⟨by simp only [List.length_nil] at *; omega, h2⟩
 ·exact SmN.nil _
def QlA (n : Nat) (s : Qfz) : Prop := SmN n s.1 /\ SmN n s.2
theorem Qrv {a b : Qfz} {n m : Nat} (ha : QlA n a) (hb : QlA m b) (h : n + m <= 1000000) : QlA (2 + 2 * (n + m)) (QpE a b) := by
 unfold QpE
 split
 ·exact ⟨QpH ha.1 hb.1 h, QpH ha.2 hb.2 h⟩
 ·exact ⟨SmN.nil _, SmN.nil _⟩
theorem Qnm {a : Qfz} {n : Nat} (ha : QlA n a) (h : n <= 1000000) : QlA (2 + 2 * n) (Qia a) := by
 unfold Qia
 split
 ·exact ⟨Qnl ha.1 h, Qnl ha.2 h⟩
 ·exact ⟨SmN.nil _, SmN.nil _⟩
theorem QcR (e a b c : Int) (f : Bool) : Cu.sm ⟨e, a, b, c, [], [], f⟩ := ⟨Nat.zero_le _, Nat.zero_le _⟩
theorem QcH {a b c : Int} {p q : List UInt8} (hp : p.length <= 1000000) : QlA 1 (Xi a b c p q) := by
 unfold Xi
 split
 ·exact ⟨SmN.nil _, SmN.nil _⟩
 ·split
  ·refine ⟨SmN.nil _, ⟨Nat.le_refl _, fun s hs => ?_⟩⟩
   simp only [List.mem_singleton] at hs; subst hs
   exact ⟨⟨hp, Nat.zero_le _⟩, ⟨hp, Nat.zero_le _⟩⟩
  ·refine ⟨⟨Nat.le_refl _, fun s hs => ?_⟩, SmN.nil _⟩
   simp only [List.mem_singleton] at hs; subst hs
   constructor
   ·unfold Qga; split
    ·exact QcR ..
    ·exact QcR ..
   ·unfold Qd0; split
    ·exact QcR ..
    ·exact QcR ..
def Qml : Qfz := ([(Qda, QgF)], [(Qda, QgF)])
theorem Qpo : QlA 1 Qml := by
 have h : SmN 1 [(Qda, QgF)] := ⟨Nat.le_refl _, fun s hs => by simp only [List.mem_singleton] at hs; subst hs; exact ⟨QcR .., QcR ..⟩⟩
 exact ⟨h, h⟩
def bnd (i : Nat) : Nat := 4 * 2 ^ i
theorem Qpq {i : Nat} (h : i <= 16) : bnd i <= 262144 := by
 have : 2 ^ i <= 2 ^ 16 := Nat.pow_le_pow_right (by omega) h
 have e : (2 : Nat) ^ 16 = 65536 := by decide
 unfold bnd; omega
theorem QrC {s : Qfz} {i : Nat} (h : QlA (bnd i - 4) s) {a b c : Int} {p q : List UInt8} (hp : p.length <= 1000000) (hi : i <= 16) : QlA (bnd (i + 1) - 4) (QpE s (Xi a b c p q)) := by
 have h1 := Qpq hi
 have h4 : 4 <= bnd i := by unfold bnd; have := Nat.one_le_two_pow (n := i); omega
 have := Qrv h (QcH (a := a) (b := b) (c := c) (q := q) hp) (by omega)
 have e : bnd (i + 1) = 2 * bnd i := by unfold bnd; rw [Nat.pow_succ]; omega
 exact ⟨this.1.up (by omega), this.2.up (by omega)⟩
theorem Qo2 {s : Qfz} {i : Nat} (h : QlA (bnd i - 4) s) : QlA (bnd (i + 1) - 4) s := by
 have e : bnd (i + 1) = 2 * bnd i := by unfold bnd; rw [Nat.pow_succ]; omega
 exact ⟨h.1.up (by omega), h.2.up (by omega)⟩
def SetOk (s : Qfz) : Prop := QlA 600000 s
theorem SetOk.sm {s : Qfz} (h : SetOk s) : Sm s.1 /\ Sm s.2 := ⟨h.1.sm (by omega), h.2.sm (by omega)⟩
structure CR where
 v : Vr
 x : D
 y : D
 z : D
def dCR (r : CR) : List D := [.int .i64 r.v.a, .int .i64 r.v.b, .int .i64 r.v.c, .str r.v.p, .str r.v.q, r.x, r.y, r.z]
def CR.ren (r : CR) : CR := ⟨r.v, r.x.renS upN, r.y.renS upN, r.z.renS upN⟩
theorem Qmv (l : List CR) : (l.map dCR).map (fun r => r.map (D.renS upN)) = (l.map CR.ren).map dCR := by
 rw [List.map_map, List.map_map]; rfl
structure UR where
 n : List UInt8
 f : List UInt8
 k : Nat
 cs : List CR
def dUR (u : UR) : List D := [.str u.n, .str u.f, .osl u.k u.cs.length]
def UR.ren (u : UR) : UR := ⟨u.n, u.f, upN u.k, u.cs.map CR.ren⟩
theorem Qqc (l : List UR) : (l.map dUR).map (fun r => r.map (D.renS upN)) = (l.map UR.ren).map dUR := by
 rw [List.map_map, List.map_map]
 refine List.map_congr_left fun u _ => ?_
 simp [dUR, UR.ren, D.renS]
structure Fam (H : List (Nat × Box)) (kg ku eu ec : Nat) (us : List UR) : Prop where
 ne : ku ≠ kg
 u : ∃ pr, lk H ku = some ⟨us.map dUR, 3, eu, pr⟩
 c : ∀ y ∈ us, y.k ≠ kg /\ ∃ pr, lk H y.k = some ⟨y.cs.map dCR, 8, ec, pr⟩
 v : ∀ y ∈ us, y.cs.length <= 16 /\ ∀ z ∈ y.cs, QgM z.v
theorem Fam.up {H : List (Nat × Box)} {kg ku eu ec : Nat} {us : List UR} (h : Fam H kg ku eu ec us) : Fam (upH H) (upN kg) (upN ku) eu ec (us.map UR.ren) := by
 obtain ⟨h1, ⟨pu, h2⟩, h3, h4⟩ := h
 refine ⟨fun e => h1 (Qkz e), ⟨pu, ?_⟩, fun y hy => ?_, fun y hy => ?_⟩
 ·rw [QaP, h2, Option.map_some, Box.ren, Qqc]
 ·obtain ⟨u, hu, rfl⟩ := List.mem_map.1 hy
  obtain ⟨q1, pr, q2⟩ := h3 u hu
  refine ⟨fun e => q1 (Qkz e), pr, ?_⟩
  show lk (upH H) (upN u.k) = _
  rw [QaP, q2, Option.map_some, Box.ren, Qmv]; rfl
 ·obtain ⟨u, hu, rfl⟩ := List.mem_map.1 hy
  obtain ⟨q1, q2⟩ := h4 u hu
  refine ⟨by simpa [UR.ren] using q1, fun z hz => ?_⟩
  obtain ⟨z0, hz0, rfl⟩ := List.mem_map.1 hz
  exact q2 z0 hz0
theorem Fam.cons {H : List (Nat × Box)} {kg ku eu ec : Nat} {us : List UR} (h : Fam H kg ku eu ec us) {b : Box} : Fam ((kg, b) :: H) kg ku eu ec us := by
 obtain ⟨h1, ⟨pu, h2⟩, h3, h4⟩ := h
 exact ⟨h1, ⟨pu, Qp (Ne.symm h1) h2⟩, fun y hy => let ⟨q1, pr, q2⟩ := h3 y hy; ⟨q1, pr, Qp (Ne.symm q1) q2⟩, h4⟩
def WantIn (n : Nat) (x : WantT) : Prop := 1 <= x.u /\ x.u < n /\ SetOk x.s
def QiB (n : Nat) (r : List WantT) : Prop := r.length <= 2 /\ ∀ x ∈ r, WantIn n x
def Qfx (n : Nat) (m : Int) (ns : List (List WantT)) : Prop := (ns.length : Int) <= m /\ ∀ r ∈ ns, QiB n r
theorem Qqv {n : Nat} {x : WantT} (h : WantIn n x) : QiB n [x] := ⟨by simp, by intro y hy; simp only [List.mem_singleton] at hy; subst hy; exact h⟩
theorem Qqw {n : Nat} {x y : WantT} (h : WantIn n x) (h' : WantIn n y) : QiB n [x, y] := ⟨by simp, by
 intro z hz
 simp only [List.mem_cons, List.not_mem_nil, or_false] at hz
 rcases hz with rfl | rfl
 ·exact h
 ·exact h'⟩
theorem QnB {n : Nat} {ns : List (List WantT)} {r : List WantT} (h : ∀ r ∈ ns, QiB n r) (hr : QiB n r) : ∀ x ∈ ns ++ [r], QiB n x := fun x hx => by
 rcases List.mem_append.1 hx with hx | hx
 ·exact h x hx
 ·simp only [List.mem_singleton] at hx; subst hx; exact hr
end M25
namespace Go.Proofs
open Go Go.Abs M3 M25
set_option linter.unusedVariables false
set_option linter.unusedSimpArgs false
theorem Qcx {s : St} {args : List Opd} {kg : Nat} {L : List Int} {I n : Int} {et : Nat} (ha : Zy s args = some [.ref kg 0 0, .int .i64 n]) (hg : lk s.H kg = some (gB L I et)) (hL : ∀ x ∈ L, I64 x) (hn : n <= 9223372036854775807) : Qbt Tryz.prog 42 args s [(kg, gB L I et)] [] [(kg, gB L (nxI I) et)] (.int .i64 (nx L I n)) := by
 refine QkL (b' := gB L (nxI I) et) (ds' := [.ref (upN kg) 0 0, .int .i64 n]) ha (fun j x h => ?_) (fun k b hk j hj => ?_) (fun x hx j hj => ?_) ?_ rfl rfl rfl rfl ?_
 ·obtain ⟨rfl, rfl⟩ := XD h; exact hg
 ·obtain ⟨rfl, rfl⟩ := XD hk; simp [Box.ids, gB] at hj
 ·simp only [List.mem_cons, List.not_mem_nil, or_false] at hx
  rcases hx with rfl | rfl
  ·simp [D.ids, D.sid] at hj; subst hj; rw [QA]; rfl
  ·simp [D.ids, D.sid] at hj
 ·rw [QA]; rfl
 ·exact XV (by unfold upN; omega) hL hn et
theorem QdG {H : List (Nat × Box)} {kg kc : Nat} {L : List Int} {I : Int} {eg ec : Nat} {pr : Bool} {zs : List CR} (hkg : 1000000 <= kg) (hg : lk H kg = some (gB L I eg)) (hc : lk H kc = some ⟨zs.map dCR, 8, ec, pr⟩) (hne : kg ≠ kc) (hB : Big H) (hC : Closed H) (hL : ∀ x ∈ L, I64 x) (hz : ∀ z ∈ zs, QgM z.v) (hn : zs.length <= 16) : ∃ d H2, (∃ s I2, SetOk s /\ d = QhF s /\ H2 = (kg, gB L I2 eg) :: H) /\ OkH Tryz.prog 74 [.ref kg 0 0, .osl kc zs.length] H d H2 := by
 have hkc := hB _ _ hc
 refine OkH.ofX (R := fun d H2 => ∃ s I2, SetOk s /\ d = QhF s /\ H2 = (kg, gB L I2 eg) :: H) ZQ Tryz.func74 QtR (Nat.le_of_ble_eq_true rfl) ?_
 show TX _ _ tf74.body _ _
 refine Q9 fun K hK => ?_
 refine ZK (by repeat (first | exact hB.none (by decide) | refine Zw (by first | decide | omega) ?_)) ?_
 refine hK _ _ (QQ (kp3 rfl rfl rfl) ?_)
 refine Q9 fun K hK => Qa rfl (YI (Qcx (I := I) rfl (Qp (by omega) hg) hL (by omega)) (Qa rfl ?_))
 refine hK _ _ (QQ (kp4 rfl rfl rfl rfl) ?_)
 refine Q9 fun K hK => QF (Yd) rfl rfl (.inl rfl) ?_
 refine ZK (by repeat (first | exact hB.none (by decide) | refine Zw (by first | decide | omega) ?_)) ?_
 refine Q7 rfl rfl rfl rfl rfl rfl rfl rfl ?_
 refine hK _ _ (QQ (kp5 rfl rfl rfl rfl rfl) ?_)
 refine Xy ?_ -- 0
 refine Q9 fun K hK => Qa rfl ?_
 refine hK _ _ (QQ (kp6 rfl rfl rfl rfl rfl rfl) ?_)
 refine Yw ?_
 refine QdA (ι := Nat × Qfz) (fun ⟨i, s⟩ => ⟨[(0, .ref kg 0 0), (1, .osl kc zs.length), (4, .ref 4 0 0), (5, .int .i64 (nx L I 8)), (6, .ref 6 0 0), (7, .int .i64 i)], [(4, ⟨[[.fsl [], .fsl []]], 2, 78, true⟩), (6, ⟨[[ZJ s.1, ZJ s.2]], 2, 78, true⟩), (kg, gB L (nxI I) eg)] ++ H⟩) (fun ⟨i, s⟩ => i <= zs.length /\ QlA (bnd i - 4) s) (fun ⟨i, s⟩ => zs.length - i) (0, ([], [])) ?_ ?_ ?_
 ·exact Qf1 (l := [0, 1, 4, 5, 6, 7]) (B := [_, _, _, _]) (kp6 rfl rfl rfl rfl rfl rfl) rfl (by intro p hp; simp only [List.mem_cons, List.not_mem_nil, or_false] at hp; rcases hp with rfl | rfl | rfl <;> exact ⟨by repeat (first | exact QA | refine Qp (by first | decide | omega) ?_), rfl⟩) rfl (by intro p hp h; simp only [List.mem_cons, List.not_mem_nil, or_false] at hp; rcases hp with rfl | rfl | rfl | rfl <;> first | (simp only at h; omega) | (repeat (first | exact Q3 | refine Q1 ?_))) hB hC (by intro p hp k hk; simp only [List.mem_cons, List.not_mem_nil, or_false] at hp; rcases hp with rfl | rfl | rfl | rfl | rfl | rfl <;> first | (simp [D.ids, D.sid, Zc, QZ, ZC] at hk; done) | (simp [D.ids, D.sid, Zc, QZ, ZC] at hk; subst hk; repeat (first | exact Q3 | exact Zu hg | exact Zu hc | refine Q1 ?_)))
 ·exact ⟨Nat.zero_le _, SmN.nil _, SmN.nil _⟩
 intro ⟨i, s⟩ hI
 try dsimp only at hI
 have hb16 := Qpq (i := i) (by omega)
 try dsimp only
 refine Xy ?_ -- 1
 refine Q9 fun K hK => Qa rfl (Qa rfl ?_)
 first | refine QR rfl QX ?_ | refine QR rfl rfl ?_
 refine Yb rfl rfl ?_
 refine hK _ _ (QQ (kp7 rfl rfl rfl rfl rfl rfl rfl) ?_)
 refine YP rfl (fun h1 => ?_) (fun h1 => ?_)
 ·try rw [h1]
  try simp only [qa, qb, qc, qd, qe, List.length_map] at h1
  refine Y4 (Q5 (kp6 rfl rfl rfl rfl rfl rfl) ?_)
  refine Xy ?_ -- 2
  refine Yw (Q9 fun K hK => Qa rfl (Qa rfl (QiA rfl (Qfw (by omega) (by omega)) (Qq4 rfl rfl (by omega) (QcS rfl rfl (ZI rfl rfl ?_))))))
  refine hK _ _ (QQ (kp7 rfl rfl rfl rfl rfl rfl rfl) ?_)
  refine YP rfl (fun h2 => ?_) (fun h2 => ?_)
  ·try rw [h2]
   try simp only [qa, qb, qc, qd, qe, List.length_map] at h2
   have hvp := (hz _ (List.getElem_mem (show i < zs.length by omega))).1
   refine ZR fun K hK => QO (ds0 := [1, 0]) (cs := [_, _]) rfl rfl rfl rfl (by simp [Dr.ok, Qce]) rfl (Qa rfl (Qa rfl (XT (ds0 := [4, 3, 2, 1, 0]) rfl rfl (Qp (by omega) (Qp (by omega) (Qp (by omega) hc))) (by simp) (by omega) (by omega) rfl (by simp [Dr.ok, Qce]) rfl (Qi rfl (Zu (Qp (by omega) (Qp (by omega) (Qp (by omega) hc)))) (QO (ds0 := [2, 1, 0]) (cs := [_, _, _, _, _]) rfl (Z9 (Qp (by omega) (Qp (by omega) (Qp (by omega) hc))) (QT (by omega))) rfl rfl (by simp [Dr.ok, Qce]) rfl (QS (ds0 := [1, 0]) (X8 (hz _ (List.getElem_mem (by omega))).1 (hz _ (List.getElem_mem (by omega))).2) rfl rfl (.inl rfl) (by simp [Dr.ok, Qce]) rfl (QS (ds0 := [0]) (Qes (a := s) (b := (Xi (zs[i]'(by omega)).v.a (zs[i]'(by omega)).v.b (zs[i]'(by omega)).v.c (zs[i]'(by omega)).v.p (zs[i]'(by omega)).v.q)) (hI.2.1.sm (by omega)) (hI.2.2.sm (by omega)) ((QcH hvp).1.sm (by omega)) ((QcH hvp).2.sm (by omega)) (by have := hI.2.1.1; have := (QcH (a := (zs[i]'(by omega)).v.a) (b := (zs[i]'(by omega)).v.b) (c := (zs[i]'(by omega)).v.c) (q := (zs[i]'(by omega)).v.q) hvp).1.1; omega) (by have := hI.2.2.1; have := (QcH (a := (zs[i]'(by omega)).v.a) (b := (zs[i]'(by omega)).v.b) (c := (zs[i]'(by omega)).v.c) (q := (zs[i]'(by omega)).v.q) hvp).2.1; omega)) rfl rfl (.inl rfl) (by simp [Dr.ok, Qce]) rfl (Xn (ds0 := []) rfl rfl rfl rfl rfl rfl rfl rfl (by simp [Dr.ok, Qce]) rfl (hK _ ?_)))))))))
   refine Qh (Q5 (kp6 rfl rfl rfl rfl rfl rfl) (ZR fun K hK => Qa rfl (QY rfl rfl (by first | exact Qr (by omega) (by omega) | rfl) (Qa rfl (hK _ ?_)))))
   refine Qk (i + 1, QpE s (Xi (zs[i]'(by omega)).v.a (zs[i]'(by omega)).v.b (zs[i]'(by omega)).v.c (zs[i]'(by omega)).v.p (zs[i]'(by omega)).v.q)) ?_ ?_ ?_
   ·exact Qf1 (l := [0, 1, 4, 5, 6, 7]) (B := [_, _, _, _]) (kp6 rfl rfl rfl rfl rfl rfl) rfl (by intro p hp; simp only [List.mem_cons, List.not_mem_nil, or_false] at hp; rcases hp with rfl | rfl | rfl <;> exact ⟨by repeat (first | exact QA | refine Qp (by first | decide | omega) ?_), rfl⟩) rfl (by intro p hp h; simp only [List.mem_cons, List.not_mem_nil, or_false] at hp; rcases hp with rfl | rfl | rfl | rfl <;> first | (simp only at h; omega) | (repeat (first | exact Q3 | refine Q1 ?_))) hB hC (by intro p hp k hk; simp only [List.mem_cons, List.not_mem_nil, or_false] at hp; rcases hp with rfl | rfl | rfl | rfl | rfl | rfl <;> first | (simp [D.ids, D.sid, Zc, QZ, ZC] at hk; done) | (simp [D.ids, D.sid, Zc, QZ, ZC] at hk; subst hk; repeat (first | exact Q3 | exact Zu hg | exact Zu hc | refine Q1 ?_)))
   ·exact ⟨by show i + 1 <= _; omega, QrC hI.2 (hz _ (List.getElem_mem (by omega))).1 (by omega)⟩
   ·show zs.length - (i + 1) < zs.length - i; omega
  ·try rw [h2]
   try simp only [qa, qb, qc, qd, qe, List.length_map] at h2
   have hvp := (hz _ (List.getElem_mem (show i < zs.length by omega))).1
   refine Y4 (Qh (Q5 (kp6 rfl rfl rfl rfl rfl rfl) (ZR fun K hK => Qa rfl (QY rfl rfl (by first | exact Qr (by omega) (by omega) | rfl) (Qa rfl (hK _ ?_))))))
   refine Qk (i + 1, s) ?_ ?_ ?_
   ·exact Qf1 (l := [0, 1, 4, 5, 6, 7]) (B := [_, _, _]) (kp6 rfl rfl rfl rfl rfl rfl) rfl (by intro p hp; simp only [List.mem_cons, List.not_mem_nil, or_false] at hp; rcases hp with rfl | rfl | rfl <;> exact ⟨by repeat (first | exact QA | refine Qp (by first | decide | omega) ?_), rfl⟩) rfl (by intro p hp h; simp only [List.mem_cons, List.not_mem_nil, or_false] at hp; rcases hp with rfl | rfl | rfl <;> first | (simp only at h; omega) | (repeat (first | exact Q3 | refine Q1 ?_))) hB hC (by intro p hp k hk; simp only [List.mem_cons, List.not_mem_nil, or_false] at hp; rcases hp with rfl | rfl | rfl | rfl | rfl | rfl <;> first | (simp [D.ids, D.sid, Zc, QZ, ZC] at hk; done) | (simp [D.ids, D.sid, Zc, QZ, ZC] at hk; subst hk; repeat (first | exact Q3 | exact Zu hg | exact Zu hc | refine Q1 ?_)))
   ·exact ⟨by show i + 1 <= _; omega, Qo2 hI.2⟩
   ·show zs.length - (i + 1) < zs.length - i; omega
 ·try rw [h1]
  try simp only [qa, qb, qc, qd, qe, List.length_map] at h1
  refine QbT (YF (Qx (QE (Q5 (kp3 rfl rfl rfl) ?_))))
  refine Xy ?_ -- 3
  refine Q9 fun K hK => Qa rfl (YI (Qcx (I := nxI I) rfl (Qp (by omega) (Qp (by omega) QA)) hL (by omega)) ?_)
  refine hK _ _ (QQ (kp3 rfl rfl rfl) ?_)
  refine Yw (Q9 fun K hK => ZI rfl rfl (Qa rfl ?_))
  refine hK _ _ (QQ (kp4 rfl rfl rfl rfl) ?_)
  refine YP rfl (fun h3 => ?_) (fun h3 => ?_)
  ·try rw [h3]
   try simp only [qa, qb, qc, qd, qe, List.length_map] at h3
   refine Q9 fun K hK => QF (QdJ) rfl rfl (.inl rfl) (Q7 rfl (Qp (by omega) rfl) rfl rfl rfl rfl rfl rfl ?_)
   refine hK _ _ (QQ (kp1 rfl) ?_)
   refine Qe5 (Qt (QaT ?_))
   refine ⟨QhF Qml, (kg, gB L (nxI (nxI I)) eg) :: H, ⟨Qml, _, ⟨Qpo.1.up (by omega), Qpo.2.up (by omega)⟩, rfl, rfl⟩, (XQ hB hC hkg rfl).1, (XQ hB hC hkg rfl).2, ?_⟩
   refine QcO (cs := [ZJ Qml.1, ZJ Qml.2]) rfl (Z9 (by repeat (first | exact QA | refine Qp (by first | decide | omega) ?_)) rfl) rfl rfl rfl ?_
   exact QaO (B := [_, _, _, _, _]) hB (by repeat (first | exact QA | refine Qp (by first | decide | omega) ?_)) (by intro p hp h; simp only [List.mem_cons, List.not_mem_nil, or_false] at hp; rcases hp with rfl | rfl | rfl | rfl | rfl <;> first | rfl | (simp only at h; omega))
  ·try rw [h3]
   try simp only [qa, qb, qc, qd, qe, List.length_map] at h3
   refine Q9 fun K hK => ZI rfl rfl (Qa rfl ?_)
   refine hK _ _ (QQ (kp3 rfl rfl rfl) ?_)
   refine YP rfl (fun h4 => ?_) (fun h4 => ?_)
   ·try rw [h4]
    try simp only [qa, qb, qc, qd, qe, List.length_map] at h4
    refine Q9 fun K hK => QG (cs := [_, _]) rfl (Z9 (Qp (by omega) rfl) rfl) rfl rfl (QF (QdL (a := s) (hI.2.1.sm (by omega)) (hI.2.2.sm (by omega))) rfl rfl (.inl rfl) (Q7 rfl (Qp (by omega) rfl) rfl rfl rfl rfl rfl rfl ?_))
    refine hK _ _ (QQ (kp1 rfl) ?_)
    refine Qe5 (Qt (QaT ?_))
    refine ⟨QhF (Qia s), (kg, gB L (nxI (nxI I)) eg) :: H, ⟨(Qia s), _, ⟨(Qnm hI.2 (by omega)).1.up (by omega), (Qnm hI.2 (by omega)).2.up (by omega)⟩, rfl, rfl⟩, (XQ hB hC hkg rfl).1, (XQ hB hC hkg rfl).2, ?_⟩
    refine QcO (cs := [ZJ (Qia s).1, ZJ (Qia s).2]) rfl (Z9 (by repeat (first | exact QA | refine Qp (by first | decide | omega) ?_)) rfl) rfl rfl rfl ?_
    exact QaO (B := [_, _, _, _, _]) hB (by repeat (first | exact QA | refine Qp (by first | decide | omega) ?_)) (by intro p hp h; simp only [List.mem_cons, List.not_mem_nil, or_false] at hp; rcases hp with rfl | rfl | rfl | rfl | rfl <;> first | rfl | (simp only at h; omega))
   ·try rw [h4]
    try simp only [qa, qb, qc, qd, qe, List.length_map] at h4
    refine Y4 (Qh (Q5 (kp2 rfl rfl) (Q9 fun K hK => QG (cs := [_, _]) rfl (Z9 (Qp (by omega) rfl) rfl) rfl rfl (Q7 rfl (Qp (by omega) rfl) rfl rfl rfl rfl rfl rfl ?_))))
    refine hK _ _ (QQ (kp1 rfl) ?_)
    refine Qe5 ?_
    refine ⟨QhF s, (kg, gB L (nxI (nxI I)) eg) :: H, ⟨s, _, ⟨hI.2.1.up (by omega), hI.2.2.up (by omega)⟩, rfl, rfl⟩, (XQ hB hC hkg rfl).1, (XQ hB hC hkg rfl).2, ?_⟩
    refine QcO (cs := [ZJ s.1, ZJ s.2]) rfl (Z9 (by repeat (first | exact QA | refine Qp (by first | decide | omega) ?_)) rfl) rfl rfl rfl ?_
    exact QaO (B := [_, _, _, _, _]) hB (by repeat (first | exact QA | refine Qp (by first | decide | omega) ?_)) (by intro p hp h; simp only [List.mem_cons, List.not_mem_nil, or_false] at hp; rcases hp with rfl | rfl | rfl | rfl | rfl <;> first | rfl | (simp only at h; omega))
end Go.Proofs
namespace Go.Proofs
open Go Go.Abs M3 M25
set_option linter.unusedVariables false
set_option linter.unusedSimpArgs false
/-- The call of 'set', over boxes that are lent. -/
theorem Qr9 {H : List (Nat × Box)} {kg kc : Nat} {L : List Int} {I : Int} {eg ec : Nat} {pr : Bool} {zs : List CR} (hg : lk H kg = some (gB L I eg)) (hc : lk H kc = some ⟨zs.map dCR, 8, ec, pr⟩) (hne : kg ≠ kc) (hC : Closed H) (hL : ∀ x ∈ L, I64 x) (hz : ∀ z ∈ zs, QgM z.v) (hn : zs.length <= 16) :
  ∃ s I2, SetOk s /\ ∀ (st : St) (args : List Opd), Zy st args = some [.ref kg 0 0, .osl kc zs.length] -> (∀ j x, lk H j = some x -> lk st.H j = some x) -> Qbt Tryz.prog 74 args st H [] [(kg, gB L I2 eg)] (QhF s) := by
 obtain ⟨d, H2, ⟨s, I2, hs, rfl, rfl⟩, hok⟩ := QdG (H := upH H) (kg := upN kg) (kc := upN kc) (L := L) (I := I) (eg := eg) (ec := ec) (pr := pr) (zs := zs.map CR.ren) (by unfold upN; omega) (by rw [QaP, hg]; rfl) (by rw [QaP, hc, Option.map_some, Box.ren, Qmv]) (fun e => hne (Qkz e)) Qky (QeU hC) hL
  (fun z hz' => by obtain ⟨z0, h0, rfl⟩ := List.mem_map.1 hz'; exact hz z0 h0) (by simpa using hn)
 refine ⟨s, I2, hs, fun st args ha hF => QkL (b' := gB L I2 eg) (ds' := [.ref (upN kg) 0 0, .osl (upN kc) zs.length]) ha hF hC (fun x hx j hj => ?_) (Zu hg) rfl rfl rfl rfl ?_⟩
 ·simp only [List.mem_cons, List.not_mem_nil, or_false] at hx
  rcases hx with rfl | rfl
  ·simp [D.ids, D.sid] at hj; subst hj; exact Zu hg
  ·simp [D.ids, D.sid] at hj; subst hj; exact Zu hc
 ·rw [List.length_map] at hok; exact hok
theorem Qdi {H : List (Nat × Box)} {kg ku : Nat} {L : List Int} {I : Int} {eg eu ec : Nat} {us : List UR} (hkg : 1000000 <= kg) (hg : lk H kg = some (gB L I eg)) (hU : Fam H kg ku eu ec us) (hB : Big H) (hC : Closed H) (hL : ∀ x ∈ L, I64 x) (h2n : 2 <= us.length) (hn : us.length <= 48) : ∃ d H2, (∃ x I2, WantIn us.length x /\ d = .agg (Qe7 x) /\ H2 = (kg, gB L I2 eg) :: H) /\ OkH Tryz.prog 43 [.ref kg 0 0, .osl ku us.length] H d H2 := by
 obtain ⟨pu, hu⟩ := hU.u
 have hku := hB _ _ hu
 have hne := hU.ne
 have hx0 := Qi9 (v := Qn0 L (IntKind.i64.wrap (nxI I - 1))) (n := (us.length : Int) - 1)
 have hx1 := Qi8 (v := Qn0 L (IntKind.i64.wrap (nxI I - 1))) (n := (us.length : Int) - 1) (by omega)
 change 0 <= nx L I ((us.length : Int) - 1) at hx0
 change nx L I ((us.length : Int) - 1) < _ at hx1
 obtain ⟨hyk, pr, hy⟩ := hU.c (us[(1 + nx L I ((us.length : Int) - 1)).toNat]'(by omega)) (List.getElem_mem _)
 obtain ⟨hv1, hv2⟩ := hU.v (us[(1 + nx L I ((us.length : Int) - 1)).toNat]'(by omega)) (List.getElem_mem _)
 obtain ⟨s, I2, hs, hcall⟩ := Qr9 (H := (kg, gB L (nxI I) eg) :: H) QA (Qp (Ne.symm hyk) hy) (Ne.symm hyk) (hC.pr rfl) hL hv2 hv1
 refine OkH.ofX (R := fun d H2 => ∃ x I2, WantIn us.length x /\ d = .agg (Qe7 x) /\ H2 = (kg, gB L I2 eg) :: H) ZQ Tryz.func43 Qtp (Nat.le_of_ble_eq_true rfl) ?_
 show TX _ _ tf43.body _ _
 refine Q9 fun K hK => ?_
 refine ZK (by repeat (first | exact hB.none (by decide) | refine Zw (by first | decide | omega) ?_)) ?_
 refine hK _ _ (QQ (kp3 rfl rfl rfl) ?_)
 refine Q9 fun K hK => Qa rfl (Qa rfl ?_)
 first | refine QR rfl QX ?_ | refine QR rfl rfl ?_
 refine X2 rfl rfl (by first | exact Qr (by omega) (by omega) | rfl) (YI (Qcx (I := I) rfl (Qp (by omega) hg) hL (by omega)) (QY rfl rfl (by first | exact Qr (by omega) (by omega) | rfl) (Qa rfl ?_)))
 refine hK _ _ (QQ (kp4 rfl rfl rfl rfl) ?_)
 refine Q9 fun K hK => Qa rfl (Qa rfl (Qa rfl (Qa rfl (Xm rfl rfl (Qp (by omega) (Qp (by omega) hu)) (by simp) (by omega) (by omega) rfl (Qi rfl (Zu (Qp (by omega) (Qp (by omega) hu))) (QC rfl (Z9 (Qp (by omega) (Qp (by omega) hu)) (ZA (by omega) (by omega))) rfl (YI (hcall _ _ rfl (QaO (B := [_, _]) hB QA (by intro p hp h; simp only [List.mem_cons, List.not_mem_nil, or_false] at hp; rcases hp with rfl | rfl <;> first | rfl | (simp only at h; omega)))) (QU rfl rfl (Q7 rfl (Qp (by omega) (Qp (by omega) rfl)) rfl rfl rfl rfl rfl rfl ?_)))))))))
 refine hK _ _ (QQ (kp1 rfl) ?_)
 refine Qe5 ?_
 refine ⟨.agg (Qe7 ⟨1 + nx L I ((us.length : Int) - 1), s⟩), (kg, gB L I2 eg) :: H, ⟨⟨1 + nx L I ((us.length : Int) - 1), s⟩, _, ⟨by show 1 <= 1 + _; omega, by show 1 + _ < (us.length : Int); omega, hs⟩, rfl, rfl⟩, (XQ hB hC hkg rfl).1, (XQ hB hC hkg rfl).2, ?_⟩
 refine QcO (cs := Qe7 ⟨1 + nx L I ((us.length : Int) - 1), s⟩) rfl (Z9 (by repeat (first | exact QA | refine Qp (by first | decide | omega) ?_)) rfl) rfl rfl rfl ?_
 exact QaO (B := [_, _, _, _]) hB (by repeat (first | exact QA | refine Qp (by first | decide | omega) ?_)) (by intro p hp h; simp only [List.mem_cons, List.not_mem_nil, or_false] at hp; rcases hp with rfl | rfl | rfl | rfl <;> first | rfl | (simp only at h; omega))
/-- The call of 'want'. -/
theorem Qlk {H : List (Nat × Box)} {kg ku : Nat} {L : List Int} {I : Int} {eg eu ec : Nat} {us : List UR} (hg : lk H kg = some (gB L I eg)) (hU : Fam H kg ku eu ec us) (hC : Closed H) (hL : ∀ x ∈ L, I64 x) (h2 : 2 <= us.length) (hn : us.length <= 48) :
  ∃ x I2, WantIn us.length x /\ ∀ (st : St) (args : List Opd), Zy st args = some [.ref kg 0 0, .osl ku us.length] -> (∀ j x, lk H j = some x -> lk st.H j = some x) -> Qbt Tryz.prog 43 args st H [] [(kg, gB L I2 eg)] (.agg (Qe7 x)) := by
 obtain ⟨d, H2, ⟨x, I2, hx, rfl, rfl⟩, hok⟩ := Qdi (H := upH H) (kg := upN kg) (ku := upN ku) (L := L) (I := I) (eg := eg) (eu := eu) (ec := ec) (us := us.map UR.ren) (by unfold upN; omega) (by rw [QaP, hg]; rfl) hU.up Qky (QeU hC) hL (by simpa using h2) (by simpa using hn)
 obtain ⟨pu, hu⟩ := hU.u
 rw [List.length_map] at hx hok
 refine ⟨x, I2, hx, fun st args ha hF => QkL (b' := gB L I2 eg) (ds' := [.ref (upN kg) 0 0, .osl (upN ku) us.length]) ha hF hC (fun x hx j hj => ?_) (Zu hg) rfl rfl rfl rfl hok⟩
 simp only [List.mem_cons, List.not_mem_nil, or_false] at hx
 rcases hx with rfl | rfl
 ·simp [D.ids, D.sid] at hj; subst hj; exact Zu hg
 ·simp [D.ids, D.sid] at hj; subst hj; exact Zu hu
end Go.Proofs
namespace Go.Proofs
open Go Go.Abs M3 M25
set_option linter.unusedVariables false
set_option linter.unusedSimpArgs false
theorem QcV {H : List (Nat × Box)} {kg ku : Nat} {L : List Int} {I most : Int} {eg eu ec : Nat} {us : List UR} (hkg : 1000000 <= kg) (hg : lk H kg = some (gB L I eg)) (hU : Fam H kg ku eu ec us) (hB : Big H) (hC : Closed H) (hL : ∀ x ∈ L, I64 x) (h2n : 2 <= us.length) (hn : us.length <= 48) (hm0 : 0 <= most) (hm1 : most <= 10) : ∃ d H2, (∃ ns I2, Qfx us.length most ns /\ d = QZ ns /\ H2 = (kg, gB L I2 eg) :: H) /\ OkH Tryz.prog 40 [.ref kg 0 0, .osl ku us.length, .int .i64 most] H d H2 := by
 obtain ⟨pu, hu⟩ := hU.u
 have hku := hB _ _ hu
 have hne := hU.ne
 have hk0 : 0 <= nx L I (most + 1) := Qi9
 have hk1 : nx L I (most + 1) < most + 1 := Qi8 (by omega)
 refine OkH.ofX (R := fun d H2 => ∃ ns I2, Qfx us.length most ns /\ d = QZ ns /\ H2 = (kg, gB L I2 eg) :: H) ZQ Tryz.func40 Qtm (Nat.le_of_ble_eq_true rfl) ?_
 show TX _ _ tf40.body _ _
 refine Q9 fun K hK => Qa rfl ?_
 refine hK _ _ (QQ (kp3 rfl rfl rfl) ?_)
 refine Q9 fun K hK => Qa rfl ?_
 refine hK _ _ (QQ (kp4 rfl rfl rfl rfl) ?_)
 refine Xy ?_ -- 0
 refine Q9 fun K hK => Qa rfl (Qa rfl (QY rfl rfl (by first | exact Qr (by omega) (by omega) | rfl) (YI (Qcx (I := I) rfl hg hL (by omega)) (Qa rfl ?_))))
 refine hK _ _ (QQ (kp4 rfl rfl rfl rfl) ?_)
 refine Yw ?_
 refine QdA (ι := Nat × List (List WantT) × Int) (fun ⟨k, ns, J⟩ => ⟨[(0, .ref kg 0 0), (1, .osl ku us.length), (7, .osl 7 ns.length), (8, .int .i64 k)], [(7, ⟨(ns).map (fun r => [Zc r]), 1, 69, true⟩), (kg, gB L J eg)] ++ H⟩) (fun ⟨k, ns, J⟩ => (ns.length : Int) + k <= most /\ ∀ r ∈ ns, QiB us.length r) (fun ⟨k, ns, J⟩ => k) ((nx L I (most + 1)).toNat, [], nxI I) ?_ ?_ ?_
 ·exact le_trans (Yj 7 7 1 69 rfl (by repeat (first | exact hB.none (by decide) | refine Zw (by first | decide | omega) ?_))) (Qf1 (l := [0, 1, 7, 8]) (B := [_, _]) (kp4 rfl rfl rfl rfl) (by simp only [Int.toNat_of_nonneg hk0] <;> rfl) (by intro p hp; simp only [List.mem_cons, List.not_mem_nil, or_false] at hp; rcases hp with rfl | rfl <;> exact ⟨by repeat (first | exact QA | refine Qp (by first | decide | omega) ?_), rfl⟩) rfl (by intro p hp h; simp only [List.mem_cons, List.not_mem_nil, or_false] at hp; rcases hp with rfl | rfl <;> first | (simp only at h; omega) | (repeat (first | exact Q3 | refine Q1 ?_))) hB hC (by intro p hp k hk; simp only [List.mem_cons, List.not_mem_nil, or_false] at hp; rcases hp with rfl | rfl | rfl | rfl <;> first | (simp [D.ids, D.sid, Zc, QZ, ZC] at hk; done) | (simp [D.ids, D.sid, Zc, QZ, ZC] at hk; subst hk; repeat (first | exact Q3 | exact Zu hg | exact Zu hu | refine Q1 ?_))))
 ·exact ⟨by simp only [List.length_nil]; omega, by simp⟩
 intro ⟨k, ns, J⟩ hI
 try dsimp only at hI
 try dsimp only
 refine Xy ?_ -- 1
 refine Q9 fun K hK => Qa rfl (Qhv rfl rfl ?_)
 refine hK _ _ (QQ (kp5 rfl rfl rfl rfl rfl) ?_)
 refine YP rfl (fun h1 => ?_) (fun h1 => ?_)
 ·try rw [h1]
  try simp only [qa, qb, qc, qd, qe, List.length_map] at h1
  refine Y4 (Q5 (kp4 rfl rfl rfl rfl) ?_)
  refine Xy ?_ -- 2
  refine Yw (Q9 fun K hK => Qa rfl (Qa rfl ?_))
  obtain ⟨x1, J1, hx1, hc1⟩ := Qlk (I := J) (H := (kg, gB L (J) eg) :: H) QA hU.cons (hC.pr rfl) hL h2n hn
  refine YI (hc1 _ _ rfl (QaO (B := [_, _]) hB (by repeat (first | exact QA | refine Qp (by first | decide | omega) ?_)) (by intro p hp h; simp only [List.mem_cons, List.not_mem_nil, or_false] at hp; rcases hp with rfl | rfl <;> first | rfl | (simp only at h; omega)))) ?_
  refine QH rfl (by repeat (first | exact hB.none (by decide) | refine Zw (by first | decide | omega) ?_)) ?_
  refine Qa rfl ?_
  refine hK _ _ (QQ (kp5 rfl rfl rfl rfl rfl) ?_)
  refine Qq8 (ι := List WantT × Int) (fun ⟨r, J4⟩ => ⟨[(0, .ref kg 0 0), (1, .osl ku us.length), (7, .osl 7 ns.length), (8, .int .i64 k), (9, Zc r)], [(7, ⟨(ns).map (fun r => [Zc r]), 1, 69, true⟩), (kg, gB L J4 eg)] ++ H⟩) (fun ⟨r, J4⟩ => QiB us.length r) ?_ ?_
  ·skip
   refine Q9 fun K hK => Qa rfl (YI (Qcx (I := J1) rfl (Qp (by omega) QA) hL (by omega)) (ZI rfl rfl ?_))
   refine hK _ _ (QQ (kp6 rfl rfl rfl rfl rfl rfl) ?_)
   refine YP rfl (fun h2 => ?_) (fun h2 => ?_)
   ·try rw [h2]
    try simp only [qa, qb, qc, qd, qe, List.length_map] at h2
    refine ZR fun K hK => Qa rfl (Qa rfl (Qa rfl ?_))
    obtain ⟨x2, J2, hx2, hc2⟩ := Qlk (I := nxI J1) (H := (kg, gB L (nxI J1) eg) :: H) QA hU.cons (hC.pr rfl) hL h2n hn
    refine YI (hc2 _ _ rfl (QaO (B := [_, _, _, _, _]) hB (by repeat (first | exact QA | refine Qp (by first | decide | omega) ?_)) (by intro p hp h; simp only [List.mem_cons, List.not_mem_nil, or_false] at hp; rcases hp with rfl | rfl | rfl | rfl | rfl <;> first | rfl | (simp only at h; omega)))) ?_
    refine QH rfl (by repeat (first | exact hB.none (by decide) | refine Zw (by first | decide | omega) ?_)) ?_
    refine QpR rfl rfl (by simp [D.ids, D.sid]) ⟨_, rfl, rfl, rfl, rfl, rfl⟩ (by repeat (first | exact hB.none (by decide) | refine Zw (by first | decide | omega) ?_)) (Qp (by decide) (Qp (by omega) (Qp (by omega) rfl))) rfl rfl rfl (by simp) (by simp) ?_
    refine Qa rfl (hK _ ?_)
    refine Z0 ([x1, x2], J2) ?_ ?_
    ·exact le_trans (Qj6 (l := [0, 1, 7, 8]) (B := [_, _, _, _, _, _, _, _, _]) (A := [(7, ⟨(ns).map (fun r => [Zc r]), 1, 69, true⟩), (kg, gB L J2 eg)]) 30 9 (kp4 rfl rfl rfl rfl) rfl rfl rfl (by first | (simp; done) | (simp; omega)) (by intro p hp hk; simp only [List.mem_cons, List.not_mem_nil, or_false] at hp; rcases hp with rfl | rfl | rfl | rfl <;> first | (simp [D.ids, D.sid, Zc, QZ, ZC] at hk; done) | (simp [D.ids, D.sid, Zc, QZ, ZC] at hk; omega)) (by intro p hp; simp only [List.mem_cons, List.not_mem_nil, or_false] at hp; rcases hp with rfl | rfl <;> exact ⟨by first | decide | (simp only; omega), by repeat (first | exact QA | refine Qp (by first | decide | omega) ?_), rfl⟩) (by intro p hp h; simp only [List.mem_cons, List.not_mem_nil, or_false] at hp; rcases hp with rfl | rfl | rfl | rfl | rfl | rfl | rfl | rfl | rfl <;> first | (simp only at h; omega) | (repeat (first | exact Q3 | refine Q1 ?_))) hB hC (by intro p hp k hk; simp only [List.mem_cons, List.not_mem_nil, or_false] at hp; rcases hp with rfl | rfl | rfl | rfl <;> first | (simp [D.ids, D.sid, Zc, QZ, ZC] at hk; done) | (simp [D.ids, D.sid, Zc, QZ, ZC] at hk; subst hk; repeat (first | exact Q3 | exact Zu hg | exact Zu hu | refine Q1 ?_)))) (Qf1 (l := [0, 1, 7, 8, 9]) (B := [_, _]) (kp5 rfl rfl rfl rfl rfl) rfl (by intro p hp; simp only [List.mem_cons, List.not_mem_nil, or_false] at hp; rcases hp with rfl | rfl <;> exact ⟨by repeat (first | exact QA | refine Qp (by first | decide | omega) ?_), rfl⟩) rfl (by intro p hp h; simp only [List.mem_cons, List.not_mem_nil, or_false] at hp; rcases hp with rfl | rfl <;> first | (simp only at h; omega) | (repeat (first | exact Q3 | refine Q1 ?_))) hB hC (by intro p hp k hk; simp only [List.mem_cons, List.not_mem_nil, or_false] at hp; rcases hp with rfl | rfl | rfl | rfl | rfl <;> first | (simp [D.ids, D.sid, Zc, QZ, ZC] at hk; done) | (simp [D.ids, D.sid, Zc, QZ, ZC] at hk; subst hk; repeat (first | exact Q3 | exact Zu hg | exact Zu hu | refine Q1 ?_))))
    ·exact Qqw hx1 hx2
   ·try rw [h2]
    try simp only [qa, qb, qc, qd, qe, List.length_map] at h2
    refine Y4 ?_
    refine Z0 ([x1], nxI J1) ?_ ?_
    ·exact le_trans (Qj6 (l := [0, 1, 7, 8]) (B := [_, _, _, _, _]) (A := [(7, ⟨(ns).map (fun r => [Zc r]), 1, 69, true⟩), (kg, gB L (nxI J1) eg)]) 21 9 (kp4 rfl rfl rfl rfl) rfl (Qp (by omega) rfl) rfl (by first | (simp; done) | (simp; omega)) (by intro p hp hk; simp only [List.mem_cons, List.not_mem_nil, or_false] at hp; rcases hp with rfl | rfl | rfl | rfl <;> first | (simp [D.ids, D.sid, Zc, QZ, ZC] at hk; done) | (simp [D.ids, D.sid, Zc, QZ, ZC] at hk; omega)) (by intro p hp; simp only [List.mem_cons, List.not_mem_nil, or_false] at hp; rcases hp with rfl | rfl <;> exact ⟨by first | decide | (simp only; omega), by repeat (first | exact QA | refine Qp (by first | decide | omega) ?_), rfl⟩) (by intro p hp h; simp only [List.mem_cons, List.not_mem_nil, or_false] at hp; rcases hp with rfl | rfl | rfl | rfl | rfl <;> first | (simp only at h; omega) | (repeat (first | exact Q3 | refine Q1 ?_))) hB hC (by intro p hp k hk; simp only [List.mem_cons, List.not_mem_nil, or_false] at hp; rcases hp with rfl | rfl | rfl | rfl <;> first | (simp [D.ids, D.sid, Zc, QZ, ZC] at hk; done) | (simp [D.ids, D.sid, Zc, QZ, ZC] at hk; subst hk; repeat (first | exact Q3 | exact Zu hg | exact Zu hu | refine Q1 ?_)))) (Qf1 (l := [0, 1, 7, 8, 9]) (B := [_, _]) (kp5 rfl rfl rfl rfl rfl) rfl (by intro p hp; simp only [List.mem_cons, List.not_mem_nil, or_false] at hp; rcases hp with rfl | rfl <;> exact ⟨by repeat (first | exact QA | refine Qp (by first | decide | omega) ?_), rfl⟩) rfl (by intro p hp h; simp only [List.mem_cons, List.not_mem_nil, or_false] at hp; rcases hp with rfl | rfl <;> first | (simp only at h; omega) | (repeat (first | exact Q3 | refine Q1 ?_))) hB hC (by intro p hp k hk; simp only [List.mem_cons, List.not_mem_nil, or_false] at hp; rcases hp with rfl | rfl | rfl | rfl | rfl <;> first | (simp [D.ids, D.sid, Zc, QZ, ZC] at hk; done) | (simp [D.ids, D.sid, Zc, QZ, ZC] at hk; subst hk; repeat (first | exact Q3 | exact Zu hg | exact Zu hu | refine Q1 ?_))))
    ·exact Qqv hx1
  intro ⟨r, J4⟩ hJ
  try dsimp only at hJ
  try dsimp only
  refine ZR fun K hK => Qa rfl (Qa rfl ?_)
  refine QH rfl (by repeat (first | exact hB.none (by decide) | refine Zw (by first | decide | omega) ?_)) ?_
  refine Xz rfl rfl (fun _ h => Xj rfl rfl rfl h) rfl (by simp) rfl rfl rfl (by simp; omega) (by simp; omega) (Qa rfl (hK _ ?_))
  refine Qh (Q5 (kp4 rfl rfl rfl rfl) (ZR fun K hK => Qa rfl (X2 rfl rfl (by first | exact Qr (by omega) (by omega) | rfl) (Qa rfl (hK _ ?_)))))
  refine Qk (k - 1, ns ++ [r], J4) ?_ ?_ ?_
  ·exact le_trans (Qrq (B := [_, _, _, _]) 7 hB hC) (Qf1 (l := [0, 1, 7, 8]) (A := [(7, ⟨ns.map (fun r => [Zc r]) ++ [[Zc r]], 1, 69, true⟩), (kg, gB L J4 eg)]) (B := [_, _, _, _]) (kp4 rfl rfl rfl rfl) (by simp [D.scrub, show ¬ kg = 7 by omega, show ¬ ku = 7 by omega] <;> omega) (by intro p hp; simp only [List.mem_cons, List.not_mem_nil, or_false] at hp; rcases hp with rfl | rfl <;> exact ⟨by repeat (first | exact QA | refine Qp (by first | decide | omega) ?_), rfl⟩) (by simp) (by intro p hp h; simp only [List.mem_cons, List.not_mem_nil, or_false] at hp; rcases hp with rfl | rfl | rfl | rfl <;> first | (simp only at h; omega) | (repeat (first | exact Q3 | refine Q1 ?_))) hB hC (by intro p hp k hk; simp only [List.mem_cons, List.not_mem_nil, or_false] at hp; rcases hp with rfl | rfl | rfl | rfl <;> first | (simp [D.ids, D.sid, Zc, QZ, ZC] at hk; done) | (simp [D.ids, D.sid, Zc, QZ, ZC] at hk; subst hk; repeat (first | exact Q3 | exact Zu hg | exact Zu hu | refine Q1 ?_))))
  ·exact ⟨by simp only [List.length_append, List.length_singleton]; omega, QnB hI.2 hJ⟩
  ·show k - 1 < k; omega
 ·try rw [h1]
  try simp only [qa, qb, qc, qd, qe, List.length_map] at h1
  refine QbT (YF (Qx (QE (Q5 (kp1 rfl) (Q9 fun K hK => Qa rfl (Qa rfl ?_))))))
  refine hK _ _ (QQ (kp1 rfl) ?_)
  refine Qe5 ?_
  refine ⟨QZ ns, (kg, gB L J eg) :: H, ⟨ns, _, ⟨by omega, hI.2⟩, rfl, rfl⟩, (XQ hB hC hkg rfl).1, (XQ hB hC hkg rfl).2, ?_⟩
  refine Y5 rfl (by simp [Qma, D.fz, D.fzS, Qfa, lk, D.can, D.canS, QZ]) ?_
  exact QaO (B := [_, _]) hB (by repeat (first | exact QA | refine Qp (by first | decide | omega) ?_)) (by intro p hp h; simp only [List.mem_cons, List.not_mem_nil, or_false] at hp; rcases hp with rfl | rfl <;> first | rfl | (simp only at h; omega))
end Go.Proofs
namespace M25
open Go Go.Abs M3
/-! ### The boxes of a world under way -/
def fbx (ec : Nat) (us : List UR) : List (Nat × Box) := us.map fun u => (u.k, ⟨u.cs.map dCR, 8, ec, true⟩)
def Yf (us : List UR) : Prop := ∀ j, ∀ h : j < us.length, us[j].k = 500001 + j
theorem QiZ {us : List UR} {u : UR} (h : Yf us) (hu : u.k = 500001 + us.length) : Yf (us ++ [u]) := fun j hj => by
 rw [List.length_append, List.length_singleton] at hj
 by_cases e : j < us.length
 ·rw [List.getElem_append_left e]; exact h j e
 ·have : j = us.length := by omega
  subst this
  rw [List.getElem_append_right (Nat.le_refl _)]; simpa using hu
theorem QfQ (ec : Nat) (us : List UR) : Qn3 (fbx ec us) := fun p hp => by
 obtain ⟨u, _, rfl⟩ := List.mem_map.1 hp; rfl
theorem Qg4 {ec : Nat} : ∀ {us : List UR} {k : Nat} {b : Box}, lk (fbx ec us) k = some b -> ∃ u ∈ us, k = u.k /\ b = ⟨u.cs.map dCR, 8, ec, true⟩
 | [], _, _, h => by cases h
 | u :: us, k, b, h => by
  simp only [fbx, List.map_cons] at h
  rw [Qo] at h
  split at h
  ·rename_i e; cases h; exact ⟨u, by simp, e.symm, rfl⟩
  ·obtain ⟨v, hv, q⟩ := Qg4 (us := us) h
   exact ⟨v, by simp [hv], q⟩
theorem QbC {us : List UR} (h : Yf us) {u : UR} (hu : u ∈ us) : 500001 <= u.k /\ u.k < 500001 + us.length := by
 obtain ⟨j, hj, rfl⟩ := List.getElem_of_mem hu
 have := h j hj
 omega
theorem QhI {ec : Nat} {us : List UR} (h : Yf us) : QsP 500001 (fbx ec us) := fun k b hk => by
 obtain ⟨u, hu, rfl, _⟩ := Qg4 hk
 exact (QbC h hu).1
theorem YW {ec : Nat} {us : List UR} (h : Yf us) {k : Nat} (hk : k < 500001 \/ 500001 + us.length <= k) : lk (fbx ec us) k = none := by
 cases hh : lk (fbx ec us) k with
 | none => rfl
 | some b =>
  obtain ⟨u, hu, rfl, _⟩ := Qg4 hh
  have := QbC h hu
  omega
theorem QmG {ec : Nat} : ∀ {us : List UR} {n : Nat}, (∀ j, ∀ h : j < us.length, us[j].k = n + j) -> ∀ j, ∀ h : j < us.length, lk (fbx ec us) (n + j) = some ⟨us[j].cs.map dCR, 8, ec, true⟩
 | [], _, _, j, hj => by simp at hj
 | u :: us, n, hk, 0, _ => by
  have := hk 0 (by simp)
  simp only [List.getElem_cons_zero, Nat.add_zero] at this
  simp only [fbx, List.map_cons, Nat.add_zero]
  rw [Qo, if_pos this]; rfl
 | u :: us, n, hk, j + 1, hj => by
  have h0 := hk 0 (by simp)
  simp only [List.getElem_cons_zero, Nat.add_zero] at h0
  simp only [fbx, List.map_cons]
  rw [Qo, if_neg (by omega)]
  have := QmG (ec := ec) (us := us) (n := n + 1) (fun i hi => by
   have := hk (i + 1) (by simpa using hi)
   simp only [List.getElem_cons_succ] at this
   omega) j (by simpa using hj)
  rw [show n + 1 + j = n + (j + 1) by omega] at this
  simp only [List.getElem_cons_succ]
  exact this
theorem QmF {ec : Nat} {us : List UR} (h : Yf us) {j : Nat} (hj : j < us.length) : lk (fbx ec us) (500001 + j) = some ⟨us[j].cs.map dCR, 8, ec, true⟩ := QmG h j hj
theorem QkT (ec : Nat) (us : List UR) (u : UR) : fbx ec (us ++ [u]) = fbx ec us ++ [(u.k, ⟨u.cs.map dCR, 8, ec, true⟩)] := by simp [fbx]
theorem Qon {ec : Nat} {us : List UR} (h : Yf us) {kg : Nat} {x y : Box} {u : UR} (hu : u.k = 500001 + us.length) (hkg : u.k ≠ kg) (k : Nat) :
  lk ((u.k, ⟨u.cs.map dCR, 8, ec, true⟩) :: (500000, x) :: (kg, y) :: fbx ec us) k = lk ((500000, x) :: (kg, y) :: fbx ec (us ++ [u])) k := by
 rw [QkT]
 by_cases e : u.k = k
 ·subst e
  rw [QA, Qo, if_neg (by omega), Qo, if_neg (Ne.symm hkg), YX (YW h (.inr (by omega))), QA]
 ·rw [Qo, if_neg e, Qo, Qo, Qo, Qo]
  split
  ·rfl
  ·split
   ·rfl
   ·rw [ZW]
    cases h2 : lk (fbx ec us) k with
    | some v => rfl
    | none => rw [Qo, if_neg e]; rfl
def zr (v : Vr) (sh : Int) : CR := ⟨v, .int .i64 sh, .fsl [], .fsl []⟩
def QqW (u : UR) : Prop := u.cs.length <= 4 /\ ∀ z ∈ u.cs, ∃ v sh, z = zr v sh /\ QgM v
theorem Qpz {u : UR} : (dUR u).flatMap D.sid = [u.k] := by simp [dUR, D.sid]
theorem QbQ {us : List UR} {e et : Nat} {k : Nat} (h : k ∈ (Box.ids ⟨us.map dUR, e, et, false⟩)) : ∃ u ∈ us, k = u.k := by
 simp only [Box.ids, Bool.false_eq_true, if_false, List.mem_flatMap, List.mem_map] at h
 obtain ⟨r, ⟨u, hu, rfl⟩, hk⟩ := h
 have : k ∈ (dUR u).flatMap D.sid := List.mem_flatMap.2 hk
 rw [Qpz] at this
 exact ⟨u, hu, by simpa using this⟩
theorem QqG {us : List UR} (h : Yf us) : ∀ r ∈ us.map dUR, ∀ d ∈ r, 500000 ∉ d.sid := fun r hr d hd hk => by
 obtain ⟨u, hu, rfl⟩ := List.mem_map.1 hr
 have : 500000 ∈ (dUR u).flatMap D.sid := List.mem_flatMap.2 ⟨d, hd, hk⟩
 rw [Qpz] at this
 have h2 := QbC h hu
 simp only [List.mem_singleton] at this
 omega
theorem Qhx {B F : List (Nat × Box)} {j : Nat} (h : (lk F j).isSome = true) : (lk (B ++ F) j).isSome = true := by
 rw [ZW]; split
 ·rfl
 ·exact h
theorem QdP {ec : Nat} {us : List UR} (h : Yf us) {u : UR} (hu : u ∈ us) : (lk (fbx ec us) u.k).isSome = true := by
 obtain ⟨j, hj, rfl⟩ := List.getElem_of_mem hu
 rw [h j hj, QmF h hj]; rfl
theorem QhJ {ec : Nat} {us : List UR} {u : UR} (h : Yf us) (hu : u.k = 500001 + us.length) : lk (fbx ec (us ++ [u])) (500001 + us.length) = some ⟨u.cs.map dCR, 8, ec, true⟩ := by
 rw [QkT, YX (YW h (.inr (Nat.le_refl _))), <- hu, QA]
section
variable {l : List Nat} {fr fr1 fr' : List (Nat × D)} {B : List (Nat × Box)} {kg eg eu ec : Nat} {L : List Int} {J : Int} {us : List UR}
theorem QsS (hf : Zd l fr = fr1) (ef : fr1 = fr') (hK : Yf us) (hu : lk B 500000 = some ⟨us.map dUR, 3, eu, false⟩) (hg : lk B kg = some (gB L J eg)) (hB : ∀ p ∈ B, 500001 <= p.1 -> p.1 = kg) (hkg : kg ≠ 500000)
  (hfr : ∀ p ∈ fr', ∀ k ∈ p.2.ids, k = 500000 \/ k = kg \/ ∃ u ∈ us, k = u.k) : St.le ⟨fr, B ++ fbx ec us⟩ ⟨fr', [(500000, ⟨us.map dUR, 3, eu, false⟩), (kg, gB L J eg)] ++ fbx ec us⟩ := by
 have s0 : ∀ k, (k = 500000 \/ k = kg \/ ∃ u ∈ us, k = u.k) -> (lk ([(500000, (⟨us.map dUR, 3, eu, false⟩ : Box)), (kg, gB L J eg)] ++ fbx ec us) k).isSome = true := fun k hk => by
  rcases hk with rfl | rfl | ⟨u, hu, rfl⟩
  ·exact Q3
  ·exact Q1 Q3
  ·exact Qhx (QdP hK hu)
 refine Qj7 (N := 500001) hf ef (fun p hp => ?_) rfl (fun p hp j hj => s0 j ?_) (fun p hp h => ?_) (QhI hK) (QfQ ec us) (fun p hp k hk => s0 k (hfr p hp k hk))
 ·simp only [List.mem_cons, List.not_mem_nil, or_false] at hp
  rcases hp with rfl | rfl
  ·exact hu
  ·exact hg
 ·simp only [List.mem_cons, List.not_mem_nil, or_false] at hp
  rcases hp with rfl | rfl
  ·exact .inr (.inr (QbQ hj))
  ·simp [Box.ids, gB] at hj
 ·rw [hB p hp h]; exact Q1 Q3
theorem QqU {cs : List CR} (hf : Zd l fr = fr1) (ef : fr1 = fr') (hK : Yf us) (hc : lk B (500001 + us.length) = some ⟨cs.map dCR, 8, ec, true⟩) (hu : lk B 500000 = some ⟨us.map dUR, 3, eu, false⟩) (hg : lk B kg = some (gB L J eg)) (hB : ∀ p ∈ B, 500001 <= p.1 -> p.1 = kg \/ p.1 = 500001 + us.length)
  (hfr : ∀ p ∈ fr', ∀ k ∈ p.2.ids, k = 500000 \/ k = kg \/ k = 500001 + us.length \/ ∃ u ∈ us, k = u.k) : St.le ⟨fr, B ++ fbx ec us⟩ ⟨fr', [(500001 + us.length, ⟨cs.map dCR, 8, ec, true⟩), (500000, ⟨us.map dUR, 3, eu, false⟩), (kg, gB L J eg)] ++ fbx ec us⟩ := by
 have s0 : ∀ k, (k = 500000 \/ k = kg \/ k = 500001 + us.length \/ ∃ u ∈ us, k = u.k) -> (lk ([(500001 + us.length, (⟨cs.map dCR, 8, ec, true⟩ : Box)), (500000, (⟨us.map dUR, 3, eu, false⟩ : Box)), (kg, gB L J eg)] ++ fbx ec us) k).isSome = true := fun k hk => by
  rcases hk with rfl | rfl | rfl | ⟨u, hu, rfl⟩
  ·exact Q1 Q3
  ·exact Q1 (Q1 Q3)
  ·exact Q3
  ·exact Qhx (QdP hK hu)
 refine Qj7 (N := 500001) hf ef (fun p hp => ?_) rfl (fun p hp j hj => s0 j ?_) (fun p hp h => ?_) (QhI hK) (QfQ ec us) (fun p hp k hk => s0 k (hfr p hp k hk))
 ·simp only [List.mem_cons, List.not_mem_nil, or_false] at hp
  rcases hp with rfl | rfl | rfl
  ·exact hc
  ·exact hu
  ·exact hg
 ·simp only [List.mem_cons, List.not_mem_nil, or_false] at hp
  rcases hp with rfl | rfl | rfl
  ·simp [Box.ids] at hj
  ·exact .inr (.inr (.inr (QbQ hj)))
  ·simp [Box.ids, gB] at hj
 ·rcases hB p hp h with e | e
  ·rw [e]; exact Q1 (Q1 Q3)
  ·rw [e]; exact Q3
theorem QrH {u : UR} (hf : Zd l fr = fr1) (ef : fr1 = fr') (hK : Yf us) (huk : u.k = 500001 + us.length) (hc : lk B (500001 + us.length) = some ⟨u.cs.map dCR, 8, ec, true⟩) (hu : lk B 500000 = some ⟨(us ++ [u]).map dUR, 3, eu, false⟩) (hg : lk B kg = some (gB L J eg)) (hB : ∀ p ∈ B, 500001 <= p.1 -> p.1 = kg \/ p.1 = 500001 + us.length) (hkg : 1000000 <= kg) (hlen : us.length <= 100)
  (hfr : ∀ p ∈ fr', ∀ k ∈ p.2.ids, k = 500000 \/ k = kg \/ ∃ v ∈ us ++ [u], k = v.k) : St.le ⟨fr, B ++ fbx ec us⟩ ⟨fr', [(500000, ⟨(us ++ [u]).map dUR, 3, eu, false⟩), (kg, gB L J eg)] ++ fbx ec (us ++ [u])⟩ := by
 have hK1 := QiZ hK huk
 have mv := fun k => Qon (ec := ec) hK (kg := kg) (x := ⟨(us ++ [u]).map dUR, 3, eu, false⟩) (y := gB L J eg) huk (by omega) k
 have s0 : ∀ k, (k = 500000 \/ k = kg \/ ∃ v ∈ us ++ [u], k = v.k) -> (lk ([(u.k, (⟨u.cs.map dCR, 8, ec, true⟩ : Box)), (500000, (⟨(us ++ [u]).map dUR, 3, eu, false⟩ : Box)), (kg, gB L J eg)] ++ fbx ec us) k).isSome = true := fun k hk => by
  show (lk ((u.k, _) :: (500000, _) :: (kg, _) :: fbx ec us) k).isSome = true
  rw [mv]
  rcases hk with rfl | rfl | ⟨v, hv, rfl⟩
  ·exact Q3
  ·exact Q1 Q3
  ·exact Q1 (Q1 (QdP hK1 hv))
 refine le_trans (Qj7 (N := 500001) (A' := [(u.k, ⟨u.cs.map dCR, 8, ec, true⟩), (500000, ⟨(us ++ [u]).map dUR, 3, eu, false⟩), (kg, gB L J eg)]) hf ef (fun p hp => ?_) rfl (fun p hp j hj => s0 j ?_) (fun p hp h => ?_) (QhI hK) (QfQ ec us) (fun p hp k hk => s0 k (hfr p hp k hk))) (QhY ⟨fun _ => rfl, mv⟩)
 ·simp only [List.mem_cons, List.not_mem_nil, or_false] at hp
  rcases hp with rfl | rfl | rfl
  ·rw [huk]; exact hc
  ·exact hu
  ·exact hg
 ·simp only [List.mem_cons, List.not_mem_nil, or_false] at hp
  rcases hp with rfl | rfl | rfl
  ·simp [Box.ids] at hj
  ·exact .inr (.inr (QbQ hj))
  ·simp [Box.ids, gB] at hj
 ·rcases hB p hp h with e | e
  ·rw [e]; exact Q1 (Q1 Q3)
  ·rw [e, <- huk]; exact Q3
end
def u0 (v : Vr) : UR := ⟨[], [], 500001, [zr v (-1)]⟩
def v0 : Vr := ⟨0, 0, 0, [], []⟩
theorem Qpb {kg a b : Nat} (h : 1000000 <= kg) (ha : a < 1000000) (hb : b < 1000000) : QaE a b kg = kg := by
 unfold QaE; rw [if_neg (by omega), if_neg (by omega)]
theorem Qm3 {l : List Nat} {fr fr1 fr' : List (Nat × D)} {kg eg eu ec : Nat} {L : List Int} {I : Int} (hkg : 1000000 <= kg) (hf : Zd l fr = fr1) (ef : fr1.map (fun p => (p.1, (p.2.ren (QaE 18 500000)).ren (QaE 16 500001))) = fr') :
  St.le ⟨fr, [(18, ⟨[[.str [], .str [], .osl 16 1]], 3, eu, false⟩), (16, ⟨[dCR (zr v0 (-1))], 8, ec, true⟩), (kg, gB L I eg)]⟩ ⟨fr', [(500000, ⟨[u0 v0].map dUR, 3, eu, false⟩), (kg, gB L I eg)] ++ fbx ec [u0 v0]⟩ := by
 subst hf ef
 have k1 := Qpb (a := 18) (b := 500000) hkg (by decide) (by decide)
 have k2 := Qpb (a := 16) (b := 500001) hkg (by decide) (by decide)
 refine le_trans (Qcm l fr _) (le_trans (Qh0 18 500000 (by decide) (by decide) _) (le_trans (Qh0 16 500001 (by decide) (by decide) _) ?_))
 have hH : ∀ k, lk ([(500000, (⟨[u0 v0].map dUR, 3, eu, false⟩ : Box)), (kg, gB L I eg)] ++ fbx ec [u0 v0]) k = lk (Qhk (QaE 16 500001) (Qhk (QaE 18 500000) [(18, ⟨[[.str [], .str [], .osl 16 1]], 3, eu, false⟩), (16, ⟨[dCR (zr v0 (-1))], 8, ec, true⟩), (kg, gB L I eg)])) k := fun k => by
  have e : Qhk (QaE 16 500001) (Qhk (QaE 18 500000) [(18, (⟨[[.str [], .str [], .osl 16 1]], 3, eu, false⟩ : Box)), (16, ⟨[dCR (zr v0 (-1))], 8, ec, true⟩), (kg, gB L I eg)]) = [(500000, ⟨[u0 v0].map dUR, 3, eu, false⟩), (500001, ⟨[dCR (zr v0 (-1))], 8, ec, true⟩), (kg, gB L I eg)] := by
   simp only [Qhk, List.map_cons, List.map_nil, k1, k2]; rfl
  rw [e]
  show lk ((500000, _) :: (kg, _) :: (500001, _) :: []) k = _
  rw [Qo, Qo, Qo, Qo, Qo, Qo]
  by_cases h1 : 500000 = k
  ·rw [if_pos h1, if_pos h1]
  ·rw [if_neg h1, if_neg h1]
   by_cases h2 : kg = k
   ·rw [if_pos h2, if_neg (by omega), if_pos h2]
   ·rw [if_neg h2, if_neg h2]; rfl
 refine QbD (by simp only [St.ren, List.map_map]; rfl) fun k => (hH k).symm
def names5 : List (List UInt8) := [[97, 110, 116], [98, 101, 101], [99, 111, 119], [100, 111, 103], [101, 108, 107]]
theorem Ze : names5.length = 5 := rfl
theorem QqH : versions.length = 4 := rfl
theorem QrJ {i : Nat} (h : i < versions.length) : QgM versions[i] := by
 have := QkA _ (List.getElem_mem h)
 exact ⟨Nat.le_trans this.1 (by omega), Nat.le_trans this.2 (by omega)⟩
structure UnitsIn (us : List UR) : Prop where
 keys : Yf us
 fresh : ∀ u ∈ us, QqW u
 first : ∃ z rest, us = ⟨[], [], 500001, [z]⟩ :: rest
theorem UnitsIn.zero : UnitsIn [u0 v0] := by
 refine ⟨fun j hj => ?_, fun u hu => ?_, ⟨zr v0 (-1), [], rfl⟩⟩
 ·have : j = 0 := by simp at hj; exact hj
  subst this; rfl
 ·simp only [List.mem_singleton] at hu; subst hu
  refine ⟨by simp [u0], fun z hz => ?_⟩
  simp only [u0, List.mem_singleton] at hz; subst hz
  exact ⟨v0, -1, rfl, ⟨Nat.zero_le _, Nat.zero_le _⟩⟩
theorem UnitsIn.snoc {us : List UR} (h : UnitsIn us) {n f : List UInt8} {cs : List CR} (hc : cs.length <= 4) (hz : ∀ z ∈ cs, ∃ v sh, z = zr v sh /\ QgM v) : UnitsIn (us ++ [⟨n, f, 500001 + us.length, cs⟩]) := by
 obtain ⟨h1, h2, z, rest, h3⟩ := h
 refine ⟨QiZ h1 rfl, fun u hu => ?_, z, rest ++ [⟨n, f, 500001 + us.length, cs⟩], by rw [h3]; rfl⟩
 rcases List.mem_append.1 hu with hu | hu
 ·exact h2 u hu
 ·simp only [List.mem_singleton] at hu; subst hu; exact ⟨hc, hz⟩
def CsIn (n : Nat) (cs : List CR) : Prop := cs.length <= n /\ ∀ z ∈ cs, ∃ v sh, z = zr v sh /\ QgM v
theorem CsIn.nil (n : Nat) : CsIn n [] := ⟨Nat.zero_le _, by simp⟩
theorem CsIn.keep {n : Nat} {cs : List CR} (h : CsIn n cs) : CsIn (n + 1) cs := ⟨Nat.le_succ_of_le h.1, h.2⟩
theorem CsIn.snoc {n : Nat} {cs : List CR} (h : CsIn n cs) {v : Vr} (hv : QgM v) {sh : Int} : CsIn (n + 1) (cs ++ [zr v sh]) := by
 refine ⟨by simp; exact h.1, fun z hz => ?_⟩
 rcases List.mem_append.1 hz with hz | hz
 ·exact h.2 z hz
 ·simp only [List.mem_singleton] at hz; subst hz; exact ⟨v, sh, rfl, hv⟩
theorem CsIn.at {n : Nat} {cs : List CR} (h : CsIn n cs) {i : Nat} (hi : i < cs.length) : QgM cs[i].v := by
 obtain ⟨v, sh, e, hv⟩ := h.2 _ (List.getElem_mem hi)
 rw [e]; exact hv
theorem Qk4 {α : Type} {k : Nat} {v v' : α} {l : List (Nat × α)} (h : v = v') : lk ((k, v) :: l) k = some v' := by rw [QA, h]
theorem Qju {us : List UR} {e et : Nat} (h : Yf us) : Box.scrub (500001 + us.length) ⟨us.map dUR, e, et, false⟩ = ⟨us.map dUR, e, et, false⟩ := Qjt fun hk => by
 obtain ⟨u, hu, e⟩ := QbQ hk
 have := QbC h hu
 omega
theorem Qlu {us : List UR} (h : Yf us) {n f : List UInt8} {k m : Nat} (hk : k ≠ 500000) : ∀ r ∈ us.map dUR ++ [[D.str n, D.str f, D.osl k m]], ∀ d ∈ r, 500000 ∉ d.sid := fun r hr d hd => by
 rcases List.mem_append.1 hr with hr | hr
 ·exact QqG h r hr d hd
 ·simp only [List.mem_singleton] at hr; subst hr
  simp only [List.mem_cons, List.not_mem_nil, or_false] at hd
  rcases hd with rfl | rfl | rfl <;> simp [D.sid]
  exact Ne.symm hk
theorem QqF {us : List UR} {u : UR} : (us ++ [u]).map dUR = us.map dUR ++ [dUR u] := by simp
theorem Qqa {cs : List CR} {z : CR} : (cs ++ [z]).map dCR = cs.map dCR ++ [dCR z] := by simp
theorem Qbo {us : List UR} (h : Yf us) {kg eu ec : Nat} {g1 g2 g3 : Box} (hkg : 1000000 <= kg) (h1 : g1.pr = true) (h2 : g2.pr = true) (hlen : us.length <= 100) :
  (∀ k, 1000000 <= k -> (lk [(kg, g1)] k).isSome = true -> (lk (((500000, (⟨us.map dUR, 3, eu, false⟩ : Box)) :: fbx ec us) ++ [(kg, g2), (kg, g1)]) k).isSome = true) /\
  (∀ k b, lk (((500000, (⟨us.map dUR, 3, eu, false⟩ : Box)) :: fbx ec us) ++ [(kg, g2), (kg, g1)]) k = some b -> 500000 <= k /\ ∀ j ∈ b.ids, (lk (((500000, (⟨us.map dUR, 3, eu, false⟩ : Box)) :: fbx ec us) ++ [(kg, g2), (kg, g1)]) j).isSome = true) /\
  (∀ k b, lk (((500000, (⟨us.map dUR, 3, eu, false⟩ : Box)) :: fbx ec us) ++ [(kg, g2), (kg, g1)]) k = some b -> lk ((kg, g2) :: (500000, ⟨us.map dUR, 3, eu, false⟩) :: (kg, g3) :: fbx ec us) k = some b) := by
 have cs : ∀ k b, lk (((500000, (⟨us.map dUR, 3, eu, false⟩ : Box)) :: fbx ec us) ++ [(kg, g2), (kg, g1)]) k = some b -> (k = 500000 /\ b = ⟨us.map dUR, 3, eu, false⟩) \/ (∃ u ∈ us, k = u.k /\ b = ⟨u.cs.map dCR, 8, ec, true⟩) \/ (k = kg /\ b = g2) := fun k b hk => by
  rw [List.cons_append, Qo] at hk
  split at hk
  ·rename_i e; cases hk; exact .inl ⟨e.symm, rfl⟩
  ·rw [ZW] at hk
   cases hh : lk (fbx ec us) k with
   | some v =>
    rw [hh] at hk; cases hk
    exact .inr (.inl (Qg4 hh))
   | none =>
    rw [hh] at hk
    simp only at hk
    rw [Qo] at hk
    split at hk
    ·rename_i e; cases hk; exact .inr (.inr ⟨e.symm, rfl⟩)
    ·rename_i e
     rw [Qo, if_neg e] at hk; cases hk
 refine ⟨fun k _ hk => ?_, fun k b hk => ?_, fun k b hk => ?_⟩
 ·obtain ⟨b, hb⟩ := Option.isSome_iff_exists.1 hk
  obtain ⟨rfl, _⟩ := XD hb
  exact Qhx Q3
 ·rcases cs k b hk with ⟨rfl, rfl⟩ | ⟨u, hu, rfl, rfl⟩ | ⟨rfl, rfl⟩
  ·refine ⟨Nat.le_refl _, fun j hj => ?_⟩
   obtain ⟨u, hu, rfl⟩ := QbQ hj
   rw [List.cons_append]
   refine Q1 ?_
   obtain ⟨b, hb⟩ := Option.isSome_iff_exists.1 (QdP (ec := ec) h hu)
   rw [Yy hb]; rfl
  ·have := QbC h hu
   exact ⟨by omega, fun j hj => by simp [Box.ids] at hj⟩
  ·exact ⟨by omega, fun j hj => by rw [Qaj h2] at hj; cases hj⟩
 ·rcases cs k b hk with ⟨rfl, rfl⟩ | ⟨u, hu, rfl, rfl⟩ | ⟨rfl, rfl⟩
  ·exact Qp (by omega) QA
  ·have hm := QbC h hu
   obtain ⟨j, hj, rfl⟩ := List.getElem_of_mem hu
   refine Qp (by omega) (Qp (by omega) (Qp (by omega) ?_))
   rw [h j hj]; exact QmF h hj
  ·exact QA
end M25
namespace Go.Proofs
open Go Go.Abs M3 M25
set_option linter.unusedVariables false
set_option linter.unusedSimpArgs false
theorem QcW {kg : Nat} {L : List Int} {I most : Int} {eg eu ec : Nat} (heu : eu = 74) (hec : ec = 71) (hkg : 1000000 <= kg) (hL : ∀ x ∈ L, I64 x) (hm0 : 1 <= most) (hm1 : most <= 5) : ∃ d H2, (∃ us I2, (UnitsIn us /\ 2 <= us.length /\ us.length <= 11) /\ d = .osl 500000 us.length /\ H2 = ((500000, ⟨us.map dUR, 3, eu, false⟩) :: fbx ec us) ++ [(kg, gB L I2 eg), (kg, gB L I eg)]) /\ OkH Tryz.prog 39 [.ref kg 0 0, .int .i64 most] [(kg, gB L I eg)] d H2 := by
 subst heu hec
 have e3 : ¬ kg = 500000 := by omega
 have k1 := Qpb (a := 18) (b := 500000) hkg (by decide) (by decide)
 have k2 := Qpb (a := 16) (b := 500001) hkg (by decide) (by decide)
 refine OkH.ofX (R := fun d H2 => ∃ us I2, (UnitsIn us /\ 2 <= us.length /\ us.length <= 11) /\ d = .osl 500000 us.length /\ H2 = ((500000, ⟨us.map dUR, 3, 74, false⟩) :: fbx 71 us) ++ [(kg, gB L I2 eg), (kg, gB L I eg)]) ZQ Tryz.func39 Qtl (Nat.le_of_ble_eq_true rfl) ?_
 show TX _ _ tf39.body _ _
 refine Q9 fun K hK => Qa rfl ?_
 refine hK _ _ (QQ (kp2 rfl rfl) ?_)
 refine Q9 fun K hK => ?_
 refine QH rfl (by repeat (first | exact rfl | refine Zw (by first | decide | omega) ?_)) ?_
 refine Qa rfl ?_
 refine hK _ _ (QQ (kp3 rfl rfl rfl) ?_)
 refine Qmk (Qj6 (l := [0, 1]) (B := [_]) (A := []) (H0 := [(kg, gB L I eg)]) 14 5 (kp2 rfl rfl) rfl rfl rfl rfl (by intro p hp hk; simp only [List.mem_cons, List.not_mem_nil, or_false] at hp; rcases hp with rfl | rfl <;> first | (simp [D.ids, D.sid, Zc, QZ, ZC] at hk; done) | (simp [D.ids, D.sid, Zc, QZ, ZC] at hk; omega)) (by intro p hp; cases hp) (by intro p hp h; simp only [List.mem_singleton] at hp; subst hp; simp only at h; omega) (fun k b h => by obtain ⟨rfl, rfl⟩ := XD h; exact hkg) (fun k b h j hj => by obtain ⟨rfl, rfl⟩ := XD h; simp [Box.ids, gB] at hj) (by intro p hp k hk; simp only [List.mem_cons, List.not_mem_nil, or_false] at hp; rcases hp with rfl | rfl <;> first | (simp [D.ids, D.sid, Zc, QZ, ZC] at hk; done) | (simp [D.ids, D.sid, Zc, QZ, ZC] at hk; subst hk; repeat (first | exact Q3 | refine Q1 ?_)))) ?_
 refine Q9 fun K hK => QU rfl rfl ?_
 refine QH rfl (by repeat (first | exact rfl | refine Zw (by first | decide | omega) ?_)) ?_
 refine QU rfl rfl ?_
 refine QH rfl (by repeat (first | exact rfl | refine Zw (by first | decide | omega) ?_)) ?_
 refine Qa rfl ?_
 refine hK _ _ (QQ (kp4 rfl rfl rfl rfl) ?_)
 refine Q9 fun K hK => QF (Xr) rfl rfl (.inl rfl) (Qa rfl ?_)
 refine hK _ _ (QQ (kp5 rfl rfl rfl rfl rfl) ?_)
 refine Xy ?_ -- 0
 refine Q9 fun K hK => Qa rfl ?_
 refine hK _ _ (QQ (kp6 rfl rfl rfl rfl rfl rfl) ?_)
 refine Yw ?_
 refine QdA (ι := List UR × Int × Nat) (fun ⟨us, J, n⟩ => ⟨[(0, .ref kg 0 0), (1, .int .i64 most), (5, .sl (Qbc names5)), (6, .osl 500000 us.length), (7, .sl (versions.map dVr)), (8, .int .i64 n)], [(500000, ⟨(us).map dUR, 3, 74, false⟩), (kg, gB L (J) eg)] ++ fbx 71 (us)⟩) (fun ⟨us, J, n⟩ => UnitsIn us /\ us.length <= 1 + 2 * n /\ n <= 5 /\ 1 + n <= us.length) (fun ⟨us, J, n⟩ => 5 - n) ([u0 v0], I, 0) ?_ ?_ ?_
 ·refine Qm3 (l := [0, 1, 5, 6, 7, 8]) hkg (kp6 rfl rfl rfl rfl rfl rfl) ?_; simp only [List.map_cons, List.map_nil, D.ren, D.renS, k1, k2]; rfl
 ·exact ⟨UnitsIn.zero, by simp, by omega, by simp⟩
 intro ⟨us, J, n⟩ hI
 try dsimp only at hI
 have e1 : ¬ kg = 500001 + us.length := by omega
 have e2 : ¬ 500000 = 500001 + us.length := by omega
 have e4 : ¬ 500001 + us.length = 500000 := by omega
 have hx0 : 0 <= nx L J most := Qi9
 have hx1 : nx L J most < most := Qi8 (by omega)
 have hn5 := Ze
 have hv4 := QqH
 try dsimp only
 refine Xy ?_ -- 1
 refine Q9 fun K hK => Qa rfl (Qa rfl (Qa rfl ?_))
 refine YI (Qcx (I := J) rfl (by repeat (first | exact QA | refine Qp (by omega) ?_)) hL (by omega)) ?_
 refine QY rfl rfl (by first | exact Qr (by omega) (by omega) | rfl) (Yb rfl rfl (Qa rfl ?_))
 refine QB (g := 26) rfl (fun h1 => ?_) (fun h1 => ?_)
 ·try rw [h1]
  try simp only [qa, qb, qc, qd, qe, List.length_map] at h1
  refine Qg rfl (Qa rfl (Qg rfl (Qa rfl (Qg rfl ?_))))
  first | refine QR rfl QX ?_ | refine QR rfl rfl ?_
  refine Qg rfl (Yb rfl rfl (Ql rfl rfl ?_))
  refine hK _ _ (QQ (kp7 rfl rfl rfl rfl rfl rfl rfl) ?_)
  refine YP rfl (fun h2 => ?_) (fun h2 => ?_)
  ·try rw [h2]
   try simp only [qa, qb, qc, qd, qe, List.length_map] at h2
   refine Y4 (Q5 (kp6 rfl rfl rfl rfl rfl rfl) ?_)
   refine Xy ?_ -- 2
   refine Yw (Q9 fun K hK => Qa rfl ?_)
   refine hK _ _ (QQ (kp7 rfl rfl rfl rfl rfl rfl rfl) ?_)
   refine Q9 fun K hK => Qa rfl ?_
   refine YI (Qcx (I := nxI J) rfl (by repeat (first | exact QA | refine Qp (by omega) ?_)) hL (by omega)) ?_
   refine Qa rfl ?_
   refine hK _ _ (QQ (kp8 rfl rfl rfl rfl rfl rfl rfl rfl) ?_)
   refine Xy ?_ -- 3
   refine Q9 fun K hK => Qa rfl ?_
   refine hK _ _ (QQ (kp9 rfl rfl rfl rfl rfl rfl rfl rfl rfl) ?_)
   refine Yw ?_
   refine QdA (ι := List CR × Nat) (fun ⟨cs, i⟩ => ⟨[(0, .ref kg 0 0), (1, .int .i64 most), (5, .sl (Qbc names5)), (6, .osl 500000 us.length), (7, .sl (versions.map dVr)), (8, .int .i64 n), (9, .osl (500001 + us.length) cs.length), (10, .int .i64 (nx L (nxI J) 16)), (11, .int .i64 i)], [(500001 + (us).length, ⟨(cs).map dCR, 8, 71, true⟩), (500000, ⟨(us).map dUR, 3, 74, false⟩), (kg, gB L (nxI (nxI J)) eg)] ++ fbx 71 (us)⟩) (fun ⟨cs, i⟩ => i <= 4 /\ CsIn i cs) (fun ⟨cs, i⟩ => 4 - i) ([], 0) ?_ ?_ ?_
   ·exact le_trans (Yj 9 (500001 + us.length) 8 71 rfl (by repeat (first | exact YW hI.1.keys (.inr (by omega)) | refine Zw (by omega) ?_))) (QqU (l := [0, 1, 5, 6, 7, 8, 9, 10, 11]) (B := [_, _, _, _, _]) (kp9 rfl rfl rfl rfl rfl rfl rfl rfl rfl) rfl hI.1.keys (by repeat (first | exact QA | refine Qp (by omega) ?_)) (by repeat (first | exact QA | refine Qp (by omega) ?_)) (by repeat (first | exact QA | refine Qp (by omega) ?_)) (by intro p hp h; simp only [List.mem_cons, List.not_mem_nil, or_false] at hp; rcases hp with rfl | rfl | rfl | rfl | rfl <;> first | (simp only at h; omega) | exact .inl rfl | exact .inr rfl) (by intro p hp k hk; simp only [List.mem_cons, List.not_mem_nil, or_false] at hp; rcases hp with rfl | rfl | rfl | rfl | rfl | rfl | rfl | rfl | rfl <;> first | (simp [D.ids, D.sid, Zc, QZ, ZC] at hk; done) | (simp [D.ids, D.sid, Zc, QZ, ZC] at hk; subst hk; first | exact .inl rfl | exact .inr (.inl rfl) | exact .inr (.inr (.inl rfl)) | (refine .inr (.inr (.inl ?_)); simp; done) | (first | exact .inr (.inr ⟨_, List.mem_append_right _ (List.mem_singleton.2 rfl), rfl⟩) | exact .inr (.inr (.inr ⟨_, List.mem_append_right _ (List.mem_singleton.2 rfl), rfl⟩))))))
   ·exact ⟨by omega, CsIn.nil _⟩
   intro ⟨cs, i⟩ hC
   try dsimp only at hC
   have hcl := hC.2.1
   try dsimp only
   refine Xy ?_ -- 4
   refine Q9 fun K hK => Qa rfl (Qa rfl ?_)
   first | refine QR rfl QX ?_ | refine QR rfl rfl ?_
   refine Yb rfl rfl ?_
   refine hK _ _ (QQ (QlU rfl rfl rfl rfl rfl rfl rfl rfl rfl rfl) ?_)
   refine YP rfl (fun h3 => ?_) (fun h3 => ?_)
   ·try rw [h3]
    try simp only [qa, qb, qc, qd, qe, List.length_map] at h3
    refine Y4 (Q5 (kp9 rfl rfl rfl rfl rfl rfl rfl rfl rfl) ?_)
    refine Xy ?_ -- 5
    refine Yw (Q9 fun K hK => Qa rfl (Qa rfl (QiA rfl (Qfw (by omega) (by omega)) (Qq4 rfl rfl (by omega) (QcS rfl rfl (ZI rfl rfl ?_))))))
    refine hK _ _ (QQ (QlU rfl rfl rfl rfl rfl rfl rfl rfl rfl rfl) ?_)
    refine YP rfl (fun h4 => ?_) (fun h4 => ?_)
    ·try rw [h4]
     try simp only [qa, qb, qc, qd, qe, List.length_map] at h4
     refine ZR fun K hK => Qa rfl (Qa rfl (Qa rfl (QJ rfl rfl rfl (by omega) (QT (by omega)) rfl (QG (cs := [_, _, _, _, _]) rfl rfl rfl rfl (QU rfl rfl ?_)))))
     refine QH rfl (by repeat (first | exact YW hI.1.keys (.inl (by omega)) | exact YW hK1.keys (.inl (by omega)) | refine Zw (by first | decide | omega) ?_)) ?_
     refine Xz (hk0 := by omega) rfl rfl (fun _ h => Xj rfl rfl rfl h) (Qp (by omega) QA) (by simp) rfl rfl rfl (by simp; omega) (by simp; omega) (Qa rfl (hK _ ?_))
     refine Qh (Q5 (kp9 rfl rfl rfl rfl rfl rfl rfl rfl rfl) (ZR fun K hK => Qa rfl (QY rfl rfl (by first | exact Qr (by omega) (by omega) | rfl) (Qa rfl (hK _ ?_)))))
     refine Qk (cs ++ [zr (versions[i]'(by omega)) 0], i + 1) ?_ ?_ ?_
     ·exact le_trans (QhZ (B := [_, _, _, _, _]) (500001 + us.length) (QfQ _ _)) (QqU (l := [0, 1, 5, 6, 7, 8, 9, 10, 11]) (B := [_, _, _, _, _]) (kp9 rfl rfl rfl rfl rfl rfl rfl rfl rfl) (by simp [D.scrub, e1, e2, e3, e4] <;> omega) hI.1.keys (by rw [List.map_append]; exact QA) (by repeat (first | exact QA | exact Qk4 (Qju hI.1.keys) | refine Qp (by omega) ?_)) (by repeat (first | exact QA | refine Qp (by omega) ?_)) (by intro p hp h; simp only [List.mem_cons, List.not_mem_nil, or_false] at hp; rcases hp with rfl | rfl | rfl | rfl | rfl <;> first | (simp only at h; omega) | exact .inl rfl | exact .inr rfl) (by intro p hp k hk; simp only [List.mem_cons, List.not_mem_nil, or_false] at hp; rcases hp with rfl | rfl | rfl | rfl | rfl | rfl | rfl | rfl | rfl <;> first | (simp [D.ids, D.sid, Zc, QZ, ZC] at hk; done) | (simp [D.ids, D.sid, Zc, QZ, ZC] at hk; subst hk; first | exact .inl rfl | exact .inr (.inl rfl) | exact .inr (.inr (.inl rfl)) | (refine .inr (.inr (.inl ?_)); simp; done) | (first | exact .inr (.inr ⟨_, List.mem_append_right _ (List.mem_singleton.2 rfl), rfl⟩) | exact .inr (.inr (.inr ⟨_, List.mem_append_right _ (List.mem_singleton.2 rfl), rfl⟩))))))
     ·try dsimp only
      exact ⟨by omega, hC.2.snoc (QrJ (by omega))⟩
     ·show 4 - (i + 1) < 4 - i; omega
    ·try rw [h4]
     try simp only [qa, qb, qc, qd, qe, List.length_map] at h4
     refine Y4 (Qh (Q5 (kp9 rfl rfl rfl rfl rfl rfl rfl rfl rfl) (ZR fun K hK => Qa rfl (QY rfl rfl (by first | exact Qr (by omega) (by omega) | rfl) (Qa rfl (hK _ ?_))))))
     refine Qk (cs, i + 1) ?_ ?_ ?_
     ·exact QqU (l := [0, 1, 5, 6, 7, 8, 9, 10, 11]) (B := [_, _, _]) (kp9 rfl rfl rfl rfl rfl rfl rfl rfl rfl) rfl hI.1.keys (by repeat (first | exact QA | refine Qp (by omega) ?_)) (by repeat (first | exact QA | refine Qp (by omega) ?_)) (by repeat (first | exact QA | refine Qp (by omega) ?_)) (by intro p hp h; simp only [List.mem_cons, List.not_mem_nil, or_false] at hp; rcases hp with rfl | rfl | rfl <;> first | (simp only at h; omega) | exact .inl rfl | exact .inr rfl) (by intro p hp k hk; simp only [List.mem_cons, List.not_mem_nil, or_false] at hp; rcases hp with rfl | rfl | rfl | rfl | rfl | rfl | rfl | rfl | rfl <;> first | (simp [D.ids, D.sid, Zc, QZ, ZC] at hk; done) | (simp [D.ids, D.sid, Zc, QZ, ZC] at hk; subst hk; first | exact .inl rfl | exact .inr (.inl rfl) | exact .inr (.inr (.inl rfl)) | (refine .inr (.inr (.inl ?_)); simp; done) | (first | exact .inr (.inr ⟨_, List.mem_append_right _ (List.mem_singleton.2 rfl), rfl⟩) | exact .inr (.inr (.inr ⟨_, List.mem_append_right _ (List.mem_singleton.2 rfl), rfl⟩)))))
     ·try dsimp only
      exact ⟨by omega, hC.2.keep⟩
     ·show 4 - (i + 1) < 4 - i; omega
   ·try rw [h3]
    try simp only [qa, qb, qc, qd, qe, List.length_map] at h3
    refine QbT (YF (Qx (QE (Q5 (kp7 rfl rfl rfl rfl rfl rfl rfl) (Q9 fun K hK => Qa rfl (Qa rfl (Qa rfl (QJ rfl rfl rfl (by omega) (QT (by omega)) rfl (QC rfl rfl rfl (Qa rfl ?_))))))))))
    refine QU rfl rfl ?_
    refine QH rfl (by repeat (first | exact YW hI.1.keys (.inl (by omega)) | exact YW hK1.keys (.inl (by omega)) | refine Zw (by first | decide | omega) ?_)) ?_
    refine QjO (hk0 := by decide) rfl rfl (fun _ h => Xj rfl rfl rfl h) (Qp (by omega) (Qp (by omega) QA)) (by simp) rfl rfl (.inr (Qlu hI.1.keys (by omega))) (by simp; omega) (by simp; omega) (Qa rfl ?_)
    refine hK _ _ (QQ (kp7 rfl rfl rfl rfl rfl rfl rfl) ?_)
    have hc4 : CsIn 4 cs := ⟨by omega, hC.2.2⟩
    refine Qmk (le_trans (QhZ (B := [_, _, _, _, _]) 500000 (QfQ _ _)) (QrH (u := (UR.mk (names5[n]'(by have := Ze; omega)) [] (500001 + us.length) cs)) (l := [0, 1, 5, 6, 7, 8, 9]) (fr' := [(0, .ref kg 0 0), (1, .int .i64 most), (5, .sl (Qbc names5)), (6, .osl 500000 (us ++ [(UR.mk (names5[n]'(by have := Ze; omega)) [] (500001 + us.length) cs)]).length), (7, .sl (versions.map dVr)), (8, .int .i64 n), (9, .osl (500001 + us.length) cs.length)]) (B := [_, _, _, _, _]) (kp7 rfl rfl rfl rfl rfl rfl rfl) (by simp [D.scrub, e1, e2, e3, e4]) hI.1.keys rfl (by repeat (first | exact QA | refine Qp (by omega) ?_)) (by rw [List.map_append]; exact QA) (by repeat (first | exact QA | refine Qp (by omega) ?_)) (by intro p hp h; simp only [List.mem_cons, List.not_mem_nil, or_false] at hp; rcases hp with rfl | rfl | rfl | rfl | rfl <;> first | (simp only at h; omega) | exact .inl rfl | exact .inr rfl) hkg (by omega) (by intro p hp k hk; simp only [List.mem_cons, List.not_mem_nil, or_false] at hp; rcases hp with rfl | rfl | rfl | rfl | rfl | rfl | rfl <;> first | (simp [D.ids, D.sid, Zc, QZ, ZC] at hk; done) | (simp [D.ids, D.sid, Zc, QZ, ZC] at hk; subst hk; first | exact .inl rfl | exact .inr (.inl rfl) | (first | exact .inr (.inr ⟨_, List.mem_append_right _ (List.mem_singleton.2 rfl), rfl⟩) | exact .inr (.inr (.inr ⟨_, List.mem_append_right _ (List.mem_singleton.2 rfl), rfl⟩))))))) ?_
    have hK1 := hI.1.snoc (n := (names5[n]'(by have := Ze; omega))) (f := []) hc4.1 hc4.2
    have hl1 : (us ++ [(UR.mk (names5[n]'(by have := Ze; omega)) [] (500001 + us.length) cs)]).length = us.length + 1 := by simp
    have f1 : ¬ kg = 500001 + (us ++ [(UR.mk (names5[n]'(by have := Ze; omega)) [] (500001 + us.length) cs)]).length := by omega
    have f2 : ¬ 500000 = 500001 + (us ++ [(UR.mk (names5[n]'(by have := Ze; omega)) [] (500001 + us.length) cs)]).length := by omega
    have f4 : ¬ 500001 + (us ++ [(UR.mk (names5[n]'(by have := Ze; omega)) [] (500001 + us.length) cs)]).length = 500000 := by omega
    have f5 : ¬ 500001 + us.length = 500001 + (us ++ [(UR.mk (names5[n]'(by have := Ze; omega)) [] (500001 + us.length) cs)]).length := by omega
    refine Q9 fun K hK => Qa rfl (Yb rfl rfl (Qa rfl ?_))
    refine QB (g := 67) rfl (fun h5 => ?_) (fun h5 => ?_)
    ·try rw [h5]
     try simp only [qa, qb, qc, qd, qe, List.length_map] at h5
     refine Qg rfl (Qa rfl (Qg rfl ?_))
     refine YI (Qcx (I := nxI (nxI J)) rfl (by repeat (first | exact QA | refine Qp (by omega) ?_)) hL (by omega)) ?_
     refine Qg rfl (ZI rfl rfl (Ql rfl rfl ?_))
     refine hK _ _ (QQ (kp8 rfl rfl rfl rfl rfl rfl rfl rfl) ?_)
     refine YP rfl (fun h6 => ?_) (fun h6 => ?_)
     ·try rw [h6]
      try simp only [qa, qb, qc, qd, qe, List.length_map] at h6
      refine Q9 fun K hK => Qa rfl ?_
      refine hK _ _ (QQ (kp8 rfl rfl rfl rfl rfl rfl rfl rfl) ?_)
      refine Xy ?_ -- 6
      refine Q9 fun K hK => Qa rfl ?_
      refine hK _ _ (QQ (kp9 rfl rfl rfl rfl rfl rfl rfl rfl rfl) ?_)
      refine Yw ?_
      refine QdA (ι := List CR × Nat × Int) (fun ⟨c2, m, J3⟩ => ⟨[(0, .ref kg 0 0), (1, .int .i64 most), (5, .sl (Qbc names5)), (6, .osl 500000 (us ++ [(UR.mk (names5[n]'(by have := Ze; omega)) [] (500001 + us.length) cs)]).length), (7, .sl (versions.map dVr)), (8, .int .i64 n), (9, .osl (500001 + us.length) cs.length), (12, .osl (500001 + (us ++ [(UR.mk (names5[n]'(by have := Ze; omega)) [] (500001 + us.length) cs)]).length) c2.length), (13, .int .i64 m)], [(500001 + (us ++ [(UR.mk (names5[n]'(by have := Ze; omega)) [] (500001 + us.length) cs)]).length, ⟨(c2).map dCR, 8, 71, true⟩), (500000, ⟨(us ++ [(UR.mk (names5[n]'(by have := Ze; omega)) [] (500001 + us.length) cs)]).map dUR, 3, 74, false⟩), (kg, gB L (J3) eg)] ++ fbx 71 (us ++ [(UR.mk (names5[n]'(by have := Ze; omega)) [] (500001 + us.length) cs)])⟩) (fun ⟨c2, m, J3⟩ => m <= cs.length /\ CsIn m c2) (fun ⟨c2, m, J3⟩ => cs.length - m) ([], 0, nxI (nxI (nxI J))) ?_ ?_ ?_
      ·exact le_trans (Yj 12 (500001 + (us ++ [(UR.mk (names5[n]'(by have := Ze; omega)) [] (500001 + us.length) cs)]).length) 8 71 rfl (by repeat (first | exact YW hK1.keys (.inr (by omega)) | refine Zw (by omega) ?_))) (QqU (l := [0, 1, 5, 6, 7, 8, 9, 12, 13]) (B := [_, _, _, _]) (kp9 rfl rfl rfl rfl rfl rfl rfl rfl rfl) rfl hK1.keys (by repeat (first | exact QA | refine Qp (by omega) ?_)) (by repeat (first | exact QA | refine Qp (by omega) ?_)) (by repeat (first | exact QA | refine Qp (by omega) ?_)) (by intro p hp h; simp only [List.mem_cons, List.not_mem_nil, or_false] at hp; rcases hp with rfl | rfl | rfl | rfl <;> first | (simp only at h; omega) | exact .inl rfl | exact .inr rfl) (by intro p hp k hk; simp only [List.mem_cons, List.not_mem_nil, or_false] at hp; rcases hp with rfl | rfl | rfl | rfl | rfl | rfl | rfl | rfl | rfl <;> first | (simp [D.ids, D.sid, Zc, QZ, ZC] at hk; done) | (simp [D.ids, D.sid, Zc, QZ, ZC] at hk; subst hk; first | exact .inl rfl | exact .inr (.inl rfl) | exact .inr (.inr (.inl rfl)) | (refine .inr (.inr (.inl ?_)); simp; done) | (first | exact .inr (.inr ⟨_, List.mem_append_right _ (List.mem_singleton.2 rfl), rfl⟩) | exact .inr (.inr (.inr ⟨_, List.mem_append_right _ (List.mem_singleton.2 rfl), rfl⟩))))))
      ·exact ⟨by omega, CsIn.nil _⟩
      intro ⟨c2, m, J3⟩ hM
      try dsimp only at hM
      have hcl2 := hM.2.1
      try dsimp only
      refine Xy ?_ -- 7
      refine Q9 fun K hK => Qa rfl (Qa rfl ?_)
      first | refine QR rfl QX ?_ | refine QR rfl rfl ?_
      refine Yb rfl rfl ?_
      refine hK _ _ (QQ (QlU rfl rfl rfl rfl rfl rfl rfl rfl rfl rfl) ?_)
      refine YP rfl (fun h7 => ?_) (fun h7 => ?_)
      ·try rw [h7]
       try simp only [qa, qb, qc, qd, qe, List.length_map] at h7
       refine Y4 (Q5 (kp9 rfl rfl rfl rfl rfl rfl rfl rfl rfl) ?_)
       refine Xy ?_ -- 8
       refine Yw (Q9 fun K hK => Qa rfl ?_)
       refine YI (Qcx (I := J3) rfl (by repeat (first | exact QA | refine Qp (by omega) ?_)) hL (by omega)) ?_
       refine Qhv rfl rfl ?_
       refine hK _ _ (QQ (QlU rfl rfl rfl rfl rfl rfl rfl rfl rfl rfl) ?_)
       refine YP rfl (fun h8 => ?_) (fun h8 => ?_)
       ·try rw [h8]
        try simp only [qa, qb, qc, qd, qe, List.length_map] at h8
        refine ZR fun K hK => Qa rfl (Qa rfl (Qa rfl (Xm rfl rfl (Qp (by omega) (Qp (by omega) (Qp (by omega) (Qp (by omega) (QhJ (u := (UR.mk (names5[n]'(by have := Ze; omega)) [] (500001 + us.length) cs)) hI.1.keys rfl))))) (by simp) (by omega) (by omega) rfl (Qi rfl (Zu (Qp (by omega) (Qp (by omega) (Qp (by omega) (Qp (by omega) (QhJ (u := (UR.mk (names5[n]'(by have := Ze; omega)) [] (500001 + us.length) cs)) hI.1.keys rfl)))))) (QG (cs := [_, _, _, _, _]) rfl (Z9 (Qp (by omega) (Qp (by omega) (Qp (by omega) (Qp (by omega) (QhJ (u := (UR.mk (names5[n]'(by have := Ze; omega)) [] (500001 + us.length) cs)) hI.1.keys rfl))))) (QT (l := cs) (by omega))) rfl rfl (QU rfl rfl ?_))))))
        refine QH rfl (by repeat (first | exact YW hI.1.keys (.inl (by omega)) | exact YW hK1.keys (.inl (by omega)) | refine Zw (by first | decide | omega) ?_)) ?_
        refine Xz (hk0 := by omega) rfl rfl (fun _ h => Xj rfl rfl rfl h) (Qp (by omega) (Qp (by omega) QA)) (by simp) rfl rfl rfl (by simp; omega) (by simp; omega) (Qa rfl (hK _ ?_))
        refine Qh (Q5 (kp9 rfl rfl rfl rfl rfl rfl rfl rfl rfl) (ZR fun K hK => Qa rfl (QY rfl rfl (by first | exact Qr (by omega) (by omega) | rfl) (Qa rfl (hK _ ?_)))))
        refine Qk (c2 ++ [zr (cs[m]'(by omega)).v 0], m + 1, nxI J3) ?_ ?_ ?_
        ·exact le_trans (QhZ (B := [_, _, _, _, _, _]) (500001 + (us ++ [(UR.mk (names5[n]'(by have := Ze; omega)) [] (500001 + us.length) cs)]).length) (QfQ _ _)) (QqU (l := [0, 1, 5, 6, 7, 8, 9, 12, 13]) (B := [_, _, _, _, _, _]) (kp9 rfl rfl rfl rfl rfl rfl rfl rfl rfl) (by simp [D.scrub, f1, f2, f4, f5] <;> omega) hK1.keys (by rw [Qqa (cs := c2)]; exact QA) (by repeat (first | exact QA | exact Qk4 (Qju hK1.keys) | refine Qp (by omega) ?_)) (by repeat (first | exact QA | refine Qp (by omega) ?_)) (by intro p hp h; simp only [List.mem_cons, List.not_mem_nil, or_false] at hp; rcases hp with rfl | rfl | rfl | rfl | rfl | rfl <;> first | (simp only at h; omega) | exact .inl rfl | exact .inr rfl) (by intro p hp k hk; simp only [List.mem_cons, List.not_mem_nil, or_false] at hp; rcases hp with rfl | rfl | rfl | rfl | rfl | rfl | rfl | rfl | rfl <;> first | (simp [D.ids, D.sid, Zc, QZ, ZC] at hk; done) | (simp [D.ids, D.sid, Zc, QZ, ZC] at hk; subst hk; first | exact .inl rfl | exact .inr (.inl rfl) | exact .inr (.inr (.inl rfl)) | (refine .inr (.inr (.inl ?_)); simp; done) | (first | exact .inr (.inr ⟨_, List.mem_append_right _ (List.mem_singleton.2 rfl), rfl⟩) | exact .inr (.inr (.inr ⟨_, List.mem_append_right _ (List.mem_singleton.2 rfl), rfl⟩))))))
        ·try dsimp only
         exact ⟨by omega, hM.2.snoc (hC.2.at (by omega))⟩
        ·show cs.length - (m + 1) < cs.length - m; omega
       ·try rw [h8]
        try simp only [qa, qb, qc, qd, qe, List.length_map] at h8
        refine Y4 (Qh (Q5 (kp9 rfl rfl rfl rfl rfl rfl rfl rfl rfl) (ZR fun K hK => Qa rfl (QY rfl rfl (by first | exact Qr (by omega) (by omega) | rfl) (Qa rfl (hK _ ?_))))))
        refine Qk (c2, m + 1, nxI J3) ?_ ?_ ?_
        ·exact QqU (l := [0, 1, 5, 6, 7, 8, 9, 12, 13]) (B := [_, _, _, _]) (kp9 rfl rfl rfl rfl rfl rfl rfl rfl rfl) rfl hK1.keys (by repeat (first | exact QA | refine Qp (by omega) ?_)) (by repeat (first | exact QA | refine Qp (by omega) ?_)) (by repeat (first | exact QA | refine Qp (by omega) ?_)) (by intro p hp h; simp only [List.mem_cons, List.not_mem_nil, or_false] at hp; rcases hp with rfl | rfl | rfl | rfl <;> first | (simp only at h; omega) | exact .inl rfl | exact .inr rfl) (by intro p hp k hk; simp only [List.mem_cons, List.not_mem_nil, or_false] at hp; rcases hp with rfl | rfl | rfl | rfl | rfl | rfl | rfl | rfl | rfl <;> first | (simp [D.ids, D.sid, Zc, QZ, ZC] at hk; done) | (simp [D.ids, D.sid, Zc, QZ, ZC] at hk; subst hk; first | exact .inl rfl | exact .inr (.inl rfl) | exact .inr (.inr (.inl rfl)) | (refine .inr (.inr (.inl ?_)); simp; done) | (first | exact .inr (.inr ⟨_, List.mem_append_right _ (List.mem_singleton.2 rfl), rfl⟩) | exact .inr (.inr (.inr ⟨_, List.mem_append_right _ (List.mem_singleton.2 rfl), rfl⟩)))))
        ·try dsimp only
         exact ⟨by omega, hM.2.keep⟩
        ·show cs.length - (m + 1) < cs.length - m; omega
      ·try rw [h7]
       try simp only [qa, qb, qc, qd, qe, List.length_map] at h7
       refine QbT (YF (Qx (QE (Q5 (kp7 rfl rfl rfl rfl rfl rfl rfl) (ZR fun K hK => Qa rfl (Qa rfl (Qa rfl (QJ rfl rfl rfl (by omega) (QT (by omega)) rfl (QC rfl rfl rfl (Qa rfl ?_))))))))))
       refine QU rfl rfl ?_
       refine QH rfl (by repeat (first | exact YW hI.1.keys (.inl (by omega)) | exact YW hK1.keys (.inl (by omega)) | refine Zw (by first | decide | omega) ?_)) ?_
       refine QjO (hk0 := by decide) rfl rfl (fun _ h => Xj rfl rfl rfl h) (Qp (by omega) (Qp (by omega) QA)) (by simp) rfl rfl (.inr (Qlu hK1.keys (by omega))) (by simp; omega) (by simp; omega) (Qa rfl (hK _ ?_))
       refine Qh (Q5 (kp6 rfl rfl rfl rfl rfl rfl) (ZR fun K hK => Qa rfl (QY rfl rfl (by first | exact Qr (by omega) (by omega) | rfl) (Qa rfl (hK _ ?_)))))
       refine Qk (us ++ [(UR.mk (names5[n]'(by have := Ze; omega)) [] (500001 + us.length) cs)] ++ [(UR.mk (names5[n]'(by have := Ze; omega)) [102] (500001 + (us ++ [(UR.mk (names5[n]'(by have := Ze; omega)) [] (500001 + us.length) cs)]).length) c2)], J3, n + 1) ?_ ?_ ?_
       ·exact le_trans (QhZ (B := [_, _, _, _, _]) 500000 (QfQ _ _)) (QrH (u := (UR.mk (names5[n]'(by have := Ze; omega)) [102] (500001 + (us ++ [(UR.mk (names5[n]'(by have := Ze; omega)) [] (500001 + us.length) cs)]).length) c2)) (l := [0, 1, 5, 6, 7, 8]) (B := [_, _, _, _, _]) (kp6 rfl rfl rfl rfl rfl rfl) (by simp [D.scrub, f1, f2, e3, f4, e4] <;> omega) hK1.keys rfl (by repeat (first | exact QA | refine Qp (by omega) ?_)) (by rw [QqF (u := (UR.mk (names5[n]'(by have := Ze; omega)) [102] (500001 + (us ++ [(UR.mk (names5[n]'(by have := Ze; omega)) [] (500001 + us.length) cs)]).length) c2))]; exact QA) (by repeat (first | exact QA | refine Qp (by omega) ?_)) (by intro p hp h; simp only [List.mem_cons, List.not_mem_nil, or_false] at hp; rcases hp with rfl | rfl | rfl | rfl | rfl <;> first | (simp only at h; omega) | exact .inl rfl | exact .inr rfl) hkg (by omega) (by intro p hp k hk; simp only [List.mem_cons, List.not_mem_nil, or_false] at hp; rcases hp with rfl | rfl | rfl | rfl | rfl | rfl <;> first | (simp [D.ids, D.sid, Zc, QZ, ZC] at hk; done) | (simp [D.ids, D.sid, Zc, QZ, ZC] at hk; subst hk; first | exact .inl rfl | exact .inr (.inl rfl) | (first | exact .inr (.inr ⟨_, List.mem_append_right _ (List.mem_singleton.2 rfl), rfl⟩) | exact .inr (.inr (.inr ⟨_, List.mem_append_right _ (List.mem_singleton.2 rfl), rfl⟩))))))
       ·try dsimp only
        exact ⟨hK1.snoc (by omega) hM.2.2, by simp; omega, by omega, by simp; omega⟩
       ·show 5 - (n + 1) < 5 - n; omega
     ·try rw [h6]
      try simp only [qa, qb, qc, qd, qe, List.length_map] at h6
      refine Y4 (Qh (Q5 (kp6 rfl rfl rfl rfl rfl rfl) (ZR fun K hK => Qa rfl (QY rfl rfl (by first | exact Qr (by omega) (by omega) | rfl) (Qa rfl (hK _ ?_))))))
      refine Qk (us ++ [(UR.mk (names5[n]'(by have := Ze; omega)) [] (500001 + us.length) cs)], nxI (nxI (nxI J)), n + 1) ?_ ?_ ?_
      ·exact QsS (l := [0, 1, 5, 6, 7, 8]) (B := [_, _, _]) (kp6 rfl rfl rfl rfl rfl rfl) rfl hK1.keys (by repeat (first | exact QA | refine Qp (by omega) ?_)) (by repeat (first | exact QA | refine Qp (by omega) ?_)) (by intro p hp h; simp only [List.mem_cons, List.not_mem_nil, or_false] at hp; rcases hp with rfl | rfl | rfl <;> first | (simp only at h; omega) | rfl) (by omega) (by intro p hp k hk; simp only [List.mem_cons, List.not_mem_nil, or_false] at hp; rcases hp with rfl | rfl | rfl | rfl | rfl | rfl <;> first | (simp [D.ids, D.sid, Zc, QZ, ZC] at hk; done) | (simp [D.ids, D.sid, Zc, QZ, ZC] at hk; subst hk; first | exact .inl rfl | exact .inr (.inl rfl) | (first | exact .inr (.inr ⟨_, List.mem_append_right _ (List.mem_singleton.2 rfl), rfl⟩) | exact .inr (.inr (.inr ⟨_, List.mem_append_right _ (List.mem_singleton.2 rfl), rfl⟩)))))
      ·try dsimp only
       exact ⟨hK1, by simp; omega, by omega, by simp; omega⟩
      ·show 5 - (n + 1) < 5 - n; omega
    ·try rw [h5]
     try simp only [qa, qb, qc, qd, qe, List.length_map] at h5
     refine Qq rfl (Qq rfl (Qq rfl (Ql rfl rfl ?_)))
     refine hK _ _ (QQ (kp8 rfl rfl rfl rfl rfl rfl rfl rfl) ?_)
     refine QjQ rfl (Y4 (Qh (Q5 (kp6 rfl rfl rfl rfl rfl rfl) (ZR fun K hK => Qa rfl (QY rfl rfl (by first | exact Qr (by omega) (by omega) | rfl) (Qa rfl (hK _ ?_)))))))
     refine Qk (us ++ [(UR.mk (names5[n]'(by have := Ze; omega)) [] (500001 + us.length) cs)], nxI (nxI J), n + 1) ?_ ?_ ?_
     ·exact QsS (l := [0, 1, 5, 6, 7, 8]) (B := [_, _]) (kp6 rfl rfl rfl rfl rfl rfl) rfl hK1.keys (by repeat (first | exact QA | refine Qp (by omega) ?_)) (by repeat (first | exact QA | refine Qp (by omega) ?_)) (by intro p hp h; simp only [List.mem_cons, List.not_mem_nil, or_false] at hp; rcases hp with rfl | rfl <;> first | (simp only at h; omega) | rfl) (by omega) (by intro p hp k hk; simp only [List.mem_cons, List.not_mem_nil, or_false] at hp; rcases hp with rfl | rfl | rfl | rfl | rfl | rfl <;> first | (simp [D.ids, D.sid, Zc, QZ, ZC] at hk; done) | (simp [D.ids, D.sid, Zc, QZ, ZC] at hk; subst hk; first | exact .inl rfl | exact .inr (.inl rfl) | (first | exact .inr (.inr ⟨_, List.mem_append_right _ (List.mem_singleton.2 rfl), rfl⟩) | exact .inr (.inr (.inr ⟨_, List.mem_append_right _ (List.mem_singleton.2 rfl), rfl⟩)))))
     ·try dsimp only
      exact ⟨hK1, by simp; omega, by omega, by simp; omega⟩
     ·show 5 - (n + 1) < 5 - n; omega
  ·try rw [h2]
   try simp only [qa, qb, qc, qd, qe, List.length_map] at h2
   refine QbT (YF (Qx (QE (Q5 (kp1 rfl) (Q9 fun K hK => Qa rfl (Qa rfl ?_))))))
   refine hK _ _ (QQ (kp1 rfl) ?_)
   refine Qe5 ?_
   refine ⟨.osl 500000 us.length, ((500000, ⟨us.map dUR, 3, 74, false⟩) :: fbx 71 us) ++ [(kg, gB L (nxI J) eg), (kg, gB L I eg)], ⟨us, _, ⟨hI.1, by omega, by omega⟩, rfl, rfl⟩, (Qbo (g3 := gB L J eg) hI.1.keys hkg rfl rfl (by omega)).1, (Qbo (g3 := gB L J eg) hI.1.keys hkg rfl rfl (by omega)).2.1, Y5 rfl rfl (Qbo (g3 := gB L J eg) hI.1.keys hkg rfl rfl (by omega)).2.2⟩
 ·try rw [h1]
  try simp only [qa, qb, qc, qd, qe, List.length_map] at h1
  refine Qq rfl (Qq rfl (Qq rfl (Qq rfl (Ql rfl rfl ?_))))
  refine hK _ _ (QQ (kp7 rfl rfl rfl rfl rfl rfl rfl) ?_)
  refine QjQ rfl (QbT (YF (Qx (QE (Q5 (kp1 rfl) (Q9 fun K hK => Qa rfl (Qa rfl ?_)))))))
  refine hK _ _ (QQ (kp1 rfl) ?_)
  refine Qe5 ?_
  refine ⟨.osl 500000 us.length, ((500000, ⟨us.map dUR, 3, 74, false⟩) :: fbx 71 us) ++ [(kg, gB L (nxI J) eg), (kg, gB L I eg)], ⟨us, _, ⟨hI.1, by omega, by omega⟩, rfl, rfl⟩, (Qbo (g3 := gB L J eg) hI.1.keys hkg rfl rfl (by omega)).1, (Qbo (g3 := gB L J eg) hI.1.keys hkg rfl rfl (by omega)).2.1, Y5 rfl rfl (Qbo (g3 := gB L J eg) hI.1.keys hkg rfl rfl (by omega)).2.2⟩
end Go.Proofs
namespace M25
open Go Go.Abs M3
/-! ### A world under way: one candidate after the other is filled -/
def PureC (z : CR) : Prop := z.x.sid = [] /\ z.y.sid = [] /\ z.z.sid = []
theorem PureC.all {z : CR} (h : PureC z) : ∀ d ∈ dCR z, d.sid = [] := fun d hd => by
 simp only [dCR, List.mem_cons, List.not_mem_nil, or_false] at hd
 rcases hd with rfl | rfl | rfl | rfl | rfl | rfl | rfl | rfl
 ·rfl
 ·rfl
 ·rfl
 ·rfl
 ·rfl
 ·exact h.1
 ·exact h.2.1
 ·exact h.2.2
def QeR (u : UR) (k : Nat) (z : CR) : UR := { u with cs := u.cs.set k z }
def QcQ (us : List UR) (i k : Nat) (z : CR) : List UR := us.modify i fun u => QeR u k z
theorem Zx (us : List UR) (i k : Nat) (z : CR) : (QcQ us i k z).length = us.length := List.length_modify ..
theorem Qlr (us : List UR) (i k : Nat) (z : CR) : (QcQ us i k z).map dUR = us.map dUR := by
 refine List.ext_getElem (by simp [QcQ]) fun j h1 h2 => ?_
 simp only [List.getElem_map, QcQ, List.getElem_modify]
 split <;> simp [dUR, QeR]
theorem Qa4 {us : List UR} {i k : Nat} {z : CR} {j : Nat} (h : j < us.length) : (QcQ us i k z)[j]'(by rw [Zx]; exact h) = if i = j then QeR us[j] k z else us[j] := by
 simp only [QcQ, List.getElem_modify]
theorem Qej {us : List UR} {i k : Nat} {z : CR} (h : Yf us) : Yf (QcQ us i k z) := fun j hj => by
 rw [Zx] at hj
 rw [Qa4 hj]
 split
 ·exact h j hj
 ·exact h j hj
def wA (us : List UR) (eu ec eg : Nat) (L : List Int) (J : Int) (b4 : Box) : List (Nat × Box) := [(500000, ⟨us.map dUR, 3, eu, false⟩), (12, gB L J eg), (4, b4)] ++ fbx ec us
theorem QbR {us : List UR} {eu ec eg : Nat} {L : List Int} {J : Int} {b4 : Box} (h : Yf us) {k : Nat} {b : Box} (hk : lk (wA us eu ec eg L J b4) k = some b) : (k = 500000 /\ b = ⟨us.map dUR, 3, eu, false⟩) \/ (k = 12 /\ b = gB L J eg) \/ (k = 4 /\ b = b4) \/ ∃ j, ∃ hj : j < us.length, k = 500001 + j /\ b = ⟨us[j].cs.map dCR, 8, ec, true⟩ := by
 unfold wA at hk
 rcases Qf6 hk with hk | ⟨_, hk⟩
 ·simp only [List.mem_cons, List.not_mem_nil, or_false, Prod.mk.injEq] at hk
  rcases hk with h | h | h
  ·exact .inl h
  ·exact .inr (.inl h)
  ·exact .inr (.inr (.inl h))
 ·obtain ⟨u, hu, e1, e2⟩ := Qg4 hk
  obtain ⟨j, hj, rfl⟩ := List.getElem_of_mem hu
  exact .inr (.inr (.inr ⟨j, hj, e1.trans (h j hj), e2⟩))
section
variable {us : List UR} {eu ec eg : Nat} {L : List Int} {J : Int} {b4 : Box}
theorem Qft : lk (wA us eu ec eg L J b4) 500000 = some ⟨us.map dUR, 3, eu, false⟩ := rfl
theorem Qe4 : lk (wA us eu ec eg L J b4) 12 = some (gB L J eg) := rfl
theorem Qgy : lk (wA us eu ec eg L J b4) 4 = some b4 := rfl
theorem Qdz (h : Yf us) {j : Nat} (hj : j < us.length) : lk (wA us eu ec eg L J b4) (500001 + j) = some ⟨us[j].cs.map dCR, 8, ec, true⟩ := by
 show lk ((500000, _) :: (12, _) :: (4, _) :: fbx ec us) _ = _
 rw [Qo, if_neg (by omega), Qo, if_neg (by omega), Qo, if_neg (by omega)]
 exact QmF h hj
theorem Z2 (h : Yf us) {k : Nat} (h1 : k ≠ 500000) (h2 : k ≠ 12) (h3 : k ≠ 4) (h4 : k < 500001 \/ 500001 + us.length <= k) : lk (wA us eu ec eg L J b4) k = none := by
 show lk ((500000, _) :: (12, _) :: (4, _) :: fbx ec us) _ = _
 rw [Qo, if_neg (Ne.symm h1), Qo, if_neg (Ne.symm h2), Qo, if_neg (Ne.symm h3)]
 exact YW h h4
theorem QkB (h : Yf us) {k : Nat} (hk : k = 500000 \/ k = 12 \/ k = 4 \/ ∃ u ∈ us, k = u.k) : (lk (wA us eu ec eg L J b4) k).isSome = true := by
 rcases hk with rfl | rfl | rfl | ⟨u, hu, rfl⟩
 ·rfl
 ·rfl
 ·rfl
 ·obtain ⟨j, hj, rfl⟩ := List.getElem_of_mem hu
  rw [h j hj, Qdz h hj]; rfl
theorem QaB (h : Yf us) (h4 : b4.pr = true) : Closed (wA us eu ec eg L J b4) := fun k b hk j hj => by
 rcases QbR h hk with ⟨rfl, rfl⟩ | ⟨rfl, rfl⟩ | ⟨rfl, rfl⟩ | ⟨i, hi, rfl, rfl⟩
 ·exact QkB h (.inr (.inr (.inr (QbQ hj))))
 ·simp [Box.ids, gB] at hj
 ·rw [Qaj h4] at hj; cases hj
 ·simp [Box.ids] at hj
theorem QeI {α : Type} : ∀ {l : List α} {k : Nat} {a x : α}, x ∈ l.set k a -> x = a \/ x ∈ l
 | [], k, a, x, h => by simp at h
 | b :: l, 0, a, x, h => by
  simp only [List.set_cons_zero, List.mem_cons] at h ⊢
  rcases h with h | h
  ·exact .inl h
  ·exact .inr (.inr h)
 | b :: l, k + 1, a, x, h => by
  simp only [List.set_cons_succ, List.mem_cons] at h ⊢
  rcases h with h | h
  ·exact .inr (.inl h)
  ·rcases QeI h with h | h
   ·exact .inl h
   ·exact .inr (.inr h)
theorem Qf0 {l : List Nat} {fr fr1 fr' : List (Nat × D)} {H : List (Nat × Box)} {i k : Nat} {row : List D} {p : Bool} (kk : Nat) (z' : CR) (hf : Zd l fr = fr1) (ef : fr1 = fr') (hK : Yf us) (hi : i < us.length) (hk : k < us[i].cs.length)
  (hKi : lk H (500001 + i) = some ⟨(us[i].cs.map dCR).set k row, 8, ec, p⟩) (hp : p = true -> row.map (D.fzS H (· == kk)) = row) (hrow : (row.map (D.fzS H (· == kk))).map D.canS = dCR z') (hoth : ∀ z ∈ us[i].cs, PureC z) (hz : PureC z')
  (hF : ∀ j, ∀ hj : j < us.length, j ≠ i -> lk H (500001 + j) = some ⟨us[j].cs.map dCR, 8, ec, true⟩) (hu : lk H 500000 = some ⟨us.map dUR, 3, eu, false⟩) (hg : lk H 12 = some (gB L J eg)) (h4 : lk H 4 = some b4) (hb4 : b4.pr = true) (hkk : kk < 500000 /\ kk ≠ 12 /\ kk ≠ 4) (hsm : ∀ j, 1000000 <= j -> lk H j = none) (hlen : us.length <= 100)
  (hfr : ∀ p ∈ fr', ∀ j ∈ p.2.ids, j = 500000 \/ j = 12 \/ j = 4 \/ ∃ u ∈ us, j = u.k) : St.le ⟨fr, H⟩ ⟨fr', wA (QcQ us i k z') eu ec eg L J b4⟩ := by
 subst hf ef
 have nokk : ∀ j, (j = 500000 \/ j = 12 \/ j = 4 \/ ∃ u ∈ us, j = u.k) -> j ≠ kk := fun j hj e => by
  subst e
  rcases hj with rfl | rfl | rfl | ⟨u, hu, rfl⟩
  ·omega
  ·exact hkk.2.1 rfl
  ·exact hkk.2.2 rfl
  ·have := (QbC hK hu).1; omega
 have eqkk : ∀ j, j ≠ kk -> (j == kk) = false := fun j hj => by simp [hj]
 have some1 : ∀ b j, (j = 500000 \/ j = 12 \/ j = 4 \/ ∃ u ∈ us, j = u.k) -> (lk ((500001 + i, b) :: wA us eu ec eg L J b4) j).isSome = true := fun b j hj => Q1 (QkB hK hj)
 have rowsz : ∀ r ∈ us[i].cs.map dCR, r.map (D.fzS H (· == kk)) = r := fun r hr => by
  obtain ⟨z, hzm, rfl⟩ := List.mem_map.1 hr
  exact Yt fun d hd => QeC fun j hj => by rw [(hoth z hzm).all d hd] at hj; cases hj
 have mapz : ((us[i].cs.map dCR).set k row).map (fun r => r.map (D.fzS H (· == kk))) = (us[i].cs.map dCR).set k (row.map (D.fzS H (· == kk))) := by
  refine List.ext_getElem (by simp) fun j h1 h2 => ?_
  simp only [List.getElem_map, List.getElem_set]
  split
  ·rfl
  ·exact rowsz _ (List.mem_map_of_mem (List.getElem_mem _))
 refine le_trans (Qcm l fr H) (le_trans (Qm2 kk (H' := (500001 + i, ⟨(us[i].cs.map dCR).set k (row.map (D.fzS H (· == kk))), 8, ec, p⟩) :: wA us eu ec eg L J b4) (by omega) (fr' := Zd l fr) (fun t d h => ⟨d, h, QgY fun j hj => eqkk j (nokk j (hfr (t, d) (ZX h) j hj))⟩) (fun j b h => ?_) (fun t d h j hj => some1 _ j (hfr (t, d) (ZX h) j hj)) (fun j b h j2 hj2 => ?_) fun j hj hs => ?_) ?_)
 ·rw [Qo] at h
  split at h
  ·rename_i e; cases h; subst e
   refine ⟨by omega, _, hKi, ?_⟩
   cases p with
   | true => rw [hp rfl]; rfl
   | false => show Box.mk _ _ _ _ = _; rw [mapz]
  ·rename_i e
   rcases QbR hK h with ⟨rfl, rfl⟩ | ⟨rfl, rfl⟩ | ⟨rfl, rfl⟩ | ⟨i2, hi2, rfl, rfl⟩
   ·refine ⟨by omega, _, hu, Xq (.inr fun j hj => eqkk j (nokk j (.inr (.inr (.inr (QbQ hj))))))⟩
   ·exact ⟨Ne.symm hkk.2.1, _, hg, rfl⟩
   ·exact ⟨Ne.symm hkk.2.2, _, h4, Xq (.inl hb4)⟩
   ·exact ⟨by omega, _, hF i2 hi2 (fun e2 => e (by omega)), rfl⟩
 ·rw [Qo] at h
  split at h
  ·cases h
   cases hpp : p with
   | true => rw [Qaj hpp] at hj2; cases hj2
   | false =>
   simp only [Box.ids, hpp, Bool.false_eq_true, if_false, List.mem_flatMap] at hj2
   obtain ⟨r, hr, d, hd, hj3⟩ := hj2
   rcases QeI hr with rfl | hr
   ·have : (d.canS).sid = [] := hz.all _ (by rw [<- hrow]; exact List.mem_map_of_mem hd)
    rw [QcD] at this
    rw [this] at hj3; cases hj3
   ·obtain ⟨z, hzm, rfl⟩ := List.mem_map.1 hr
    rw [(hoth z hzm).all d hd] at hj3; cases hj3
  ·exact Q1 (QaB hK hb4 j b h j2 hj2)
 ·rw [hsm j hj] at hs; cases hs
 ·refine le_trans (Qfj k QA) (le_trans (QfZ QA (fun e => ?_) (fun r hr d hd => ?_)) (QbD rfl fun j => ?_))
  ·have := congrArg List.length e
   simp only [List.length_modify, List.length_set, List.length_map, List.length_nil] at this
   omega
  ·rcases Qbk hr with h | ⟨y, hy, rfl⟩
   ·rcases QeI h with rfl | h
    ·have : (d.canS).sid = [] := hz.all _ (by rw [<- hrow]; exact List.mem_map_of_mem hd)
     rwa [QcD] at this
    ·obtain ⟨z, hzm, rfl⟩ := List.mem_map.1 h
     exact (hoth z hzm).all d hd
   ·obtain ⟨d0, hd0, rfl⟩ := List.mem_map.1 hd
    rw [QcD]
    rcases QeI hy with rfl | h
    ·have : (d0.canS).sid = [] := hz.all _ (by rw [<- hrow]; exact List.mem_map_of_mem hd0)
     rwa [QcD] at this
    ·obtain ⟨z, hzm, rfl⟩ := List.mem_map.1 h
     exact (hoth z hzm).all d0 hd0
  ·have erows : ((us[i].cs.map dCR).set k (row.map (D.fzS H (· == kk)))).modify k (fun r => r.map D.canS) = ((us[i].cs.set k z').map dCR) := by
    refine List.ext_getElem (by simp) fun m h1 h2 => ?_
    simp only [List.getElem_modify, List.getElem_set, List.getElem_map]
    by_cases e : k = m
    ·subst e
     simp only [if_true]
     exact hrow
    ·simp only [if_neg e]
   have hK' := Qej (i := i) (k := k) (z := z') hK
   by_cases e : 500001 + i = j
   ·subst e
    rw [QA, Qdz hK' (by rw [Zx]; exact hi)]
    simp only [Qa4 hi, if_true, erows]; rfl
   ·rw [Qo, if_neg e, Qo, if_neg e, Qo, if_neg e]
    cases h : lk (wA us eu ec eg L J b4) j with
    | none =>
     cases h' : lk (wA (QcQ us i k z') eu ec eg L J b4) j with
     | none => rfl
     | some b =>
      have : (lk (wA us eu ec eg L J b4) j).isSome = true := by
       rcases QbR hK' h' with ⟨rfl, _⟩ | ⟨rfl, _⟩ | ⟨rfl, _⟩ | ⟨m, hm, rfl, _⟩
       ·rfl
       ·rfl
       ·rfl
       ·rw [Zx] at hm; rw [Qdz hK hm]; rfl
      rw [h] at this; cases this
    | some b =>
     rcases QbR hK h with ⟨rfl, rfl⟩ | ⟨rfl, rfl⟩ | ⟨rfl, rfl⟩ | ⟨m, hm, rfl, rfl⟩
     ·rw [Qft, Qlr]
     ·rfl
     ·rfl
     ·rw [Qdz hK' (by rw [Zx]; exact hm)]
      simp only [Qa4 hm, if_neg (show ¬ i = m by omega)]
end
theorem QdY : ∀ {H : List (Nat × Box)} {j : Nat}, j ∈ H.map Prod.fst -> (lk H j).isSome = true
 | [], _, h => by cases h
 | (k, b) :: H, j, h => by
  by_cases e : k = j
  ·subst e; exact Q3
  ·refine Q1 (QdY ?_)
   simp only [List.map_cons, List.mem_cons] at h
   exact h.resolve_left (Ne.symm e)
theorem Qpd {us : List UR} (h : Yf us) {i : Nat} (hi : i < us.length) : (us.map dUR)[((i : Nat) : Int).toNat]? = some [.str us[i].n, .str us[i].f, .osl (500001 + i) us[i].cs.length] := by
 rw [Int.toNat_natCast, List.getElem?_map, List.getElem?_eq_getElem hi, Option.map_some, dUR, h i hi]
theorem Qr3 {cs : List CR} {k : Nat} (hk : k < cs.length) : (cs.map dCR)[((k : Nat) : Int).toNat]? = some (dCR cs[k]) := by
 rw [Int.toNat_natCast, List.getElem?_map, List.getElem?_eq_getElem hk]; rfl
theorem Qkx {us : List UR} {eu ec eg : Nat} {L : List Int} {J : Int} {b4 g1 : Box} (h : Yf us) (k : Nat) : lk (((500000, (⟨us.map dUR, 3, eu, false⟩ : Box)) :: fbx ec us) ++ ([(12, gB L J eg)] ++ [(12, g1), (4, b4)])) k = lk (wA us eu ec eg L J b4) k := by
 show lk ((500000, _) :: (fbx ec us ++ [(12, gB L J eg), (12, g1), (4, b4)])) k = lk ((500000, _) :: (12, _) :: (4, _) :: fbx ec us) k
 rw [Qo, Qo]
 split
 ·rfl
 ·rw [ZW]
  cases hh : lk (fbx ec us) k with
  | some v =>
   have := QhI h k v hh
   simp only
   rw [Qo, if_neg (by omega), Qo, if_neg (by omega), hh]
  | none =>
   simp only [Qo, hh]
   by_cases e : 12 = k
   ·rw [if_pos e, if_pos e]
   ·rw [if_neg e, if_neg e, if_neg e]; rfl
theorem Qlw {us : List UR} {eu ec eg : Nat} {L : List Int} {J : Int} {b4 : Box} (h : Yf us) (hv : ∀ y ∈ us, y.cs.length <= 16 /\ ∀ z ∈ y.cs, QgM z.v) : Fam (wA us eu ec eg L J b4) 12 500000 eu ec us := by
 refine ⟨by decide, ⟨false, rfl⟩, fun y hy => ?_, hv⟩
 obtain ⟨j, hj, rfl⟩ := List.getElem_of_mem hy
 refine ⟨by rw [h j hj]; omega, true, by rw [h j hj]; exact Qdz h hj⟩
/-! ### Filled candidates -/
def QpW (n : Nat) (x : WantT) : Prop := 0 <= x.u /\ x.u < n /\ SetOk x.s
theorem WantIn.w {n : Nat} {x : WantT} (h : WantIn n x) : QpW n x := ⟨by have := h.1; omega, h.2.1, h.2.2⟩
structure QaF (n : Nat) (c : CandT) : Prop where
 v : QgM c.v
 nl : c.ns.length <= 10
 nr : ∀ r ∈ c.ns, r.length <= 2 /\ ∀ x ∈ r, QpW n x
 bl : c.bs.length <= 1
 bw : ∀ x ∈ c.bs, QpW n x
def Qiw (c : CandT) : CR := ⟨c.v, .int .i64 c.sh, QZ c.ns, Zc c.bs⟩
def DoneC (n : Nat) (z : CR) : Prop := ∃ c, z = Qiw c /\ QaF n c
def FreshC (z : CR) : Prop := ∃ v sh, z = zr v sh /\ QgM v
theorem DoneC.pure {n : Nat} {z : CR} (h : DoneC n z) : PureC z := by obtain ⟨c, rfl, _⟩ := h; exact ⟨rfl, rfl, rfl⟩
theorem FreshC.pure {z : CR} (h : FreshC z) : PureC z := by obtain ⟨v, sh, rfl, _⟩ := h; exact ⟨rfl, rfl, rfl⟩
theorem DoneC.vr {n : Nat} {z : CR} (h : DoneC n z) : QgM z.v := by obtain ⟨c, rfl, q⟩ := h; exact q.v
theorem FreshC.vr {z : CR} (h : FreshC z) : QgM z.v := by obtain ⟨v, sh, rfl, q⟩ := h; exact q
structure Prog (n : Nat) (us : List UR) (i k : Nat) : Prop where
 keys : Yf us
 len : us.length = n /\ 2 <= n /\ n <= 11
 cl : ∀ u ∈ us, u.cs.length <= 4
 done : ∀ j, ∀ hj : j < us.length, ∀ m, ∀ hm : m < us[j].cs.length, (j < i \/ (j = i /\ m < k)) -> DoneC n us[j].cs[m]
 fresh : ∀ j, ∀ hj : j < us.length, ∀ m, ∀ hm : m < us[j].cs.length, ¬ (j < i \/ (j = i /\ m < k)) -> FreshC us[j].cs[m]
theorem Prog.pure {n : Nat} {us : List UR} {i k : Nat} (h : Prog n us i k) {j : Nat} (hj : j < us.length) : ∀ z ∈ us[j].cs, PureC z /\ QgM z.v := fun z hz => by
 obtain ⟨m, hm, rfl⟩ := List.getElem_of_mem hz
 by_cases hd : j < i \/ (j = i /\ m < k)
 ·exact ⟨(h.done j hj m hm hd).pure, (h.done j hj m hm hd).vr⟩
 ·exact ⟨(h.fresh j hj m hm hd).pure, (h.fresh j hj m hm hd).vr⟩
theorem Prog.fam {n : Nat} {us : List UR} {i k : Nat} (h : Prog n us i k) : ∀ y ∈ us, y.cs.length <= 16 /\ ∀ z ∈ y.cs, QgM z.v := fun y hy => by
 obtain ⟨j, hj, rfl⟩ := List.getElem_of_mem hy
 exact ⟨Nat.le_trans (h.cl _ hy) (by omega), fun z hz => (h.pure hj z hz).2⟩
theorem Prog.put {n : Nat} {us : List UR} {i k : Nat} (h : Prog n us i k) (hi : i < us.length) (hk : k < us[i].cs.length) {z : CR} (hz : DoneC n z) : Prog n (QcQ us i k z) i (k + 1) := by
 have at' := fun (j : Nat) (hj : j < us.length) => Qa4 (i := i) (k := k) (z := z) hj
 refine ⟨Qej h.keys, by rw [Zx]; exact h.len, fun u hu => ?_, fun j hj m hm hd => ?_, fun j hj m hm hd => ?_⟩
 ·obtain ⟨j, hj, rfl⟩ := List.getElem_of_mem hu
  rw [Zx] at hj
  rw [at' j hj]
  split
  ·simp only [QeR, List.length_set]; exact h.cl _ (List.getElem_mem _)
  ·exact h.cl _ (List.getElem_mem _)
 ·rw [Zx] at hj
  have e := at' j hj
  by_cases hij : i = j
  ·subst hij
   rw [if_pos rfl] at e
   have hm' : m < (QeR us[i] k z).cs.length := by rw [<- e]; exact hm
   have e2 : (QcQ us i k z)[i].cs[m] = (QeR us[i] k z).cs[m]'hm' := by congr 1; rw [e]
   rw [e2]
   simp only [QeR, List.getElem_set]
   split
   ·exact hz
   ·simp only [QeR, List.length_set] at hm'
    exact h.done i hi m hm' (by omega)
  ·rw [if_neg hij] at e
   have hm' : m < us[j].cs.length := by rw [<- e]; exact hm
   have e2 : (QcQ us i k z)[j].cs[m] = us[j].cs[m]'hm' := by congr 1; rw [e]
   rw [e2]; exact h.done j hj m hm' (by omega)
 ·rw [Zx] at hj
  have e := at' j hj
  by_cases hij : i = j
  ·subst hij
   rw [if_pos rfl] at e
   have hm' : m < (QeR us[i] k z).cs.length := by rw [<- e]; exact hm
   have e2 : (QcQ us i k z)[i].cs[m] = (QeR us[i] k z).cs[m]'hm' := by congr 1; rw [e]
   rw [e2]
   simp only [QeR, List.length_set] at hm'
   simp only [QeR, List.getElem_set]
   rw [if_neg (by omega)]
   exact h.fresh i hi m hm' (by omega)
  ·rw [if_neg hij] at e
   have hm' : m < us[j].cs.length := by rw [<- e]; exact hm
   have e2 : (QcQ us i k z)[j].cs[m] = us[j].cs[m]'hm' := by congr 1; rw [e]
   rw [e2]; exact h.fresh j hj m hm' (by omega)
theorem Prog.next {n : Nat} {us : List UR} {i k : Nat} (h : Prog n us i k) (hi : i < us.length) (hk : us[i].cs.length <= k) : Prog n us (i + 1) 0 := by
 refine ⟨h.keys, h.len, h.cl, fun j hj m hm hd => h.done j hj m hm ?_, fun j hj m hm hd => h.fresh j hj m hm (by omega)⟩
 by_cases e : j = i
 ·subst e; exact .inr ⟨rfl, by omega⟩
 ·exact .inl (by omega)
theorem Prog.again {n : Nat} {us : List UR} {i k : Nat} (h : Prog n us i (k + 1)) (hi : i < us.length) (hk : k < us[i].cs.length) {z : CR} (hz : DoneC n z) : Prog n (QcQ us i k z) i (k + 1) := by
 have at' := fun (j : Nat) (hj : j < us.length) => Qa4 (i := i) (k := k) (z := z) hj
 refine ⟨Qej h.keys, by rw [Zx]; exact h.len, fun u hu => ?_, fun j hj m hm hd => ?_, fun j hj m hm hd => ?_⟩
 ·obtain ⟨j, hj, rfl⟩ := List.getElem_of_mem hu
  rw [Zx] at hj
  rw [at' j hj]
  split
  ·simp only [QeR, List.length_set]; exact h.cl _ (List.getElem_mem _)
  ·exact h.cl _ (List.getElem_mem _)
 ·rw [Zx] at hj
  have e := at' j hj
  by_cases hij : i = j
  ·subst hij
   rw [if_pos rfl] at e
   have hm' : m < (QeR us[i] k z).cs.length := by rw [<- e]; exact hm
   have e2 : (QcQ us i k z)[i].cs[m] = (QeR us[i] k z).cs[m]'hm' := by congr 1; rw [e]
   rw [e2]
   simp only [QeR, List.getElem_set]
   split
   ·exact hz
   ·simp only [QeR, List.length_set] at hm'
    exact h.done i hi m hm' (by omega)
  ·rw [if_neg hij] at e
   have hm' : m < us[j].cs.length := by rw [<- e]; exact hm
   have e2 : (QcQ us i k z)[j].cs[m] = us[j].cs[m]'hm' := by congr 1; rw [e]
   rw [e2]; exact h.done j hj m hm' (by omega)
 ·rw [Zx] at hj
  have e := at' j hj
  by_cases hij : i = j
  ·subst hij
   rw [if_pos rfl] at e
   have hm' : m < (QeR us[i] k z).cs.length := by rw [<- e]; exact hm
   have e2 : (QcQ us i k z)[i].cs[m] = (QeR us[i] k z).cs[m]'hm' := by congr 1; rw [e]
   rw [e2]
   simp only [QeR, List.length_set] at hm'
   simp only [QeR, List.getElem_set]
   rw [if_neg (by omega)]
   exact h.fresh i hi m hm' (by omega)
  ·rw [if_neg hij] at e
   have hm' : m < us[j].cs.length := by rw [<- e]; exact hm
   have e2 : (QcQ us i k z)[j].cs[m] = us[j].cs[m]'hm' := by congr 1; rw [e]
   rw [e2]; exact h.fresh j hj m hm' (by omega)
theorem Qm1 {l : List Nat} {fr fr1 fr' : List (Nat × D)} {us : List UR} {eu ec eg e1 e3 : Nat} {L : List Int} {J : Int} {b4 bK : Box} {i : Nat} {x : WantT} (hf : Zd l fr = fr1) (ef : fr1 = fr') (hK : Yf us) (hi : i < us.length) (hb4 : b4.pr = true) (hbK : ∀ j ∈ bK.ids, j = 64)
  (hfr : ∀ p ∈ fr', ∀ j ∈ p.2.ids, j = 500000 \/ j = 12 \/ j = 4 \/ ∃ u ∈ us, j = u.k) :
  St.le ⟨fr, (500001 + i, bK) :: (64, ⟨[[.osl 63 1]], 1, e1, false⟩) :: (63, ⟨[Qe7 x], 3, e3, true⟩) :: wA us eu ec eg L J b4⟩ ⟨fr', (500001 + i, bK) :: (64, ⟨[[Zc [x]]], 1, e1, true⟩) :: wA us eu ec eg L J b4⟩ := by
 subst hf ef
 have no63 : ∀ j, (j = 500000 \/ j = 12 \/ j = 4 \/ ∃ u ∈ us, j = u.k) -> j ≠ 63 := fun j hj e => by
  subst e
  rcases hj with h | h | h | ⟨u, hu, h⟩
  ·cases h
  ·cases h
  ·cases h
  ·have := (QbC hK hu).1; omega
 have eq63 : ∀ j, j ≠ 63 -> (j == 63) = false := fun j hj => by simp [hj]
 have up : ∀ b b' j, (lk (wA us eu ec eg L J b4) j).isSome = true -> (lk ((500001 + i, b) :: (64, b') :: wA us eu ec eg L J b4) j).isSome = true := fun b b' j hj => Q1 (Q1 hj)
 refine le_trans (Qcm l fr _) (le_trans (Qm2 63 (H' := (500001 + i, bK) :: (64, ⟨[[Zc [x]]], 1, e1, false⟩) :: wA us eu ec eg L J b4) (by decide) (fr' := Zd l fr) (fun t d h => ⟨d, h, QgY fun j hj => eq63 j (no63 j (hfr (t, d) (ZX h) j hj))⟩) (fun j b h => ?_) (fun t d h j hj => up _ _ j (QkB hK (hfr (t, d) (ZX h) j hj))) (fun j b h j2 hj2 => ?_) fun j hj hs => ?_) ?_)
 ·rw [Qo] at h
  split at h
  ·rename_i e; cases h; subst e
   refine ⟨by omega, _, QA, Xq (.inr fun j hj => ?_)⟩
   rw [hbK j hj]; rfl
  ·rename_i e
   rw [Qo] at h
   split at h
   ·rename_i e2; cases h; subst e2
    refine ⟨by decide, _, Qp e QA, ?_⟩
    have h63 : lk ((500001 + i, bK) :: (64, (⟨[[.osl 63 1]], 1, e1, false⟩ : Box)) :: (63, ⟨[Qe7 x], 3, e3, true⟩) :: wA us eu ec eg L J b4) 63 = some ⟨[Qe7 x], 3, e3, true⟩ := Qp (by omega) (Qp (by decide) QA)
    simp only [Box.fz, Bool.false_eq_true, if_false, List.map_cons, List.map_nil, D.fzS, beq_self_eq_true, if_true, h63, List.length_singleton, and_self, Zc]
   ·rename_i e2
    have h2 : lk ((500001 + i, bK) :: (64, (⟨[[.osl 63 1]], 1, e1, false⟩ : Box)) :: (63, ⟨[Qe7 x], 3, e3, true⟩) :: wA us eu ec eg L J b4) j = some b := by
     have hj : j ≠ 63 := by
      rcases QbR hK h with ⟨rfl, _⟩ | ⟨rfl, _⟩ | ⟨rfl, _⟩ | ⟨m, _, rfl, _⟩ <;> omega
     exact Qp e (Qp e2 (Qp (Ne.symm hj) h))
    rcases QbR hK h with ⟨rfl, rfl⟩ | ⟨rfl, rfl⟩ | ⟨rfl, rfl⟩ | ⟨m, hm, rfl, rfl⟩
    ·exact ⟨by decide, _, h2, Xq (.inr fun j hj => eq63 j (no63 j (.inr (.inr (.inr (QbQ hj))))))⟩
    ·exact ⟨by decide, _, h2, rfl⟩
    ·exact ⟨by decide, _, h2, Xq (.inl hb4)⟩
    ·exact ⟨by omega, _, h2, rfl⟩
 ·rw [Qo] at h
  split at h
  ·cases h
   rw [hbK j2 hj2]; exact Q1 Q3
  ·rw [Qo] at h
   split at h
   ·cases h; simp [Box.ids, D.sid, Zc] at hj2
   ·exact up _ _ j2 (QaB hK hb4 j b h j2 hj2)
 ·by_cases e : 500001 + i = j
  ·subst e; exact Q3
  ·rw [Qo, if_neg e, Qo, if_neg (by omega), Qo, if_neg (by omega)] at hs
   exact up _ _ j hs
 ·have h64 : lk ((500001 + i, bK) :: (64, (⟨[[Zc [x]]], 1, e1, false⟩ : Box)) :: wA us eu ec eg L J b4) 64 = some ⟨[[Zc [x]]], 1, e1, false⟩ := Qp (by omega) QA
  refine le_trans (QfZ h64 (by simp) (by intro r hr d hd; simp only [List.mem_singleton] at hr; subst hr; simp only [List.mem_singleton] at hd; subst hd; rfl)) (QbD rfl fun j => ?_)
  by_cases e : 64 = j
  ·subst e; rw [QA, Qo, if_neg (by omega), QA]
  ·by_cases eK : 500001 + i = j
   ·subst eK; rw [Qo, if_neg e, QA, QA]
   ·rw [Qo, if_neg e, Qo, if_neg eK, Qo, if_neg e, Qo, if_neg eK, Qo, if_neg e]
theorem QmC {n : Nat} : ∀ {cs : List CR}, (∀ z ∈ cs, DoneC n z) -> ∃ l : List CandT, cs = l.map Qiw /\ ∀ c ∈ l, QaF n c
 | [], _ => ⟨[], rfl, by simp⟩
 | z :: cs, h => by
  obtain ⟨l, h1, h2⟩ := QmC (cs := cs) fun y hy => h y (by simp [hy])
  obtain ⟨c, rfl, hc⟩ := h z (by simp)
  exact ⟨c :: l, by rw [h1]; rfl, fun y hy => by
   rcases List.mem_cons.1 hy with rfl | hy
   ·exact hc
   ·exact h2 y hy⟩
def Qq7 (n : Nat) (u : UR) (x : Qmj) : Prop := x.n = u.n /\ x.f = u.f /\ u.cs = x.cs.map Qiw /\ ∀ c ∈ x.cs, QaF n c
theorem QmD {n : Nat} : ∀ {us : List UR}, (∀ u ∈ us, ∀ z ∈ u.cs, DoneC n z) -> ∃ w : Qm, w.length = us.length /\ ∀ j, ∀ h : j < us.length, ∀ h' : j < w.length, Qq7 n us[j] w[j]
 | [], _ => ⟨[], rfl, fun j h => by simp at h⟩
 | u :: us, h => by
  obtain ⟨w, h1, h2⟩ := QmD (us := us) fun y hy => h y (by simp [hy])
  obtain ⟨l, q1, q2⟩ := QmC (h u (by simp))
  refine ⟨⟨u.n, u.f, l⟩ :: w, by simp [h1], fun j hj hj' => ?_⟩
  cases j with
  | zero => exact ⟨rfl, rfl, q1, q2⟩
  | succ j => simp only [List.getElem_cons_succ]; exact h2 j (by simpa using hj) (by simpa using hj')
structure Qn8 (w : Qm) : Prop where
 sm : WSm w
 len : 2 <= w.length /\ w.length <= 11
 cs : ∀ u ∈ w, u.cs.length <= 4
 cand : ∀ u ∈ w, ∀ c ∈ u.cs, QaF w.length c
theorem Qqq {w : Qm} (h2 : 2 <= w.length) (h11 : w.length <= 11) (hc : ∀ u ∈ w, u.cs.length <= 4) (hd : ∀ u ∈ w, ∀ c ∈ u.cs, QaF w.length c) : Qn8 w := by
 refine ⟨⟨by omega, fun u hu => Nat.le_trans (hc u hu) (by omega), fun u hu c hcm => (hd u hu c hcm).v, fun u hu c hcm => ⟨Nat.le_trans (hd u hu c hcm).nl (by omega), Nat.le_trans (hd u hu c hcm).bl (by omega)⟩, fun u hu c hcm r hr => Nat.le_trans ((hd u hu c hcm).nr r hr).1 (by omega), fun u hu c hcm r hr x hx => (((hd u hu c hcm).nr r hr).2 x hx).2.2.sm, fun u hu c hcm x hx => ((hd u hu c hcm).bw x hx).2.2.sm⟩, ⟨h2, h11⟩, hc, hd⟩
theorem QoB {n : Nat} {us : List UR} {eu ec eg : Nat} {L : List Int} {J : Int} {b4 : Box} {k : Nat} (h : Prog n us us.length k) (hb4 : b4.pr = true) :
  ∃ w : Qm, w.length = us.length /\ Qn8 w /\ ∀ {l : List Nat} {fr fr1 fr' : List (Nat × D)}, Zd l fr = fr1 -> fr1 = fr' -> (∀ p ∈ fr', ∀ j ∈ p.2.ids, j = 500000 \/ j = 4) -> St.le ⟨fr, wA us eu ec eg L J b4⟩ ⟨fr', [(500000, ⟨w.map Ym, 3, eu, true⟩), (4, b4)]⟩ := by
 obtain ⟨w, hw1, hw2⟩ := QmD (n := n) (us := us) fun u hu z hz => by
  obtain ⟨j, hj, rfl⟩ := List.getElem_of_mem hu
  obtain ⟨m, hm, rfl⟩ := List.getElem_of_mem hz
  exact h.done j hj m hm (.inl hj)
 have hcs : ∀ u ∈ w, u.cs.length <= 4 /\ ∀ c ∈ u.cs, QaF n c := fun u hu => by
  obtain ⟨j, hj, rfl⟩ := List.getElem_of_mem hu
  obtain ⟨_, _, q3, q4⟩ := hw2 j (by omega) hj
  have := h.cl us[j] (List.getElem_mem _)
  rw [q3, List.length_map] at this
  exact ⟨this, q4⟩
 have hlen := h.len
 refine ⟨w, hw1, Qqq (by omega) (by omega) (fun u hu => (hcs u hu).1) (fun u hu c hc => by have := (hcs u hu).2 c hc; rwa [show w.length = n by omega]), ?_⟩
 intro l fr fr1 fr' hf ef hfr
 subst hf ef
 have hK := h.keys
 let S : Nat -> Bool := fun k => decide (500001 <= k) && decide (k < 1000000)
 have hS1 : ∀ k, k < 500001 -> S k = false := fun k hk => by
  show (decide (500001 <= k) && decide (k < 1000000)) = false
  rw [decide_eq_false (by omega)]; rfl
 have hS2 : ∀ k, 500001 <= k -> k < 1000000 -> S k = true := fun k h1 h2 => by
  show (decide (500001 <= k) && decide (k < 1000000)) = true
  rw [decide_eq_true h1, decide_eq_true h2]; rfl
 have hrow : ∀ j, ∀ h1 : j < us.length, ∀ h2 : j < w.length, (dUR us[j]).map (D.fzS (wA us eu ec eg L J b4) S) = Ym w[j] := fun j h1 h2 => by
  obtain ⟨q1, q2, q3, q4⟩ := hw2 j h1 h2
  have hk := hK j h1
  have hc := Qdz (eu := eu) (ec := ec) (eg := eg) (L := L) (J := J) (b4 := b4) hK h1
  generalize us[j] = u at q1 q2 q3 hk hc
  generalize w[j] = x at q1 q2 q3 q4
  obtain ⟨un, uf, uk, ucs⟩ := u
  simp only at q1 q2 q3 hk hc
  subst hk q3
  simp only [dUR, Ym, List.map_cons, List.map_nil, D.fzS]
  rw [hS2 _ (by omega) (by omega), hc]
  simp only [if_true, true_and, List.length_map, q1, q2, QkO, List.map_map]
  rfl
 have hrows : (us.map dUR).map (fun r => r.map (D.fzS (wA us eu ec eg L J b4) S)) = w.map Ym := by
  refine List.ext_getElem (by simp [hw1]) fun j h1 h2 => ?_
  simp only [List.getElem_map]
  exact hrow j (by simpa using h1) (by simpa using h2)
 refine le_trans (Qcm l fr _) (le_trans (Qqi S (fun k hk => by
  simp only [S, Bool.and_eq_true, decide_eq_true_eq] at hk; exact hk.2) (fr' := Zd l fr) (H' := [(500000, ⟨w.map Ym, 3, eu, false⟩), (4, b4)]) (fun t d hd => ⟨d, hd, QgY fun j hj => ?_⟩) (fun j b hj => ?_) (fun t d hd j hj => ?_) (fun j b hb i hi => ?_) fun j hj hs => ?_) (le_trans (QfZ (k := 500000) (b := ⟨w.map Ym, 3, eu, false⟩) rfl (fun e => ?_) (fun r hr d hd => ?_)) (QbD rfl fun j => ?_)))
 ·rcases hfr (t, d) (ZX hd) j hj with rfl | rfl
  ·exact hS1 _ (by decide)
  ·exact hS1 _ (by decide)
 ·rw [Qo] at hj
  split at hj
  ·rename_i e; cases hj; subst e
   refine ⟨hS1 _ (by decide), _, Qft, ?_⟩
   simp only [Box.fz, Bool.false_eq_true, if_false, hrows]
  ·rw [Qo] at hj
   split at hj
   ·rename_i e; cases hj; subst e
    exact ⟨hS1 _ (by decide), _, Qgy, Xq (.inl hb4)⟩
   ·cases hj
 ·rcases hfr (t, d) (ZX hd) j hj with rfl | rfl
  ·rfl
  ·rfl
 ·rw [Qo] at hb
  split at hb
  ·cases hb
   simp only [Box.ids, Bool.false_eq_true, if_false, List.mem_flatMap, List.mem_map] at hi
   obtain ⟨r, ⟨u, _, rfl⟩, d, hd, hi⟩ := hi
   simp only [Ym, List.mem_cons, List.not_mem_nil, or_false] at hd
   rcases hd with rfl | rfl | rfl <;> simp [D.sid, QkO] at hi
  ·rw [Qo] at hb
   split at hb
   ·cases hb; rw [Qaj hb4] at hi; cases hi
   ·cases hb
 ·obtain ⟨b, hb⟩ := Option.isSome_iff_exists.1 hs
  rcases QbR hK hb with ⟨rfl, _⟩ | ⟨rfl, _⟩ | ⟨rfl, _⟩ | ⟨m, hm, rfl, _⟩ <;> omega
 ·have := congrArg List.length e
  simp only [List.length_map, List.length_nil] at this
  omega
 ·obtain ⟨u, _, rfl⟩ := List.mem_map.1 hr
  simp only [Ym, List.mem_cons, List.not_mem_nil, or_false] at hd
  rcases hd with rfl | rfl | rfl <;> rfl
 ·by_cases e : 500000 = j
  ·subst e; rfl
  ·rw [Qo, if_neg e, Qo, if_neg e]; rw [Qo (k := 500000), if_neg e]
def Qj2 (us : List UR) (i : Nat) : Nat := match us[i]? with
 | some u => u.cs.length
 | none => 0
theorem QaW {us : List UR} {i : Nat} (h : i < us.length) : Qj2 us i = us[i].cs.length := by rw [Qj2, List.getElem?_eq_getElem h]
theorem QaM (us : List UR) (i k : Nat) (z : CR) : Qj2 (QcQ us i k z) i = Qj2 us i := by
 by_cases h : i < us.length
 ·rw [QaW h, QaW (by rw [Zx]; exact h), Qa4 h, if_pos rfl]
  simp [QeR]
 ·have e : (QcQ us i k z).length = us.length := Zx ..
  rw [Qj2, Qj2, List.getElem?_eq_none (show us.length <= i by omega), List.getElem?_eq_none (show (QcQ us i k z).length <= i by omega)]
theorem Qjv {us : List UR} {i k : Nat} {z : CR} (hi : i < us.length) (hk : k < us[i].cs.length) {us2 : List UR} (e : us2 = QcQ us i k z) (hi2 : i < us2.length) (hk2 : k < us2[i].cs.length) : us2[i].cs[k] = z := by
 subst e
 have e1 := Qa4 (i := i) (k := k) (z := z) hi
 rw [if_pos rfl] at e1
 have e2 : (QcQ us i k z)[i].cs[k] = (QeR us[i] k z).cs[k]'(by simpa [QeR] using hk) := by congr 1; rw [e1]
 rw [e2]; simp [QeR]
theorem Qp9 {cs : List CR} {k : Nat} {z : CR} (hk : k < cs.length) (hz : cs[k] = z) : (cs.map dCR)[((k : Nat) : Int).toNat]? = some (dCR z) := by rw [Qr3 hk, hz]
theorem QpM {cs : List CR} {k : Nat} {row : List D} (hk : k < cs.length) : ((cs.map dCR).set ((k : Nat) : Int).toNat row)[((k : Nat) : Int).toNat]? = some row := by
 rw [Int.toNat_natCast, List.getElem?_set_self (by simpa using hk)]
theorem Qi2 {K k e t : Nat} {L : List (List D)} {r1 r2 : List D} {p : Bool} {H : List (Nat × Box)} : lk ((K, (⟨(L.set k r1).set k r2, e, t, p⟩ : Box)) :: H) K = some ⟨L.set k r2, e, t, p⟩ := by rw [QA, List.set_set]
theorem Qfi {H : List (Nat × Box)} {kk m e t : Nat} {ys : List (List D)} {v : Vr} {sh : Int} (h : lk H kk = some ⟨ys, e, t, true⟩) (hm : m = ys.length) : ([D.int .i64 v.a, .int .i64 v.b, .int .i64 v.c, .str v.p, .str v.q, .int .i64 sh, .osl kk m, .fsl []].map (D.fzS H (· == kk))).map D.canS = [.int .i64 v.a, .int .i64 v.b, .int .i64 v.c, .str v.p, .str v.q, .int .i64 sh, .sl ys, .sl []] := by
 simp only [List.map_cons, List.map_nil, D.fzS, beq_self_eq_true, if_true, h, hm, and_self, D.canS]
theorem QmM {H : List (Nat × Box)} {kk m e t : Nat} {ys : List (List D)} {v : Vr} {sh : Int} {ns : List (List WantT)} (h : lk H kk = some ⟨ys, e, t, true⟩) (hm : m = ys.length) : ([D.int .i64 v.a, .int .i64 v.b, .int .i64 v.c, .str v.p, .str v.q, .int .i64 sh, QZ ns, .osl kk m].map (D.fzS H (· == kk))).map D.canS = [.int .i64 v.a, .int .i64 v.b, .int .i64 v.c, .str v.p, .str v.q, .int .i64 sh, QZ ns, .sl ys] := by
 simp only [QZ, List.map_cons, List.map_nil, D.fzS, beq_self_eq_true, if_true, h, hm, and_self, D.canS]
theorem QrK {us : List UR} {eu ec eg : Nat} {L : List Int} {J J2 : Int} {b4 : Box} (k : Nat) : lk ((12, gB L J2 eg) :: wA us eu ec eg L J b4) k = lk (wA us eu ec eg L J2 b4) k := by
 show lk ((12, _) :: (500000, _) :: (12, _) :: (4, _) :: fbx ec us) k = lk ((500000, _) :: (12, _) :: (4, _) :: fbx ec us) k
 by_cases e : 12 = k
 ·subst e; rfl
 ·rw [Qo, if_neg e, Qo, Qo (k := 500000)]
  split
  ·rfl
  ·rw [Qo, if_neg e, Qo (k := 12), if_neg e]
theorem Qkl {cs : List CR} {k e t : Nat} {row : List D} (h : ∀ z ∈ cs, PureC z) (hr : ∀ d ∈ row, ∀ j ∈ d.sid, j = 64) : ∀ j ∈ Box.ids ⟨(cs.map dCR).set k row, e, t, false⟩, j = 64 := fun j hj => by
 simp only [Box.ids, Bool.false_eq_true, if_false, List.mem_flatMap] at hj
 obtain ⟨r, hrm, d, hd, hj⟩ := hj
 rcases QeI hrm with rfl | hrm
 ·exact hr d hd j hj
 ·obtain ⟨z, hz, rfl⟩ := List.mem_map.1 hrm
  rw [(h z hz).all d hd] at hj; cases hj
theorem QsW {us : List UR} {eu ec eg : Nat} {L : List Int} {J : Int} {b4 b64 : Box} {n i k : Nat} (h : Prog n us i k) (hi : i < us.length) (hk : k < us[i].cs.length) {zx : CR} (hv : QgM zx.v) (hrow : zx.x.sid = [] /\ zx.y.sid = [64] /\ zx.z.sid = []) (hb4 : b4.pr = true) (h64 : b64.pr = true) :
  Fam ((500001 + i, ⟨(us[i].cs.map dCR).set k (dCR zx), 8, ec, false⟩) :: (64, b64) :: wA us eu ec eg L J b4) 12 500000 eu ec (QcQ us i k zx) /\ Closed ((500001 + i, ⟨(us[i].cs.map dCR).set k (dCR zx), 8, ec, false⟩) :: (64, b64) :: wA us eu ec eg L J b4) := by
 refine ⟨⟨by decide, ⟨false, ?_⟩, fun y hy => ?_, fun y hy => ?_⟩, ?_⟩
 ·rw [Qo, if_neg (by omega), Qo, if_neg (by decide), Qft, Qlr]
 ·obtain ⟨j, hj, rfl⟩ := List.getElem_of_mem hy
  have hK' := Qej (i := i) (k := k) (z := zx) h.keys
  have hj' := hj
  rw [Zx] at hj'
  refine ⟨by rw [hK' j hj]; omega, ?_⟩
  rw [hK' j hj]
  by_cases e : i = j
  ·subst e
   refine ⟨false, ?_⟩
   rw [QA, Qa4 hj', if_pos rfl, QeR, List.map_set]
  ·refine ⟨true, ?_⟩
   rw [Qo, if_neg (by omega), Qo, if_neg (by omega), Qdz h.keys hj', Qa4 hj', if_neg e]
 ·obtain ⟨j, hj, rfl⟩ := List.getElem_of_mem hy
  have hj' := hj
  rw [Zx] at hj'
  rw [Qa4 hj']
  have hfam := h.fam us[j] (List.getElem_mem _)
  split
  ·refine ⟨by simpa [QeR] using hfam.1, fun z hz => ?_⟩
   rcases QeI hz with rfl | hz
   ·exact hv
   ·exact hfam.2 z hz
  ·exact hfam
 ·refine ((QaB h.keys hb4).pr h64).cons fun j hj => ?_
  have := Qkl (e := 8) (t := ec) (k := k) (row := dCR zx) (fun z hz => (h.pure hi z hz).1) (fun d hd j hj => by
   simp only [dCR, List.mem_cons, List.not_mem_nil, or_false] at hd
   rcases hd with rfl | rfl | rfl | rfl | rfl | rfl | rfl | rfl
   ·cases hj
   ·cases hj
   ·cases hj
   ·cases hj
   ·cases hj
   ·rw [hrow.1] at hj; cases hj
   ·rw [hrow.2.1] at hj; simpa using hj
   ·rw [hrow.2.2] at hj; cases hj) j hj
  subst this; exact Q3
theorem Prog.start {us : List UR} (h : UnitsIn us) (h2 : 2 <= us.length) (h11 : us.length <= 11) : Prog us.length us 0 0 := by
 refine ⟨h.keys, ⟨rfl, h2, h11⟩, fun u hu => (h.fresh u hu).1, fun j hj m hm hd => by omega, fun j hj m hm _ => ?_⟩
 obtain ⟨v, sh, e, hv⟩ := (h.fresh _ (List.getElem_mem hj)).2 _ (List.getElem_mem hm)
 exact ⟨v, sh, e, hv⟩
theorem Qex {n : Nat} {m : Int} {v : Vr} {sh : Int} {ns : List (List WantT)} (hv : QgM v) (h : Qfx n m ns) (hm : m <= 3) : QaF n ⟨v, sh, ns, []⟩ :=
 ⟨hv, by show ns.length <= 10; have := h.1; omega, fun r hr => ⟨(h.2 r hr).1, fun x hx => ((h.2 r hr).2 x hx).w⟩, Nat.zero_le _, fun x hx => by cases hx⟩
theorem QiK {n i : Nat} {m : Int} {v : Vr} {sh : Int} {ns : List (List WantT)} (hv : QgM v) (h : Qfx n m ns) (hm : m <= 3) (h1 : 1 <= i) (hi : i < n) : QaF n ⟨v, sh, [⟨(i : Int) - 1, Xi v.a v.b v.c v.p v.q⟩] :: ns, []⟩ := by
 refine ⟨hv, by show (_ :: ns).length <= 10; have := h.1; simp only [List.length_cons]; omega, fun r hr => ?_, Nat.zero_le _, fun x hx => by cases hx⟩
 rcases List.mem_cons.1 hr with rfl | hr
 ·refine ⟨by simp, fun x hx => ?_⟩
  simp only [List.mem_singleton] at hx; subst hx
  have := QcH (a := v.a) (b := v.b) (c := v.c) (q := v.q) hv.1
  exact ⟨by show 0 <= (i : Int) - 1; omega, by show (i : Int) - 1 < n; omega, this.1.up (by omega), this.2.up (by omega)⟩
 ·exact ⟨(h.2 r hr).1, fun x hx => ((h.2 r hr).2 x hx).w⟩
theorem QiJ {n : Nat} {v : Vr} {sh : Int} {ns : List (List WantT)} (h : QaF n ⟨v, sh, ns, []⟩) {x : WantT} (hx : WantIn n x) : QaF n ⟨v, sh, ns, [x]⟩ := ⟨h.v, h.nl, h.nr, by simp, by intro y hy; simp only [List.mem_singleton] at hy; subst hy; exact hx.w⟩
theorem Qjw {us : List UR} {i k : Nat} {z : CR} (hi : i < us.length) (hk : k < us[i].cs.length) {us2 : List UR} (e : QcQ us i k z = us2) (hi2 : i < us2.length) : k < us2[i].cs.length := by
 rw [<- QaW hi2, <- e, QaM, QaW hi]; exact hk
theorem QpJ {l : List (List WantT)} : ∀ r ∈ l.map (fun r => [Zc r]), r.length = 1 := fun r hr => by obtain ⟨x, _, rfl⟩ := List.mem_map.1 hr; rfl
end M25
namespace Go.Proofs
open Go Go.Abs M3 M25
set_option linter.unusedVariables false
set_option linter.unusedSimpArgs false
theorem Qqt {kg : Nat} {L : List Int} {I most : Int} {eg eu ec : Nat} (heu : eu = 74) (hec : ec = 71) (hL : ∀ x ∈ L, I64 x) (hm0 : 1 <= most) (hm1 : most <= 5) :
  ∃ us I2, (UnitsIn us /\ 2 <= us.length /\ us.length <= 11) /\ ∀ (st : St) (args : List Opd), Zy st args = some [.ref kg 0 0, .int .i64 most] -> lk st.H kg = some (gB L I eg) -> (∀ j, 500000 <= j -> lk st.H j = none) -> Qbt Tryz.prog 39 args st [(kg, gB L I eg)] ((500000, ⟨us.map dUR, 3, eu, false⟩) :: fbx ec us) [(kg, gB L I2 eg)] (.osl 500000 us.length) := by
 obtain ⟨d, H2, ⟨us, I2, hus, rfl, rfl⟩, hok⟩ := QcW (kg := upN kg) (I := I) (eg := eg) heu hec (by unfold upN; omega) hL hm0 hm1
 refine ⟨us, I2, hus, fun st args ha hg hs => ⟨_, ha, fun k b h => ?_, fun k b h j hj => ?_, fun x hx j hj => ?_, fun k b h => ?_, fun k b h => ?_, fun k hk => ?_, hok⟩⟩
 ·obtain ⟨rfl, rfl⟩ := XD h; exact hg
 ·obtain ⟨rfl, rfl⟩ := XD h; simp [Box.ids, gB] at hj
 ·simp only [List.mem_cons, List.not_mem_nil, or_false] at hx
  rcases hx with rfl | rfl
  ·simp [D.ids, D.sid] at hj; subst hj; exact Q3
  ·simp [D.ids, D.sid] at hj
 ·obtain ⟨rfl, rfl⟩ := XD h
  exact ⟨Q3, fun j hj => by simp [Box.ids, gB] at hj⟩
 ·have hK := hus.1.keys
  rw [Qo] at h
  split at h
  ·rename_i e; cases h; subst e
   refine ⟨by decide, hs _ (Nat.le_refl _), fun j hj => ?_⟩
   obtain ⟨u, hu, rfl⟩ := QbQ hj
   exact Q1 (QdP hK hu)
  ·obtain ⟨u, hu, rfl, rfl⟩ := Qg4 h
   have := QbC hK hu
   exact ⟨by omega, hs _ (by omega), fun j hj => by simp [Box.ids] at hj⟩
 ·simp [D.ids, D.sid] at hk; subst hk; exact Q3
theorem Qkg {H : List (Nat × Box)} {kg ku : Nat} {L : List Int} {I most : Int} {eg eu ec : Nat} {us : List UR} (hg : lk H kg = some (gB L I eg)) (hU : Fam H kg ku eu ec us) (hC : Closed H) (hL : ∀ x ∈ L, I64 x) (h2 : 2 <= us.length) (hn : us.length <= 48) (hm0 : 0 <= most) (hm1 : most <= 10) :
  ∃ ns I2, Qfx us.length most ns /\ ∀ (st : St) (args : List Opd), Zy st args = some [.ref kg 0 0, .osl ku us.length, .int .i64 most] -> (∀ j x, lk H j = some x -> lk st.H j = some x) -> Qbt Tryz.prog 40 args st H [] [(kg, gB L I2 eg)] (QZ ns) := by
 obtain ⟨d, H2, ⟨ns, I2, hx, rfl, rfl⟩, hok⟩ := QcV (H := upH H) (kg := upN kg) (ku := upN ku) (L := L) (I := I) (most := most) (eg := eg) (eu := eu) (ec := ec) (us := us.map UR.ren) (by unfold upN; omega) (by rw [QaP, hg]; rfl) hU.up Qky (QeU hC) hL (by simpa using h2) (by simpa using hn) hm0 hm1
 obtain ⟨pu, hu⟩ := hU.u
 rw [List.length_map] at hx hok
 refine ⟨ns, I2, hx, fun st args ha hF => QkL (b' := gB L I2 eg) (ds' := [.ref (upN kg) 0 0, .osl (upN ku) us.length, .int .i64 most]) ha hF hC (fun x hx j hj => ?_) (Zu hg) rfl rfl rfl rfl hok⟩
 simp only [List.mem_cons, List.not_mem_nil, or_false] at hx
 rcases hx with rfl | rfl | rfl
 ·simp [D.ids, D.sid] at hj; subst hj; exact Zu hg
 ·simp [D.ids, D.sid] at hj; subst hj; exact Zu hu
 ·simp [D.ids, D.sid] at hj
theorem QcU {ws : List Int} (hL : ∀ x ∈ ws, I64 x) {most : Int} (hm0 : 1 <= most) (hm1 : most <= 5) : ∃ d, (∃ w, Qn8 w /\ d = ZP w) /\ Ok Tryz.prog 10 [ZC ws, .int .i64 most] d := by
 refine Ok.ofX (R := fun d => (∃ w, Qn8 w /\ d = ZP w)) ZQ Tryz.func10 QsZ (Nat.le_of_ble_eq_true rfl) ?_
 show TX _ _ tf10.body _ _
 obtain ⟨us0, J0, ⟨hU, hu2, hu11⟩, hc0⟩ := Qqt (kg := 12) (L := ws) (I := 0) (most := most) (eg := 63) rfl rfl hL hm0 hm1
 have hU0 := Prog.start hU hu2 hu11
 obtain ⟨z0, rest0, hfirst⟩ := hU.first
 have hi0 : 0 < us0.length := by omega
 have hcl0 : us0[0].cs = [z0] := by subst hfirst; rfl
 have hk0 : 0 < us0[0].cs.length := by rw [hcl0]; exact Nat.zero_lt_one
 obtain ⟨va, sha, hza, hva⟩ := hU0.fresh 0 hi0 0 hk0 (by omega)
 obtain ⟨ns0, J00, hns0, hc00⟩ := Qkg (H := wA (us0) 74 71 63 ws (J0) ⟨[[.fsl []]], 1, 26, true⟩) (most := 3) Qe4 (Qlw hU.keys hU0.fam) (QaB hU.keys rfl) hL hu2 (by omega) (by decide) (by decide)
 refine Q9 fun K hK => ZK rfl ?_
 refine hK _ _ (QQ (kp3 rfl rfl rfl) ?_)
 refine Q9 fun K hK => Qa rfl (QU rfl rfl (Zo rfl rfl rfl (Qa rfl ?_)))
 refine hK _ _ (QQ (kp3 rfl rfl rfl) ?_)
 refine Q9 fun K hK => Qa rfl (Qa rfl (YI (hc0 _ _ rfl rfl (by intro j hj; rw [Qo, if_neg (by omega), Qo, if_neg (by omega)]; rfl)) (Qa rfl ?_)))
 refine hK _ _ (QQ (kp3 rfl rfl rfl) ?_)
 refine Qmk (QbD rfl (Qkx hU.keys)) (Q9 fun K hK => Qa rfl (XT (ds0 := [7, 6, 2, 1, 0]) rfl rfl rfl (by simp) (by omega) (by omega) rfl (by first | rfl | ((try simp only [QZ, D.ids, D.sid]); simp only [Dr.ok, Zp, Zq, Zr, List.all_append, List.all_cons, List.all_nil, Bool.and_true, Bool.true_and]; (try rw [ZE (by rfl)]); simp [D.ids, D.sid]; done) | ((try simp only [QZ, D.ids, D.sid]); simp only [Dr.ok, Zp, Zq, Zr, List.all_append, List.all_cons, List.all_nil, Bool.and_true, Bool.true_and]; (try rw [ZE (by rfl)]); simp [D.ids, D.sid]; omega)) rfl (Qi rfl rfl (QP (ds0 := [2, 1, 0]) rfl (Z9 rfl (Qpd (i := 0) hU.keys hi0)) rfl (by first | rfl | ((try simp only [QZ, D.ids, D.sid]); simp only [Dr.ok, Zp, Zq, Zr, List.all_append, List.all_cons, List.all_nil, Bool.and_true, Bool.true_and]; (try rw [ZE (by rfl)]); simp [D.ids, D.sid]; done) | ((try simp only [QZ, D.ids, D.sid]); simp only [Dr.ok, Zp, Zq, Zr, List.all_append, List.all_cons, List.all_nil, Bool.and_true, Bool.true_and]; (try rw [ZE (by rfl)]); simp [D.ids, D.sid]; omega)) rfl (Qa rfl (Qa rfl (QjP (ds0 := [0]) (hc00 _ _ rfl (fun _ _ h => h)) (fun j hj => QdY hj) (by first | rfl | ((try simp only [QZ, D.ids, D.sid]); simp only [Dr.ok, Zp, Zq, Zr, List.all_append, List.all_cons, List.all_nil, Bool.and_true, Bool.true_and]; (try rw [ZE (by rfl)]); simp [D.ids, D.sid]; done) | ((try simp only [QZ, D.ids, D.sid]); simp only [Dr.ok, Zp, Zq, Zr, List.all_append, List.all_cons, List.all_nil, Bool.and_true, Bool.true_and]; (try rw [ZE (by rfl)]); simp [D.ids, D.sid]; omega)) rfl (XT (ds0 := [1, 0]) rfl rfl (Qp (by omega) (Qdz (j := 0) hU.keys hi0)) (by simp) (by omega) (by omega) rfl (by first | rfl | ((try simp only [QZ, D.ids, D.sid]); simp only [Dr.ok, Zp, Zq, Zr, List.all_append, List.all_cons, List.all_nil, Bool.and_true, Bool.true_and]; (try rw [ZE (by rfl)]); simp [D.ids, D.sid]; done) | ((try simp only [QZ, D.ids, D.sid]); simp only [Dr.ok, Zp, Zq, Zr, List.all_append, List.all_cons, List.all_nil, Bool.and_true, Bool.true_and]; (try rw [ZE (by rfl)]); simp [D.ids, D.sid]; omega)) rfl (Qi rfl (Zu (Qp (by omega) (Qdz (j := 0) hU.keys hi0))) (Xn (ds0 := []) rfl (Qp (by omega) (Qdz (j := 0) hU.keys hi0)) (Qp9 (k := 0) hk0 hza) rfl rfl rfl rfl rfl (by first | rfl | ((try simp only [QZ, D.ids, D.sid]); simp only [Dr.ok, Zp, Zq, Zr, List.all_append, List.all_cons, List.all_nil, Bool.and_true, Bool.true_and]; (try rw [ZE (by rfl)]); simp [D.ids, D.sid]; done) | ((try simp only [QZ, D.ids, D.sid]); simp only [Dr.ok, Zp, Zq, Zr, List.all_append, List.all_cons, List.all_nil, Bool.and_true, Bool.true_and]; (try rw [ZE (by rfl)]); simp [D.ids, D.sid]; omega)) rfl ?_))))))))))
 refine hK _ _ (QQ (kp3 rfl rfl rfl) ?_)
 refine Xy ?_ -- 0
 refine Q9 fun K hK => Qa rfl ?_
 refine hK _ _ (QQ (kp4 rfl rfl rfl rfl) ?_)
 refine Yw ?_
 have hPs : Prog us0.length (QcQ us0 0 0 (Qiw (CandT.mk va sha ns0 []))) 1 0 := (hU0.put hi0 hk0 ⟨_, rfl, Qex hva hns0 (by decide)⟩).next (by rw [Zx]; exact hi0) (by rw [<- QaW (by rw [Zx]; exact hi0), QaM, QaW hi0, hcl0]; exact Nat.le_refl 1)
 refine QdA (ι := List UR × Int × Nat) (fun ⟨usA, JA, i⟩ => ⟨[(4, .ref 4 0 0), (5, .ref 12 0 0), (6, .osl 500000 usA.length), (7, .int .i64 i)], wA (usA) 74 71 63 ws (JA) ⟨[[.fsl []]], 1, 26, true⟩⟩) (fun ⟨usA, JA, i⟩ => Prog us0.length usA i 0 /\ 1 <= i /\ i <= us0.length) (fun ⟨usA, JA, i⟩ => us0.length - i) (QcQ us0 0 0 (Qiw (CandT.mk va sha ns0 [])), J00, 1) ?_ ?_ ?_
 ·exact Qf0 (l := [4, 5, 6, 7]) (i := 0) (k := 0) (row := [.int .i64 va.a, .int .i64 va.b, .int .i64 va.c, .str va.p, .str va.q, .int .i64 sha, QZ ns0, .fsl []]) (p := true) 13 (Qiw (CandT.mk va sha ns0 [])) (kp4 rfl rfl rfl rfl) (by rw [Zx] <;> rfl) hU.keys hi0 hk0 QA (fun _ => rfl) rfl (fun z hz => (hU0.pure hi0 z hz).1) ⟨rfl, rfl, rfl⟩ (fun j hj hne => (Qp (by omega) (Qp (by omega) (Qdz hU.keys hj)))) (by repeat (first | exact QA | exact Qft | exact Qe4 | exact Qgy | refine Qp (by omega) ?_)) (by repeat (first | exact QA | exact Qft | exact Qe4 | exact Qgy | refine Qp (by omega) ?_)) (by repeat (first | exact QA | exact Qft | exact Qe4 | exact Qgy | refine Qp (by omega) ?_)) rfl (by decide) (by intro j hj; repeat (first | exact Z2 hU.keys (by omega) (by omega) (by omega) (.inr (by omega)) | refine Zw (by omega) ?_)) (by omega) (by intro p hp j hj; simp only [List.mem_cons, List.not_mem_nil, or_false] at hp; rcases hp with rfl | rfl | rfl | rfl <;> first | (simp [D.ids, D.sid] at hj; done) | (simp [D.ids, D.sid] at hj; subst hj; first | exact .inl rfl | exact .inr (.inl rfl) | exact .inr (.inr (.inl rfl)) | exact .inr (.inr (.inr ⟨us0[0], List.getElem_mem hi0, rfl⟩))))
 ·exact ⟨hPs, Nat.le_refl _, by omega⟩
 intro ⟨usA, JA, i⟩ hPA
 try dsimp only at hPA
 have hlA := hPA.1.len.1
 try dsimp only
 refine Xy ?_ -- 1
 refine Q9 fun K hK => Qa rfl (Qa rfl ?_)
 first | refine QR rfl QX ?_ | refine QR rfl rfl ?_
 refine Yb rfl rfl ?_
 refine hK _ _ (QQ (kp5 rfl rfl rfl rfl rfl) ?_)
 refine YP rfl (fun h1 => ?_) (fun h1 => ?_)
 ·try rw [h1]
  try simp only [qa, qb, qc, qd, qe, List.length_map] at h1
  refine Y4 (Q5 (kp4 rfl rfl rfl rfl) ?_)
  refine Xy ?_ -- 2
  refine Yw (Q9 fun K hK => Qa rfl ?_)
  refine hK _ _ (QQ (kp5 rfl rfl rfl rfl rfl) ?_)
  refine Yw ?_
  refine QdA (ι := List UR × Int × Nat) (fun ⟨us, J, k⟩ => ⟨[(4, .ref 4 0 0), (5, .ref 12 0 0), (6, .osl 500000 us.length), (7, .int .i64 i), (8, .int .i64 k)], wA (us) 74 71 63 ws (J) ⟨[[.fsl []]], 1, 26, true⟩⟩) (fun ⟨us, J, k⟩ => Prog us0.length us i k) (fun ⟨us, J, k⟩ => Qj2 us i - k) (usA, JA, 0) ?_ ?_ ?_
  ·exact Zf (l := [4, 5, 6, 7, 8]) (kp5 rfl rfl rfl rfl rfl)
  ·exact hPA.1
  intro ⟨us, J, k⟩ hP
  try dsimp only at hP
  have hl := hP.len.1
  have hi : i < us.length := by omega
  have h1i := hPA.2.1
  have hcl4 := hP.cl us[i] (List.getElem_mem hi)
  try dsimp only
  refine Xy ?_ -- 3
  refine Q9 fun K hK => Qa rfl (Qa rfl (Qa rfl (Xm rfl rfl rfl (by simp) (by omega) (by omega) rfl (Qi rfl rfl (QC rfl (Z9 rfl (Qpd hP.keys hi)) rfl ?_)))))
  first | refine QR rfl QX ?_ | refine QR rfl rfl ?_
  refine Yb rfl rfl ?_
  refine hK _ _ (QQ (kp6 rfl rfl rfl rfl rfl rfl) ?_)
  refine YP rfl (fun h2 => ?_) (fun h2 => ?_)
  ·try rw [h2]
   try simp only [qa, qb, qc, qd, qe, List.length_map] at h2
   try (have hk : k < us[i].cs.length := (by omega); obtain ⟨v, sh, hz, hv⟩ := hP.fresh i hi k hk (by omega))
   refine Y4 (Q5 (kp5 rfl rfl rfl rfl rfl) ?_)
   refine Xy ?_ -- 4
   refine Yw (Q9 fun K hK => Qa rfl (Qa rfl (Xm rfl rfl rfl (by simp) (by omega) (by omega) rfl (Qi rfl rfl (QC rfl (Z9 rfl (Qpd hP.keys hi)) rfl (Qa rfl (Xm rfl rfl (Qdz hP.keys hi) (by simp) (by omega) (by omega) rfl (Qa rfl ?_))))))))
   refine hK _ _ (QQ (kp6 rfl rfl rfl rfl rfl rfl) ?_)
   refine Xy ?_ -- 5
   refine Q9 fun K hK => Qa rfl (Qa rfl (Xm rfl rfl rfl (by simp) (by omega) (by omega) rfl (Qi rfl rfl (QC rfl (Z9 rfl (Qpd hP.keys hi)) rfl (Qn5 rfl rfl ?_)))))
   refine hK _ _ (QQ (kp7 rfl rfl rfl rfl rfl rfl rfl) ?_)
   refine YP rfl (fun h3 => ?_) (fun h3 => ?_)
   ·try rw [h3]
    try simp only [qa, qb, qc, qd, qe, List.length_map] at h3
    refine ZR fun K hK => Qa rfl (Qa rfl (X2 rfl rfl (by first | exact Qr (by omega) (by omega) | rfl) (Qa rfl (Yg rfl rfl (Qi rfl (Zu (Qdz hP.keys hi)) (QG (cs := [_, _, _, _, _]) rfl (Z9 (Qdz hP.keys hi) (Qp9 hk hz)) rfl rfl (QF (X8 hv.1 hv.2) rfl rfl (.inl rfl) (QU rfl rfl ?_))))))))
    refine QH rfl (by repeat (first | exact Z2 hU.keys (by omega) (by omega) (by omega) (.inl (by omega)) | exact Z2 hP.keys (by omega) (by omega) (by omega) (.inl (by omega)) | exact Z2 hP2.keys (by omega) (by omega) (by omega) (.inl (by omega)) | refine Zw (by omega) ?_)) ?_
    refine QH rfl (by repeat (first | exact Z2 hU.keys (by omega) (by omega) (by omega) (.inl (by omega)) | exact Z2 hP.keys (by omega) (by omega) (by omega) (.inl (by omega)) | exact Z2 hP2.keys (by omega) (by omega) (by omega) (.inl (by omega)) | refine Zw (by omega) ?_)) ?_
    refine Yg rfl rfl (Qi rfl (Zu (Qp (by omega) (Qp (by omega) (Qdz hP.keys hi)))) (Q7 rfl (Qp (by omega) (Qp (by omega) (Qdz hP.keys hi))) (Qp9 hk hz) rfl rfl rfl rfl rfl (hK _ ?_)))
    refine Q5 (kp6 rfl rfl rfl rfl rfl rfl) ?_
    first | (refine Qmk (Qm1 (l := [4, 5, 6, 7, 8, 9]) (fr' := [(4, .ref 4 0 0), (5, .ref 12 0 0), (6, .osl 500000 us.length), (7, .int .i64 i), (8, .int .i64 k), (9, .ref (500001 + i) k 0)]) (x := (WantT.mk ((i : Int) - 1) (Xi v.a v.b v.c v.p v.q))) (kp6 rfl rfl rfl rfl rfl rfl) rfl hP.keys hi rfl (Qkl (fun z hz => (hP.pure hi z hz).1) (by intro d hd j hj; simp [dCR, setRow, zr] at hd; rcases hd with rfl | rfl | rfl | rfl | rfl | rfl | rfl | rfl <;> simp [D.sid] at hj <;> exact hj)) (by intro p hp j hj; simp only [List.mem_cons, List.not_mem_nil, or_false] at hp; rcases hp with rfl | rfl | rfl | rfl | rfl | rfl <;> first | (simp [D.ids, D.sid] at hj; done) | (simp [D.ids, D.sid] at hj; subst hj; first | exact .inl rfl | exact .inr (.inl rfl) | exact .inr (.inr (.inl rfl)) | exact .inr (.inr (.inr ⟨us[i], List.getElem_mem hi, (hP.keys i hi).symm⟩))))) ?_) | skip
    refine Q9 fun K hK => Qa rfl (Qa rfl (Yg rfl rfl (Qi rfl Q3 (QP (ds0 := [3, 0]) rfl (Z9 QA (QpM hk)) rfl (by first | rfl | ((try simp only [QZ, D.ids, D.sid]); simp only [Dr.ok, Zp, Zq, Zr, List.all_append, List.all_cons, List.all_nil, Bool.and_true, Bool.true_and]; (try rw [ZE (by rfl)]); simp [D.ids, D.sid]; done) | ((try simp only [QZ, D.ids, D.sid]); simp only [Dr.ok, Zp, Zq, Zr, List.all_append, List.all_cons, List.all_nil, Bool.and_true, Bool.true_and]; (try rw [ZE (by rfl)]); simp [D.ids, D.sid]; omega)) rfl (Qa rfl (Qa rfl ?_))))))
    have hfx := QsW (eu := 74) (ec := 71) (eg := 63) (L := ws) (J := J) (b4 := ⟨[[.fsl []]], 1, 26, true⟩) (b64 := ⟨[[Zc [(WantT.mk ((i : Int) - 1) (Xi v.a v.b v.c v.p v.q))]]], 1, 69, true⟩) (zx := (CR.mk v (.int .i64 sh) (.osl 64 1) (.fsl []))) hP hi hk hv ⟨rfl, rfl, rfl⟩ rfl rfl
    obtain ⟨ns, J1, hns, hc1⟩ := Qkg (H := (500001 + i, ⟨(us[i].cs.map dCR).set k (dCR (CR.mk v (.int .i64 sh) (.osl 64 1) (.fsl []))), 8, 71, false⟩) :: (64, ⟨[[Zc [(WantT.mk ((i : Int) - 1) (Xi v.a v.b v.c v.p v.q))]]], 1, 69, true⟩) :: wA (us) 74 71 63 ws (J) ⟨[[.fsl []]], 1, 26, true⟩) (most := 2) (Qp (by omega) (Qp (by omega) Qe4)) hfx.1 hfx.2 hL (by first | omega | (rw [Zx]; omega)) (by first | omega | (rw [Zx]; omega)) (by decide) (by decide)
    rw [Zx] at hns
    refine QjP (ds0 := [3, 0]) (hc1 _ _ (by rw [Zx]; rfl) (fun _ _ h => h)) (fun j hj => QdY hj) (by first | rfl | ((try simp only [QZ, D.ids, D.sid]); simp only [Dr.ok, Zp, Zq, Zr, List.all_append, List.all_cons, List.all_nil, Bool.and_true, Bool.true_and]; (try rw [ZE (by rfl)]); simp [D.ids, D.sid]; done) | ((try simp only [QZ, D.ids, D.sid]); simp only [Dr.ok, Zp, Zq, Zr, List.all_append, List.all_cons, List.all_nil, Bool.and_true, Bool.true_and]; (try rw [ZE (by rfl)]); simp [D.ids, D.sid]; omega)) rfl ?_
    refine Qbp (ds0 := [0]) rfl rfl (by simp [D.ids, D.sid, QZ]) ⟨rfl, QpJ, rfl⟩ (by repeat (first | exact Z2 hU.keys (by omega) (by omega) (by omega) (.inl (by omega)) | exact Z2 hP.keys (by omega) (by omega) (by omega) (.inl (by omega)) | exact Z2 hP2.keys (by omega) (by omega) (by omega) (.inl (by omega)) | refine Zw (by omega) ?_)) (Qp (by omega) (Qp (by omega) QA)) rfl rfl rfl (by have := hns.1; simp; omega) (by have := hns.1; simp; omega) (by first | rfl | ((try simp only [QZ, D.ids, D.sid]); simp only [Dr.ok, Zp, Zq, Zr, List.all_append, List.all_cons, List.all_nil, Bool.and_true, Bool.true_and]; (try rw [ZE (by rfl)]); simp [D.ids, D.sid]; done) | ((try simp only [QZ, D.ids, D.sid]); simp only [Dr.ok, Zp, Zq, Zr, List.all_append, List.all_cons, List.all_nil, Bool.and_true, Bool.true_and]; (try rw [ZE (by rfl)]); simp [D.ids, D.sid]; omega)) rfl ?_
    refine Yg rfl rfl (Qi rfl (Zu (Qp (by omega) (Qp (by omega) (Qp (by omega) QA)))) (Xn (ds0 := []) rfl (Qp (by omega) (Qp (by omega) (Qp (by omega) QA))) (QpM hk) rfl rfl rfl rfl rfl (by first | rfl | ((try simp only [QZ, D.ids, D.sid]); simp only [Dr.ok, Zp, Zq, Zr, List.all_append, List.all_cons, List.all_nil, Bool.and_true, Bool.true_and]; (try rw [ZE (by rfl)]); simp [D.ids, D.sid]; done) | ((try simp only [QZ, D.ids, D.sid]); simp only [Dr.ok, Zp, Zq, Zr, List.all_append, List.all_cons, List.all_nil, Bool.and_true, Bool.true_and]; (try rw [ZE (by rfl)]); simp [D.ids, D.sid]; omega)) rfl ?_))
    refine hK _ _ (QQ (kp6 rfl rfl rfl rfl rfl rfl) ?_)
    first | (refine Qmk (Qf0 (l := [4, 5, 6, 7, 8, 9]) (eu := 74) (ec := 71) (eg := 63) (L := ws) (J := J1) (b4 := ⟨[[.fsl []]], 1, 26, true⟩) (fr' := [(4, .ref 4 0 0), (5, .ref 12 0 0), (6, .osl 500000 us.length), (7, .int .i64 i), (8, .int .i64 k), (9, .ref (500001 + i) k 0)]) (row := [.int .i64 v.a, .int .i64 v.b, .int .i64 v.c, .str v.p, .str v.q, .int .i64 sh, .osl 75 (1 + (ns.map (fun r => [Zc r])).length), .fsl []]) (p := false) 75 (Qiw (CandT.mk v sh ([(WantT.mk ((i : Int) - 1) (Xi v.a v.b v.c v.p v.q))] :: ns) [])) (kp6 rfl rfl rfl rfl rfl rfl) rfl hP.keys hi hk Qi2 (fun h => by cases h) (Qfi (Qp (by omega) QA) (by first | (simp; done) | (simp; omega))) (fun z hz => (hP.pure hi z hz).1) ⟨rfl, rfl, rfl⟩ (fun j hj hne => (Qp (by omega) (Qp (by omega) (Qp (by omega) (Qp (by omega) (Qp (by omega) (Qp (by omega) (Qdz hP.keys hj)))))))) (by repeat (first | exact QA | exact Qft | exact Qe4 | exact Qgy | refine Qp (by omega) ?_)) (by repeat (first | exact QA | exact Qft | exact Qe4 | exact Qgy | refine Qp (by omega) ?_)) (by repeat (first | exact QA | exact Qft | exact Qe4 | exact Qgy | refine Qp (by omega) ?_)) rfl (by decide) (by intro j hj; repeat (first | exact Z2 hP.keys (by omega) (by omega) (by omega) (.inr (by omega)) | refine Zw (by omega) ?_)) (by omega) (by intro p hp j hj; simp only [List.mem_cons, List.not_mem_nil, or_false] at hp; rcases hp with rfl | rfl | rfl | rfl | rfl | rfl <;> first | (simp [D.ids, D.sid] at hj; done) | (simp [D.ids, D.sid] at hj; subst hj; first | exact .inl rfl | exact .inr (.inl rfl) | exact .inr (.inr (.inl rfl)) | exact .inr (.inr (.inr ⟨us[i], List.getElem_mem hi, (hP.keys i hi).symm⟩))))) ?_; have hc2 : QaF us0.length (CandT.mk v sh ([(WantT.mk ((i : Int) - 1) (Xi v.a v.b v.c v.p v.q))] :: ns) []) := (by rw [<- hl]; exact QiK hv hns (by decide) h1i hi); generalize hns2 : ([(WantT.mk ((i : Int) - 1) (Xi v.a v.b v.c v.p v.q))] :: ns) = ns2 at hc2 ⊢) | (refine Qmk (Qf0 (l := [4, 5, 6, 7, 8, 9]) (eu := 74) (ec := 71) (eg := 63) (L := ws) (J := J1) (b4 := ⟨[[.fsl []]], 1, 26, true⟩) (fr' := [(4, .ref 4 0 0), (5, .ref 12 0 0), (6, .osl 500000 us.length), (7, .int .i64 i), (8, .int .i64 k), (9, .ref (500001 + i) k 0)]) (row := [.int .i64 v.a, .int .i64 v.b, .int .i64 v.c, .str v.p, .str v.q, .int .i64 sh, .osl 75 (0 + (ns.map (fun r => [Zc r])).length), .fsl []]) (p := false) 75 (Qiw (CandT.mk v sh ns [])) (kp6 rfl rfl rfl rfl rfl rfl) rfl hP.keys hi hk QA (fun h => by cases h) (Qfi (Qp (by omega) QA) (by first | (simp; done) | (simp; omega))) (fun z hz => (hP.pure hi z hz).1) ⟨rfl, rfl, rfl⟩ (fun j hj hne => (Qp (by omega) (Qp (by omega) (Qp (by omega) (Qdz hP.keys hj))))) (by repeat (first | exact QA | exact Qft | exact Qe4 | exact Qgy | refine Qp (by omega) ?_)) (by repeat (first | exact QA | exact Qft | exact Qe4 | exact Qgy | refine Qp (by omega) ?_)) (by repeat (first | exact QA | exact Qft | exact Qe4 | exact Qgy | refine Qp (by omega) ?_)) rfl (by decide) (by intro j hj; repeat (first | exact Z2 hP.keys (by omega) (by omega) (by omega) (.inr (by omega)) | refine Zw (by omega) ?_)) (by omega) (by intro p hp j hj; simp only [List.mem_cons, List.not_mem_nil, or_false] at hp; rcases hp with rfl | rfl | rfl | rfl | rfl | rfl <;> first | (simp [D.ids, D.sid] at hj; done) | (simp [D.ids, D.sid] at hj; subst hj; first | exact .inl rfl | exact .inr (.inl rfl) | exact .inr (.inr (.inl rfl)) | exact .inr (.inr (.inr ⟨us[i], List.getElem_mem hi, (hP.keys i hi).symm⟩))))) ?_; have hc2 : QaF us0.length (CandT.mk v sh ns []) := (by rw [<- hl]; exact Qex hv hns (by decide)); generalize hns2 : ns = ns2 at hc2 ⊢)
    generalize hus2 : QcQ us i k (Qiw (CandT.mk v sh ns2 [])) = us2
    have hP2 : Prog us0.length us2 i (k + 1) := hus2 ▸ hP.put hi hk ⟨_, rfl, hc2⟩
    have hl2 : us2.length = us.length := by rw [<- hus2, Zx]
    have hi2 : i < us2.length := by omega
    have hk2 : k < us2[i].cs.length := Qjw hi hk hus2 hi2
    have hz2 : us2[i].cs[k] = Qiw (CandT.mk v sh ns2 []) := Qjv hi hk hus2.symm hi2 hk2
    refine Q9 fun K hK => Qa rfl (YI (Qcx (I := J1) rfl Qe4 hL (by omega)) (ZI rfl rfl ?_))
    refine hK _ _ (QQ (kp7 rfl rfl rfl rfl rfl rfl rfl) ?_)
    refine YP rfl (fun h4 => ?_) (fun h4 => ?_)
    ·try rw [h4]
     try simp only [qa, qb, qc, qd, qe, List.length_map] at h4
     refine ZR fun K hK => Qa rfl (Qa rfl (Qa rfl ?_))
     obtain ⟨xb, J3, hxb, hcb⟩ := Qlk (H := (12, gB ws (nxI J1) 63) :: wA (us2) 74 71 63 ws (J1) ⟨[[.fsl []]], 1, 26, true⟩) QA (Qlw hP2.keys hP2.fam).cons ((QaB hP2.keys rfl).pr rfl) hL (by omega) (by omega)
     refine YI (hcb _ _ (by rw [hl2]; rfl) (fun _ _ h => h)) ?_
     refine QH rfl (by repeat (first | exact Z2 hU.keys (by omega) (by omega) (by omega) (.inl (by omega)) | exact Z2 hP.keys (by omega) (by omega) (by omega) (.inl (by omega)) | exact Z2 hP2.keys (by omega) (by omega) (by omega) (.inl (by omega)) | refine Zw (by omega) ?_)) ?_
     refine Yg rfl rfl (Qi rfl (Zu (Qp (by omega) (Qp (by omega) (Qp (by omega) (Qdz hP2.keys hi2))))) (Q7 rfl (Qp (by omega) (Qp (by omega) (Qp (by omega) (Qdz hP2.keys hi2)))) (Qp9 hk2 hz2) rfl rfl rfl rfl rfl (hK _ ?_)))
     refine Qh (Q5 (kp5 rfl rfl rfl rfl rfl) (ZR fun K hK => Qa rfl (QY rfl rfl (by first | exact Qr (by omega) (by omega) | rfl) (Qa rfl (hK _ ?_)))))
     refine Qk (QcQ us2 i k (Qiw (CandT.mk v sh ns2 [xb])), J3, k + 1) ?_ ?_ ?_
     ·exact Qf0 (l := [4, 5, 6, 7, 8]) (row := [.int .i64 v.a, .int .i64 v.b, .int .i64 v.c, .str v.p, .str v.q, .int .i64 sh, QZ ns2, .osl 85 1]) (p := false) 85 (Qiw (CandT.mk v sh ns2 [xb])) (kp5 rfl rfl rfl rfl rfl) (by rw [Zx, hl2] <;> rfl) hP2.keys hi2 hk2 QA (fun h => by cases h) (QmM (Qp (by omega) QA) rfl) (fun z hz => (hP2.pure hi2 z hz).1) ⟨rfl, rfl, rfl⟩ (fun j hj hne => (Qp (by omega) (Qp (by omega) (Qp (by omega) (Qp (by omega) (Qdz hP2.keys hj)))))) (by repeat (first | exact QA | exact Qft | exact Qe4 | exact Qgy | refine Qp (by omega) ?_)) (by repeat (first | exact QA | exact Qft | exact Qe4 | exact Qgy | refine Qp (by omega) ?_)) (by repeat (first | exact QA | exact Qft | exact Qe4 | exact Qgy | refine Qp (by omega) ?_)) rfl (by decide) (by intro j hj; repeat (first | exact Z2 hP2.keys (by omega) (by omega) (by omega) (.inr (by omega)) | refine Zw (by omega) ?_)) (by omega) (by intro p hp j hj; simp only [List.mem_cons, List.not_mem_nil, or_false] at hp; rcases hp with rfl | rfl | rfl | rfl | rfl <;> first | (simp [D.ids, D.sid] at hj; done) | (simp [D.ids, D.sid] at hj; subst hj; first | exact .inl rfl | exact .inr (.inl rfl) | exact .inr (.inr (.inl rfl)) | exact .inr (.inr (.inr ⟨us2[i], List.getElem_mem hi2, (hP2.keys i hi2).symm⟩))))
     ·exact hP2.again hi2 hk2 ⟨_, rfl, QiJ hc2 (by have := hxb; rwa [hl2, hl] at this)⟩
     ·show Qj2 (QcQ us2 i k _) i - (k + 1) < Qj2 us i - k; rw [QaM, <- hus2, QaM, QaW hi]; omega
    ·try rw [h4]
     try simp only [qa, qb, qc, qd, qe, List.length_map] at h4
     refine Y4 (Qh (Q5 (kp5 rfl rfl rfl rfl rfl) (ZR fun K hK => Qa rfl (QY rfl rfl (by first | exact Qr (by omega) (by omega) | rfl) (Qa rfl (hK _ ?_))))))
     refine Qk (us2, nxI J1, k + 1) ?_ ?_ ?_
     ·exact le_trans (Zf (l := [4, 5, 6, 7, 8]) (kp5 rfl rfl rfl rfl rfl)) (QbD (by rw [hl2] <;> rfl) QrK)
     ·exact hP2
     ·show Qj2 us2 i - (k + 1) < Qj2 us i - k; rw [<- hus2, QaM, QaW hi]; omega
   ·try rw [h3]
    try simp only [qa, qb, qc, qd, qe, List.length_map] at h3
    refine Y4 (Q5 (kp6 rfl rfl rfl rfl rfl rfl) ?_)
    first | (refine Qmk (Qm1 (l := [4, 5, 6, 7, 8, 9]) (fr' := [(4, .ref 4 0 0), (5, .ref 12 0 0), (6, .osl 500000 us.length), (7, .int .i64 i), (8, .int .i64 k), (9, .ref (500001 + i) k 0)]) (x := (WantT.mk ((i : Int) - 1) (Xi v.a v.b v.c v.p v.q))) (kp6 rfl rfl rfl rfl rfl rfl) rfl hP.keys hi rfl (Qkl (fun z hz => (hP.pure hi z hz).1) (by intro d hd j hj; simp [dCR, setRow, zr] at hd; rcases hd with rfl | rfl | rfl | rfl | rfl | rfl | rfl | rfl <;> simp [D.sid] at hj <;> exact hj)) (by intro p hp j hj; simp only [List.mem_cons, List.not_mem_nil, or_false] at hp; rcases hp with rfl | rfl | rfl | rfl | rfl | rfl <;> first | (simp [D.ids, D.sid] at hj; done) | (simp [D.ids, D.sid] at hj; subst hj; first | exact .inl rfl | exact .inr (.inl rfl) | exact .inr (.inr (.inl rfl)) | exact .inr (.inr (.inr ⟨us[i], List.getElem_mem hi, (hP.keys i hi).symm⟩))))) ?_) | skip
    refine Q9 fun K hK => Qa rfl (Qa rfl (Yg rfl rfl (Qi rfl (Zu (Qdz hP.keys hi)) (QP (ds0 := [3, 0]) rfl (Z9 (Qdz hP.keys hi) (Qp9 hk hz)) rfl (by first | rfl | ((try simp only [QZ, D.ids, D.sid]); simp only [Dr.ok, Zp, Zq, Zr, List.all_append, List.all_cons, List.all_nil, Bool.and_true, Bool.true_and]; (try rw [ZE (by rfl)]); simp [D.ids, D.sid]; done) | ((try simp only [QZ, D.ids, D.sid]); simp only [Dr.ok, Zp, Zq, Zr, List.all_append, List.all_cons, List.all_nil, Bool.and_true, Bool.true_and]; (try rw [ZE (by rfl)]); simp [D.ids, D.sid]; omega)) rfl (Qa rfl (Qa rfl ?_))))))
    obtain ⟨ns, J1, hns, hc1⟩ := Qkg (H := wA (us) 74 71 63 ws (J) ⟨[[.fsl []]], 1, 26, true⟩) (most := 2) Qe4 (Qlw hP.keys hP.fam) (QaB hP.keys rfl) hL (by first | omega | (rw [Zx]; omega)) (by first | omega | (rw [Zx]; omega)) (by decide) (by decide)
    refine QjP (ds0 := [3, 0]) (hc1 _ _ rfl (fun _ _ h => h)) (fun j hj => QdY hj) (by first | rfl | ((try simp only [QZ, D.ids, D.sid]); simp only [Dr.ok, Zp, Zq, Zr, List.all_append, List.all_cons, List.all_nil, Bool.and_true, Bool.true_and]; (try rw [ZE (by rfl)]); simp [D.ids, D.sid]; done) | ((try simp only [QZ, D.ids, D.sid]); simp only [Dr.ok, Zp, Zq, Zr, List.all_append, List.all_cons, List.all_nil, Bool.and_true, Bool.true_and]; (try rw [ZE (by rfl)]); simp [D.ids, D.sid]; omega)) rfl ?_
    refine Qeo (ds0 := [0]) rfl rfl (fun _ h => ⟨QpJ, h⟩) (by repeat (first | exact Z2 hU.keys (by omega) (by omega) (by omega) (.inl (by omega)) | exact Z2 hP.keys (by omega) (by omega) (by omega) (.inl (by omega)) | exact Z2 hP2.keys (by omega) (by omega) (by omega) (.inl (by omega)) | refine Zw (by omega) ?_)) (.inl rfl) (by simp) (by have := hns.1; simp; omega) (by have := hns.1; simp; omega) (by first | rfl | ((try simp only [QZ, D.ids, D.sid]); simp only [Dr.ok, Zp, Zq, Zr, List.all_append, List.all_cons, List.all_nil, Bool.and_true, Bool.true_and]; (try rw [ZE (by rfl)]); simp [D.ids, D.sid]; done) | ((try simp only [QZ, D.ids, D.sid]); simp only [Dr.ok, Zp, Zq, Zr, List.all_append, List.all_cons, List.all_nil, Bool.and_true, Bool.true_and]; (try rw [ZE (by rfl)]); simp [D.ids, D.sid]; omega)) rfl ?_
    refine Yg rfl rfl (Qi rfl (Zu (Qp (by omega) (Qp (by omega) (Qdz hP.keys hi)))) (Xn (ds0 := []) rfl (Qp (by omega) (Qp (by omega) (Qdz hP.keys hi))) (Qp9 hk hz) rfl rfl rfl rfl rfl (by first | rfl | ((try simp only [QZ, D.ids, D.sid]); simp only [Dr.ok, Zp, Zq, Zr, List.all_append, List.all_cons, List.all_nil, Bool.and_true, Bool.true_and]; (try rw [ZE (by rfl)]); simp [D.ids, D.sid]; done) | ((try simp only [QZ, D.ids, D.sid]); simp only [Dr.ok, Zp, Zq, Zr, List.all_append, List.all_cons, List.all_nil, Bool.and_true, Bool.true_and]; (try rw [ZE (by rfl)]); simp [D.ids, D.sid]; omega)) rfl ?_))
    refine hK _ _ (QQ (kp6 rfl rfl rfl rfl rfl rfl) ?_)
    first | (refine Qmk (Qf0 (l := [4, 5, 6, 7, 8, 9]) (eu := 74) (ec := 71) (eg := 63) (L := ws) (J := J1) (b4 := ⟨[[.fsl []]], 1, 26, true⟩) (fr' := [(4, .ref 4 0 0), (5, .ref 12 0 0), (6, .osl 500000 us.length), (7, .int .i64 i), (8, .int .i64 k), (9, .ref (500001 + i) k 0)]) (row := [.int .i64 v.a, .int .i64 v.b, .int .i64 v.c, .str v.p, .str v.q, .int .i64 sh, .osl 75 (1 + (ns.map (fun r => [Zc r])).length), .fsl []]) (p := false) 75 (Qiw (CandT.mk v sh ([(WantT.mk ((i : Int) - 1) (Xi v.a v.b v.c v.p v.q))] :: ns) [])) (kp6 rfl rfl rfl rfl rfl rfl) rfl hP.keys hi hk Qi2 (fun h => by cases h) (Qfi (Qp (by omega) QA) (by first | (simp; done) | (simp; omega))) (fun z hz => (hP.pure hi z hz).1) ⟨rfl, rfl, rfl⟩ (fun j hj hne => (Qp (by omega) (Qp (by omega) (Qp (by omega) (Qp (by omega) (Qp (by omega) (Qp (by omega) (Qdz hP.keys hj)))))))) (by repeat (first | exact QA | exact Qft | exact Qe4 | exact Qgy | refine Qp (by omega) ?_)) (by repeat (first | exact QA | exact Qft | exact Qe4 | exact Qgy | refine Qp (by omega) ?_)) (by repeat (first | exact QA | exact Qft | exact Qe4 | exact Qgy | refine Qp (by omega) ?_)) rfl (by decide) (by intro j hj; repeat (first | exact Z2 hP.keys (by omega) (by omega) (by omega) (.inr (by omega)) | refine Zw (by omega) ?_)) (by omega) (by intro p hp j hj; simp only [List.mem_cons, List.not_mem_nil, or_false] at hp; rcases hp with rfl | rfl | rfl | rfl | rfl | rfl <;> first | (simp [D.ids, D.sid] at hj; done) | (simp [D.ids, D.sid] at hj; subst hj; first | exact .inl rfl | exact .inr (.inl rfl) | exact .inr (.inr (.inl rfl)) | exact .inr (.inr (.inr ⟨us[i], List.getElem_mem hi, (hP.keys i hi).symm⟩))))) ?_; have hc2 : QaF us0.length (CandT.mk v sh ([(WantT.mk ((i : Int) - 1) (Xi v.a v.b v.c v.p v.q))] :: ns) []) := (by rw [<- hl]; exact QiK hv hns (by decide) h1i hi); generalize hns2 : ([(WantT.mk ((i : Int) - 1) (Xi v.a v.b v.c v.p v.q))] :: ns) = ns2 at hc2 ⊢) | (refine Qmk (Qf0 (l := [4, 5, 6, 7, 8, 9]) (eu := 74) (ec := 71) (eg := 63) (L := ws) (J := J1) (b4 := ⟨[[.fsl []]], 1, 26, true⟩) (fr' := [(4, .ref 4 0 0), (5, .ref 12 0 0), (6, .osl 500000 us.length), (7, .int .i64 i), (8, .int .i64 k), (9, .ref (500001 + i) k 0)]) (row := [.int .i64 v.a, .int .i64 v.b, .int .i64 v.c, .str v.p, .str v.q, .int .i64 sh, .osl 75 (0 + (ns.map (fun r => [Zc r])).length), .fsl []]) (p := false) 75 (Qiw (CandT.mk v sh ns [])) (kp6 rfl rfl rfl rfl rfl rfl) rfl hP.keys hi hk QA (fun h => by cases h) (Qfi (Qp (by omega) QA) (by first | (simp; done) | (simp; omega))) (fun z hz => (hP.pure hi z hz).1) ⟨rfl, rfl, rfl⟩ (fun j hj hne => (Qp (by omega) (Qp (by omega) (Qp (by omega) (Qdz hP.keys hj))))) (by repeat (first | exact QA | exact Qft | exact Qe4 | exact Qgy | refine Qp (by omega) ?_)) (by repeat (first | exact QA | exact Qft | exact Qe4 | exact Qgy | refine Qp (by omega) ?_)) (by repeat (first | exact QA | exact Qft | exact Qe4 | exact Qgy | refine Qp (by omega) ?_)) rfl (by decide) (by intro j hj; repeat (first | exact Z2 hP.keys (by omega) (by omega) (by omega) (.inr (by omega)) | refine Zw (by omega) ?_)) (by omega) (by intro p hp j hj; simp only [List.mem_cons, List.not_mem_nil, or_false] at hp; rcases hp with rfl | rfl | rfl | rfl | rfl | rfl <;> first | (simp [D.ids, D.sid] at hj; done) | (simp [D.ids, D.sid] at hj; subst hj; first | exact .inl rfl | exact .inr (.inl rfl) | exact .inr (.inr (.inl rfl)) | exact .inr (.inr (.inr ⟨us[i], List.getElem_mem hi, (hP.keys i hi).symm⟩))))) ?_; have hc2 : QaF us0.length (CandT.mk v sh ns []) := (by rw [<- hl]; exact Qex hv hns (by decide)); generalize hns2 : ns = ns2 at hc2 ⊢)
    generalize hus2 : QcQ us i k (Qiw (CandT.mk v sh ns2 [])) = us2
    have hP2 : Prog us0.length us2 i (k + 1) := hus2 ▸ hP.put hi hk ⟨_, rfl, hc2⟩
    have hl2 : us2.length = us.length := by rw [<- hus2, Zx]
    have hi2 : i < us2.length := by omega
    have hk2 : k < us2[i].cs.length := Qjw hi hk hus2 hi2
    have hz2 : us2[i].cs[k] = Qiw (CandT.mk v sh ns2 []) := Qjv hi hk hus2.symm hi2 hk2
    refine Q9 fun K hK => Qa rfl (YI (Qcx (I := J1) rfl Qe4 hL (by omega)) (ZI rfl rfl ?_))
    refine hK _ _ (QQ (kp7 rfl rfl rfl rfl rfl rfl rfl) ?_)
    refine YP rfl (fun h5 => ?_) (fun h5 => ?_)
    ·try rw [h5]
     try simp only [qa, qb, qc, qd, qe, List.length_map] at h5
     refine ZR fun K hK => Qa rfl (Qa rfl (Qa rfl ?_))
     obtain ⟨xb, J3, hxb, hcb⟩ := Qlk (H := (12, gB ws (nxI J1) 63) :: wA (us2) 74 71 63 ws (J1) ⟨[[.fsl []]], 1, 26, true⟩) QA (Qlw hP2.keys hP2.fam).cons ((QaB hP2.keys rfl).pr rfl) hL (by omega) (by omega)
     refine YI (hcb _ _ (by rw [hl2]; rfl) (fun _ _ h => h)) ?_
     refine QH rfl (by repeat (first | exact Z2 hU.keys (by omega) (by omega) (by omega) (.inl (by omega)) | exact Z2 hP.keys (by omega) (by omega) (by omega) (.inl (by omega)) | exact Z2 hP2.keys (by omega) (by omega) (by omega) (.inl (by omega)) | refine Zw (by omega) ?_)) ?_
     refine Yg rfl rfl (Qi rfl (Zu (Qp (by omega) (Qp (by omega) (Qp (by omega) (Qdz hP2.keys hi2))))) (Q7 rfl (Qp (by omega) (Qp (by omega) (Qp (by omega) (Qdz hP2.keys hi2)))) (Qp9 hk2 hz2) rfl rfl rfl rfl rfl (hK _ ?_)))
     refine Qh (Q5 (kp5 rfl rfl rfl rfl rfl) (ZR fun K hK => Qa rfl (QY rfl rfl (by first | exact Qr (by omega) (by omega) | rfl) (Qa rfl (hK _ ?_)))))
     refine Qk (QcQ us2 i k (Qiw (CandT.mk v sh ns2 [xb])), J3, k + 1) ?_ ?_ ?_
     ·exact Qf0 (l := [4, 5, 6, 7, 8]) (row := [.int .i64 v.a, .int .i64 v.b, .int .i64 v.c, .str v.p, .str v.q, .int .i64 sh, QZ ns2, .osl 85 1]) (p := false) 85 (Qiw (CandT.mk v sh ns2 [xb])) (kp5 rfl rfl rfl rfl rfl) (by rw [Zx, hl2] <;> rfl) hP2.keys hi2 hk2 QA (fun h => by cases h) (QmM (Qp (by omega) QA) rfl) (fun z hz => (hP2.pure hi2 z hz).1) ⟨rfl, rfl, rfl⟩ (fun j hj hne => (Qp (by omega) (Qp (by omega) (Qp (by omega) (Qp (by omega) (Qdz hP2.keys hj)))))) (by repeat (first | exact QA | exact Qft | exact Qe4 | exact Qgy | refine Qp (by omega) ?_)) (by repeat (first | exact QA | exact Qft | exact Qe4 | exact Qgy | refine Qp (by omega) ?_)) (by repeat (first | exact QA | exact Qft | exact Qe4 | exact Qgy | refine Qp (by omega) ?_)) rfl (by decide) (by intro j hj; repeat (first | exact Z2 hP2.keys (by omega) (by omega) (by omega) (.inr (by omega)) | refine Zw (by omega) ?_)) (by omega) (by intro p hp j hj; simp only [List.mem_cons, List.not_mem_nil, or_false] at hp; rcases hp with rfl | rfl | rfl | rfl | rfl <;> first | (simp [D.ids, D.sid] at hj; done) | (simp [D.ids, D.sid] at hj; subst hj; first | exact .inl rfl | exact .inr (.inl rfl) | exact .inr (.inr (.inl rfl)) | exact .inr (.inr (.inr ⟨us2[i], List.getElem_mem hi2, (hP2.keys i hi2).symm⟩))))
     ·exact hP2.again hi2 hk2 ⟨_, rfl, QiJ hc2 (by have := hxb; rwa [hl2, hl] at this)⟩
     ·show Qj2 (QcQ us2 i k _) i - (k + 1) < Qj2 us i - k; rw [QaM, <- hus2, QaM, QaW hi]; omega
    ·try rw [h5]
     try simp only [qa, qb, qc, qd, qe, List.length_map] at h5
     refine Y4 (Qh (Q5 (kp5 rfl rfl rfl rfl rfl) (ZR fun K hK => Qa rfl (QY rfl rfl (by first | exact Qr (by omega) (by omega) | rfl) (Qa rfl (hK _ ?_))))))
     refine Qk (us2, nxI J1, k + 1) ?_ ?_ ?_
     ·exact le_trans (Zf (l := [4, 5, 6, 7, 8]) (kp5 rfl rfl rfl rfl rfl)) (QbD (by rw [hl2] <;> rfl) QrK)
     ·exact hP2
     ·show Qj2 us2 i - (k + 1) < Qj2 us i - k; rw [<- hus2, QaM, QaW hi]; omega
  ·try rw [h2]
   try simp only [qa, qb, qc, qd, qe, List.length_map] at h2
   try (have hk : k < us[i].cs.length := (by omega); obtain ⟨v, sh, hz, hv⟩ := hP.fresh i hi k hk (by omega))
   refine QbT (YF (Qx (QE (Qh (Q5 (kp4 rfl rfl rfl rfl) (ZR fun K hK => Qa rfl (QY rfl rfl (by first | exact Qr (by omega) (by omega) | rfl) (Qa rfl (hK _ ?_)))))))))
   refine Qk (us, J, i + 1) ?_ ?_ ?_
   ·exact Zf (l := [4, 5, 6, 7]) (kp4 rfl rfl rfl rfl)
   ·try dsimp only
    exact ⟨hP.next hi (by omega), by omega, by omega⟩
   ·show us0.length - (i + 1) < us0.length - i; omega
 ·try rw [h1]
  try simp only [qa, qb, qc, qd, qe, List.length_map] at h1
  refine QbT (YF (Qx (QE (Q5 (kp2 rfl rfl) ?_))))
  have hend : i = usA.length := by have := hPA.1.len.1; omega
  obtain ⟨w, hwl, hwm, hle⟩ := QoB (eu := 74) (ec := 71) (eg := 63) (L := ws) (J := JA) (b4 := ⟨[[.fsl []]], 1, 26, true⟩) (hend ▸ hPA.1) rfl
  refine Qmk (hle (fr' := [(4, .ref 4 0 0), (6, .osl 500000 usA.length)]) (l := [4, 6]) (kp2 rfl rfl) rfl (by intro p hp j hj; simp only [List.mem_cons, List.not_mem_nil, or_false] at hp; rcases hp with rfl | rfl <;> (simp [D.ids, D.sid] at hj; subst hj; first | exact .inl rfl | exact .inr rfl))) (Q9 fun K hK => Qa rfl (QU rfl rfl (Q7 rfl rfl rfl rfl rfl rfl rfl rfl ?_)))
  refine hK _ _ (QQ (kp1 rfl) ?_)
  refine Qe5 ?_
  refine ⟨_, ⟨w, hwm, rfl⟩, ?_⟩
  exact ZH (cs := [.osl 500000 usA.length]) (ds := [.sl (w.map Ym)]) rfl rfl rfl rfl (by simp [Qa9, D.fz, D.fzS, Qdy, lk, D.can, D.canS, hwl])
end Go.Proofs
namespace M25
open Go Go.Abs M3
/-! ### Trails that may be -/
theorem Qbj {w : Qm} {l : List QK} {s : QK} : Y3 w (l ++ [s]) = (Y3 w l && Qbh w l s) := by
 rw [Qk8, Qk8, List.length_append, List.length_singleton, List.range_succ, List.all_append]
 congr 1
 ·rw [Bool.eq_iff_iff, List.all_eq_true, List.all_eq_true]
  refine forall_congr' fun i => ?_
  constructor
  ·intro h hi
   have := h hi
   rw [List.mem_range] at hi
   rw [Qea (by simp; omega)] at this
   rw [Qea hi]
   rw [List.take_append_of_le_length (by omega), List.getElem_append_left hi] at this
   exact this
  ·intro h hi
   have := h hi
   rw [List.mem_range] at hi
   rw [Qea hi] at this
   rw [Qea (by simp; omega), List.take_append_of_le_length (by omega), List.getElem_append_left hi]
   exact this
 ·simp only [List.all_cons, List.all_nil, Bool.and_true]
  rw [Qea (by simp), List.take_append_of_le_length (Nat.le_refl _), List.take_length, List.getElem_append_right (Nat.le_refl _)]
  simp
theorem QjB {w : Qm} {l : List QK} {s : QK} (h : Qbh w l s = true) : XU s.m (Q8 w l s.u) = s.m := by
 unfold Qbh at h
 simp only [Bool.and_eq_true, decide_eq_true_eq] at h
 exact h.1.2
theorem Qg5 {x y : Int} (h : XU x y = x) (hy : Lo y) : Lo x := by
 have hx : I64 x := by rw [<- h]; exact QhU x y
 refine Lo.of hx fun i hi => ?_
 cases ht : tb x i
 ·rfl
 ·have := (Yu hx).1 h i ht
  rw [hy.hi hi] at this; cases this
theorem Qap {w : Qm} : ∀ (n : Nat) (l : List QK), l.length = n -> Y3 w l = true -> Plain w l
 | 0, l, hl, _ => by rw [List.eq_nil_of_length_eq_zero hl]; intro s hs; cases hs
 | n + 1, l, hl, h => by
  have hne : l ≠ [] := by intro e; subst e; simp at hl
  have e := (List.dropLast_concat_getLast hne).symm
  rw [e, Qbj, Bool.and_eq_true] at h
  have hp := Qap n l.dropLast (by simp [hl]) h.1
  rw [e]
  exact Ql4 hp (Qg5 (QjB h.2) (QaY hp _))
theorem QlL {w : Qm} {l l' : List QK} {t : TermT} {c : Int} (h : Y3 w l = true) (hd : Yq w l t c = some l') : Y3 w l' = true := by
 have hp := Qap _ l rfl h
 unfold Yq at hd
 split at hd
 ·cases hd
 ·rename_i h1
  split at hd
  ·cases hd
  ·rename_i h2
   cases hd
   rw [Qbj, h, Bool.true_and]
   have hin : inW w t.u = true := by
    cases e : inW w t.u
    ·exact absurd (.inr e) h1
    ·rfl
   have hc : ¬ c < 0 := fun e => h1 (.inl e)
   rw [Qch] at hin
   rw [Z1 hin.1 hin.2 (by show -1 <= c; omega)]
   simp only
   rw [if_neg (by omega), Qdw]
   rw [Qdw] at h2
   have hx := QaY hp t.u
   have hb : XU (Qiv (Q8 w l t.u) t.m) (Q8 w l t.u) = Qiv (Q8 w l t.u) t.m := (Yu (QhV _ _)).2 fun i hi => by
    rw [Qls] at hi; simp at hi; exact hi.1
   rw [decide_eq_true hb, decide_eq_false (fun e => h2 (.inl e)), decide_eq_false (fun e => h2 (.inr e))]
   simp
theorem QlJ {w : Qm} {l l' : List QK} {u p : Int} (h : Y3 w l = true) (hd : YL w l u p = some l') : Y3 w l' = true := by
 unfold YL at hd
 split at hd
 ·cases hd
 ·split at hd
  ·cases hd
  ·split at hd
   ·rename_i hs
    cases hd
    rw [Qbj, h, Bool.true_and]; exact hs
   ·cases hd
theorem QlI {w : Qm} {l : List QK} {u p : Int} : ((YL w l u p).getD []).length <= l.length + 1 := by
 unfold YL
 split
 ·simp
 ·split
  ·simp
  ·split <;> simp
theorem QnF {w : Qm} {db : List (List TermT)} : ∀ (n : Nat) {l : List QK}, Y3 w l = true -> Y3 w (Qe9 w db n l).1 = true
 | 0, l, h => h
 | n + 1, l, h => by
  rw [Qe9]
  split
  ·exact h
  ·refine QnF n ?_
   cases hd : Yq w l ⟨(Yr w db l).2, Qd5 w (db.getD (Yr w db l).1.toNat []) (Yr w db l).2⟩ (Yr w db l).1 with
   | none => rfl
   | some l' => exact QlL h hd
def TrOk (w : Qm) (t : List QK) : Prop := Y3 w t = true /\ t.length <= 20000
theorem TrOk.plain {w : Qm} {t : List QK} (h : TrOk w t) : Plain w t := Qap _ t rfl h.1
theorem Qo0 {w : Qm} (hw : w.length <= 48) {db : List (List TermT)} {l : List QK} : (Qge w db l).1.length <= l.length + 865 := by
 have := QnE (w := w) (db := db) (w.length * 18 + 1) l
 unfold Qge; omega
theorem getD_some {α : Type} {o : Option (List α)} (h : o.isSome = true) : o = some (o.getD []) := by
 cases o with
 | none => cases h
 | some x => rfl
theorem Qiq {a : Int} {n : Nat} (h0 : 0 <= a) (hn : 0 < n) : 0 <= a.tmod (n : Int) /\ a.tmod (n : Int) < n :=
 ⟨Int.tmod_nonneg _ h0, Int.tmod_lt_of_pos a (by omega)⟩
end M25
namespace Go.Proofs
open Go Go.Abs M3 M25
set_option linter.unusedVariables false
set_option linter.unusedSimpArgs false
theorem QcT {w : Qm} (hw : WSm w) (h0 : 0 < w.length) {db : List (List TermT)} (hd : db.length <= 100000000) (hi : ∀ x ∈ db, x.length <= 1000000) {l : List Int} (hL : ∀ x ∈ l, I64 x) (hl : l.length <= 1000000) : ∃ d, (∃ t a, TrOk w t /\ d = .tup [Zs t, .int .i64 a]) /\ Ok Tryz.prog 11 [ZP w, dDb db, ZC l] d := by
 refine Ok.ofX (R := fun d => (∃ t a, TrOk w t /\ d = .tup [Zs t, .int .i64 a])) ZQ Tryz.func11 Qs0 (Nat.le_of_ble_eq_true rfl) ?_
 show TX _ _ tf11.body _ _
 have hn := hw.len
 refine Q9 fun K hK => Zo rfl rfl rfl (Qa rfl (Qa rfl ?_))
 refine hK _ _ (QQ (kp3 rfl rfl rfl) ?_)
 refine Q9 fun K hK => Qa rfl ?_
 refine hK _ _ (QQ (kp4 rfl rfl rfl rfl) ?_)
 refine Xy ?_ -- 0
 refine Q9 fun K hK => Qa rfl ?_
 refine hK _ _ (QQ (kp5 rfl rfl rfl rfl rfl) ?_)
 refine Yw ?_
 refine QdA (ι := Nat × List QK) (fun ⟨i, t⟩ => ⟨[(1, dDb db), (2, ZC l), (3, .ref 3 0 0), (8, Zs t), (9, .int .i64 i)], [(3, ⟨[[.sl ((w).map Ym)]], 1, 26, true⟩)]⟩) (fun ⟨i, t⟩ => i <= 12 /\ Y3 w t = true /\ t.length <= i * 1000) (fun ⟨i, t⟩ => 12 - i) (0, []) ?_ ?_ ?_
 ·exact le_trans (Qqj 8 rfl) (Q2 (l := [1, 2, 3, 8, 9]) (lH := [3]) (kp5 rfl rfl rfl rfl rfl) (Qf rfl Qn) rfl rfl rfl)
 ·exact ⟨by decide, rfl, Nat.le_refl _⟩
 intro ⟨i, t⟩ hI
 try dsimp only at hI
 obtain ⟨hI1, hI2, hI3⟩ := hI
 have hrl := Qo0 hn (db := db) (l := t)
 have hrm : Y3 w (Qge w db t).1 = true := QnF _ hI2
 try dsimp only
 refine Xy ?_ -- 1
 refine Q9 fun K hK => Qa rfl (Qa rfl ?_)
 first | refine QR rfl QX ?_ | refine QR rfl rfl ?_
 refine Qpk rfl rfl (Qa rfl ?_)
 refine QB (g := 21) rfl (fun h1 => ?_) (fun h1 => ?_)
 ·try rw [h1]
  try simp only [qa, qb, qc, qd, qe, List.length_map] at h1
  refine Qg rfl (Qa rfl (Qg rfl (Yb rfl rfl (Ql rfl rfl ?_))))
  refine hK _ _ (QQ (kp6 rfl rfl rfl rfl rfl rfl) ?_)
  refine YP rfl (fun h2 => ?_) (fun h2 => ?_)
  ·try rw [h2]
   try simp only [qa, qb, qc, qd, qe, List.length_map] at h2
   refine Y4 (Q5 (kp5 rfl rfl rfl rfl rfl) ?_)
   refine Xy ?_ -- 2
   refine Yw (Q9 fun K hK => QG (cs := [_]) rfl rfl rfl rfl (Qa rfl (Qa rfl (QF (Qdl hw hd hi (by omega)) rfl rfl (.inl rfl) (Qa rfl (Za rfl rfl (Za rfl rfl (Qa rfl (Qa rfl ?_)))))))))
   refine hK _ _ (QQ (kp6 rfl rfl rfl rfl rfl rfl) ?_)
   refine Q9 fun K hK => Qa rfl (Qa rfl ?_)
   refine hK _ _ (QQ (kp6 rfl rfl rfl rfl rfl rfl) ?_)
   refine Xy ?_ -- 3
   refine Q9 fun K hK => Qa rfl (Qdx rfl rfl (Qa rfl ?_))
   refine QB (g := 37) rfl (fun h3 => ?_) (fun h3 => ?_)
   ·try rw [h3]
    try simp only [qa, qb, qc, qd, qe, List.length_map] at h3
    refine Qq rfl (Qq rfl (Qq rfl (Qq rfl (Ql rfl rfl ?_))))
    refine hK _ _ (QQ (kp7 rfl rfl rfl rfl rfl rfl rfl) ?_)
    refine QpX rfl (Q9 fun K hK => Qa rfl (Qa rfl (Qa rfl (Qa rfl ?_))))
    refine hK _ _ (QQ (kp2 rfl rfl) ?_)
    refine Qe5 (QaT (Qt (QaT (Q4 (Qt (QaT ?_))))))
    refine ⟨_, ⟨(Qge w db t).1, (Qge w db t).2, ⟨hrm, by omega⟩, rfl⟩, ?_⟩
    exact QV rfl rfl ⟨rfl, rfl⟩
   ·try rw [h3]
    try simp only [qa, qb, qc, qd, qe, List.length_map] at h3
    refine Qg rfl (Qa rfl (Qg rfl (Qa rfl (Qg rfl ?_))))
    first | refine QR rfl QX ?_ | refine QR rfl rfl ?_
    refine Qg rfl (ZI rfl rfl (Ql rfl rfl ?_))
    refine hK _ _ (QQ (kp7 rfl rfl rfl rfl rfl rfl rfl) ?_)
    refine YP rfl (fun h4 => ?_) (fun h4 => ?_)
    ·try rw [h4]
     try simp only [qa, qb, qc, qd, qe, List.length_map] at h4
     refine Q9 fun K hK => Qa rfl (Qa rfl (Qa rfl (Qa rfl ?_)))
     refine hK _ _ (QQ (kp2 rfl rfl) ?_)
     refine Qe5 (QaT (Qt (QaT (Q4 (Qt (QaT ?_))))))
     refine ⟨_, ⟨(Qge w db t).1, (Qge w db t).2, ⟨hrm, by omega⟩, rfl⟩, ?_⟩
     exact QV rfl rfl ⟨rfl, rfl⟩
    ·try rw [h4]
     try simp only [qa, qb, qc, qd, qe, List.length_map] at h4
     refine Y4 (Q5 (kp5 rfl rfl rfl rfl rfl) (Q9 fun K hK => Qa rfl (Qa rfl (QJ rfl rfl rfl (by omega) (QT (by omega)) rfl (QP (ds0 := [1, 0]) rfl rfl rfl rfl rfl (Qi rfl rfl (QP (ds0 := [2, 1, 0]) rfl rfl rfl rfl rfl ?_)))))))
     first | refine QR rfl QX ?_ | refine QR rfl rfl ?_
     refine QS (ds0 := [0]) (Z3 (by omega) (hL _ (List.getElem_mem (by omega)))) rfl rfl (.inr rfl) rfl rfl (Qa rfl ?_)
     refine hK _ _ (QQ (kp6 rfl rfl rfl rfl rfl rfl) ?_)
     refine Q9 fun K hK => QG (cs := [_]) rfl rfl rfl rfl (Qa rfl (Qa rfl (QF (Z4 hw (by omega)) rfl rfl (.inr rfl) (QF (X5) rfl rfl (.inl rfl) (Qa rfl ?_)))))
     refine hK _ _ (QQ (kp7 rfl rfl rfl rfl rfl rfl rfl) ?_)
     refine Q9 fun K hK => Qa rfl ?_
     refine hK _ _ (QQ (kp8 rfl rfl rfl rfl rfl rfl rfl rfl) ?_)
     refine Yw ?_
     refine QdA (ι := Nat) (fun k => ⟨[(1, dDb db), (2, ZC l), (3, .ref 3 0 0), (8, Zs (Qge w db t).1), (9, .int .i64 i), (12, .int .i64 (mPl (l[i]'(by omega)) w.length)), (13, ZC (Qb0 (Q8 w (Qge w db t).1 (mPl (l[i]'(by omega)) w.length)))), (14, .int .i64 k)], [(3, ⟨[[.sl ((w).map Ym)]], 1, 26, true⟩)]⟩) (fun k => k <= (Qb0 (Q8 w (Qge w db t).1 (mPl (l[i]'(by omega)) w.length))).length) (fun k => (Qb0 (Q8 w (Qge w db t).1 (mPl (l[i]'(by omega)) w.length))).length - k) 0 ?_ ?_ ?_
     ·exact Q2 (l := [1, 2, 3, 8, 9, 12, 13, 14]) (lH := [3]) (kp8 rfl rfl rfl rfl rfl rfl rfl rfl) (Qf rfl Qn) rfl rfl rfl
     ·exact Nat.zero_le _
     intro k hK0
     have hel : (Qb0 (Q8 w (Qge w db t).1 (mPl (l[i]'(by omega)) w.length))).length <= 17 := QeA _ 17
     have hp0 := Qi9 (v := l[i]'(by omega)) (n := 7)
     have hp7 := Qi8 (v := l[i]'(by omega)) (n := 7) (by omega)
     try dsimp only
     refine Xy ?_ -- 4
     refine Q9 fun K hK => Qa rfl (Qa rfl ?_)
     first | refine QR rfl QX ?_ | refine QR rfl rfl ?_
     refine Yb rfl rfl ?_
     refine hK _ _ (QQ (kp9 rfl rfl rfl rfl rfl rfl rfl rfl rfl) ?_)
     refine YP rfl (fun h5 => ?_) (fun h5 => ?_)
     ·try rw [h5]
      try simp only [qa, qb, qc, qd, qe, List.length_map] at h5
      refine Y4 (Q5 (kp8 rfl rfl rfl rfl rfl rfl rfl rfl) ?_)
      refine Xy ?_ -- 5
      refine Yw (Q9 fun K hK => QO (ds0 := [5, 4, 3, 2, 1, 0]) (cs := [_]) rfl rfl rfl rfl rfl rfl (Qa rfl (Qa rfl (Qa rfl (Qa rfl (Qa rfl (Qa rfl (QJ rfl rfl rfl (by omega) (QT (by omega)) rfl (QP (ds0 := [12, 11, 8, 7, 6, 5, 4, 3, 2, 1, 0]) rfl rfl rfl rfl rfl (QS (ds0 := [11, 8, 7, 6, 5, 4, 3, 2, 1, 0]) (Z3 (by omega) (hL _ (List.getElem_mem (by omega)))) rfl rfl (.inr rfl) rfl rfl ?_))))))))))
      refine QY rfl rfl (by first | exact Qr (by omega) (by omega) | rfl) (Qa rfl ?_)
      first | refine QR rfl QX ?_ | refine QR rfl rfl ?_
      refine Qmi rfl rfl (by omega) (QJ rfl rfl rfl (by exact (Qiq (by omega) (by omega)).1) (ZA (Qiq (by omega) (by omega)).1 (Qiq (by omega) (by omega)).2) rfl (QP (ds0 := [5, 4, 3, 2, 1, 0]) rfl rfl rfl rfl rfl (QS (ds0 := [4, 3, 2, 1, 0]) (QbX hw (by omega)) rfl rfl (.inl rfl) rfl rfl (Qa rfl (Za rfl rfl (Za rfl rfl (Qa rfl (Qa rfl ?_))))))))
      refine hK _ _ (QQ (QlU rfl rfl rfl rfl rfl rfl rfl rfl rfl rfl) ?_)
      refine Q9 fun K hK => Qa rfl ?_
      refine hK _ _ (QQ (QlU rfl rfl rfl rfl rfl rfl rfl rfl rfl rfl) ?_)
      refine YP rfl (fun h6 => ?_) (fun h6 => ?_)
      ·try rw [h6]
       try simp only [qa, qb, qc, qd, qe, List.length_map] at h6
       refine Q9 fun K hK => Qa rfl (Qa rfl ?_)
       refine hK _ _ (QQ (kp5 rfl rfl rfl rfl rfl) ?_)
       refine QbT (QlD (by decide) (YF (Qx (QE (Qh (Q5 (kp5 rfl rfl rfl rfl rfl) (ZR fun K hK => Qa rfl (QY rfl rfl (by first | exact Qr (by omega) (by omega) | rfl) (Qa rfl (hK _ ?_))))))))))
       refine Qk (i + 1, ((YL w (Qge w db t).1 (mPl (l[i]'(by omega)) w.length) ((Qb0 (Q8 w (Qge w db t).1 (mPl (l[i]'(by omega)) w.length)))[((k : Int) + (mPl (l[i]'(by omega)) 7)).tmod ((Qb0 (Q8 w (Qge w db t).1 (mPl (l[i]'(by omega)) w.length))).length : Int) |>.toNat]'(by have := Qiq (a := (k : Int) + (mPl (l[i]'(by omega)) 7)) (n := (Qb0 (Q8 w (Qge w db t).1 (mPl (l[i]'(by omega)) w.length))).length) (by omega) (by omega); omega)))).getD []) ?_ ?_ ?_
       ·exact Q2 (l := [1, 2, 3, 8, 9]) (lH := [3]) (kp5 rfl rfl rfl rfl rfl) (Qf rfl Qn) rfl rfl rfl
       ·exact ⟨by show i + 1 <= 12; omega, QlJ hrm (getD_some h6), Nat.le_trans QlI (by omega)⟩
       ·show 12 - (i + 1) < 12 - i; omega
      ·try rw [h6]
       try simp only [qa, qb, qc, qd, qe, List.length_map] at h6
       refine Y4 (Qh (Q5 (kp8 rfl rfl rfl rfl rfl rfl rfl rfl) (ZR fun K hK => Qa rfl (QY rfl rfl (by first | exact Qr (by omega) (by omega) | rfl) (Qa rfl (hK _ ?_))))))
       refine Qk (k + 1) ?_ ?_ ?_
       ·exact Q2 (l := [1, 2, 3, 8, 9, 12, 13, 14]) (lH := [3]) (kp8 rfl rfl rfl rfl rfl rfl rfl rfl) (Qf rfl Qn) rfl rfl rfl
       ·show k + 1 <= _; omega
       ·show (Qb0 (Q8 w (Qge w db t).1 (mPl (l[i]'(by omega)) w.length))).length - (k + 1) < (Qb0 (Q8 w (Qge w db t).1 (mPl (l[i]'(by omega)) w.length))).length - k; omega
     ·try rw [h5]
      try simp only [qa, qb, qc, qd, qe, List.length_map] at h5
      refine QbT (YF (Qx (QE (Qh (Q5 (kp5 rfl rfl rfl rfl rfl) (ZR fun K hK => Qa rfl (QY rfl rfl (by first | exact Qr (by omega) (by omega) | rfl) (Qa rfl (hK _ ?_)))))))))
      refine Qk (i + 1, (Qge w db t).1) ?_ ?_ ?_
      ·exact Q2 (l := [1, 2, 3, 8, 9]) (lH := [3]) (kp5 rfl rfl rfl rfl rfl) (Qf rfl Qn) rfl rfl rfl
      ·exact ⟨by show i + 1 <= 12; omega, hrm, by show (Qge w db t).1.length <= (i + 1) * 1000; omega⟩
      ·show 12 - (i + 1) < 12 - i; omega
  ·try rw [h2]
   try simp only [qa, qb, qc, qd, qe, List.length_map] at h2
   refine QbT (YF (Qx (QE (Q5 (kp1 rfl) (Q9 fun K hK => Qa rfl (Qa rfl (Qa rfl ?_)))))))
   refine hK _ _ (QQ (kp2 rfl rfl) ?_)
   refine Qe5 ?_
   refine ⟨_, ⟨t, -1, ⟨hI2, by omega⟩, rfl⟩, ?_⟩
   exact QV rfl rfl ⟨rfl, rfl⟩
 ·try rw [h1]
  try simp only [qa, qb, qc, qd, qe, List.length_map] at h1
  refine Qq rfl (Qq rfl (Ql rfl rfl ?_))
  refine hK _ _ (QQ (kp6 rfl rfl rfl rfl rfl rfl) ?_)
  refine QjQ rfl (QbT (YF (Qx (QE (Q5 (kp1 rfl) (Q9 fun K hK => Qa rfl (Qa rfl (Qa rfl ?_))))))))
  refine hK _ _ (QQ (kp2 rfl rfl) ?_)
  refine Qe5 ?_
  refine ⟨_, ⟨t, -1, ⟨hI2, by omega⟩, rfl⟩, ?_⟩
  exact QV rfl rfl ⟨rfl, rfl⟩
end Go.Proofs
namespace M25
open Go Go.Abs M3
/-! ### What every program says -/
/-! ### A world's facts, and more -/
def QaQ (w : Qm) (l : List QK) (c : List Int) : Bool := (List.range w.length).all fun k => !decide (XU (Qac w c ((k : Nat) : Int)) (Q8 w l ((k : Nat) : Int)) = 0)
theorem QlC {w : Qm} {l : List QK} {c : List Int} {i : Nat} (h : i < w.length) (h2 : XU (Qac w c ((i : Nat) : Int)) (Q8 w l ((i : Nat) : Int)) = 0) : QaQ w l c = false := by
 unfold QaQ
 rw [Bool.eq_false_iff]
 intro hh
 rw [List.all_eq_true] at hh
 have := hh i (List.mem_range.2 h)
 simp [h2] at this
theorem QjS {w : Qm} {l : List QK} {c : List Int} (h : ∀ i, i < w.length -> ¬ XU (Qac w c ((i : Nat) : Int)) (Q8 w l ((i : Nat) : Int)) = 0) : QaQ w l c = true := by
 unfold QaQ
 rw [List.all_eq_true]
 intro i hi
 simp [h i (List.mem_range.1 hi)]
theorem QjR {w : Qm} {l : List QK} {c : List Int} : QaQ w l c = true ↔ ∀ i, i < w.length -> ¬ XU (Qac w c ((i : Nat) : Int)) (Q8 w l ((i : Nat) : Int)) = 0 := by
 constructor
 ·intro h i hi h2
  rw [QlC hi h2] at h; cases h
 ·exact QjS
end M25
namespace M25
open Go Go.Abs M3
/-! ### What a run is: steps, one open after the other -/
inductive Qn7 (w : Qm) (db : List (List TermT)) : List QK -> List QK -> Prop
 | nil (l : List QK) : Qn7 w db l l
 | cons {l x : List QK} (a k : Nat) (ho : QqY w db l a k) (h : Qn7 w db (l ++ [QsV w l ((db[a]'ho.ha)[k]'ho.hk) a]) x) : Qn7 w db l x
section
variable {w : Qm} {db : List (List TermT)}
def Below (w : Qm) (b l : List QK) : Prop := ∀ u i, tb (Q8 w b u) i = true -> tb (Q8 w l u) i = true
/-! ### Sound: a choice stays -/
theorem Qov {c : List Int} {l : List TermT} : QlX w l c = true ↔ ∀ t ∈ l, ¬ XU (Qac w c t.u) t.m = 0 := by
 simp [QlX, Qh9]
theorem QlB {l : List QK} {c : List Int} : QaQ w l c = true ↔ ∀ u, inW w u = true -> ¬ XU (Qac w c u) (Q8 w l u) = 0 := by
 rw [QjR]
 constructor
 ·intro h u hu
  rw [Qch] at hu
  have := h u.toNat (by omega)
  rwa [Int.toNat_of_nonneg hu.1] at this
 ·exact fun h i hi => h _ (QdV (by omega) (by omega))
end
end M25
namespace M25
open Go Go.Abs M3
end M25
namespace Go.Proofs
open Go Go.Abs M3 M25
set_option linter.unusedVariables false
set_option linter.unusedSimpArgs false
end Go.Proofs
namespace M25
open Go Go.Abs M3
/-! ### Powers of two -/
theorem Qkh : ∀ (n : Nat), n ≠ 0 -> n &&& (n - 1) = 0 -> ∃ k, n = 2 ^ k := by
 intro n
 induction n using Nat.strongRecOn with
 | ind n ih =>
  intro h0 h
  have hd : (n &&& (n - 1)) / 2 = n / 2 &&& (n - 1) / 2 := Nat.and_div_two
  rw [h] at hd
  rcases Nat.mod_two_eq_zero_or_one n with e | e
  ·have h1 : (n - 1) / 2 = n / 2 - 1 := by omega
   rw [h1] at hd
   obtain ⟨k, hk⟩ := ih (n / 2) (by omega) (by omega) hd.symm
   exact ⟨k + 1, by rw [Nat.pow_succ]; omega⟩
  ·have h1 : (n - 1) / 2 = n / 2 := by omega
   rw [h1, Nat.and_self] at hd
   exact ⟨0, by simp; omega⟩
theorem QjT (k : Nat) : 2 ^ k &&& (2 ^ k - 1) = 0 := by
 refine Nat.eq_of_testBit_eq fun i => ?_
 rw [Nat.testBit_and, Nat.testBit_two_pow, Nat.testBit_two_pow_sub_one, Nat.zero_testBit]
 by_cases h : k = i
 ·subst h; simp
 ·simp [h]
theorem QkI {n m : Nat} (hn : n < 9223372036854775808) (hm : m < 9223372036854775808) : XU (n : Int) (m : Int) = ((n &&& m : Nat) : Int) := by
 have h := Nat.and_le_left (n := n) (m := m)
 refine QjF (QhU _ _) ⟨by omega, by omega⟩ fun i => ?_
 rw [QjE]
 by_cases hi : i < 64
 ·rw [QjG _ hi, QjG _ hi, QjG _ hi, Nat.testBit_and]
 ·rw [QnT _ (by omega), QnT _ (by omega), QnT _ (by omega)]; rfl
def mOne (m : Int) : Bool := decide (1 < m) && decide (XU m (m - 1) = 0)
theorem Qqs {m : Int} (h : Lo m) : mOne m = true ↔ ∃ k, 1 <= k /\ k < 17 /\ m = 2 ^ k := by
 obtain ⟨n, rfl⟩ := Int.eq_ofNat_of_zero_le h.1
 have h2 := h.2
 unfold mOne
 simp only [Bool.and_eq_true, decide_eq_true_eq]
 constructor
 ·rintro ⟨h1, hb⟩
  rw [show (n : Int) - 1 = ((n - 1 : Nat) : Int) by omega, QkI (by omega) (by omega)] at hb
  obtain ⟨k, hk⟩ := Qkh n (by omega) (by omega)
  have h17 : (2 : Nat) ^ 17 = 131072 := by decide
  refine ⟨k, ?_, ?_, by rw [hk]; simp⟩
  ·cases k with
   | zero => simp at hk; omega
   | succ k => omega
  ·refine Classical.byContradiction fun hn => ?_
   have := Nat.pow_le_pow_right (show 0 < 2 by omega) (show 17 <= k by omega)
   omega
 ·rintro ⟨k, h1, h3, hk⟩
  have e : n = 2 ^ k := by
   have : ((2 ^ k : Nat) : Int) = (2 : Int) ^ k := by simp
   omega
  have h4 : 2 ^ 1 <= 2 ^ k := Nat.pow_le_pow_right (by omega) h1
  refine ⟨by omega, ?_⟩
  rw [show (n : Int) - 1 = ((n - 1 : Nat) : Int) by omega, QkI (by omega) (by omega), e, QjT]; rfl
theorem QgS {k : Nat} (hk : k < 64) : ∀ n, n <= 64 -> XY (2 ^ k) n = if k < n then [(k : Int) - 1] else []
 | 0, _ => by rw [if_neg (by omega)]; rfl
 | n + 1, hn => by
  rw [XY, QgS hk n (by omega)]
  have hb := QhA (x := (2 : Int) ^ k) (k := n) (by omega)
  rw [Qhp hk] at hb
  by_cases e : n = k
  ·subst e
   rw [if_neg (by omega), if_neg (by rw [hb]; simp), if_pos (by omega)]; rfl
  ·rw [if_pos (hb.2 (decide_eq_false e)), List.append_nil]
   by_cases h : k < n
   ·rw [if_pos h, if_pos (by omega)]
   ·rw [if_neg h, if_neg (by omega)]
theorem Qji {k : Nat} (hk : k < 17) : X3 (2 ^ k) = (k : Int) - 1 := by
 rw [X3, Qb0, QgS (by omega) 17 (by omega), if_pos hk]; rfl
theorem QeB {m x : Int} : ∀ n, n <= 64 -> (x ∈ XY m n ↔ ∃ k, k < n /\ tb m k = true /\ x = (k : Int) - 1)
 | 0, _ => by simp [XY]
 | n + 1, hn => by
  rw [XY, List.mem_append, QeB n (by omega)]
  have hb := QhA (x := m) (k := n) (by omega)
  constructor
  ·rintro (⟨k, h1, h2, h3⟩ | h)
   ·exact ⟨k, by omega, h2, h3⟩
   ·split at h
    ·cases h
    ·rename_i hn2
     simp only [List.mem_singleton] at h
     refine ⟨n, by omega, ?_, h⟩
     cases ht : tb m n
     ·exact absurd (hb.2 ht) hn2
     ·rfl
  ·rintro ⟨k, h1, h2, h3⟩
   by_cases e : k = n
   ·subst e
    right
    rw [if_neg (by rw [hb, h2]; simp), h3]; simp
   ·exact .inl ⟨k, by omega, h2, h3⟩
theorem QoN : ∀ {l : List Int}, 0 <= Ql3 l -> ∃ x, l = [x] /\ 0 <= x
 | [], h => by simp [Ql3] at h
 | [x], h => ⟨x, rfl, h⟩
 | _ :: _ :: _, h => by simp [Ql3] at h
theorem Qns {m : Int} (h : Lo m) : 0 <= X3 m ↔ ∃ k, 1 <= k /\ k < 17 /\ m = 2 ^ k := by
 constructor
 ·intro hp
  obtain ⟨x, hx, h0⟩ := QoN hp
  have hm := QeB (m := m) (x := x) 17 (by omega)
  rw [<- Qb0, hx] at hm
  obtain ⟨k, h1, h2, h3⟩ := hm.1 (by simp)
  refine ⟨k, by omega, h1, QjF h.i64 (Qm7 (by omega)).i64 fun i => ?_⟩
  rw [Qhp (by omega)]
  by_cases e : i = k
  ·subst e; simp [h2]
  ·rw [decide_eq_false e]
   cases hi : tb m i
   ·rfl
   ·exfalso
    have hi17 : i < 17 := Classical.byContradiction fun hn => by rw [h.hi (by omega)] at hi; cases hi
    have := (QeB (m := m) (x := (i : Int) - 1) 17 (by omega)).2 ⟨i, hi17, hi, rfl⟩
    rw [<- Qb0, hx, List.mem_singleton] at this
    omega
 ·rintro ⟨k, h1, h2, rfl⟩
  rw [Qji h2]; omega
theorem Qru {m : Int} (h : Lo m) : mOne m = decide (0 <= X3 m) := by
 rw [Bool.eq_iff_iff, Qqs h, decide_eq_true_eq, Qns h]
/-! ### Qn7 that may be: the program's -/
def mFits (w : Qm) (l : List QK) (s : QK) : Bool :=
 if Yz w s.u = 0 \/ s.c < -1 \/ s.m = 0 \/ ¬ Qiv s.m (QaR w l s.u) = 0 then false
 else if s.c = -1 then mOne s.m && !Xt l s.u && decide (s.l = IntKind.i64.wrap (YZ l + 1))
 else !decide (s.m = QaR w l s.u) && decide (s.l = YZ l)
theorem Qqe {w : Qm} {l : List QK} {s : QK} (hl : Plain w l) (hs : I64 s.m) : mFits w l s = Qbh w l s := by
 unfold mFits
 by_cases h1 : Yz w s.u = 0
 ·rw [if_pos (.inl h1)]
  rw [XZ] at h1
  unfold Qbh; rw [h1]; rfl
 ·have hin : inW w s.u = true := by
   cases e : inW w s.u
   ·exact absurd (XZ.2 e) h1
   ·rfl
  rw [Qh1 hin]
  have hi := Qch.1 hin
  by_cases h2 : s.c < -1
  ·rw [if_pos (.inr (.inl h2)), Xc (.inr (.inr h2))]
  ·rw [Z1 hi.1 hi.2 (by omega)]
   have hlo := QaY hl s.u
   have hb : Qiv s.m (Q8 w l s.u) = 0 ↔ XU s.m (Q8 w l s.u) = s.m := not_zero.trans (Yu hs).symm
   by_cases h4 : Qiv s.m (Q8 w l s.u) = 0
   ·have hlm : Lo s.m := Qg5 (hb.1 h4) hlo
    rw [decide_eq_true (hb.1 h4), Bool.true_and]
    by_cases h3 : s.m = 0
    ·rw [if_pos (.inr (.inr (.inl h3)))]
     rw [h3]
     split
     ·have : X3 0 = -1 := by decide
      rw [this]; rfl
     ·simp
    ·rw [if_neg (by simp [h1, h2, h3, h4])]
     split
     ·rw [Qru hlm]
     ·rw [decide_eq_false h3]; rfl
   ·rw [if_pos (.inr (.inr (.inr h4))), decide_eq_false (fun e => h4 (hb.2 e))]; rfl
def QiR (w : Qm) (l : List QK) (i : Nat) : Bool := match l[i]? with
 | some s => mFits w (l.take i) s
 | none => true
theorem QfR {w : Qm} {l : List QK} {i : Nat} (h : i < l.length) : QiR w l i = mFits w (l.take i) l[i] := by
 rw [QiR, List.getElem?_eq_getElem h]
def QoI (w : Qm) (l : List QK) : Bool := (List.range l.length).all (QiR w l)
theorem Qjc {w : Qm} {l : List QK} (hI : ∀ s ∈ l, I64 s.m) : ∀ n, n <= l.length -> (List.range n).all (QiR w l) = Y3 w (l.take n)
 | 0, _ => rfl
 | n + 1, hn => by
  have ih := Qjc (w := w) hI n (by omega)
  rw [List.range_succ, List.all_append, ih, List.take_succ_eq_append_getElem (by omega), Qbj]
  cases hm : Y3 w (l.take n)
  ·rfl
  ·simp only [List.all_cons, List.all_nil, Bool.and_true, Bool.true_and]
   rw [QfR (by omega), Qqe (Qap _ _ rfl hm) (hI _ (List.getElem_mem _))]
theorem Qlc {w : Qm} {l : List QK} (hI : ∀ s ∈ l, I64 s.m) : QoI w l = Y3 w l := by
 rw [QoI, Qjc hI l.length (Nat.le_refl _), List.take_length]
/-! ### Deciding -/
def Y8 (w : Qm) (l : List QK) (u p : Int) : Option (List QK) := match uAt w u with
 | none => none
 | some x => if p < 0 \/ (x.cs.length : Int) <= p then none
  else if XU (Q8 w l u) (2 ^ (p + 1).toNat) = 0 \/ Xt l u = true then none else some (l ++ [⟨u, 2 ^ (p + 1).toNat, IntKind.i64.wrap (YZ l + 1), -1⟩])
theorem Qrh {p : Int} (h0 : 0 <= p) (h1 : p < 16) : IntKind.i64.wrap (2 * 2 ^ min p.toNat 64) = 2 ^ (p + 1).toNat := by
 rw [show min p.toNat 64 = p.toNat by omega, show (p + 1).toNat = p.toNat + 1 by omega, Int.pow_succ, Int.mul_comm]
 have := Qm7 (k := p.toNat + 1) (by omega)
 rw [Int.pow_succ] at this
 exact QkZ this.i64
theorem Qbd {w : Qm} (hw : ∀ u ∈ w, u.cs.length <= 16) {l : List QK} (hl : Plain w l) (u p : Int) : Y8 w l u p = YL w l u p := by
 unfold Y8 YL
 cases hu : uAt w u with
 | none => rfl
 | some x =>
  simp only
  by_cases hp : p < 0 \/ (x.cs.length : Int) <= p
  ·rw [if_pos hp, if_pos hp]
  ·rw [if_neg hp, if_neg hp]
   have hux : 0 <= u /\ u < w.length /\ x ∈ w := by
    unfold uAt at hu
    split at hu
    ·cases hu
    ·have := (List.getElem?_eq_some_iff.1 hu).1
     exact ⟨by omega, by omega, List.mem_of_getElem? hu⟩
   have hx := hw x hux.2.2
   rw [Qrh (by omega) (by omega)]
   have hk : (p + 1).toNat < 17 := by omega
   have hlm : Lo ((2 : Int) ^ (p + 1).toNat) := Qm7 (by omega)
   rw [Z1 hux.1 hux.2.1 (by show (-1 : Int) <= -1; omega)]
   simp only [if_true]
   have hb : XU (Q8 w l u) (2 ^ (p + 1).toNat) = 0 ↔ tb (Q8 w l u) (p + 1).toNat = false := QhA (by omega)
   have hb2 : XU (2 ^ (p + 1).toNat) (Q8 w l u) = 2 ^ (p + 1).toNat ↔ tb (Q8 w l u) (p + 1).toNat = true := by
    rw [Yu hlm.i64]
    constructor
    ·intro h; exact h _ (by rw [Qhp (by omega)]; simp)
    ·intro h i hi
     rw [Qhp (by omega)] at hi
     rw [of_decide_eq_true hi]; exact h
   have hpl : decide (0 <= X3 (2 ^ (p + 1).toNat)) = true := by rw [decide_eq_true_eq, Qji hk]; omega
   rw [hpl]
   cases ht : tb (Q8 w l u) (p + 1).toNat
   ·rw [if_pos (.inl (hb.2 ht)), if_neg (by rw [decide_eq_false (by rw [hb2, ht]; simp)]; simp)]
   ·have h1 : ¬ XU (Q8 w l u) (2 ^ (p + 1).toNat) = 0 := by rw [hb, ht]; simp
    cases hd : Xt l u
    ·rw [if_neg (by simp [h1]), decide_eq_true (hb2.2 ht)]; simp
    ·rw [if_pos (.inr rfl)]; simp
end M25
namespace M25
open Go Go.Abs M3
/-! ### Back, Sure, When -/
/-! ### What valid trails are -/
theorem Qie {w : Qm} : ∀ (n : Nat) {l : List QK}, Y3 w l = true -> Y3 w (l.take n) = true := by
 intro n l
 by_cases hn : l.length <= n
 ·intro h; rw [List.take_of_length_le hn]; exact h
 ·intro h
  have hall : ∀ (k : Nat) (l : List QK), Y3 w l = true -> l.length <= n + k -> Y3 w (l.take n) = true := by
   intro k
   induction k with
   | zero => intro l h hl; rw [List.take_of_length_le (by omega)]; exact h
   | succ k ih =>
    intro l h hl
    by_cases hn : l.length <= n
    ·rw [List.take_of_length_le hn]; exact h
    ·have hne : l ≠ [] := by intro e; subst e; simp at hn
     have e := (List.dropLast_concat_getLast hne).symm
     rw [e, Qbj, Bool.and_eq_true] at h
     have := ih l.dropLast h.1 (by simp; omega)
     rw [e, List.take_append_of_le_length (by simp; omega)]
     exact this
  exact hall l.length l h (by omega)
theorem QpF {w : Qm} {l : List QK} {i : Nat} (h : Y3 w l = true) (hi : i < l.length) : Qbh w (l.take i) l[i] = true := by
 have := Qie (i + 1) h
 rw [List.take_succ_eq_append_getElem hi, Qbj, Bool.and_eq_true] at this
 exact this.2
theorem Qo6 {w : Qm} {l : List QK} {s : QK} (h : Qbh w l s = true) {i : Nat} (hi : tb s.m i = true) : tb (Q8 w l s.u) i = true := by
 have h1 := QjB h
 have : tb (XU s.m (Q8 w l s.u)) i = true := by rw [h1]; exact hi
 rw [QjE, Bool.and_eq_true] at this
 exact this.2
theorem QqC {w : Qm} {l : List QK} {s : QK} (h : Qbh w l s = true) : s.m ≠ 0 := by
 intro h0
 unfold Qbh at h
 rw [Bool.and_eq_true] at h
 have h2 := h.2
 split at h2
 ·rw [h0, show X3 0 = -1 from by decide] at h2; simp at h2
 ·rw [h0] at h2; simp at h2
theorem Qm5 {w : Qm} {l : List QK} (h : Y3 w l = true) {n k : Nat} (hnk : n <= k) {u : Int} {i : Nat} (hi : tb (Q8 w (l.take k) u) i = true) : tb (Q8 w (l.take n) u) i = true := by
 have key : ∀ d, tb (Q8 w (l.take (n + d)) u) i = true -> tb (Q8 w (l.take n) u) i = true := by
  intro d
  induction d with
  | zero => exact fun h => h
  | succ d ih =>
   intro hi
   refine ih ?_
   by_cases hl : n + d < l.length
   ·rw [show n + (d + 1) = n + d + 1 by omega, List.take_succ_eq_append_getElem hl, Qcn] at hi
    split at hi
    ·rename_i hu
     have := Qo6 (QpF h hl) hi
     rw [hu.1] at this; exact this
    ·exact hi
   ·rw [List.take_of_length_le (by omega)] at hi ⊢; exact hi
 exact key (k - n) (by rw [show n + (k - n) = k by omega]; exact hi)
theorem Qqk {w : Qm} {l : List QK} (h : Y3 w l = true) {u : Int} (hu : inW w u = true) : Q8 w l u ≠ 0 := by
 have key : ∀ n, Q8 w (l.take n) u ≠ 0 := by
  intro n
  induction n with
  | zero =>
   show Yz w u ≠ 0
   intro e; rw [XZ, hu] at e; cases e
  | succ n ih =>
   by_cases hl : n < l.length
   ·rw [List.take_succ_eq_append_getElem hl, Qcn]
    split
    ·exact QqC (QpF h hl)
    ·exact ih
   ·rw [List.take_of_length_le (by omega)] at ih ⊢; exact ih
 have := key l.length
 rwa [List.take_length] at this
theorem QnQ {w : Qm} {l : List QK} (h : Y3 w l = true) {inc : List TermT} {n k : Nat} (hnk : n <= k) (hs : XK w (l.take n) inc = true) : XK w (l.take k) inc = true := by
 rw [Qpa] at hs ⊢
 intro t ht
 have h1 := Qgu.1 (hs t ht)
 have hp : ∀ n, Plain w (l.take n) := fun n => Qap _ _ rfl (Qie n h)
 rw [Yu (QaY (hp n) _).i64] at h1
 rw [Qgu, Yu (QaY (hp k) _).i64]
 exact fun i hi => h1 i (Qm5 h hnk hi)
def XH (w : Qm) (l : List QK) (inc : List TermT) : Nat -> Nat -> Int
 | 0, _ => -1
 | r + 1, n => if XK w (l.take n) inc = true then n else XH w l inc r (n + 1)
def Qcw (w : Qm) (l : List QK) (inc : List TermT) : Int := XH w l inc (l.length + 1) 0
theorem Qpf {w : Qm} {l : List QK} {inc : List TermT} {n : Nat} (hn : n < l.length + 1) (hs : XK w (l.take n) inc = true) (h : Qcw w l inc = XH w l inc (l.length + 1 - n) n) : Qcw w l inc = n := by
 rw [h, show l.length + 1 - n = (l.length - n) + 1 by omega, XH, if_pos hs]
theorem QqI {w : Qm} {l : List QK} {inc : List TermT} {n : Nat} (hn : n < l.length + 1) (hs : XK w (l.take n) inc = false) (h : Qcw w l inc = XH w l inc (l.length + 1 - n) n) : Qcw w l inc = XH w l inc (l.length + 1 - (n + 1)) (n + 1) := by
 rw [h, show l.length + 1 - n = (l.length - n) + 1 by omega, XH, if_neg (by rw [hs]; simp), show l.length + 1 - (n + 1) = l.length - n by omega]
theorem Qpe {w : Qm} {l : List QK} {inc : List TermT} {n : Nat} (hn : l.length + 1 <= n) (h : Qcw w l inc = XH w l inc (l.length + 1 - n) n) : Qcw w l inc = -1 := by
 rw [h, show l.length + 1 - n = 0 by omega, XH]
theorem Qgv {w : Qm} {l : List QK} {inc : List TermT} (h : Y3 w l = true) {k : Nat} (hk : k <= l.length) : XK w (l.take k) inc = (decide (0 <= Qcw w l inc) && decide (Qcw w l inc <= k)) := by
 have key : ∀ r n, n + r = l.length + 1 -> (∀ j, j < n -> XK w (l.take j) inc = false) -> XK w (l.take k) inc = (decide (0 <= XH w l inc r n) && decide (XH w l inc r n <= k)) := by
  intro r
  induction r with
  | zero =>
   intro n hn ha
   rw [XH, ha k (by omega)]; simp
  | succ r ih =>
   intro n hn ha
   rw [XH]
   split
   ·rename_i hs
    by_cases hnk : n <= k
    ·rw [QnQ h hnk hs]; simp; omega
    ·rw [ha k (by omega)]; simp; omega
   ·rename_i hs
    refine ih (n + 1) (by omega) fun j hj => ?_
    by_cases e : j = n
    ·subst e; simpa using hs
    ·exact ha j (by omega)
 exact key (l.length + 1) 0 (by omega) fun j hj => by omega
theorem Qlx (w : Qm) (l : List QK) (inc : List TermT) : -1 <= Qcw w l inc /\ Qcw w l inc <= l.length := by
 have key : ∀ r n, n + r = l.length + 1 -> -1 <= XH w l inc r n /\ XH w l inc r n <= l.length := by
  intro r
  induction r with
  | zero => intro n _; rw [XH]; omega
  | succ r ih =>
   intro n hn
   rw [XH]
   split
   ·omega
   ·exact ih (n + 1) (by omega)
 exact key _ 0 (by omega)
def QaN (w : Qm) (l : List QK) (inc : List TermT) (n : Nat) : List Int := inc.map fun t => Q8 w (l.take n) t.u
theorem Yp (w : Qm) (l : List QK) (inc : List TermT) (n : Nat) : (QaN w l inc n).length = inc.length := by simp [QaN]
def Qb2 (w : Qm) (l : List QK) (inc : List TermT) (n k : Nat) : List Int := (QaN w l inc n).take k ++ (QaN w l inc (n - 1)).drop k
theorem Qfp {w : Qm} {l : List QK} {inc : List TermT} {n k : Nat} (hk : k <= inc.length) : (Qb2 w l inc n k).length = inc.length := by
 simp [Qb2, Yp]; omega
theorem Qje (w : Qm) (l : List QK) (inc : List TermT) (n : Nat) : Qb2 w l inc n 0 = QaN w l inc (n - 1) := by simp [Qb2]
theorem Qlf {w : Qm} {l : List QK} {inc : List TermT} {n k : Nat} (hk : inc.length <= k) : Qb2 w l inc n k = QaN w l inc n := by
 rw [Qb2, List.take_of_length_le (by rw [Yp]; exact hk), List.drop_eq_nil_of_le (by rw [Yp]; exact hk), List.append_nil]
theorem Qkd {w : Qm} {l : List QK} {inc : List TermT} {n k : Nat} (hk : k < inc.length) (h : k < (Qb2 w l inc n k).length) : (Qb2 w l inc n k)[k] = Q8 w (l.take (n - 1)) inc[k].u := by
 simp only [Qb2]
 rw [List.getElem_append_right (by simp [Yp]; omega)]
 simp [QaN, Yp, List.length_take, Nat.min_eq_left (show k <= inc.length by omega)]
theorem Qnk {w : Qm} {l : List QK} {inc : List TermT} {n k : Nat} (hk : k < inc.length) : Qb2 w l inc n (k + 1) = (Qb2 w l inc n k).set k (Q8 w (l.take n) inc[k].u) := by
 have h1 : k < (QaN w l inc n).length := by rw [Yp]; exact hk
 have h2 : k < (QaN w l inc (n - 1)).length := by rw [Yp]; exact hk
 rw [Qb2, Qb2, List.take_succ_eq_append_getElem h1, List.drop_eq_getElem_cons h2]
 rw [List.set_append_right _ _ (by simp [Yp]; omega)]
 simp [Yp, Nat.min_eq_left (show k <= inc.length by omega), QaN]
theorem Qgg {w : Qm} {l : List QK} {inc : List TermT} {n k : Nat} (hk : k < inc.length) (h : Q8 w (l.take n) inc[k].u = Q8 w (l.take (n - 1)) inc[k].u) : Qb2 w l inc n (k + 1) = Qb2 w l inc n k := by
 rw [Qnk hk, h, <- Qkd hk (by rw [Qfp (by omega)]; exact hk), List.set_getElem_self]
theorem Qf4 {w : Qm} {l : List QK} {n : Nat} (h0 : 0 < n) (hn : n <= l.length) (u : Int) : Q8 w (l.take n) u = if (l[n - 1]'(by omega)).u = u /\ inW w u = true then (l[n - 1]'(by omega)).m else Q8 w (l.take (n - 1)) u := by
 rw [QcB (k := n - 1) (by omega) (by omega), Qcn]
theorem QnZ {w : Qm} {l : List QK} (h : Y3 w l = true) {n : Nat} {u : Int} : Q8 w (l.take n) u = 0 ↔ inW w u = false := by
 constructor
 ·intro e
  cases hu : inW w u
  ·rfl
  ·exact absurd e (Qqk (Qie n h) hu)
 ·exact Qh2
/-! ### Levels -/
end M25
namespace M25
open Go Go.Abs M3
def QoH {α : Type} (p : α -> Bool) (l : List α) : Int := match l.findIdx? p with
 | some i => i
 | none => -1
theorem Qdc {α : Type} {p : α -> Bool} {l : List α} {i : Nat} (h : i < l.length) (ha : (l.take i).any p = false) (hp : p l[i] = true) : QoH p l = i := by
 have e : l.findIdx? p = some i := by
  rw [List.findIdx?_eq_some_iff_getElem]
  refine ⟨h, hp, fun j hj => ?_⟩
  have := List.any_eq_false.1 ha l[j] (by
   rw [List.mem_take_iff_getElem]
   exact ⟨j, by omega, rfl⟩)
  simpa using this
 rw [QoH, e]
theorem QpA {α : Type} {p : α -> Bool} {l : List α} {i : Nat} (h : l.length <= i) (ha : (l.take i).any p = false) : QoH p l = -1 := by
 have e : l.findIdx? p = none := by
  rw [List.findIdx?_eq_none_iff]
  rw [List.take_of_length_le h] at ha
  intro x hx
  simpa using List.any_eq_false.1 ha x hx
 rw [QoH, e]
theorem QmX {α : Type} (p : α -> Bool) (l : List α) : decide (QoH p l >= 0) = l.any p := by
 cases e : l.findIdx? p with
 | none =>
  rw [QoH, e]
  rw [List.findIdx?_eq_none_iff] at e
  have : l.any p = false := List.any_eq_false.2 fun x hx => by simpa using e x hx
  rw [this]; rfl
 | some i =>
  rw [QoH, e]
  rw [List.findIdx?_eq_some_iff_getElem] at e
  obtain ⟨h, hp, _⟩ := e
  rw [Qhw h hp]
  simp
theorem Qo9 {w : Qm} {l : List QK} {inc : List TermT} (hp : Plain w l) : (!inc.any fun t => !decide (QaZ (Q8 w l t.u) t.m = 2)) = XK w l inc := by
 rw [XK]
 induction inc with
 | nil => rfl
 | cons t r ih =>
  rw [List.any_cons, List.all_cons, <- ih, Qlt (QaY hp t.u).i64]
  cases decide (XF (Q8 w l t.u) t.m = 2) <;> simp
theorem Qis {w : Qm} {u : Int} (h0 : 0 <= u) (h1 : u < w.length) : uAt w u = some (w[u.toNat]'(by omega)) := by
 rw [uAt, if_neg (by omega), List.getElem?_eq_getElem]
theorem Qoi {w : Qm} {l : List QK} {u p : Int} (h : Yz w u = 0) : Y8 w l u p = none := by
 have h2 : uAt w u = none := by
  have hi := XZ.1 h
  rw [uAt]
  split
  ·rfl
  ·refine List.getElem?_eq_none ?_
   apply Classical.byContradiction
   intro hn
   rw [QdV (by omega) (by omega)] at hi
   cases hi
 rw [Y8, h2]
theorem Qoh {w : Qm} {l : List QK} {u p : Int} (h : p < 0) : Y8 w l u p = none := by
 rw [Y8]
 split
 ·rfl
 ·rw [if_pos (.inl h)]
theorem Qog {w : Qm} {l : List QK} {u p : Int} (h0 : 0 <= u) (h1 : u < w.length) (h : ((w[u.toNat]'(by omega)).cs.length : Int) <= p) : Y8 w l u p = none := by
 rw [Y8, Qis h0 h1]; exact if_pos (.inr h)
theorem Qmx {w : Qm} {l : List QK} {u p : Int} (h0 : 0 <= u) (h1 : u < w.length) (h2 : 0 <= p) (h3 : p < (w[u.toNat]'(by omega)).cs.length) (h : XU (Q8 w l u) (2 ^ (p + 1).toNat) = 0 \/ Xt l u = true) : Y8 w l u p = none := by
 rw [Y8, Qis h0 h1]; dsimp only; rw [if_neg (by omega), if_pos h]
theorem Qoj {w : Qm} {l : List QK} {u p : Int} (h0 : 0 <= u) (h1 : u < w.length) (h2 : 0 <= p) (h3 : p < (w[u.toNat]'(by omega)).cs.length) (h4 : ¬ XU (Q8 w l u) (2 ^ (p + 1).toNat) = 0) (h5 : Xt l u = false) :
  Y8 w l u p = some (l ++ [⟨u, 2 ^ (p + 1).toNat, IntKind.i64.wrap (YZ l + 1), -1⟩]) := by
 rw [Y8, Qis h0 h1]; dsimp only; rw [if_neg (by omega), if_neg (by simp [h4, h5])]
theorem Qra {w : Qm} {l : List QK} {u : Int} (h : inW w u = true) (m : Int) : XU (QaR w l u) m = XU (Q8 w l u) m := by rw [Qh1 h]
theorem Qqf {w : Qm} {u : Int} (h : ¬ Yz w u = 0) : inW w u = true /\ 0 <= u /\ u < w.length := by
 have e : inW w u = true := by
  cases e : inW w u
  ·exact absurd (XZ.2 e) h
  ·rfl
 exact ⟨e, Qch.1 e⟩
/-! ### The first row of lefts -/
def Qe8 (w : Qm) (inc : List TermT) (i : Nat) : List Int := (inc.take i).map (fun t => Yz w t.u) ++ List.replicate (inc.length - i) 0
theorem QmL (w : Qm) (inc : List TermT) {i : Nat} (h : i <= inc.length) : (Qe8 w inc i).length = inc.length := by simp [Qe8]; omega
theorem QgW (w : Qm) (inc : List TermT) : Qe8 w inc 0 = List.replicate inc.length 0 := by simp [Qe8]
theorem QiQ {w : Qm} {inc : List TermT} {i : Nat} (h : inc.length <= i) (l : List QK) : Qe8 w inc i = QaN w l inc 0 := by
 rw [Qe8, List.take_of_length_le h, show inc.length - i = 0 by omega, List.replicate_zero, List.append_nil]
 refine List.map_congr_left fun t _ => ?_
 rw [List.take_zero]; rfl
theorem QkU {w : Qm} {inc : List TermT} {i : Nat} (h : i < inc.length) : Qe8 w inc (i + 1) = (Qe8 w inc i).set i (Yz w inc[i].u) := by
 rw [Qe8, Qe8, List.set_append_right _ _ (by simp; omega), List.take_succ_eq_append_getElem h, List.map_append, show inc.length - i = (inc.length - (i + 1)) + 1 by omega, List.replicate_succ]
 simp [List.length_take, Nat.min_eq_left (Nat.le_of_lt h)]
end M25
