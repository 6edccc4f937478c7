/- Part 4 of the means of the proof: a verified abstract evaluator, the prepared functions, and contracts of functions. It states nothing of the claim by itself. -/
import Derived.Test.YtnkkhniiddjibaaGreatB3
set_option linter.unusedSimpArgs false
set_option linter.unusedVariables false
namespace Go.Proofs
open Go Go.Abs M3 M25
set_option linter.unusedVariables false
set_option linter.unusedSimpArgs false
theorem XX {e a b c : Int} {p q : List UInt8} {f : Bool} : Ok Tryz.prog 103 [.agg [.int .i64 e, .int .i64 a, .int .i64 b, .int .i64 c, .str p, .str q, .bool f]] (.bool (QgV e a b c p q f)) := by
 refine Ok.ofT Z1 Tryz.func103 Qrn (Nat.le_of_ble_eq_true rfl) ?_
 show TW _ _ tf103.body _ _
 refine Qf fun K hK => Zx rfl rfl rfl (Qa rfl ?_)
 refine hK _ _ (Qb (kp1 rfl) ?_)
 refine Qf fun K hK => Qh rfl rfl (QA rfl rfl rfl (XM rfl rfl (Qa rfl ?_)))
 refine QE (g := 6) rfl (fun h1 => ?_) (fun h1 => ?_)
 ·try rw [h1]
  try simp only [qa, qb, qc, qd, qe] at h1
  refine Qs rfl (Qs rfl (Qs rfl (Qs rfl (Zy rfl (Zy rfl (Zy rfl (Zy rfl (Qs rfl (Qs rfl (Zy rfl (Zy rfl ?_)))))))))))
  refine Zy rfl (Zy rfl (Qs rfl (Qp rfl rfl (Qa rfl ?_))))
  refine hK _ _ (Qb (kp1 rfl) ?_)
  refine Qu (Qt rfl ?_)
  simp_all [QgV]
 ·try rw [h1]
  try simp only [qa, qb, qc, qd, qe] at h1
  refine Qj rfl (Qh rfl rfl (Qj rfl (QA rfl rfl rfl (Qj rfl (Yp rfl (Qj rfl (Qa rfl ?_)))))))
  refine QE (g := 10) rfl (fun h2 => ?_) (fun h2 => ?_)
  ·try rw [h2]
   try simp only [qa, qb, qc, qd, qe] at h2
   refine Qj rfl (Qh rfl rfl (Qj rfl (Qh rfl rfl (Qj rfl (QA rfl rfl rfl (Qj rfl (Qhe rfl rfl (Qj rfl (Qp rfl rfl (Qj rfl (Qa rfl ?_)))))))))))
   refine QE (g := 16) rfl (fun h3 => ?_) (fun h3 => ?_)
   ·try rw [h3]
    try simp only [qa, qb, qc, qd, qe] at h3
    refine Qj rfl (Qh rfl rfl (Qj rfl (QH (cs := [_, _, _, _, _]) rfl rfl rfl rfl (Qj rfl (QI (XW) rfl rfl (.inr rfl) (Qj rfl (Yp rfl (Qj rfl (Qp rfl rfl (Qp rfl rfl (Qa rfl ?_)))))))))))
    refine hK _ _ (Qb (kp1 rfl) ?_)
    refine Qu (Qt rfl ?_)
    simp_all [QgV]
   ·try rw [h3]
    try simp only [qa, qb, qc, qd, qe] at h3
    refine Qs rfl (Qs rfl (Qs rfl (Qs rfl (Qj rfl (Qp rfl rfl (Qp rfl rfl (Qa rfl ?_)))))))
    refine hK _ _ (Qb (kp1 rfl) ?_)
    refine Qu (Qt rfl ?_)
    simp_all [QgV]
  ·try rw [h2]
   try simp only [qa, qb, qc, qd, qe] at h2
   refine Qs rfl (Qs rfl (Qs rfl (Qs rfl (Qj rfl (Qp rfl rfl (Qj rfl (Qa rfl (Qs rfl (Qs rfl (Qs rfl (Qs rfl ?_)))))))))))
   refine Qj rfl (Qp rfl rfl (Qp rfl rfl (Qa rfl ?_)))
   refine hK _ _ (Qb (kp1 rfl) ?_)
   refine Qu (Qt rfl ?_)
   simp_all [QgV]
theorem QcW {a b c : Int} {p q : List UInt8} : Ok Tryz.prog 59 [.agg [.int .i64 a, .int .i64 b, .int .i64 c, .str p, .str q]] (.agg (dCu (Qf1 a b c))) := by
 refine Ok.ofT Z1 Tryz.func59 Qst (Nat.le_of_ble_eq_true rfl) ?_
 show TW _ _ tf59.body _ _
 refine Qf fun K hK => Zx rfl rfl rfl (ZD rfl ?_)
 refine hK _ _ (Qb (kp2 rfl rfl) ?_)
 refine QB ?_ -- 0
 refine Qf fun K hK => QH (cs := [_, _, _, _, _]) rfl rfl rfl rfl (QI (XW) rfl rfl (.inr rfl) ?_)
 refine hK _ _ (Qb (kp3 rfl rfl rfl) ?_)
 refine Qw rfl (fun h1 => ?_) (fun h1 => ?_)
 ·try rw [h1]
  try simp only [qa, qb, qc, qd, qe] at h1
  refine Qf fun K hK => QI (Y0) rfl rfl (.inl rfl) (Q7 rfl rfl rfl rfl rfl rfl rfl rfl ?_)
  refine hK _ _ (Qb (kp1 rfl) ?_)
  refine Qu (Qk (Post.eq (ZG (ds := [.int .i64 _, .int .i64 _, .int .i64 _, .int .i64 _, .str _, .str _, .bool _]) (cs := [_, _, _, _, _, _, _]) rfl rfl rfl rfl rfl) ?_))
  simp [Qf1, dCu, QbH, h1]
 ·try rw [h1]
  try simp only [qa, qb, qc, qd, qe] at h1
  refine Qv (Qd (kp2 rfl rfl) (Qf fun K hK => Qh rfl rfl (QA rfl rfl rfl (Qh rfl rfl (QA rfl rfl rfl (Qh rfl rfl (QA rfl rfl rfl (QX rfl rfl (QI (YP) rfl rfl (.inl rfl) (Q7 rfl rfl rfl rfl rfl rfl rfl rfl ?_))))))))))
  refine hK _ _ (Qb (kp1 rfl) ?_)
  refine Qu (Post.eq (ZG (ds := [.int .i64 _, .int .i64 _, .int .i64 _, .int .i64 _, .str _, .str _, .bool _]) (cs := [_, _, _, _, _, _, _]) rfl rfl rfl rfl rfl) ?_)
  simp [Qf1, dCu, QbH, h1]
theorem QbY {a b c : Int} {p q : List UInt8} : Ok Tryz.prog 60 [.agg [.int .i64 a, .int .i64 b, .int .i64 c, .str p, .str q]] (.agg (dCu (QdN a b c))) := by
 refine Ok.ofT Z1 Tryz.func60 Qsu (Nat.le_of_ble_eq_true rfl) ?_
 show TW _ _ tf60.body _ _
 refine Qf fun K hK => Zx rfl rfl rfl (ZD rfl ?_)
 refine hK _ _ (Qb (kp2 rfl rfl) ?_)
 refine Qf fun K hK => Qh rfl rfl (QA rfl rfl rfl (Qh rfl rfl (QA rfl rfl rfl (Qh rfl rfl (QA rfl rfl rfl (QX rfl rfl (QI (Qc8 (by simp) (by simp)) rfl rfl (.inl rfl) (Qa rfl (QW rfl rfl (QW rfl rfl ?_))))))))))
 refine ZD rfl (Q7 rfl rfl rfl rfl rfl rfl rfl rfl (Qa rfl ?_))
 refine hK _ _ (Qb (kp3 rfl rfl rfl) ?_)
 refine QB ?_ -- 0
 refine Qf fun K hK => Qa rfl (Yp rfl ?_)
 refine hK _ _ (Qb (kp3 rfl rfl rfl) ?_)
 refine Qw rfl (fun h1 => ?_) (fun h1 => ?_)
 ·try rw [h1]
  try simp only [qa, qb, qc, qd, qe] at h1
  refine Qf fun K hK => QI (Xc) rfl rfl (.inl rfl) (Q7 rfl rfl rfl rfl rfl rfl rfl rfl ?_)
  refine hK _ _ (Qb (kp1 rfl) ?_)
  refine Qu (Qk (Post.eq (ZG (ds := [.int .i64 _, .int .i64 _, .int .i64 _, .int .i64 _, .str _, .str _, .bool _]) (cs := [_, _, _, _, _, _, _]) rfl rfl rfl rfl rfl) ?_))
  cases hn : QiO a b c [] [] <;> simp [QdN, dCu, Qe1, hn] at *
 ·try rw [h1]
  try simp only [qa, qb, qc, qd, qe] at h1
  refine Qv (Qd (kp2 rfl rfl) (Qf fun K hK => QH (cs := [_, _, _, _, _]) rfl rfl rfl rfl (QI (YP) rfl rfl (.inl rfl) (Q7 rfl rfl rfl rfl rfl rfl rfl rfl ?_))))
  refine hK _ _ (Qb (kp1 rfl) ?_)
  refine Qu (Post.eq (ZG (ds := [.int .i64 _, .int .i64 _, .int .i64 _, .int .i64 _, .str _, .str _, .bool _]) (cs := [_, _, _, _, _, _, _]) rfl rfl rfl rfl rfl) ?_)
  cases hn : QiO a b c [] [] <;> simp [QdN, dCu, Qe1, hn] at *
theorem XY  : Ok Tryz.prog 75 [] (ZH [(QbH, Qe1)]) := by
 refine Ok.ofT Z1 Tryz.func75 QsI (Nat.le_of_ble_eq_true rfl) ?_
 show TW _ _ tf75.body _ _
 refine Qf fun K hK => Qa rfl ?_
 refine hK _ _ (Qb (Q8) ?_)
 refine Qf fun K hK => QI (Y0) rfl rfl (.inl rfl) (QI (Xc) rfl rfl (.inl rfl) (QX rfl rfl (QC rfl rfl (Qa rfl ?_))))
 refine hK _ _ (Qb (kp1 rfl) ?_)
 refine Qu (Yk rfl ?_)
 rfl
theorem Ya  : Ok Tryz.prog 56 [] (Qhm ([], [])) := by
 refine Ok.ofT Z1 Tryz.func56 Qsq (Nat.le_of_ble_eq_true rfl) ?_
 show TW _ _ tf56.body _ _
 refine Qf fun K hK => ZD rfl ?_
 refine hK _ _ (Qb (kp1 rfl) ?_)
 refine Qf fun K hK => QX rfl rfl (Q7 rfl rfl rfl rfl rfl rfl rfl rfl ?_)
 refine hK _ _ (Qb (kp1 rfl) ?_)
 refine Qu (Post.eq (ZG (ds := [.sl _, .sl _]) (cs := [_, _]) rfl rfl rfl rfl rfl) ?_)
 rfl
theorem QaA  : Ok Tryz.prog 54 [] (Qhm ([(QbH, Qe1)], [(QbH, Qe1)])) := by
 refine Ok.ofT Z1 Tryz.func54 Qso (Nat.le_of_ble_eq_true rfl) ?_
 show TW _ _ tf54.body _ _
 refine Qf fun K hK => ZD rfl ?_
 refine hK _ _ (Qb (kp1 rfl) ?_)
 refine Qf fun K hK => QI (XY) rfl rfl (.inl rfl) (QI (XY) rfl rfl (.inl rfl) (QX rfl rfl (Q7 rfl rfl rfl rfl rfl rfl rfl rfl ?_)))
 refine hK _ _ (Qb (kp1 rfl) ?_)
 refine Qu (Post.eq (ZG (ds := [.sl _, .sl _]) (cs := [_, _]) rfl rfl rfl rfl rfl) ?_)
 rfl
theorem XV {a b c : Int} {p q : List UInt8} (hp : p.length <= 1000000) (hq : q.length <= 1000000) : Ok Tryz.prog 35 [.agg [.int .i64 a, .int .i64 b, .int .i64 c, .str p, .str q]] (Qhm (Xh a b c p q)) := by
 refine Ok.ofT Z1 Tryz.func35 Qr7 (Nat.le_of_ble_eq_true rfl) ?_
 show TW _ _ tf35.body _ _
 refine Qf fun K hK => Zx rfl rfl rfl (ZD rfl ?_)
 refine hK _ _ (Qb (kp2 rfl rfl) ?_)
 refine QB ?_ -- 0
 refine Qf fun K hK => QH (cs := [_, _, _, _, _]) rfl rfl rfl rfl (QI (Zf (by omega) (by omega)) rfl rfl (.inr rfl) (Yp rfl ?_))
 refine hK _ _ (Qb (kp3 rfl rfl rfl) ?_)
 refine Qw rfl (fun h1 => ?_) (fun h1 => ?_)
 ·try rw [h1]
  try simp only [qa, qb, qc, qd, qe] at h1
  refine Qf fun K hK => QI (Ya) rfl rfl (.inl rfl) (Q7 rfl rfl rfl rfl rfl rfl rfl rfl ?_)
  refine hK _ _ (Qb (kp1 rfl) ?_)
  refine Qu (Qk (Post.eq (ZG (ds := [.sl _, .sl _]) (cs := [_, _]) rfl rfl rfl rfl rfl) ?_))
  simp [Xh, Qhm, ZH, QeZ, dCu, h1]
 ·try rw [h1]
  try simp only [qa, qb, qc, qd, qe] at h1
  refine Qv (Qd (kp2 rfl rfl) ?_)
  refine QB ?_ -- 1
  refine Qf fun K hK => Qh rfl rfl (QA rfl rfl rfl (QlZ rfl rfl ?_))
  refine hK _ _ (Qb (kp3 rfl rfl rfl) ?_)
  refine Qw rfl (fun h2 => ?_) (fun h2 => ?_)
  ·try rw [h2]
   try simp only [qa, qb, qc, qd, qe] at h2
   refine Qf fun K hK => QN (ds0 := [6, 3, 2, 1, 0]) (cs := [_, _, _, _, _]) rfl rfl rfl rfl rfl rfl (QV (ds0 := [3, 2, 1, 0]) (YP) rfl rfl (.inl rfl) rfl rfl (QN (ds0 := [4, 3, 2, 1, 0]) (cs := [_, _, _, _, _]) rfl rfl rfl rfl rfl rfl (QV (ds0 := [3, 2, 1, 0]) (QbX) rfl rfl (.inl rfl) rfl rfl (QX rfl rfl (QC rfl rfl (QX rfl rfl (Y6 (ds0 := []) rfl rfl rfl rfl rfl rfl rfl rfl rfl rfl ?_)))))))
   refine hK _ _ (Qb (kp1 rfl) ?_)
   refine Qu (Qk (Post.eq (ZG (ds := [.sl _, .sl _]) (cs := [_, _]) rfl rfl rfl rfl rfl) ?_))
   simp [Xh, Qhm, ZH, QeZ, dCu, h1, h2]
  ·try rw [h2]
   try simp only [qa, qb, qc, qd, qe] at h2
   refine Qv (Qd (kp2 rfl rfl) (Qf fun K hK => QN (ds0 := [6, 3, 2, 1, 0]) (cs := [_, _, _, _, _]) rfl rfl rfl rfl rfl rfl (QV (ds0 := [3, 2, 1, 0]) (QcW) rfl rfl (.inl rfl) rfl rfl (QN (ds0 := [4, 3, 2, 1, 0]) (cs := [_, _, _, _, _]) rfl rfl rfl rfl rfl rfl (QV (ds0 := [3, 2, 1, 0]) (QbY) rfl rfl (.inl rfl) rfl rfl (QX rfl rfl (QC rfl rfl (QX rfl rfl (Y6 (ds0 := []) rfl rfl rfl rfl rfl rfl rfl rfl rfl rfl ?_)))))))))
   refine hK _ _ (Qb (kp1 rfl) ?_)
   refine Qu (Post.eq (ZG (ds := [.sl _, .sl _]) (cs := [_, _]) rfl rfl rfl rfl rfl) ?_)
   subst h2
   simp [Xh, Qhm, ZH, QeZ, dCu, h1]
end Go.Proofs
namespace Go.Proofs
open Go Go.Abs M3 M25
set_option linter.unusedVariables false
set_option linter.unusedSimpArgs false
theorem ZX {l : List (Cu × Cu)} (hl : Sm l) : Ok Tryz.prog 102 [ZH l] (.bool (Qew l)) := by
 refine Ok.ofT Z1 Tryz.func102 Qrm (Nat.le_of_ble_eq_true rfl) ?_
 show TW _ _ tf102.body _ _
 have hn := hl.1
 refine Qf fun K hK => Qa rfl ?_
 refine hK _ _ (Qb (kp1 rfl) ?_)
 refine QB ?_ -- 0
 refine Qf fun K hK => Qa rfl ?_
 refine hK _ _ (Qb (kp2 rfl rfl) ?_)
 refine Qz ?_
 refine Zk (ι := Nat) (fun i => ⟨[(0, ZH l), (3, .int .i64 i)], []⟩) (fun i => i <= l.length /\ (List.range i).all (Qp7 l) = true) (fun i => l.length - i) 0 ?_ ?_ ?_
 ·exact Zg (kp2 rfl rfl)
 ·exact ⟨Nat.zero_le _, rfl⟩
 intro i hI
 try dsimp only
 refine QB ?_ -- 1
 refine Qf fun K hK => Qa rfl (Qa rfl (QR rfl rfl (Z8 rfl rfl ?_)))
 refine hK _ _ (Qb (kp3 rfl rfl rfl) ?_)
 refine Qw rfl (fun h1 => ?_) (fun h1 => ?_)
 ·try rw [h1]
  try simp only [qa, qb, qc, qd, qe, List.length_map] at h1
  refine Qv (Qd (kp2 rfl rfl) ?_)
  refine QB ?_ -- 2
  refine Qz (Qf fun K hK => Qa rfl (Qa rfl (QJ rfl rfl rfl (by omega) (QS (by omega)) rfl (QN (ds0 := [20, 19, 18, 17, 16, 15, 14, 13, 12, 11, 10, 9, 8, 7, 6, 5, 4, 3, 2, 1, 0]) (cs := [_, _, _, _, _, _, _, _, _, _, _, _, _, _]) rfl rfl rfl rfl rfl rfl (QV (ds0 := [19, 18, 17, 16, 15, 14, 13, 12, 11, 10, 9, 8, 7, 6, 5, 4, 3, 2, 1, 0]) (YI (hl.at (i := i) (by omega)).1.1 (hl.at (i := i) (by omega)).1.2 (hl.at (i := i) (by omega)).2.1 (hl.at (i := i) (by omega)).2.2) rfl rfl (.inr rfl) rfl rfl (Yp rfl (Qa rfl ?_)))))))
  refine QE (g := 16) rfl (fun h2 => ?_) (fun h2 => ?_)
  ·try rw [h2]
   try simp only [qa, qb, qc, qd, qe, List.length_map] at h2
   refine Qs rfl (Qs rfl (Qs rfl (Zy rfl (Zy rfl (Zy rfl (Zy rfl (Zy rfl (Zy rfl (Zy rfl (Zy rfl (Zy rfl ?_)))))))))))
   refine Zy rfl (Zy rfl (Zy rfl (Zy rfl (Qs rfl (Qp rfl rfl ?_)))))
   refine hK _ _ (Qb (kp3 rfl rfl rfl) ?_)
   refine Zv rfl (Qf fun K hK => Qa rfl ?_)
   refine hK _ _ (Qb (kp1 rfl) ?_)
   refine Qu (Qr (Qk (Q4 (Qr (Qk (Qt rfl ?_))))))
   first
    | exact (QhU hI.2 (by omega)).symm
    | exact (QcA (i := i) (by omega) (Qg0 (by omega) (.inl h2))).symm
    | (simp only [QdY] at *; exact (QcA (i := i) (by omega) (Qg0 (by omega) (.inr ⟨by omega, h4⟩))).symm)
  ·try rw [h2]
   try simp only [qa, qb, qc, qd, qe, List.length_map] at h2
   refine Qj rfl (Qa rfl (Qj rfl (Qh7 rfl rfl (Qj rfl (Qa rfl ?_)))))
   refine QE (g := 19) rfl (fun h3 => ?_) (fun h3 => ?_)
   ·try rw [h3]
    try simp only [qa, qb, qc, qd, qe, List.length_map] at h3
    refine Qj rfl (Qa rfl (Qj rfl (Qa rfl (Qj rfl (Qaq rfl rfl (by first | exact Qq (by omega) (by omega) | rfl) (Qj rfl (QJ rfl rfl rfl (by omega) (ZC (by omega) (by omega)) rfl (Qj rfl (Q6 rfl rfl (Qj rfl (QN (ds0 := [3, 2, 1, 0]) (cs := [_, _, _, _, _, _, _]) rfl rfl rfl rfl rfl rfl ?_)))))))))))
    refine Qj rfl (Qa rfl (Qj rfl (Qa rfl (Qj rfl (QJ rfl rfl rfl (by omega) (QS (by omega)) rfl (Qj rfl (Q6 rfl rfl (Qj rfl (QN (ds0 := [3, 2, 1, 0]) (cs := [_, _, _, _, _, _, _]) rfl rfl rfl rfl rfl rfl (Qj rfl (QV (ds0 := [2, 1, 0]) (Zu (hl.at (i := ((i : Int) - 1).toNat) (by omega)).2.1 (hl.at (i := ((i : Int) - 1).toNat) (by omega)).2.2 (hl.at (i := i) (by omega)).1.1 (hl.at (i := i) (by omega)).1.2) rfl rfl (.inr rfl) rfl rfl ?_)))))))))))
    refine Qj rfl (QeX rfl rfl (Qj rfl (Qp rfl rfl (Qp rfl rfl ?_))))
    refine hK _ _ (Qb (kp3 rfl rfl rfl) ?_)
    refine Qw rfl (fun h4 => ?_) (fun h4 => ?_)
    ·try rw [h4]
     try simp only [qa, qb, qc, qd, qe, List.length_map] at h4
     refine Qf fun K hK => Qa rfl ?_
     refine hK _ _ (Qb (kp1 rfl) ?_)
     refine Qu (Qr (Qk (Q4 (Qr (Qk (Qt rfl ?_))))))
     first
      | exact (QhU hI.2 (by omega)).symm
      | exact (QcA (i := i) (by omega) (Qg0 (by omega) (.inl h2))).symm
      | (simp only [QdY] at *; exact (QcA (i := i) (by omega) (Qg0 (by omega) (.inr ⟨by omega, h4⟩))).symm)
    ·try rw [h4]
     try simp only [qa, qb, qc, qd, qe, List.length_map] at h4
     refine Qv (Qg (Qd (kp2 rfl rfl) (QL fun K hK => Qa rfl (Q1 rfl rfl (by first | exact Qq (by omega) (by omega) | rfl) (Qa rfl (hK _ ?_))))))
     refine Qi (i + 1) ?_ ?_ ?_
     ·exact Zg (kp2 rfl rfl)
     ·exact ⟨by omega, Qk1 hI.2 (Qo3 (by omega) h2 (by first | exact .inl (by omega) | (simp only [QdY] at *; exact .inr (Int.not_le.1 h4))))⟩
     ·first | omega | (simp only; omega) | (dsimp only; omega)
   ·try rw [h3]
    try simp only [qa, qb, qc, qd, qe, List.length_map] at h3
    refine Qs rfl (Qs rfl (Qs rfl (Qs rfl (Qs rfl (Qs rfl (Qs rfl (Qs rfl (Qs rfl (Qs rfl (Qs rfl (Qs rfl ?_)))))))))))
    refine Qs rfl (Qj rfl (Qp rfl rfl (Qp rfl rfl ?_)))
    refine hK _ _ (Qb (kp3 rfl rfl rfl) ?_)
    refine ZJ rfl (Qv (Qg (Qd (kp2 rfl rfl) (QL fun K hK => Qa rfl (Q1 rfl rfl (by first | exact Qq (by omega) (by omega) | rfl) (Qa rfl (hK _ ?_)))))))
    refine Qi (i + 1) ?_ ?_ ?_
    ·exact Zg (kp2 rfl rfl)
    ·exact ⟨by omega, Qk1 hI.2 (Qo3 (by omega) h2 (by first | exact .inl (by omega) | (simp only [QdY] at *; exact .inr (Int.not_le.1 h4))))⟩
    ·first | omega | (simp only; omega) | (dsimp only; omega)
 ·try rw [h1]
  try simp only [qa, qb, qc, qd, qe, List.length_map] at h1
  refine Zi (QK (Qx (QD (Qd (Q8) (Qf fun K hK => Qa rfl ?_)))))
  refine hK _ _ (Qb (kp1 rfl) ?_)
  refine Qu (Qt rfl ?_)
  first
   | exact (QhU hI.2 (by omega)).symm
   | exact (QcA (i := i) (by omega) (Qg0 (by omega) (.inl h2))).symm
   | (simp only [QdY] at *; exact (QcA (i := i) (by omega) (Qg0 (by omega) (.inr ⟨by omega, h4⟩))).symm)
theorem QaZ {l : List (Cu × Cu)} (hl : Sm l) {x y : Cu} (hx : Cu.sm x) (hy : Cu.sm y) : Ok Tryz.prog 106 [ZH l, .agg (dCu x), .agg (dCu y)] (.bool (mIn l x y)) := by
 refine Ok.ofT Z1 Tryz.func106 Qrq (Nat.le_of_ble_eq_true rfl) ?_
 show TW _ _ tf106.body _ _
 have hn := hl.1
 refine Qf fun K hK => Zx rfl rfl rfl (Zx rfl rfl rfl (Qa rfl ?_))
 refine hK _ _ (Qb (kp3 rfl rfl rfl) ?_)
 refine QB ?_ -- 0
 refine Qf fun K hK => Qa rfl ?_
 refine hK _ _ (Qb (kp4 rfl rfl rfl rfl) ?_)
 refine Qz ?_
 refine Zk (ι := Nat) (fun i => ⟨[(0, ZH l), (4, .ref 4 0 0), (5, .ref 5 0 0), (7, .int .i64 i)], [(4, ⟨[dCu x], 7, 105, true⟩), (5, ⟨[dCu y], 7, 105, true⟩)]⟩) (fun i => i <= l.length /\ (l.take i).any (inC x y) = false) (fun i => l.length - i) 0 ?_ ?_ ?_
 ·exact Q2 (l := [0, 4, 5, 7]) (lH := [4, 5]) (kp4 rfl rfl rfl rfl) (Qe rfl (Qe rfl Ql)) rfl rfl rfl
 ·exact ⟨Nat.zero_le _, by simp⟩
 intro i hI
 try dsimp only
 refine QB ?_ -- 1
 refine Qf fun K hK => Qa rfl (Qa rfl (QR rfl rfl (Z8 rfl rfl ?_)))
 refine hK _ _ (Qb (kp5 rfl rfl rfl rfl rfl) ?_)
 refine Qw rfl (fun h1 => ?_) (fun h1 => ?_)
 ·try rw [h1]
  try simp only [qa, qb, qc, qd, qe, List.length_map] at h1
  refine Qv (Qd (kp4 rfl rfl rfl rfl) ?_)
  refine QB ?_ -- 2
  refine Qz (Qf fun K hK => Qa rfl (Qa rfl (QJ rfl rfl rfl (by omega) (QS (by omega)) rfl (Q6 rfl rfl (QN (ds0 := [11, 10, 9, 8, 7, 6, 5, 4, 3, 2, 1, 0]) (cs := [_, _, _, _, _, _, _]) rfl rfl rfl rfl rfl rfl (QN (ds0 := [11, 10, 9, 8, 7, 6, 5, 4, 3, 2, 1, 0]) (cs := [_, _, _, _, _, _, _]) rfl rfl rfl rfl rfl rfl (QV (ds0 := [10, 9, 8, 7, 6, 5, 4, 3, 2, 1, 0]) (Zu (hl.at (i := i) (by omega)).1.1 (hl.at (i := i) (by omega)).1.2 hx.1 hx.2) rfl rfl (.inr rfl) rfl rfl (QoK rfl rfl (Qa rfl ?_)))))))))
  refine QE (g := 22) rfl (fun h2 => ?_) (fun h2 => ?_)
  ·try rw [h2]
   try simp only [qa, qb, qc, qd, qe, List.length_map] at h2
   refine Qj rfl (QN (ds0 := [2, 1, 0]) (cs := [_, _, _, _, _, _, _]) rfl rfl rfl rfl rfl rfl (Qj rfl (Qa rfl (Qj rfl (Qa rfl (Qj rfl (QJ rfl rfl rfl (by omega) (QS (by omega)) rfl (Qj rfl (Q6 rfl rfl (Qj rfl (QN (ds0 := [2, 1, 0]) (cs := [_, _, _, _, _, _, _]) rfl rfl rfl rfl rfl rfl ?_)))))))))))
   refine Qj rfl (QV (ds0 := [1, 0]) (Zu hy.1 hy.2 (hl.at (i := i) (by omega)).2.1 (hl.at (i := i) (by omega)).2.2) rfl rfl (.inr rfl) rfl rfl (Qj rfl (QoK rfl rfl (Qp rfl rfl ?_))))
   refine hK _ _ (Qb (kp5 rfl rfl rfl rfl rfl) ?_)
   refine Qw rfl (fun h3 => ?_) (fun h3 => ?_)
   ·try rw [h3]
    try simp only [qa, qb, qc, qd, qe, List.length_map] at h3
    refine Qf fun K hK => Qa rfl ?_
    refine hK _ _ (Qb (kp1 rfl) ?_)
    refine Qu (Qr (Qk (Q4 (Qr (Qk (Qt rfl ?_))))))
    first
     | exact (Ql2 (i := i) (by omega) hI.2).symm
     | exact (Qjv (i := i) (by omega) (Qqt h2 h3)).symm
   ·try rw [h3]
    try simp only [qa, qb, qc, qd, qe, List.length_map] at h3
    refine Qv (Qg (Qd (kp4 rfl rfl rfl rfl) (QL fun K hK => Qa rfl (Q1 rfl rfl (by first | exact Qq (by omega) (by omega) | rfl) (Qa rfl (hK _ ?_))))))
    refine Qi (i + 1) ?_ ?_ ?_
    ·exact Q2 (l := [0, 4, 5, 7]) (lH := [4, 5]) (kp4 rfl rfl rfl rfl) (Qe rfl (Qe rfl Ql)) rfl rfl rfl
    ·exact ⟨by omega, Qif (by omega) hI.2 (Qqs (by first | exact .inl h2 | exact .inr h3))⟩
    ·first | omega | (simp only; omega) | (dsimp only; omega)
  ·try rw [h2]
   try simp only [qa, qb, qc, qd, qe, List.length_map] at h2
   refine Qs rfl (Qs rfl (Qs rfl (Qs rfl (Qs rfl (Qs rfl (Qs rfl (Qs rfl (Qp rfl rfl ?_))))))))
   refine hK _ _ (Qb (kp5 rfl rfl rfl rfl rfl) ?_)
   refine ZJ rfl (Qv (Qg (Qd (kp4 rfl rfl rfl rfl) (QL fun K hK => Qa rfl (Q1 rfl rfl (by first | exact Qq (by omega) (by omega) | rfl) (Qa rfl (hK _ ?_)))))))
   refine Qi (i + 1) ?_ ?_ ?_
   ·exact Q2 (l := [0, 4, 5, 7]) (lH := [4, 5]) (kp4 rfl rfl rfl rfl) (Qe rfl (Qe rfl Ql)) rfl rfl rfl
   ·exact ⟨by omega, Qif (by omega) hI.2 (Qqs (by first | exact .inl h2 | exact .inr h3))⟩
   ·first | omega | (simp only; omega) | (dsimp only; omega)
 ·try rw [h1]
  try simp only [qa, qb, qc, qd, qe, List.length_map] at h1
  refine Zi (QK (Qx (QD (Qd (Q8) (Qf fun K hK => Qa rfl ?_)))))
  refine hK _ _ (Qb (kp1 rfl) ?_)
  refine Qu (Qt rfl ?_)
  first
   | exact (Ql2 (i := i) (by omega) hI.2).symm
   | exact (Qjv (i := i) (by omega) (Qqt h2 h3)).symm
end Go.Proofs
namespace Go.Proofs
open Go Go.Abs M3 M25
set_option linter.unusedVariables false
set_option linter.unusedSimpArgs false
theorem Qax {l : List (Cu × Cu)} (hl : Sm l) {a b c : Int} {p q : List UInt8} (hp : p.length <= 1000000) (hq : q.length <= 1000000) : Ok Tryz.prog 108 [ZH l, .agg [.int .i64 a, .int .i64 b, .int .i64 c, .str p, .str q]] (.bool (QhI l a b c p q)) := by
 refine Ok.ofT Z1 Tryz.func108 Qrs (Nat.le_of_ble_eq_true rfl) ?_
 show TW _ _ tf108.body _ _
 have hn := hl.1
 refine Qf fun K hK => Zx rfl rfl rfl (Qa rfl ?_)
 refine hK _ _ (Qb (kp2 rfl rfl) ?_)
 refine QB ?_ -- 0
 refine Qf fun K hK => Qa rfl ?_
 refine hK _ _ (Qb (kp3 rfl rfl rfl) ?_)
 refine Qz ?_
 refine Zk (ι := Nat) (fun i => ⟨[(0, ZH l), (3, .ref 3 0 0), (5, .int .i64 i)], [(3, ⟨[[.int .i64 a, .int .i64 b, .int .i64 c, .str p, .str q]], 5, 67, true⟩)]⟩) (fun i => i <= l.length /\ (l.take i).any (fun s => QhJ s a b c p q) = false) (fun i => l.length - i) 0 ?_ ?_ ?_
 ·exact Q2 (l := [0, 3, 5]) (lH := [3]) (kp3 rfl rfl rfl) (Qe rfl Ql) rfl rfl rfl
 ·exact ⟨Nat.zero_le _, by simp⟩
 intro i hI
 try dsimp only
 refine QB ?_ -- 1
 refine Qf fun K hK => Qa rfl (Qa rfl (QR rfl rfl (Z8 rfl rfl (Qa rfl ?_))))
 refine QE (g := 10) rfl (fun h1 => ?_) (fun h1 => ?_)
 ·try rw [h1]
  try simp only [qa, qb, qc, qd, qe, List.length_map] at h1
  refine Qj rfl (Qa rfl (Qj rfl (QI (ZX hl) rfl rfl (.inr rfl) (Qp rfl rfl ?_))))
  refine hK _ _ (Qb (kp4 rfl rfl rfl rfl) ?_)
  refine Qw rfl (fun h2 => ?_) (fun h2 => ?_)
  ·try rw [h2]
   try simp only [qa, qb, qc, qd, qe, List.length_map] at h2
   refine Qv (Qd (kp3 rfl rfl rfl) ?_)
   refine QB ?_ -- 2
   refine Qz (Qf fun K hK => Qa rfl (Qa rfl (QJ rfl rfl rfl (by omega) (QS (by omega)) rfl (QN (ds0 := [0]) (cs := [_, _, _, _, _, _, _, _, _, _, _, _, _, _]) rfl rfl rfl rfl rfl rfl (QN (ds0 := [0]) (cs := [_, _, _, _, _]) rfl rfl rfl rfl rfl rfl (QV (ds0 := []) (QcV (hl.at (i := i) (by omega)).1.1 (hl.at (i := i) (by omega)).1.2 (hl.at (i := i) (by omega)).2.1 (hl.at (i := i) (by omega)).2.2 hp hq) rfl rfl (.inr rfl) rfl rfl ?_))))))
   refine hK _ _ (Qb (kp4 rfl rfl rfl rfl) ?_)
   refine Qw rfl (fun h3 => ?_) (fun h3 => ?_)
   ·try rw [h3]
    try simp only [qa, qb, qc, qd, qe, List.length_map] at h3
    refine Qf fun K hK => Qa rfl ?_
    refine hK _ _ (Qb (kp1 rfl) ?_)
    refine Qu (Qr (Qk (Q4 (Qr (Qk (Qt rfl ?_))))))
    first
     | exact (Qhx (i := i) (by omega) hI.2).symm
     | exact (Qhy h2).symm
     | exact (Qhz h2 (i := i) (by omega) h3).symm
   ·try rw [h3]
    try simp only [qa, qb, qc, qd, qe, List.length_map] at h3
    refine Qv (Qg (Qd (kp3 rfl rfl rfl) (QL fun K hK => Qa rfl (Q1 rfl rfl (by first | exact Qq (by omega) (by omega) | rfl) (Qa rfl (hK _ ?_))))))
    refine Qi (i + 1) ?_ ?_ ?_
    ·exact Q2 (l := [0, 3, 5]) (lH := [3]) (kp3 rfl rfl rfl) (Qe rfl Ql) rfl rfl rfl
    ·exact ⟨by omega, Qif (by omega) hI.2 h3⟩
    ·first | omega | (simp only; omega) | (dsimp only; omega)
  ·try rw [h2]
   try simp only [qa, qb, qc, qd, qe, List.length_map] at h2
   refine Zi (QK (Qx (QD (Qd (Q8) (Qf fun K hK => Qa rfl ?_)))))
   refine hK _ _ (Qb (kp1 rfl) ?_)
   refine Qu (Qt rfl ?_)
   first
    | exact (Qhx (i := i) (by omega) hI.2).symm
    | exact (Qhy h2).symm
    | exact (Qhz h2 (i := i) (by omega) h3).symm
 ·try rw [h1]
  try simp only [qa, qb, qc, qd, qe, List.length_map] at h1
  refine Qs rfl (Qs rfl (Qp rfl rfl ?_))
  refine hK _ _ (Qb (kp4 rfl rfl rfl rfl) ?_)
  refine ZJ rfl (Zi (QK (Qx (QD (Qd (Q8) (Qf fun K hK => Qa rfl ?_))))))
  refine hK _ _ (Qb (kp1 rfl) ?_)
  refine Qu (Qt rfl ?_)
  first
   | exact (Qhx (i := i) (by omega) hI.2).symm
   | exact (Qhy h2).symm
   | exact (Qhz h2 (i := i) (by omega) h3).symm
theorem YJ {s : List (Cu × Cu) × List (Cu × Cu)} (h1s : Sm s.1) (h2s : Sm s.2) : Ok Tryz.prog 97 [Qhm s] (.bool (Qf2 s)) := by
 refine Ok.ofT Z1 Tryz.func97 Qs4 (Nat.le_of_ble_eq_true rfl) ?_
 show TW _ _ tf97.body _ _
 have hn := h1s.1
 refine Qf fun K hK => Zx rfl rfl rfl (Qa rfl ?_)
 refine hK _ _ (Qb (kp1 rfl) ?_)
 refine QB ?_ -- 0
 refine Qf fun K hK => Qh rfl rfl (QA rfl rfl rfl (QI (ZX h1s) rfl rfl (.inr rfl) (Yp rfl (Qa rfl ?_))))
 refine QE (g := 8) rfl (fun h1 => ?_) (fun h1 => ?_)
 ·try rw [h1]
  try simp only [qa, qb, qc, qd, qe, List.length_map] at h1
  refine Qs rfl (Qs rfl (Qs rfl (Qs rfl (Qp rfl rfl ?_))))
  refine hK _ _ (Qb (kp2 rfl rfl) ?_)
  refine Zv rfl (Qf fun K hK => Qa rfl ?_)
  refine hK _ _ (Qb (kp1 rfl) ?_)
  refine Qu (Qk (Qt rfl ?_))
  first
   | exact (QdV (i := i) h1 h2 (by omega) hI.2).symm
   | exact (QaM (i := i) (by omega) (.inl h4)).symm
   | exact (QaM (i := i) (by omega) (.inr h5)).symm
   | exact (QaN (.inl h1)).symm
   | exact (QaN (.inr h2)).symm
 ·try rw [h1]
  try simp only [qa, qb, qc, qd, qe, List.length_map] at h1
  refine Qj rfl (Qh rfl rfl (Qj rfl (QA rfl rfl rfl (Qj rfl (QI (ZX h2s) rfl rfl (.inr rfl) (Qj rfl (Yp rfl (Qp rfl rfl ?_))))))))
  refine hK _ _ (Qb (kp2 rfl rfl) ?_)
  refine Qw rfl (fun h2 => ?_) (fun h2 => ?_)
  ·try rw [h2]
   try simp only [qa, qb, qc, qd, qe, List.length_map] at h2
   refine Qf fun K hK => Qa rfl ?_
   refine hK _ _ (Qb (kp1 rfl) ?_)
   refine Qu (Qk (Qt rfl ?_))
   first
    | exact (QdV (i := i) h1 h2 (by omega) hI.2).symm
    | exact (QaM (i := i) (by omega) (.inl h4)).symm
    | exact (QaM (i := i) (by omega) (.inr h5)).symm
    | exact (QaN (.inl h1)).symm
    | exact (QaN (.inr h2)).symm
  ·try rw [h2]
   try simp only [qa, qb, qc, qd, qe, List.length_map] at h2
   refine Qv (Qd (kp1 rfl) ?_)
   refine QB ?_ -- 1
   refine Qf fun K hK => Qa rfl ?_
   refine hK _ _ (Qb (kp2 rfl rfl) ?_)
   refine Qz ?_
   refine Zk (ι := Nat) (fun i => ⟨[(1, .ref 1 0 0), (3, .int .i64 i)], [(1, ⟨[[ZH s.1, ZH s.2]], 2, 74, true⟩)]⟩) (fun i => i <= s.1.length /\ (s.1.take i).all (fun x => QbI x.1 && QbI x.2) = true) (fun i => s.1.length - i) 0 ?_ ?_ ?_
   ·exact Q2 (l := [1, 3]) (lH := [1]) (kp2 rfl rfl) (Qe rfl Ql) rfl rfl rfl
   ·exact ⟨Nat.zero_le _, by simp⟩
   intro i hI
   try dsimp only
   refine QB ?_ -- 2
   refine Qf fun K hK => Qa rfl (Qh rfl rfl (QA rfl rfl rfl (QR rfl rfl (Z8 rfl rfl ?_))))
   refine hK _ _ (Qb (kp3 rfl rfl rfl) ?_)
   refine Qw rfl (fun h3 => ?_) (fun h3 => ?_)
   ·try rw [h3]
    try simp only [qa, qb, qc, qd, qe, List.length_map] at h3
    refine Qv (Qd (kp2 rfl rfl) ?_)
    refine QB ?_ -- 3
    refine Qz (Qf fun K hK => Qh rfl rfl (QA rfl rfl rfl (Qa rfl (QJ rfl rfl rfl (by omega) (QS (by omega)) rfl (Q6 rfl rfl (QH (cs := [_, _, _, _, _, _, _]) rfl rfl rfl rfl (QI (XX) rfl rfl (.inr rfl) (Yp rfl (Qa rfl ?_)))))))))
    refine QE (g := 29) rfl (fun h4 => ?_) (fun h4 => ?_)
    ·try rw [h4]
     try simp only [qa, qb, qc, qd, qe, List.length_map] at h4
     refine Qs rfl (Qs rfl (Qs rfl (Qs rfl (Qs rfl (Qs rfl (Qs rfl (Qs rfl (Qp rfl rfl ?_))))))))
     refine hK _ _ (Qb (kp3 rfl rfl rfl) ?_)
     refine Zv rfl (Qf fun K hK => Qa rfl ?_)
     refine hK _ _ (Qb (kp1 rfl) ?_)
     refine Qu (Qr (Qk (Q4 (Qr (Qk (Qt rfl ?_))))))
     first
      | exact (QdV (i := i) h1 h2 (by omega) hI.2).symm
      | exact (QaM (i := i) (by omega) (.inl h4)).symm
      | exact (QaM (i := i) (by omega) (.inr h5)).symm
      | exact (QaN (.inl h1)).symm
      | exact (QaN (.inr h2)).symm
    ·try rw [h4]
     try simp only [qa, qb, qc, qd, qe, List.length_map] at h4
     refine Qj rfl (Qh rfl rfl (Qj rfl (QA rfl rfl rfl (Qj rfl (Qa rfl (Qj rfl (QJ rfl rfl rfl (by omega) (QS (by omega)) rfl (Qj rfl (Q6 rfl rfl (Qj rfl (QH (cs := [_, _, _, _, _, _, _]) rfl rfl rfl rfl ?_)))))))))))
     refine Qj rfl (QI (XX) rfl rfl (.inr rfl) (Qj rfl (Yp rfl (Qp rfl rfl ?_))))
     refine hK _ _ (Qb (kp3 rfl rfl rfl) ?_)
     refine Qw rfl (fun h5 => ?_) (fun h5 => ?_)
     ·try rw [h5]
      try simp only [qa, qb, qc, qd, qe, List.length_map] at h5
      refine Qf fun K hK => Qa rfl ?_
      refine hK _ _ (Qb (kp1 rfl) ?_)
      refine Qu (Qr (Qk (Q4 (Qr (Qk (Qt rfl ?_))))))
      first
       | exact (QdV (i := i) h1 h2 (by omega) hI.2).symm
       | exact (QaM (i := i) (by omega) (.inl h4)).symm
       | exact (QaM (i := i) (by omega) (.inr h5)).symm
       | exact (QaN (.inl h1)).symm
       | exact (QaN (.inr h2)).symm
     ·try rw [h5]
      try simp only [qa, qb, qc, qd, qe, List.length_map] at h5
      refine Qv (Qg (Qd (kp2 rfl rfl) (QL fun K hK => Qa rfl (Q1 rfl rfl (by first | exact Qq (by omega) (by omega) | rfl) (Qa rfl (hK _ ?_))))))
      refine Qi (i + 1) ?_ ?_ ?_
      ·exact Q2 (l := [1, 3]) (lH := [1]) (kp2 rfl rfl) (Qe rfl Ql) rfl rfl rfl
      ·exact ⟨by omega, Yf (by omega) hI.2 (by rw [show QbI s.1[i].1 = true from h4, show QbI s.1[i].2 = true from h5]; rfl)⟩
      ·first | omega | (simp only; omega) | (dsimp only; omega)
   ·try rw [h3]
    try simp only [qa, qb, qc, qd, qe, List.length_map] at h3
    refine Zi (QK (Qx (QD (Qd (Q8) (Qf fun K hK => Qa rfl ?_)))))
    refine hK _ _ (Qb (kp1 rfl) ?_)
    refine Qu (Qt rfl ?_)
    first
     | exact (QdV (i := i) h1 h2 (by omega) hI.2).symm
     | exact (QaM (i := i) (by omega) (.inl h4)).symm
     | exact (QaM (i := i) (by omega) (.inr h5)).symm
     | exact (QaN (.inl h1)).symm
     | exact (QaN (.inr h2)).symm
theorem Qdw {s : List (Cu × Cu) × List (Cu × Cu)} (h1s : Sm s.1) (h2s : Sm s.2) {a b c : Int} {p q : List UInt8} (hp : p.length <= 1000000) (hq : q.length <= 1000000) : Ok Tryz.prog 100 [Qhm s, .agg [.int .i64 a, .int .i64 b, .int .i64 c, .str p, .str q]] (.bool (QlF s a b c p q)) := by
 refine Ok.ofT Z1 Tryz.func100 Qrk (Nat.le_of_ble_eq_true rfl) ?_
 show TW _ _ tf100.body _ _
 refine Qf fun K hK => Zx rfl rfl rfl (Zx rfl rfl rfl (Qa rfl ?_))
 refine hK _ _ (Qb (kp2 rfl rfl) ?_)
 refine QB ?_ -- 0
 refine Qf fun K hK => QH (cs := [_, _]) rfl rfl rfl rfl (QI (YJ h1s h2s) rfl rfl (.inr rfl) (Yp rfl (Qa rfl ?_)))
 refine QE (g := 8) rfl (fun h1 => ?_) (fun h1 => ?_)
 ·try rw [h1]
  try simp only [qa, qb, qc, qd, qe] at h1
  refine Qs rfl (Qs rfl (Qs rfl (Qp rfl rfl ?_)))
  refine hK _ _ (Qb (kp3 rfl rfl rfl) ?_)
  refine Zv rfl (Qf fun K hK => Qa rfl ?_)
  refine hK _ _ (Qb (kp1 rfl) ?_)
  refine Qu (Qk (Qt rfl ?_))
  simp_all [QlF]
 ·try rw [h1]
  try simp only [qa, qb, qc, qd, qe] at h1
  refine Qj rfl (QH (cs := [_, _, _, _, _]) rfl rfl rfl rfl (Qj rfl (QI (Zf hp hq) rfl rfl (.inr rfl) (Qj rfl (Yp rfl (Qp rfl rfl ?_))))))
  refine hK _ _ (Qb (kp3 rfl rfl rfl) ?_)
  refine Qw rfl (fun h2 => ?_) (fun h2 => ?_)
  ·try rw [h2]
   try simp only [qa, qb, qc, qd, qe] at h2
   refine Qf fun K hK => Qa rfl ?_
   refine hK _ _ (Qb (kp1 rfl) ?_)
   refine Qu (Qk (Qt rfl ?_))
   simp_all [QlF]
  ·try rw [h2]
   try simp only [qa, qb, qc, qd, qe] at h2
   refine Qv (Qd (kp2 rfl rfl) ?_)
   refine QB ?_ -- 1
   refine Qf fun K hK => Qh rfl rfl (QA rfl rfl rfl (Qhe rfl rfl ?_))
   refine hK _ _ (Qb (kp3 rfl rfl rfl) ?_)
   refine Qw rfl (fun h3 => ?_) (fun h3 => ?_)
   ·try rw [h3]
    try simp only [qa, qb, qc, qd, qe] at h3
    refine Qf fun K hK => Qh rfl rfl (QA rfl rfl rfl (QH (cs := [_, _, _, _, _]) rfl rfl rfl rfl (QI (Qax h1s hp hq) rfl rfl (.inr rfl) (Qa rfl ?_))))
    refine hK _ _ (Qb (kp1 rfl) ?_)
    refine Qu (Qk (Qt rfl ?_))
    simp_all [QlF]
   ·try rw [h3]
    try simp only [qa, qb, qc, qd, qe] at h3
    refine Qv (Qd (kp2 rfl rfl) (Qf fun K hK => Qh rfl rfl (QA rfl rfl rfl (QH (cs := [_, _, _, _, _]) rfl rfl rfl rfl (QI (Qax h2s hp hq) rfl rfl (.inr rfl) (Qa rfl ?_))))))
    refine hK _ _ (Qb (kp1 rfl) ?_)
    refine Qu (Qt rfl ?_)
    simp_all [QlF]
end Go.Proofs
namespace Go.Proofs
open Go Go.Abs M3 M25
set_option linter.unusedVariables false
set_option linter.unusedSimpArgs false
theorem Qaz {l : List Cu} {c : Cu} (hl : l.length <= 3000000) (hs : ∀ x ∈ l, Cu.sm x) (hc : Cu.sm c) : Ok Tryz.prog 111 [Qhl l, .agg (dCu c)] (Qhl (Qce l c)) := by
 refine Ok.ofT Z1 Tryz.func111 Qrv (Nat.le_of_ble_eq_true rfl) ?_
 show TW _ _ tf111.body _ _
 refine Qf fun K hK => Zx rfl rfl rfl (Qa rfl ?_)
 refine hK _ _ (Qb (kp2 rfl rfl) ?_)
 refine Qf fun K hK => Qa rfl ?_
 refine hK _ _ (Qb (kp3 rfl rfl rfl) ?_)
 refine QB ?_ -- 0
 refine Qz ?_
 refine Zk (ι := Nat) (fun k => ⟨[(0, Qhl l), (3, .ref 3 0 0), (5, .int .i64 k)], [(3, ⟨[dCu c], 7, 105, true⟩)]⟩) (fun k => k <= l.length /\ Qce l c = l.take k ++ Qce (l.drop k) c) (fun k => l.length - k) 0 ?_ ?_ ?_
 ·exact Q2 (l := [0, 3, 5]) (lH := [3]) (kp3 rfl rfl rfl) (Qe rfl Ql) rfl rfl rfl
 ·exact ⟨Nat.zero_le _, by simp⟩
 intro k hI
 try dsimp only
 refine QB ?_ -- 1
 refine Qf fun K hK => Qa rfl (Qa rfl (QR rfl rfl (Z8 rfl rfl (Qa rfl ?_))))
 refine QE (g := 10) rfl (fun h1 => ?_) (fun h1 => ?_)
 ·try rw [h1]
  try simp only [qa, qb, qc, qd, qe, List.length_map] at h1
  refine Qj rfl (Qa rfl (Qj rfl (Qa rfl (Qj rfl (QJ rfl rfl rfl (by omega) (QS (by omega)) rfl (Qj rfl (QN (ds0 := [2, 1, 0]) (cs := [_, _, _, _, _, _, _]) rfl rfl rfl rfl rfl rfl (Qj rfl (QN (ds0 := [2, 1, 0]) (cs := [_, _, _, _, _, _, _]) rfl rfl rfl rfl rfl rfl (Qj rfl (QV (ds0 := [1, 0]) (Zu (hs _ (List.getElem_mem (by omega))).1 (hs _ (List.getElem_mem (by omega))).2 hc.1 hc.2) rfl rfl (.inr rfl) rfl rfl ?_)))))))))))
  refine Qj rfl (Z8 rfl rfl (Qp rfl rfl ?_))
  refine hK _ _ (Qb (kp4 rfl rfl rfl rfl) ?_)
  refine Qw rfl (fun h2 => ?_) (fun h2 => ?_)
  ·try rw [h2]
   try simp only [qa, qb, qc, qd, qe, List.length_map] at h2
   refine Qv (Qd (kp3 rfl rfl rfl) (Qz (QL fun K hK => Qa rfl (Q1 rfl rfl (by first | exact Qq (by omega) (by omega) | rfl) (Qa rfl (hK _ ?_))))))
   refine Qg ?_
   refine Qi (k + 1) ?_ ?_ ?_
   ·exact Q2 (l := [0, 3, 5]) (lH := [3]) (kp3 rfl rfl rfl) (Qe rfl Ql) rfl rfl rfl
   ·exact ⟨by omega, QmO (by omega) h2 hI.2⟩
   ·first | omega | (simp only; omega) | (dsimp only; omega)
  ·try rw [h2]
   try simp only [qa, qb, qc, qd, qe, List.length_map] at h2
   refine Zi (QK (Qx (QD (Qd (kp3 rfl rfl rfl) ?_))))
   refine QB ?_ -- 2
   refine Qf fun K hK => Qa rfl (Qa rfl (QR rfl rfl (Z8 rfl rfl (Qa rfl ?_))))
   refine QE (g := 25) rfl (fun h3 => ?_) (fun h3 => ?_)
   ·try rw [h3]
    try simp only [qa, qb, qc, qd, qe, List.length_map] at h3
    refine Qj rfl (Qa rfl (Qj rfl (Qa rfl (Qj rfl (QJ rfl rfl rfl (by omega) (QS (by omega)) rfl (Qj rfl (QN (ds0 := [2, 1, 0]) (cs := [_, _, _, _, _, _, _]) rfl rfl rfl rfl rfl rfl (Qj rfl (QN (ds0 := [2, 1, 0]) (cs := [_, _, _, _, _, _, _]) rfl rfl rfl rfl rfl rfl (Qj rfl (QV (ds0 := [1, 0]) (Zu (hs _ (List.getElem_mem (by omega))).1 (hs _ (List.getElem_mem (by omega))).2 hc.1 hc.2) rfl rfl (.inr rfl) rfl rfl ?_)))))))))))
    refine Qj rfl (ZN rfl rfl (Qp rfl rfl ?_))
    refine hK _ _ (Qb (kp4 rfl rfl rfl rfl) ?_)
    refine Qw rfl (fun h4 => ?_) (fun h4 => ?_)
    ·try rw [h4]
     try simp only [qa, qb, qc, qd, qe, List.length_map] at h4
     refine Qf fun K hK => Qa rfl (Qa rfl ?_)
     refine hK _ _ (Qb (kp1 rfl) ?_)
     refine Qu (Qk (Yk rfl ?_))
     rw [QmN (k := k) (by omega) (by assumption) hI.2]; rfl
    ·try rw [h4]
     try simp only [qa, qb, qc, qd, qe, List.length_map] at h4
     refine Qv (Qd (kp3 rfl rfl rfl) (Qf fun K hK => Qa rfl (Qa rfl (QbQ rfl rfl rfl rfl (by omega) (by omega) (by simp; omega) Qi8 rfl (Qef (ds0 := [5, 1, 0]) rfl rfl (fun _ h => ⟨Qou, h⟩) rfl (.inl rfl) (by simp) (by simp; omega) (by simp; omega) rfl rfl (QN (ds0 := [6, 5, 1, 0]) (cs := [_, _, _, _, _, _, _]) rfl rfl rfl rfl rfl rfl (QC rfl rfl (Qba (ds0 := [1, 0]) rfl rfl (by simp [D.ids, D.sid]) ⟨_, rfl, rfl, rfl, rfl, rfl⟩ rfl rfl (by simp) rfl rfl (by simp; omega) (by simp; omega) rfl rfl (Qa rfl (Qa rfl ?_))))))))))
     refine QbQ rfl rfl rfl rfl (by omega) (by simp; omega) (by simp) Qi8 rfl (Qba (ds0 := [0]) rfl rfl (by simp [D.ids, D.sid]) ⟨rfl, Qou, rfl⟩ rfl rfl (by simp) rfl rfl (by simp; omega) (by simp; omega) rfl rfl (Qa rfl ?_))
     refine hK _ _ (Qb (kp1 rfl) ?_)
     refine Qu (Yk rfl ?_)
     rw [QkQ (k := k) (by first | exact .inl (by omega) | exact .inr ⟨by omega, by assumption, by assumption⟩) hI.2]; simp [QbT, D.fz, D.fzS, Qc3, lk, D.can, D.canS, Qhl, D.sid, (show ∀ a b : Nat, a + 1 + b = a + (b + 1) from fun a b => by omega), List.take_of_length_le (show (l.map dCu).length <= l.length by simp)] <;> rfl
   ·try rw [h3]
    try simp only [qa, qb, qc, qd, qe, List.length_map] at h3
    exact absurd h1 h3
 ·try rw [h1]
  try simp only [qa, qb, qc, qd, qe, List.length_map] at h1
  refine Qs rfl (Qs rfl (Qs rfl (Qs rfl (Qs rfl (Qs rfl (Qs rfl (Qp rfl rfl ?_)))))))
  refine hK _ _ (Qb (kp4 rfl rfl rfl rfl) ?_)
  refine ZJ rfl (Zi (QK (Qx (QD (Qd (kp3 rfl rfl rfl) ?_)))))
  refine QB ?_ -- 2
  refine Qf fun K hK => Qa rfl (Qa rfl (QR rfl rfl (Z8 rfl rfl (Qa rfl ?_))))
  refine QE (g := 25) rfl (fun h5 => ?_) (fun h5 => ?_)
  ·try rw [h5]
   try simp only [qa, qb, qc, qd, qe, List.length_map] at h5
   exact absurd h5 h1
  ·try rw [h5]
   try simp only [qa, qb, qc, qd, qe, List.length_map] at h5
   refine Qs rfl (Qs rfl (Qs rfl (Qs rfl (Qs rfl (Qs rfl (Qs rfl (Qp rfl rfl ?_)))))))
   refine hK _ _ (Qb (kp4 rfl rfl rfl rfl) ?_)
   refine ZJ rfl (Qv (Qd (kp3 rfl rfl rfl) (Qf fun K hK => Qa rfl (Qa rfl (QbQ rfl rfl rfl rfl (by omega) (by omega) (by simp; omega) Qi8 rfl (Qef (ds0 := [5, 1, 0]) rfl rfl (fun _ h => ⟨Qou, h⟩) rfl (.inl rfl) (by simp) (by simp; omega) (by simp; omega) rfl rfl (QN (ds0 := [6, 5, 1, 0]) (cs := [_, _, _, _, _, _, _]) rfl rfl rfl rfl rfl rfl (QC rfl rfl (Qba (ds0 := [1, 0]) rfl rfl (by simp [D.ids, D.sid]) ⟨_, rfl, rfl, rfl, rfl, rfl⟩ rfl rfl (by simp) rfl rfl (by simp; omega) (by simp; omega) rfl rfl (Qa rfl ?_))))))))))
   refine Qa rfl (QbQ rfl rfl rfl rfl (by omega) (by simp; omega) (by simp) Qi8 rfl (Qba (ds0 := [0]) rfl rfl (by simp [D.ids, D.sid]) ⟨rfl, Qou, rfl⟩ rfl rfl (by simp) rfl rfl (by simp; omega) (by simp; omega) rfl rfl (Qa rfl ?_)))
   refine hK _ _ (Qb (kp1 rfl) ?_)
   refine Qu (Yk rfl ?_)
   rw [QkQ (k := k) (by first | exact .inl (by omega) | exact .inr ⟨by omega, by assumption, by assumption⟩) hI.2]; simp [QbT, D.fz, D.fzS, Qc3, lk, D.can, D.canS, Qhl, D.sid, (show ∀ a b : Nat, a + 1 + b = a + (b + 1) from fun a b => by omega), List.take_of_length_le (show (l.map dCu).length <= l.length by simp)] <;> rfl
theorem Qah {l : List (Cu × Cu)} (hl : Sm l) : Ok Tryz.prog 105 [ZH l] (Qhl (YW l)) := by
 refine Ok.ofT Z1 Tryz.func105 Qrp (Nat.le_of_ble_eq_true rfl) ?_
 show TW _ _ tf105.body _ _
 have hn := hl.1
 refine Qf fun K hK => Qa rfl ?_
 refine hK _ _ (Qb (kp1 rfl) ?_)
 refine Qf fun K hK => QI (Y0) rfl rfl (.inl rfl) (QI (Xc) rfl rfl (.inl rfl) (QC rfl rfl (Qa rfl ?_)))
 refine hK _ _ (Qb (kp2 rfl rfl) ?_)
 refine QB ?_ -- 0
 refine Qf fun K hK => Qa rfl ?_
 refine hK _ _ (Qb (kp3 rfl rfl rfl) ?_)
 refine Qz ?_
 refine Zk (ι := Nat) (fun i => ⟨[(0, ZH l), (3, Qhl (YW (l.take i))), (4, .int .i64 i)], []⟩) (fun i => i <= l.length) (fun i => l.length - i) 0 ?_ ?_ ?_
 ·exact le_trans (QiH 7 _ (by decide)) (Q2 (l := [0, 3, 4]) (lH := []) (kp3 rfl rfl rfl) Ql rfl rfl rfl)
 ·exact Nat.zero_le _
 intro i hI
 try dsimp only
 refine QB ?_ -- 1
 refine Qf fun K hK => Qa rfl (Qa rfl (QR rfl rfl (Z8 rfl rfl ?_)))
 refine hK _ _ (Qb (kp4 rfl rfl rfl rfl) ?_)
 refine Qw rfl (fun h1 => ?_) (fun h1 => ?_)
 ·try rw [h1]
  try simp only [qa, qb, qc, qd, qe, List.length_map] at h1
  refine Qv (Qd (kp3 rfl rfl rfl) ?_)
  refine QB ?_ -- 2
  refine Qz (QL fun K hK => Qa rfl (Qa rfl (Qa rfl (QJ rfl rfl rfl (by omega) (QS (by omega)) rfl (Q6 rfl rfl (QN (ds0 := [7, 1, 0]) (cs := [_, _, _, _, _, _, _]) rfl rfl rfl rfl rfl rfl (QV (ds0 := [1, 0]) (Qaz (Nat.le_trans (Qfg hl i).1 (by omega)) (Qfg hl i).2 (hl.2 _ (List.getElem_mem (by omega))).1) rfl rfl (.inl rfl) rfl rfl (Qa rfl (Qa rfl (QJ rfl rfl rfl (by omega) (QS (by omega)) rfl ?_))))))))))
  refine Q6 rfl rfl (QN (ds0 := [1, 0]) (cs := [_, _, _, _, _, _, _]) rfl rfl rfl rfl rfl rfl (QV (ds0 := [0]) (Qaz (Nat.le_trans (Qfi _ _) (by have := (Qfg hl i).1; omega)) (QhN (Qfg hl i).2 (hl.2 _ (List.getElem_mem (by omega))).1) (hl.2 _ (List.getElem_mem (by omega))).2) rfl rfl (.inl rfl) rfl rfl (Qa rfl (hK _ ?_))))
  refine Qg (Qd (kp3 rfl rfl rfl) (QL fun K hK => Qa rfl (Q1 rfl rfl (by first | exact Qq (by omega) (by omega) | rfl) (Qa rfl (hK _ ?_)))))
  refine Qi (i + 1) ?_ ?_ ?_
  ·exact Q2 (l := [0, 3, 4]) (lH := []) (kp3 rfl rfl rfl) Ql (by rw [Qod (by omega)]; rfl) rfl rfl
  ·omega
  ·first | omega | (simp only; omega) | (dsimp only; omega)
 ·try rw [h1]
  try simp only [qa, qb, qc, qd, qe, List.length_map] at h1
  refine Zi (QK (Qx (QD (Qd (kp1 rfl) (Qf fun K hK => Qa rfl (Qa rfl ?_))))))
  refine hK _ _ (Qb (kp1 rfl) ?_)
  refine Qu (Yk rfl ?_)
  rw [List.take_of_length_le (show l.length <= i by omega)]; rfl
end Go.Proofs
namespace Go.Proofs
open Go Go.Abs M3 M25
set_option linter.unusedVariables false
set_option linter.unusedSimpArgs false
theorem Qai {l : List (Cu × Cu)} {x y : Cu} (hn : l.length <= 3000000) (hl : ∀ s ∈ l, Cu.sm s.1 /\ Cu.sm s.2) (hx : Cu.sm x) (hy : Cu.sm y) : OkH Tryz.prog 107 [.osl 500000 l.length, .agg (dCu x), .agg (dCu y)] [(500000, ⟨l.map QeZ, 14, 108, true⟩)] (.osl 500000 (Qcc l x y).length) [(500000, ⟨(Qcc l x y).map QeZ, 14, 108, true⟩)] := by
 refine OkH.mv Z1 Tryz.func107 Qrr (Nat.le_of_ble_eq_true rfl) rfl ?_
 show TW _ _ tf107.body _ _
 refine Qf fun K hK => Zx rfl rfl rfl (Zx rfl rfl rfl (Qa rfl ?_))
 refine hK _ _ (Qb (kp3 rfl rfl rfl) ?_)
 refine QB ?_ -- 0
 refine Qf fun K hK => Qa rfl (QR rfl rfl (Qaq rfl rfl (by first | exact Qq (by omega) (by omega) | rfl) (Qa rfl ?_)))
 refine hK _ _ (Qb (kp4 rfl rfl rfl rfl) ?_)
 refine Qf fun K hK => Qa rfl (QeX rfl rfl (Qa rfl ?_))
 refine QE (g := 13) rfl (fun h1 => ?_) (fun h1 => ?_)
 ·try rw [h1]
  try simp only [qa, qb, qc, qd, qe, List.length_map] at h1
  refine Qj rfl (Qa rfl (Qj rfl (Qa rfl (Qj rfl (XL (ds0 := [5, 4, 2, 1, 0]) rfl rfl rfl (by simp) (by omega) (by omega) rfl rfl rfl (Qj rfl (Qh rfl rfl (Qj rfl (QN (ds0 := [2, 1, 0]) (cs := [_, _, _, _, _, _, _]) rfl (Z9 rfl (ZC (by omega) (by omega))) rfl rfl rfl rfl (Qj rfl (QN (ds0 := [2, 1, 0]) (cs := [_, _, _, _, _, _, _]) rfl rfl rfl rfl rfl rfl ?_)))))))))))
  refine Qj rfl (QV (ds0 := [1, 0]) (Zu (hl _ (List.getElem_mem (by omega))).2.1 (hl _ (List.getElem_mem (by omega))).2.2 hx.1 hx.2) rfl rfl (.inr rfl) rfl rfl (Qj rfl (ZN rfl rfl (Qp rfl rfl ?_))))
  refine hK _ _ (Qb (kp5 rfl rfl rfl rfl rfl) ?_)
  refine Qw rfl (fun h2 => ?_) (fun h2 => ?_)
  ·try rw [h2]
   try simp only [qa, qb, qc, qd, qe, List.length_map] at h2
   refine Qf fun K hK => Qa rfl (Qa rfl (QH (cs := [_, _, _, _, _, _, _]) rfl rfl rfl rfl (Xm rfl rfl rfl (by simp) (by omega) (by omega) rfl (Qh rfl rfl (Q7 rfl rfl (ZC (by omega) (by omega)) rfl rfl rfl rfl rfl ?_)))))
   refine hK _ _ (Qb (kp1 rfl) ?_)
   refine Qf fun K hK => Qa rfl (Qa rfl ?_)
   refine hK _ _ (Qb (kp1 rfl) ?_)
   refine Qu (Qk ?_)
   refine YC rfl ?_ (Qcm ?_)
   ·rw [QiM (i := ((l.length : Int) - 1).toNat) (by omega) h2]; simp [QlQ, D.fz, D.fzS, Qgh, D.can, D.canS]
   ·rw [QiM (i := ((l.length : Int) - 1).toNat) (by omega) h2]; simp [lk, List.map_set, QeZ, dCu, setRow, D.sid]
  ·try rw [h2]
   try simp only [qa, qb, qc, qd, qe, List.length_map] at h2
   refine Qv (Qd (kp3 rfl rfl rfl) (Qf fun K hK => Qa rfl (QH (cs := [_, _, _, _, _, _, _]) rfl rfl rfl rfl (QH (cs := [_, _, _, _, _, _, _]) rfl rfl rfl rfl (QX rfl rfl (QC rfl rfl (Xl rfl rfl (fun _ h => Y5 rfl rfl rfl h) rfl (by simp) rfl rfl rfl (by simp; omega) (by simp; omega) (Qa rfl ?_))))))))
   refine hK _ _ (Qb (kp1 rfl) ?_)
   refine Qu ?_
   refine YC rfl ?_ (Qcm ?_)
   ·rw [QdR (.inr ⟨((l.length : Int) - 1).toNat, by omega, h2⟩)]; simp [QlQ, D.fz, D.fzS, Qgh, D.can, D.canS]
   ·rw [QdR (.inr ⟨((l.length : Int) - 1).toNat, by omega, h2⟩)]; simp [lk, QeZ, dCu, D.sid]
 ·try rw [h1]
  try simp only [qa, qb, qc, qd, qe, List.length_map] at h1
  refine Qs rfl (Qs rfl (Qs rfl (Qs rfl (Qs rfl (Qs rfl (Qs rfl (Qs rfl (Qp rfl rfl ?_))))))))
  refine hK _ _ (Qb (kp5 rfl rfl rfl rfl rfl) ?_)
  refine ZJ rfl (Qv (Qd (kp3 rfl rfl rfl) (Qf fun K hK => Qa rfl (QH (cs := [_, _, _, _, _, _, _]) rfl rfl rfl rfl (QH (cs := [_, _, _, _, _, _, _]) rfl rfl rfl rfl (QX rfl rfl (QC rfl rfl (Xl rfl rfl (fun _ h => Y5 rfl rfl rfl h) rfl (by simp) rfl rfl rfl (by simp; omega) (by simp; omega) (Qa rfl ?_)))))))))
  refine hK _ _ (Qb (kp1 rfl) ?_)
  refine Qu ?_
  have h0 : l = [] := List.eq_nil_of_length_eq_zero (by omega)
  refine YC rfl ?_ (Qcm ?_)
  ·rw [QdR (.inl h0)]; simp [QlQ, D.fz, D.fzS, Qgh, D.can, D.canS]
  ·rw [QdR (.inl h0)]; simp [lk, QeZ, dCu, D.sid]
end Go.Proofs
namespace Go.Proofs
open Go Go.Abs M3 M25
set_option linter.unusedVariables false
set_option linter.unusedSimpArgs false
theorem Qda {l : List (Cu × Cu)} (hl : Sm l) : Ok Tryz.prog 104 [ZH l] (.tup [ZH (QjR l), .bool (l.all QdT)]) := by
  refine Ok.ofT Z1 Tryz.func104 Qro (Nat.le_of_ble_eq_true rfl) ?_
  show TW _ _ tf104.body _ _
  have hn := hl.1
  have hc1 := Qca l
  refine Qf fun K hK => Qa rfl (Qa rfl ?_)
  refine hK _ _ (Qb (kp1 rfl) ?_)
  refine QB ?_ -- 0
  refine Qf fun K hK => Qa rfl ?_
  refine hK _ _ (Qb (kp2 rfl rfl) ?_)
  refine Qz ?_
  refine Zk (ι := Nat) (fun i => ⟨[(0, ZH l), (4, .int .i64 i)], []⟩) (fun i => i <= l.length /\ (l.take i).all QdT = true) (fun i => l.length - i) 0 ?_ ?_ ?_
  · exact Zg (kp2 rfl rfl)
  · exact ⟨Nat.zero_le _, by simp⟩
  intro i hI
  try dsimp only
  refine QB ?_ -- 1
  refine Qf fun K hK => Qa rfl (Qa rfl (QR rfl rfl (Z8 rfl rfl ?_)))
  refine hK _ _ (Qb (kp3 rfl rfl rfl) ?_)
  refine Qw rfl (fun h1 => ?_) (fun h1 => ?_)
  · try rw [h1]
    try simp only [qa, qb, qc, qd, qe, List.length_map] at h1
    refine Qv (Qd (kp2 rfl rfl) ?_)
    refine QB ?_ -- 2
    refine Qz (Qf fun K hK => Qa rfl (Qa rfl (QJ rfl rfl rfl (by omega) (QS (by omega)) rfl (QH (cs := [_, _, _, _, _, _, _, _, _, _, _, _, _, _]) rfl rfl rfl rfl (QI (YI (hl.at (i := i) (by omega)).1.1 (hl.at (i := i) (by omega)).1.2 (hl.at (i := i) (by omega)).2.1 (hl.at (i := i) (by omega)).2.2) rfl rfl (.inr rfl) (Yp rfl ?_))))))
    refine hK _ _ (Qb (kp3 rfl rfl rfl) ?_)
    refine Qw rfl (fun h2 => ?_) (fun h2 => ?_)
    · try rw [h2]
      try simp only [qa, qb, qc, qd, qe, List.length_map] at h2
      refine Qf fun K hK => Qa rfl (Qa rfl ?_)
      refine hK _ _ (Qb (kp2 rfl rfl) ?_)
      refine Qu (Qr (Qk (Q4 (Qr (Qk ?_)))))
      first
        | exact QT rfl rfl ⟨by rw [QjR, if_neg (by rw [XN (i := i) (by omega) (by assumption)]; simp)]; rfl, by rw [XN (i := i) (by omega) (by assumption)]; rfl⟩
        | (have ha : l.all QdT = true := XC (by omega) hI.2
           exact QT rfl rfl ⟨by rw [QjR, if_pos ha, hI2.done (by omega)]; simp [QbT, D.fz, D.fzS, Qc3, lk, D.can, D.canS, ZH], by rw [ha]; rfl⟩)
    · try rw [h2]
      try simp only [qa, qb, qc, qd, qe, List.length_map] at h2
      refine Qv (Qg (Qd (kp2 rfl rfl) (QL fun K hK => Qa rfl (Q1 rfl rfl (by first | exact Qq (by omega) (by omega) | rfl) (Qa rfl (hK _ ?_))))))
      refine Qi (i + 1) ?_ ?_ ?_
      · exact Zg (kp2 rfl rfl)
      · exact ⟨by omega, Yf (by omega) hI.2 (by assumption)⟩
      · first | omega | (simp only; omega) | (dsimp only; omega)
  · try rw [h1]
    try simp only [qa, qb, qc, qd, qe, List.length_map] at h1
    refine Zi (QK (Qx (QD (Qd (kp1 rfl) (Qf fun K hK => Qa rfl ?_)))))
    refine hK _ _ (Qb (kp2 rfl rfl) ?_)
    refine Qf fun K hK => Qa rfl (QI (Qah hl) rfl rfl (.inl rfl) (Qa rfl ?_))
    refine hK _ _ (Qb (kp3 rfl rfl rfl) ?_)
    refine QB ?_ -- 3
    refine Qf fun K hK => Qa rfl ?_
    refine hK _ _ (Qb (kp4 rfl rfl rfl rfl) ?_)
    refine Qz ?_
    refine Zk (ι := Nat × List (Cu × Cu)) (fun ⟨i, out⟩ => ⟨[(0, ZH l), (5, .osl 5 out.length), (6, Qhl (YW l)), (7, .int .i64 i)], [(5, ⟨out.map QeZ, 14, 108, true⟩)]⟩) (fun ⟨i, out⟩ => i <= (YW l).length /\ FillI (mIn l) (YW l) i out) (fun ⟨i, out⟩ => (YW l).length - i) (0, []) ?_ ?_ ?_
    · exact le_trans (Yj 5 5 14 108 rfl rfl) (Q2 (l := [0, 5, 6, 7]) (lH := [5]) (kp4 rfl rfl rfl rfl) (Qe rfl Ql) rfl rfl rfl)
    · exact ⟨Nat.zero_le _, FillI.zero⟩
    intro ⟨i, out⟩ hI
    obtain ⟨hI1, hI2⟩ := hI
    have hI3 := hI2.1
    try dsimp only
    refine QB ?_ -- 4
    refine Qf fun K hK => Qa rfl (Q1 rfl rfl (by first | exact Qq (by omega) (by omega) | rfl) (Qa rfl (QR rfl rfl (Z8 rfl rfl ?_))))
    refine hK _ _ (Qb (kp5 rfl rfl rfl rfl rfl) ?_)
    refine Qw rfl (fun h3 => ?_) (fun h3 => ?_)
    · try rw [h3]
      try simp only [qa, qb, qc, qd, qe, List.length_map] at h3
      refine Qv (Qd (kp4 rfl rfl rfl rfl) ?_)
      refine QB ?_ -- 5
      refine Qz (Qf fun K hK => Qa rfl (Qa rfl (Qa rfl (QJ rfl rfl rfl (by omega) (QS (by omega)) rfl (QN (ds0 := [0]) (cs := [_, _, _, _, _, _, _]) rfl rfl rfl rfl rfl rfl (Qa rfl (Qa rfl (Q1 rfl rfl (by first | exact Qq (by omega) (by omega) | rfl) (QJ rfl rfl rfl (by omega) (QkD (by omega)) rfl (QN (ds0 := [0]) (cs := [_, _, _, _, _, _, _]) rfl rfl rfl rfl rfl rfl ?_))))))))))
      refine QV (ds0 := []) (QaZ hl (YA hl _ (List.getElem_mem (by omega))) (YA hl _ (List.getElem_mem (by omega)))) rfl rfl (.inr rfl) rfl rfl ?_
      refine hK _ _ (Qb (kp5 rfl rfl rfl rfl rfl) ?_)
      refine Qw rfl (fun h4 => ?_) (fun h4 => ?_)
      · try rw [h4]
        try simp only [qa, qb, qc, qd, qe, List.length_map] at h4
        refine QL fun K hK => Qa rfl (Qa rfl (Qa rfl (QJ rfl rfl rfl (by omega) (QS (by omega)) rfl (QN (ds0 := [1, 0]) (cs := [_, _, _, _, _, _, _]) rfl rfl rfl rfl rfl rfl (Qa rfl (Qa rfl (Q1 rfl rfl (by first | exact Qq (by omega) (by omega) | rfl) (QJ rfl rfl rfl (by omega) (QkD (by omega)) rfl (QN (ds0 := [1, 0]) (cs := [_, _, _, _, _, _, _]) rfl rfl rfl rfl rfl rfl (Qkg (ds0 := [0]) (Qkp (k := 5) rfl rfl rfl (by decide) rfl (by decide) (by simp [D.ids, D.sid, dCu]) ⟨.osl 5 out.length, by simp, by simp [D.ids, D.sid]⟩ rfl rfl (Qai (by omega) hI2.2.1 (YA hl _ (List.getElem_mem (by omega))) (YA hl _ (List.getElem_mem (by omega))))) (fun _ h => by cases h) rfl rfl ?_))))))))))
        refine Qa rfl (hK _ ?_)
        refine Qg (Qd (kp4 rfl rfl rfl rfl) (QL fun K hK => Qa rfl (Q1 rfl rfl (by first | exact Qq (by omega) (by omega) | rfl) (Qa rfl (hK _ ?_)))))
        refine Qi (i + 1, Qcc out (YW l)[i] (YW l)[i + 1]) ?_ ?_ ?_
        · exact le_trans (Qmy (l := [0, 6, 7]) (t := 50) (u := 5) 5 (kp3 rfl rfl rfl) rfl rfl rfl rfl) (Q2 (l := [0, 5, 6, 7]) (lH := [5]) (kp4 rfl rfl rfl rfl) (Qe rfl Ql) rfl rfl rfl)
        · exact ⟨by omega, hI2.take (YA hl) (by omega) (by assumption)⟩
        · show (YW l).length - (i + 1) < (YW l).length - i; omega
      · try rw [h4]
        try simp only [qa, qb, qc, qd, qe, List.length_map] at h4
        refine Qv (Qg (Qd (kp4 rfl rfl rfl rfl) (QL fun K hK => Qa rfl (Q1 rfl rfl (by first | exact Qq (by omega) (by omega) | rfl) (Qa rfl (hK _ ?_))))))
        refine Qi (i + 1, out) ?_ ?_ ?_
        · exact Q2 (l := [0, 5, 6, 7]) (lH := [5]) (kp4 rfl rfl rfl rfl) (Qe rfl Ql) rfl rfl rfl
        · exact ⟨by omega, hI2.skip (by omega) (by assumption)⟩
        · show (YW l).length - (i + 1) < (YW l).length - i; omega
    · try rw [h3]
      try simp only [qa, qb, qc, qd, qe, List.length_map] at h3
      refine Zi (QK (Qx (QD (Qd (kp1 rfl) (Qf fun K hK => Qa rfl (Qa rfl (Qa rfl ?_)))))))
      refine hK _ _ (Qb (kp2 rfl rfl) ?_)
      refine Qu ?_
      first
        | exact QT rfl rfl ⟨by rw [QjR, if_neg (by rw [XN (i := i) (by omega) (by assumption)]; simp)]; rfl, by rw [XN (i := i) (by omega) (by assumption)]; rfl⟩
        | (have ha : l.all QdT = true := XC (by omega) hI.2
           exact QT rfl rfl ⟨by rw [QjR, if_pos ha, hI2.done (by omega)]; simp [QbT, D.fz, D.fzS, Qc3, lk, D.can, D.canS, ZH], by rw [ha]; rfl⟩)
end Go.Proofs
namespace Go.Proofs
open Go Go.Abs M3 M25
set_option linter.unusedVariables false
set_option linter.unusedSimpArgs false
theorem QaY {a b : List (Cu × Cu)} (ha : Sm a) (hb : Sm b) (hab : a.length + b.length <= 1000000) : Ok Tryz.prog 98 [ZH a, ZH b] (ZH (Qo0 a b)) := by
 refine Ok.ofT Z1 Tryz.func98 Qs5 (Nat.le_of_ble_eq_true rfl) ?_
 show TW _ _ tf98.body _ _
 refine Qf fun K hK => Qa rfl ?_
 refine hK _ _ (Qb (kp2 rfl rfl) ?_)
 refine QB ?_ -- 0
 refine Qf fun K hK => Qa rfl (QI (ZX ha) rfl rfl (.inr rfl) (Yp rfl (Qa rfl ?_)))
 refine QE (g := 10) rfl (fun h1 => ?_) (fun h1 => ?_)
 ·try rw [h1]
  try simp only [qa, qb, qc, qd, qe] at h1
  refine Qs rfl (Qs rfl (Qs rfl (Qp rfl rfl ?_)))
  refine hK _ _ (Qb (kp3 rfl rfl rfl) ?_)
  refine Zv rfl (Qf fun K hK => Qa rfl ?_)
  refine hK _ _ (Qb (kp1 rfl) ?_)
  refine Qu (Qk (Yk rfl ?_))
  rw [Qo0, if_neg (by simp [h1])]; rfl
 ·try rw [h1]
  try simp only [qa, qb, qc, qd, qe] at h1
  refine Qj rfl (Qa rfl (Qj rfl (QI (ZX hb) rfl rfl (.inr rfl) (Qj rfl (Yp rfl (Qp rfl rfl ?_))))))
  refine hK _ _ (Qb (kp3 rfl rfl rfl) ?_)
  refine Qw rfl (fun h2 => ?_) (fun h2 => ?_)
  ·try rw [h2]
   try simp only [qa, qb, qc, qd, qe] at h2
   refine Qf fun K hK => Qa rfl ?_
   refine hK _ _ (Qb (kp1 rfl) ?_)
   refine Qu (Qk (Yk rfl ?_))
   rw [Qo0, if_neg (by simp [h1, h2])]; rfl
  ·try rw [h2]
   try simp only [qa, qb, qc, qd, qe] at h2
   refine Qv (Qd (kp2 rfl rfl) (Qf fun K hK => Qa rfl (QlW rfl rfl (fun _ h => Qlb Qo6 h) rfl (.inl rfl) (by simp) (by simp; omega) (by simp; omega) (Qa rfl (Xl rfl rfl (fun _ h => Qlb Qo6 h) rfl (by simp) rfl rfl rfl (by simp; omega) (by simp; omega) ?_)))))
   apply Qpg [17] (by simp)
   ·simp [St.freezeL, St.freeze, rem, D.fz, D.fzS, Box.fz, lk, D.scrub]; exact ⟨rfl, rfl⟩
   ·exact Qda (ha.app hb hab)
   ·rfl
   ·simp [QbT, D.fz, D.fzS, Qc3, D.can, D.canS, ZH]
   ·exact .inl rfl
   refine Qa rfl (QW rfl rfl (QW rfl rfl (Qa rfl (Qa rfl ?_))))
   refine hK _ _ (Qb (kp1 rfl) ?_)
   refine Qf fun K hK => Qa rfl (Qa rfl ?_)
   refine hK _ _ (Qb (kp1 rfl) ?_)
   refine Qu (Yk rfl ?_)
   rw [Qo0, if_pos ⟨h1, h2⟩]; rfl
theorem Qay {a : List (Cu × Cu)} (ha : Sm a) : Ok Tryz.prog 99 [ZH a] (ZH (QjS a)) := by
 refine Ok.ofT Z1 Tryz.func99 Qs6 (Nat.le_of_ble_eq_true rfl) ?_
 show TW _ _ tf99.body _ _
 have hn := ha.1
 have hc1 := Qca a
 refine Qf fun K hK => Qa rfl ?_
 refine hK _ _ (Qb (kp1 rfl) ?_)
 refine QB ?_ -- 0
 refine Qf fun K hK => Qa rfl (QI (ZX ha) rfl rfl (.inr rfl) (Yp rfl ?_))
 refine hK _ _ (Qb (kp2 rfl rfl) ?_)
 refine Qw rfl (fun h1 => ?_) (fun h1 => ?_)
 ·try rw [h1]
  try simp only [qa, qb, qc, qd, qe, List.length_map] at h1
  refine Qf fun K hK => Qa rfl ?_
  refine hK _ _ (Qb (kp1 rfl) ?_)
  refine Qu (Qk (Yk rfl ?_))
  rw [QjS, if_neg (by simp [h1])]; rfl
 ·try rw [h1]
  try simp only [qa, qb, qc, qd, qe, List.length_map] at h1
  refine Qv (Qd (kp1 rfl) (Qf fun K hK => Qa rfl ?_))
  refine hK _ _ (Qb (kp2 rfl rfl) ?_)
  refine Qf fun K hK => Qa rfl (QI (Qah ha) rfl rfl (.inl rfl) (Qa rfl ?_))
  refine hK _ _ (Qb (kp3 rfl rfl rfl) ?_)
  refine QB ?_ -- 1
  refine Qf fun K hK => Qa rfl ?_
  refine hK _ _ (Qb (kp4 rfl rfl rfl rfl) ?_)
  refine Qz ?_
  refine Zk (ι := Nat × List (Cu × Cu)) (fun ⟨i, out⟩ => ⟨[(0, ZH a), (3, .osl 3 out.length), (4, Qhl (YW a)), (5, .int .i64 i)], [(3, ⟨out.map QeZ, 14, 108, true⟩)]⟩) (fun ⟨i, out⟩ => i <= (YW a).length /\ FillI (fun x y => !mIn a x y) (YW a) i out) (fun ⟨i, out⟩ => (YW a).length - i) (0, []) ?_ ?_ ?_
  ·exact le_trans (Yj 3 3 14 108 rfl rfl) (Q2 (l := [0, 3, 4, 5]) (lH := [3]) (kp4 rfl rfl rfl rfl) (Qe rfl Ql) rfl rfl rfl)
  ·exact ⟨Nat.zero_le _, FillI.zero⟩
  intro ⟨i, out⟩ hI
  obtain ⟨hI1, hI2⟩ := hI
  have hI3 := hI2.1
  try dsimp only
  refine QB ?_ -- 2
  refine Qf fun K hK => Qa rfl (Q1 rfl rfl (by first | exact Qq (by omega) (by omega) | rfl) (Qa rfl (QR rfl rfl (Z8 rfl rfl ?_))))
  refine hK _ _ (Qb (kp5 rfl rfl rfl rfl rfl) ?_)
  refine Qw rfl (fun h2 => ?_) (fun h2 => ?_)
  ·try rw [h2]
   try simp only [qa, qb, qc, qd, qe, List.length_map] at h2
   refine Qv (Qd (kp4 rfl rfl rfl rfl) ?_)
   refine QB ?_ -- 3
   refine Qz (Qf fun K hK => Qa rfl (Qa rfl (Qa rfl (QJ rfl rfl rfl (by omega) (QS (by omega)) rfl (QN (ds0 := [1, 0]) (cs := [_, _, _, _, _, _, _]) rfl rfl rfl rfl rfl rfl (Qa rfl (Qa rfl (Q1 rfl rfl (by first | exact Qq (by omega) (by omega) | rfl) (QJ rfl rfl rfl (by omega) (QkD (by omega)) rfl (QN (ds0 := [1, 0]) (cs := [_, _, _, _, _, _, _]) rfl rfl rfl rfl rfl rfl ?_))))))))))
   refine QV (ds0 := [0]) (QaZ ha (YA ha _ (List.getElem_mem (by omega))) (YA ha _ (List.getElem_mem (by omega)))) rfl rfl (.inr rfl) rfl rfl (Yp rfl ?_)
   refine hK _ _ (Qb (kp5 rfl rfl rfl rfl rfl) ?_)
   refine Qw rfl (fun h3 => ?_) (fun h3 => ?_)
   ·try rw [h3]
    try simp only [qa, qb, qc, qd, qe, List.length_map] at h3
    refine QL fun K hK => Qa rfl (Qa rfl (Qa rfl (QJ rfl rfl rfl (by omega) (QS (by omega)) rfl (QN (ds0 := [1, 0]) (cs := [_, _, _, _, _, _, _]) rfl rfl rfl rfl rfl rfl (Qa rfl (Qa rfl (Q1 rfl rfl (by first | exact Qq (by omega) (by omega) | rfl) (QJ rfl rfl rfl (by omega) (QkD (by omega)) rfl (QN (ds0 := [1, 0]) (cs := [_, _, _, _, _, _, _]) rfl rfl rfl rfl rfl rfl (Qkg (ds0 := [0]) (Qkp (k := 3) rfl rfl rfl (by decide) rfl (by decide) (by simp [D.ids, D.sid, dCu]) ⟨.osl 3 out.length, by simp, by simp [D.ids, D.sid]⟩ rfl rfl (Qai (by omega) hI2.2.1 (YA ha _ (List.getElem_mem (by omega))) (YA ha _ (List.getElem_mem (by omega))))) (fun _ h => by cases h) rfl rfl ?_))))))))))
    refine Qa rfl (hK _ ?_)
    refine Qg (Qd (kp4 rfl rfl rfl rfl) (QL fun K hK => Qa rfl (Q1 rfl rfl (by first | exact Qq (by omega) (by omega) | rfl) (Qa rfl (hK _ ?_)))))
    refine Qi (i + 1, Qcc out (YW a)[i] (YW a)[i + 1]) ?_ ?_ ?_
    ·exact le_trans (Qmy (l := [0, 4, 5]) (t := 40) (u := 3) 3 (kp3 rfl rfl rfl) rfl rfl rfl rfl) (Q2 (l := [0, 3, 4, 5]) (lH := [3]) (kp4 rfl rfl rfl rfl) (Qe rfl Ql) rfl rfl rfl)
    ·exact ⟨by omega, hI2.take (YA ha) (by omega) (by simp; assumption)⟩
    ·show (YW a).length - (i + 1) < (YW a).length - i; omega
   ·try rw [h3]
    try simp only [qa, qb, qc, qd, qe, List.length_map] at h3
    refine Qv (Qg (Qd (kp4 rfl rfl rfl rfl) (QL fun K hK => Qa rfl (Q1 rfl rfl (by first | exact Qq (by omega) (by omega) | rfl) (Qa rfl (hK _ ?_))))))
    refine Qi (i + 1, out) ?_ ?_ ?_
    ·exact Q2 (l := [0, 3, 4, 5]) (lH := [3]) (kp4 rfl rfl rfl rfl) (Qe rfl Ql) rfl rfl rfl
    ·exact ⟨by omega, hI2.skip (by omega) (by simp; assumption)⟩
    ·show (YW a).length - (i + 1) < (YW a).length - i; omega
  ·try rw [h2]
   try simp only [qa, qb, qc, qd, qe, List.length_map] at h2
   refine Zi (QK (Qx (QD (Qd (kp1 rfl) (Qf fun K hK => Qa rfl (Qa rfl ?_))))))
   refine hK _ _ (Qb (kp1 rfl) ?_)
   refine Qu (Yk rfl ?_)
   rw [QjS, if_pos h1, hI2.done (by omega)]; simp [QbT, D.fz, D.fzS, Qc3, lk, D.can, D.canS, ZH]
end Go.Proofs
namespace Go.Proofs
open Go Go.Abs M3 M25
set_option linter.unusedVariables false
set_option linter.unusedSimpArgs false
theorem Qei {a b : Qe6} (h1a : Sm a.1) (h2a : Sm a.2) (h1b : Sm b.1) (h2b : Sm b.2) (hl1 : a.1.length + b.1.length <= 1000000) (hl2 : a.2.length + b.2.length <= 1000000) : Ok Tryz.prog 83 [Qhm a, Qhm b] (Qhm (Qo1 a b)) := by
 refine Ok.ofT Z1 Tryz.func83 QsQ (Nat.le_of_ble_eq_true rfl) ?_
 show TW _ _ tf83.body _ _
 refine Qf fun K hK => Zx rfl rfl rfl (Zx rfl rfl rfl (ZD rfl ?_))
 refine hK _ _ (Qb (kp3 rfl rfl rfl) ?_)
 refine QB ?_ -- 0
 refine Qf fun K hK => QH (cs := [_, _]) rfl rfl rfl rfl (QI (YJ h1a h2a) rfl rfl (.inr rfl) (Yp rfl (Qa rfl ?_)))
 refine QE (g := 8) rfl (fun h1 => ?_) (fun h1 => ?_)
 ·try rw [h1]
  try simp only [qa, qb, qc, qd, qe] at h1
  refine Qs rfl (Qs rfl (Qs rfl (Qp rfl rfl ?_)))
  refine hK _ _ (Qb (kp4 rfl rfl rfl rfl) ?_)
  refine Zv rfl (Qf fun K hK => QI (Ya) rfl rfl (.inl rfl) (Q7 rfl rfl rfl rfl rfl rfl rfl rfl ?_))
  refine hK _ _ (Qb (kp1 rfl) ?_)
  refine Qu (Qk (Post.eq (ZG (ds := [.sl _, .sl _]) (cs := [_, _]) rfl rfl rfl rfl rfl) ?_))
  rw [Qo1, if_neg (by simp [h1])]; rfl
 ·try rw [h1]
  try simp only [qa, qb, qc, qd, qe] at h1
  refine Qj rfl (QH (cs := [_, _]) rfl rfl rfl rfl (Qj rfl (QI (YJ h1b h2b) rfl rfl (.inr rfl) (Qj rfl (Yp rfl (Qp rfl rfl ?_))))))
  refine hK _ _ (Qb (kp4 rfl rfl rfl rfl) ?_)
  refine Qw rfl (fun h2 => ?_) (fun h2 => ?_)
  ·try rw [h2]
   try simp only [qa, qb, qc, qd, qe] at h2
   refine Qf fun K hK => QI (Ya) rfl rfl (.inl rfl) (Q7 rfl rfl rfl rfl rfl rfl rfl rfl ?_)
   refine hK _ _ (Qb (kp1 rfl) ?_)
   refine Qu (Qk (Post.eq (ZG (ds := [.sl _, .sl _]) (cs := [_, _]) rfl rfl rfl rfl rfl) ?_))
   rw [Qo1, if_neg (by simp [h1, h2])]; rfl
  ·try rw [h2]
   try simp only [qa, qb, qc, qd, qe] at h2
   refine Qv (Qd (kp3 rfl rfl rfl) (Qf fun K hK => Qh rfl rfl (QO (ds0 := [7, 1, 0]) rfl rfl rfl rfl rfl (Qh rfl rfl (QO (ds0 := [7, 1, 0]) rfl rfl rfl rfl rfl (QV (ds0 := [1, 0]) (QaY h1a h1b hl1) rfl rfl (.inl rfl) rfl rfl (Qh rfl rfl (QO (ds0 := [2, 1, 0]) rfl rfl rfl rfl rfl (Qh rfl rfl (QO (ds0 := [2, 1, 0]) rfl rfl rfl rfl rfl ?_))))))))))
   refine QV (ds0 := [1, 0]) (QaY h2a h2b hl2) rfl rfl (.inl rfl) rfl rfl (QX rfl rfl (Y6 (ds0 := []) rfl rfl rfl rfl rfl rfl rfl rfl rfl rfl ?_))
   refine hK _ _ (Qb (kp1 rfl) ?_)
   refine Qu (Post.eq (ZG (ds := [.sl _, .sl _]) (cs := [_, _]) rfl rfl rfl rfl rfl) ?_)
   rw [Qo1, if_pos ⟨h1, h2⟩]; rfl
theorem Qdx {a : Qe6} (h1a : Sm a.1) (h2a : Sm a.2) : Ok Tryz.prog 84 [Qhm a] (Qhm (QhM a)) := by
 refine Ok.ofT Z1 Tryz.func84 QsR (Nat.le_of_ble_eq_true rfl) ?_
 show TW _ _ tf84.body _ _
 refine Qf fun K hK => Zx rfl rfl rfl (ZD rfl ?_)
 refine hK _ _ (Qb (kp2 rfl rfl) ?_)
 refine QB ?_ -- 0
 refine Qf fun K hK => QH (cs := [_, _]) rfl rfl rfl rfl (QI (YJ h1a h2a) rfl rfl (.inr rfl) (Yp rfl ?_))
 refine hK _ _ (Qb (kp3 rfl rfl rfl) ?_)
 refine Qw rfl (fun h1 => ?_) (fun h1 => ?_)
 ·try rw [h1]
  try simp only [qa, qb, qc, qd, qe] at h1
  refine Qf fun K hK => QI (Ya) rfl rfl (.inl rfl) (Q7 rfl rfl rfl rfl rfl rfl rfl rfl ?_)
  refine hK _ _ (Qb (kp1 rfl) ?_)
  refine Qu (Qk (Post.eq (ZG (ds := [.sl _, .sl _]) (cs := [_, _]) rfl rfl rfl rfl rfl) ?_))
  rw [QhM, if_neg (by simp [h1])]; rfl
 ·try rw [h1]
  try simp only [qa, qb, qc, qd, qe] at h1
  refine Qv (Qd (kp2 rfl rfl) (Qf fun K hK => Qh rfl rfl (QO (ds0 := [5, 1, 0]) rfl rfl rfl rfl rfl (QV (ds0 := [1, 0]) (Qay h1a) rfl rfl (.inl rfl) rfl rfl (Qh rfl rfl (QO (ds0 := [2, 1, 0]) rfl rfl rfl rfl rfl (QV (ds0 := [1, 0]) (Qay h2a) rfl rfl (.inl rfl) rfl rfl (QX rfl rfl (Y6 (ds0 := []) rfl rfl rfl rfl rfl rfl rfl rfl rfl rfl ?_)))))))))
  refine hK _ _ (Qb (kp1 rfl) ?_)
  refine Qu (Post.eq (ZG (ds := [.sl _, .sl _]) (cs := [_, _]) rfl rfl rfl rfl rfl) ?_)
  rw [QhM, if_pos h1]; rfl
end Go.Proofs
namespace Go.Proofs
open Go Go.Abs M3 M25
set_option linter.unusedVariables false
set_option linter.unusedSimpArgs false
theorem Z3 {v n : Int} (hn : n <= 9223372036854775807) (hv : I64 v) : Ok Tryz.prog 31 [.int .i64 v, .int .i64 n] (.int .i64 (mPl v n)) := by
 refine Ok.ofT Z1 Tryz.func31 Qr3 (Nat.le_of_ble_eq_true rfl) ?_
 show TW _ _ tf31.body _ _
 refine Qf fun K hK => Qa rfl ?_
 refine hK _ _ (Qb (kp2 rfl rfl) ?_)
 refine QB ?_ -- 0
 refine Qf fun K hK => Qa rfl (Z8 rfl rfl ?_)
 refine hK _ _ (Qb (kp3 rfl rfl rfl) ?_)
 refine Qw rfl (fun h1 => ?_) (fun h1 => ?_)
 ·try rw [h1]
  try simp only [qa, qb, qc, qd, qe] at h1
  refine Qf fun K hK => Qa rfl ?_
  refine hK _ _ (Qb (kp1 rfl) ?_)
  refine Qu (Qk (QG rfl ?_))
  rw [mPl, if_pos h1]
 ·try rw [h1]
  try simp only [qa, qb, qc, qd, qe] at h1
  refine Qv (Qd (kp2 rfl rfl) (Qf fun K hK => Qa rfl (Qa rfl (QnG rfl rfl (by omega) (Qa rfl ?_)))))
  refine hK _ _ (Qb (kp2 rfl rfl) ?_)
  refine QB ?_ -- 1
  refine Qf fun K hK => Qa rfl (Z8 rfl rfl ?_)
  refine hK _ _ (Qb (kp3 rfl rfl rfl) ?_)
  refine Qw rfl (fun h2 => ?_) (fun h2 => ?_)
  ·try rw [h2]
   try simp only [qa, qb, qc, qd, qe] at h2
   refine Qf fun K hK => Qa rfl (Qa rfl (Q1 rfl rfl (Qq (by have := Int.lt_tmod_of_pos v (show 0 < n by omega); omega) (by have := Int.tmod_lt_of_pos v (show 0 < n by omega); omega)) (Qa rfl ?_)))
   refine hK _ _ (Qb (kp1 rfl) ?_)
   refine Qu (Qk (QG rfl ?_))
   rw [mPl, if_neg h1, Qf3, if_pos h2]
  ·try rw [h2]
   try simp only [qa, qb, qc, qd, qe] at h2
   refine Qv (Qd (kp1 rfl) (Qf fun K hK => Qa rfl (Qa rfl ?_)))
   refine hK _ _ (Qb (kp1 rfl) ?_)
   refine Qu (QG rfl ?_)
   rw [mPl, if_neg h1, Qf3, if_neg h2]
theorem Qeh {l : List Int} {i : Int} : Ok Tryz.prog 61 [Zp l, .int .i64 i] (.int .i64 (QnA l i)) := by
 refine Ok.ofT Z1 Tryz.func61 Qsv (Nat.le_of_ble_eq_true rfl) ?_
 show TW _ _ tf61.body _ _
 refine Qf fun K hK => Qa rfl ?_
 refine hK _ _ (Qb (kp2 rfl rfl) ?_)
 refine QB ?_ -- 0
 refine Qf fun K hK => Qa rfl (Z8 rfl rfl (Qa rfl ?_))
 refine QE (g := 7) rfl (fun h1 => ?_) (fun h1 => ?_)
 ·try rw [h1]
  try simp only [qa, qb, qc, qd, qe, List.length_map] at h1
  refine Qs rfl (Qs rfl (Qs rfl (Qs rfl (Qp rfl rfl ?_))))
  refine hK _ _ (Qb (kp3 rfl rfl rfl) ?_)
  refine Zv rfl (Qf fun K hK => Qa rfl (QnG rfl rfl (by omega) (Qa rfl ?_)))
  refine hK _ _ (Qb (kp1 rfl) ?_)
  refine Qu (Qk (QG rfl ?_))
  rw [QnA, if_pos (by omega)]
 ·try rw [h1]
  try simp only [qa, qb, qc, qd, qe, List.length_map] at h1
  refine Qj rfl (Qa rfl (Qj rfl (Qa rfl (Qj rfl (QR rfl rfl (Qj rfl (QeX rfl rfl (Qp rfl rfl ?_))))))))
  refine hK _ _ (Qb (kp3 rfl rfl rfl) ?_)
  refine Qw rfl (fun h2 => ?_) (fun h2 => ?_)
  ·try rw [h2]
   try simp only [qa, qb, qc, qd, qe, List.length_map] at h2
   refine Qf fun K hK => Qa rfl (QnG rfl rfl (by omega) (Qa rfl ?_))
   refine hK _ _ (Qb (kp1 rfl) ?_)
   refine Qu (Qk (QG rfl ?_))
   rw [QnA, if_pos (by omega)]
  ·try rw [h2]
   try simp only [qa, qb, qc, qd, qe, List.length_map] at h2
   refine Qv (Qd (kp2 rfl rfl) (Qf fun K hK => Qa rfl (Qa rfl (QJ rfl rfl rfl (by omega) (ZC (by omega) (by omega)) rfl (QA rfl rfl rfl (Qa rfl ?_))))))
   refine hK _ _ (Qb (kp1 rfl) ?_)
   refine Qu (QG rfl ?_)
   exact (QmE (by omega) (by omega)).symm
theorem XP {k : Nat} {L : List Int} {I n : Int} (hk : 1000000 <= k) (hL : ∀ x ∈ L, I64 x) (hn : n <= 9223372036854775807) (et : Nat) : OkH Tryz.prog 36 [.ref k 0 0, .int .i64 n] [(k, gB L I et)] (.int .i64 (nx L I n)) ((k, gB L (nxI I) et) :: [(k, gB L I et)]) := by
 refine OkH.lent hk Z1 Tryz.func36 Qr8 (Nat.le_of_ble_eq_true rfl) rfl ?_
 show TW _ _ tf36.body _ _
 refine Qf fun K hK => Qa rfl ?_
 refine hK _ _ (Qb (kp2 rfl rfl) ?_)
 refine Qf fun K hK => Qa rfl (Yh rfl rfl (Qh rfl Qff (QA rfl (Z9 Qeu rfl) rfl (Q1 rfl rfl rfl (Yh rfl rfl (Qh rfl Qff (Q7 rfl Qeu rfl rfl rfl rfl rfl rfl ?_)))))))
 refine hK _ _ (Qb (kp2 rfl rfl) ?_)
 refine Qf fun K hK => Qa rfl (Yh rfl rfl (Qh rfl Qff (QO (ds0 := [3, 1, 0]) rfl (Z9 Qeu rfl) rfl rfl rfl (Qa rfl (Yh rfl rfl (Qh rfl Qff (QO (ds0 := [4, 3, 1, 0]) rfl (Z9 Qeu rfl) rfl rfl rfl (Qaq rfl rfl rfl (QV (ds0 := [1, 0]) (Qeh) rfl rfl (.inr rfl) rfl rfl (Qa rfl ?_))))))))))
 refine QV (ds0 := [0]) (Z3 hn (Qoc hL (Qec _))) rfl rfl (.inr rfl) rfl rfl (Qa rfl ?_)
 refine hK _ _ (Qb (kp1 rfl) ?_)
 refine Qu ?_
 exact YC rfl rfl (QpX Qeu)
end Go.Proofs
namespace Go.Proofs
open Go Go.Abs M3 M25
set_option linter.unusedVariables false
set_option linter.unusedSimpArgs false
theorem Xa {v : Int} (h0 : 0 <= v) (h1v : v <= 61) : Ok Tryz.prog 50 [.int .i64 v] (.int .i64 (2 ^ v.toNat)) := by
 refine Ok.ofT Z1 Tryz.func50 Qsk (Nat.le_of_ble_eq_true rfl) ?_
 show TW _ _ tf50.body _ _
 refine Qf fun K hK => Qa rfl ?_
 refine hK _ _ (Qb (kp1 rfl) ?_)
 refine Qf fun K hK => Qa rfl ?_
 refine hK _ _ (Qb (kp2 rfl rfl) ?_)
 refine QB ?_ -- 0
 refine Qf fun K hK => Qa rfl ?_
 refine hK _ _ (Qb (kp3 rfl rfl rfl) ?_)
 refine Qz ?_
 refine Zk (ι := Nat) (fun i => ⟨[(0, .int .i64 v), (3, .int .i64 (2 ^ i)), (4, .int .i64 i)], []⟩) (fun i => (i : Int) <= v) (fun i => v.toNat - i) 0 ?_ ?_ ?_
 ·exact Zg (kp3 rfl rfl rfl)
 ·exact h0
 intro i hI
 have hp := QhS (i := i + 1) (by omega)
 rw [Int.pow_succ] at hp
 try dsimp only
 refine QB ?_ -- 1
 refine Qf fun K hK => Qa rfl (Qa rfl (Z8 rfl rfl ?_))
 refine hK _ _ (Qb (kp4 rfl rfl rfl rfl) ?_)
 refine Qw rfl (fun h1 => ?_) (fun h1 => ?_)
 ·try rw [h1]
  try simp only [qa, qb, qc, qd, qe] at h1
  refine Qv (Qd (kp3 rfl rfl rfl) ?_)
  refine QB ?_ -- 2
  refine Qz (QL fun K hK => Qa rfl (Qpi rfl rfl (Qq (by obtain ⟨p1, p2⟩ := hp; generalize (2 : Int) ^ i = z at *; omega) (by obtain ⟨p1, p2⟩ := hp; generalize (2 : Int) ^ i = z at *; omega)) (Qa rfl (hK _ ?_))))
  refine Qg (Qd (kp3 rfl rfl rfl) (QL fun K hK => Qa rfl (Q1 rfl rfl (Qq (by omega) (by omega)) (Qa rfl (hK _ ?_)))))
  refine Qi (i + 1) ?_ ?_ ?_
  ·exact Q2 (l := [0, 3, 4]) (lH := []) (kp3 rfl rfl rfl) Ql (by rw [Int.pow_succ]; rfl) rfl rfl
  ·show ((i + 1 : Nat) : Int) <= v; omega
  ·first | omega | (simp only; omega) | (dsimp only; omega)
 ·try rw [h1]
  try simp only [qa, qb, qc, qd, qe] at h1
  refine Zi (QK (Qx (QD (Qd (kp1 rfl) (Qf fun K hK => Qa rfl (Qa rfl ?_))))))
  refine hK _ _ (Qb (kp1 rfl) ?_)
  refine Qu (QG rfl ?_)
  rw [show v.toNat = i by omega]
theorem YO {h m : Int} : Ok Tryz.prog 29 [.int .i64 h, .int .i64 m] (.int .i64 (ZQ h m)) := by
 refine Ok.ofT Z1 Tryz.func29 Qr2 (Nat.le_of_ble_eq_true rfl) ?_
 show TW _ _ tf29.body _ _
 refine Qf fun K hK => Qa rfl ?_
 refine hK _ _ (Qb (kp2 rfl rfl) ?_)
 refine QB ?_ -- 0
 refine Qz (Qf fun K hK => Qa rfl (Qa rfl (Qee rfl rfl (Qa rfl (ZN rfl rfl (Qa rfl ?_))))))
 refine hK _ _ (Qb (kp3 rfl rfl rfl) ?_)
 refine Qw rfl (fun h1 => ?_) (fun h1 => ?_)
 ·try rw [h1]
  try simp only [qa, qb, qc, qd, qe] at h1
  refine Qf fun K hK => Qa rfl ?_
  refine hK _ _ (Qb (kp1 rfl) ?_)
  refine Qu (Qr (Qk (QG rfl ?_)))
  rw [ZQ, if_pos h1]
 ·try rw [h1]
  try simp only [qa, qb, qc, qd, qe] at h1
  refine Qf fun K hK => Qa rfl (Qa rfl (Qee rfl rfl (ZN rfl rfl (Qa rfl ?_))))
  refine hK _ _ (Qb (kp1 rfl) ?_)
  refine Qw rfl (fun h2 => ?_) (fun h2 => ?_)
  ·try rw [h2]
   try simp only [qa, qb, qc, qd, qe] at h2
   refine Qf fun K hK => Qa rfl ?_
   refine hK _ _ (Qb (kp1 rfl) ?_)
   refine Qu (Qr (Qk (QG rfl ?_)))
   rw [ZQ, if_neg h1, if_pos h2]
  ·try rw [h2]
   try simp only [qa, qb, qc, qd, qe] at h2
   refine Qv (Qg (Qd (Q8) (Qf fun K hK => Qa rfl ?_)))
   refine hK _ _ (Qb (kp1 rfl) ?_)
   refine Qu (QG rfl ?_)
   rw [ZQ, if_neg h1, if_neg h2]
theorem Qik {h m : Int} : Ok Tryz.prog 87 [.int .i64 h, .int .i64 m] (.int .i64 (QaL h m)) := by
 refine Ok.ofT Z1 Tryz.func87 QsU (Nat.le_of_ble_eq_true rfl) ?_
 show TW _ _ tf87.body _ _
 refine Qf fun K hK => Qa rfl ?_
 refine hK _ _ (Qb (kp2 rfl rfl) ?_)
 refine QB ?_ -- 0
 refine Qz (Qf fun K hK => Qa rfl (Qa rfl (Qe5 rfl rfl (ZN rfl rfl (Qa rfl ?_)))))
 refine hK _ _ (Qb (kp3 rfl rfl rfl) ?_)
 refine Qw rfl (fun h1 => ?_) (fun h1 => ?_)
 ·try rw [h1]
  try simp only [qa, qb, qc, qd, qe] at h1
  refine Qf fun K hK => Qa rfl ?_
  refine hK _ _ (Qb (kp1 rfl) ?_)
  refine Qu (Qr (Qk (QG rfl ?_)))
  rw [QaL, if_pos h1]
 ·try rw [h1]
  try simp only [qa, qb, qc, qd, qe] at h1
  refine Qf fun K hK => Qa rfl (Qa rfl (Qee rfl rfl (ZN rfl rfl (Qa rfl ?_))))
  refine hK _ _ (Qb (kp1 rfl) ?_)
  refine Qw rfl (fun h2 => ?_) (fun h2 => ?_)
  ·try rw [h2]
   try simp only [qa, qb, qc, qd, qe] at h2
   refine Qf fun K hK => Qa rfl ?_
   refine hK _ _ (Qb (kp1 rfl) ?_)
   refine Qu (Qr (Qk (QG rfl ?_)))
   rw [QaL, if_neg h1, if_pos h2]
  ·try rw [h2]
   try simp only [qa, qb, qc, qd, qe] at h2
   refine Qv (Qg (Qd (Q8) (Qf fun K hK => Qa rfl ?_)))
   refine hK _ _ (Qb (kp1 rfl) ?_)
   refine Qu (QG rfl ?_)
   rw [QaL, if_neg h1, if_neg h2]
end Go.Proofs
namespace Go.Proofs
open Go Go.Abs M3 M25
set_option linter.unusedVariables false
set_option linter.unusedSimpArgs false
theorem Xo  : Ok Tryz.prog 53 [] (.sl (versions.map dVr)) := by
 refine Ok.ofT Z1 Tryz.func53 Qsn (Nat.le_of_ble_eq_true rfl) ?_
 show TW _ _ tf53.body _ _
 refine Qf fun K hK => Qa rfl ?_
 refine hK _ _ (Qb (Q8) ?_)
 refine Qf fun K hK => QX rfl rfl (QX rfl rfl (QX rfl rfl (QX rfl rfl (QC rfl rfl (Qa rfl ?_)))))
 refine hK _ _ (Qb (kp1 rfl) ?_)
 refine Qu (Yk rfl ?_)
 rfl
end Go.Proofs
namespace M25
open Go Go.Abs M3
structure WantT where
 u : Int
 s : Qe6
structure CandT where
 v : Vr
 sh : Int
 ns : List (List WantT)
 bs : List WantT
structure QnI where
 n : List UInt8
 f : List UInt8
 cs : List CandT
abbrev Qn := List QnI
def Qe0 (x : WantT) : List D := [.int .i64 x.u, ZH x.s.1, ZH x.s.2]
def Za (l : List WantT) : D := .sl (l.map Qe0)
def QY (l : List (List WantT)) : D := .sl (l.map fun r => [Za r])
def Qpx (c : CandT) : List D := [.int .i64 c.v.a, .int .i64 c.v.b, .int .i64 c.v.c, .str c.v.p, .str c.v.q, .int .i64 c.sh, QY c.ns, Za c.bs]
def Qkq (l : List CandT) : D := .sl (l.map Qpx)
def Yq (u : QnI) : List D := [.str u.n, .str u.f, Qkq u.cs]
def Z4 (w : Qn) : D := .agg [.sl (w.map Yq)]
structure TermT where
 u : Int
 m : Int
 deriving DecidableEq
structure QQ where
 u : Int
 m : Int
 l : Int
 c : Int
 deriving DecidableEq
structure RowT where
 k : Int
 u : Int
 a : Int
 b : Int
 t : List TermT
def QdA (t : TermT) : List D := [.int .i64 t.u, .int .i64 t.m]
def ZE (l : List TermT) : D := .sl (l.map QdA)
def Qhn (s : QQ) : List D := [.int .i64 s.u, .int .i64 s.m, .int .i64 s.l, .int .i64 s.c]
def Zz (l : List QQ) : D := .sl (l.map Qhn)
def Ql9 (r : RowT) : List D := [.int .i64 r.k, .int .i64 r.u, .int .i64 r.a, .int .i64 r.b, ZE r.t]
def Qpy (l : List RowT) : D := .sl (l.map Ql9)
def dDb (l : List (List TermT)) : D := .sl (l.map fun t => [ZE t])
abbrev QaT (a b : Int) : Int := Qar .and .i64 a b
abbrev bor (a b : Int) : Int := Qar .or .i64 a b
abbrev Qe9 (a b : Int) : Int := Qar .andNot .i64 a b
def uAt (w : Qn) (u : Int) : Option QnI := if u < 0 then none else w[u.toNat]?
theorem Qld {w : Qn} {u : Int} (h0 : 0 <= u) (h : u < w.length) : uAt w u = some (w[u.toNat]'(by omega)) := by
 rw [uAt, if_neg (by omega), List.getElem?_eq_getElem (by omega)]
theorem Qj9 {w : Qn} {u : Int} (h : u < 0 \/ (w.length : Int) <= u) : uAt w u = none := by
 unfold uAt
 split
 ·rfl
 ·rw [List.getElem?_eq_none]; omega
def ZW (w : Qn) (u : Int) : Int := match uAt w u with
 | none => 0
 | some x => 2 ^ (min x.cs.length 16 + 1) - 1
theorem Qfh {w : Qn} {u : Int} (h0 : 0 <= u) (h : u < w.length) : ZW w u = 2 ^ (min (w[u.toNat]'(by omega)).cs.length 16 + 1) - 1 := by
 rw [ZW, Qld h0 h]
theorem QdQ {w : Qn} {u : Int} (h : u < 0 \/ (w.length : Int) <= u) : ZW w u = 0 := by rw [ZW, Qj9 h]
theorem QdP (w : Qn) (u : Int) : 0 <= ZW w u /\ ZW w u <= 131071 := by
 unfold ZW
 split
 ·omega
 ·rename_i x _
  have h1 : (2 : Nat) ^ (min x.cs.length 16 + 1) <= 2 ^ 17 := Nat.pow_le_pow_right (by omega) (by omega)
  have h2 : 1 <= (2 : Nat) ^ (min x.cs.length 16 + 1) := Nat.one_le_two_pow
  have h3 : ((2 ^ (min x.cs.length 16 + 1) : Nat) : Int) = (2 : Int) ^ (min x.cs.length 16 + 1) := by simp
  rw [<- h3]
  have h4 : (2 : Nat) ^ 17 = 131072 := by decide
  omega
def Qgx (v : Vr) : Prop := v.p.length <= 1000000 /\ v.q.length <= 1000000
structure WSm (w : Qn) : Prop where
 len : w.length <= 48
 cs : ∀ u ∈ w, u.cs.length <= 16
 vs : ∀ u ∈ w, ∀ c ∈ u.cs, Qgx c.v
 ns : ∀ u ∈ w, ∀ c ∈ u.cs, c.ns.length <= 1000 /\ c.bs.length <= 1000
 nl : ∀ u ∈ w, ∀ c ∈ u.cs, ∀ r ∈ c.ns, r.length <= 1000
 nw : ∀ u ∈ w, ∀ c ∈ u.cs, ∀ r ∈ c.ns, ∀ x ∈ r, Sm x.s.1 /\ Sm x.s.2
 bw : ∀ u ∈ w, ∀ c ∈ u.cs, ∀ x ∈ c.bs, Sm x.s.1 /\ Sm x.s.2
def Qra (s : Qe6) (v : Vr) : Bool := QlF s v.a v.b v.c v.p v.q
def QbP (s : Qe6) (l : List CandT) : Nat -> Int
 | 0 => 0
 | n + 1 => QbP s l n + match l[n]? with
  | some c => if Qra s c.v = true then 2 ^ (n + 1) else 0
  | none => 0
theorem QkT (s : Qe6) (l : List CandT) : ∀ n, 0 <= QbP s l n /\ QbP s l n <= 2 ^ (n + 1) - 2
 | 0 => by simp [QbP]
 | n + 1 => by
  obtain ⟨h1, h2⟩ := QkT s l n
  have h3 : (2 : Int) ^ (n + 1 + 1) = 2 ^ (n + 1) * 2 := Int.pow_succ ..
  have h4 : (0 : Int) < 2 ^ (n + 1) := Int.pow_pos (by omega)
  rw [QbP, h3]
  generalize (2 : Int) ^ (n + 1) = z at *
  split
  ·split <;> omega
  ·omega
theorem QmS {s : Qe6} {l : List CandT} {i : Nat} (h : i < l.length) (hp : Qra s l[i].v = true) : QbP s l (i + 1) = QbP s l i + 2 ^ (i + 1) := by
 rw [QbP, List.getElem?_eq_getElem h]; simp only [hp, if_true]
theorem Qoj {s : Qe6} {l : List CandT} {i : Nat} (h : i < l.length) (hp : Qra s l[i].v = false) : QbP s l (i + 1) = QbP s l i := by
 rw [QbP, List.getElem?_eq_getElem h]; simp only [hp, Bool.false_eq_true, if_false, Int.add_zero]
def Qjp (w : Qn) (x : WantT) : Int := match uAt w x.u with
 | none => 0
 | some un => QbP x.s un.cs (min un.cs.length 16)
theorem QmL {w : Qn} {x : WantT} (h0 : 0 <= x.u) (h : x.u < w.length) : Qjp w x = QbP x.s (w[x.u.toNat]'(by omega)).cs (min (w[x.u.toNat]'(by omega)).cs.length 16) := by
 rw [Qjp, Qld h0 h]
theorem QkP {w : Qn} {x : WantT} (h : x.u < 0 \/ (w.length : Int) <= x.u) : Qjp w x = 0 := by rw [Qjp, Qj9 h]
theorem QpN {n : Nat} (h : n <= 17) : 1 <= (2 : Int) ^ n /\ (2 : Int) ^ n <= 131072 := by
 have h1 : (2 : Nat) ^ n <= 2 ^ 17 := Nat.pow_le_pow_right (by omega) h
 have h2 : 1 <= (2 : Nat) ^ n := Nat.one_le_two_pow
 have h3 : ((2 ^ n : Nat) : Int) = (2 : Int) ^ n := by simp
 rw [<- h3]
 have h4 : (2 : Nat) ^ 17 = 131072 := by decide
 omega
theorem QkS (s : Qe6) (l : List CandT) {n : Nat} (h : n <= 16) : 0 <= QbP s l n /\ QbP s l n <= 131070 := by
 obtain ⟨h1, h2⟩ := QkT s l n
 have := QpN (n := n + 1) (by omega)
 omega
theorem QpJ (w : Qn) (x : WantT) : 0 <= Qjp w x /\ Qjp w x <= 131070 := by
 unfold Qjp
 split
 ·omega
 ·exact QkS _ _ (by omega)
def Xg (m : Int) : Nat -> List Int
 | 0 => []
 | n + 1 => Xg m n ++ if QaT m (2 ^ n) = 0 then [] else [(n : Int) - 1]
def Qa4 (m : Int) : List Int := Xg m 17
theorem Qcr (m : Int) : ∀ n, (Xg m n).length <= n
 | 0 => Nat.le_refl _
 | n + 1 => by
  have := Qcr m n
  rw [Xg, List.length_append]
  split <;> simp <;> omega
def Qam (f : Int) (u : Int) : List TermT -> Int
 | [] => f
 | t :: r => if t.u = u then t.m else Qam f u r
def QbO (w : Qn) (l : List TermT) (u : Int) : Int := Qam (ZW w u) u l
theorem QlJ {f u : Int} {l : List TermT} {i : Nat} (h : i < l.length) (hn : ¬ l[i].u = u) : Qam f u (l.drop i) = Qam f u (l.drop (i + 1)) := by
 rw [List.drop_eq_getElem_cons h, Qam, if_neg hn]
theorem QmR {f u : Int} {l : List TermT} {i : Nat} (h : i < l.length) (hn : l[i].u = u) : Qam f u (l.drop i) = l[i].m := by
 rw [List.drop_eq_getElem_cons h, Qam, if_pos hn]
def QaK (w : Qn) : Nat -> List Int
 | 0 => []
 | n + 1 => QaK w n ++ [ZW w n]
theorem Xd (w : Qn) : ∀ n, (QaK w n).length = n
 | 0 => rfl
 | n + 1 => by rw [QaK, List.length_append, Xd w n]; rfl
def XZ (w : Qn) : List Int := QaK w w.length
def Xj (w : Qn) (ms : List Int) : Nat -> List TermT
 | 0 => []
 | n + 1 => Xj w ms n ++ if ms.getD n 0 = ZW w n then [] else [⟨n, ms.getD n 0⟩]
theorem QgW (w : Qn) (ms : List Int) : ∀ n, (Xj w ms n).length <= n
 | 0 => Nat.le_refl _
 | n + 1 => by
  have := QgW w ms n
  rw [Xj, List.length_append]
  split <;> simp <;> omega
def QhK (w : Qn) (ms : List Int) : Option (List TermT) := if ms.all (fun m => !decide (m = 0)) = true then some (Xj w ms ms.length) else none
def dOT (o : Option (List TermT)) : D := .tup [ZE (o.getD []), .bool o.isSome]
def Xi (ms : List Int) (l : List TermT) : List Int := l.foldl (fun ms t => ms.set t.u.toNat (QaT (ms.getD t.u.toNat 0) t.m)) ms
def inW (w : Qn) (u : Int) : Bool := decide (0 <= u) && decide (u < w.length)
def Qa5 (w : Qn) (l : List TermT) : Option (List TermT) := if l.all (fun t => inW w t.u) = true then QhK w (Xi (XZ w) l) else none
def QgQ (l : List TermT) (u : Int) : List TermT := l.filter fun t => !decide (t.u = u)
def Ye (l : List TermT) : Nat -> List TermT
 | 0 => []
 | n + 1 => Ye l n ++ l.filter fun t => decide (t.u = ((n : Nat) : Int))
def QhO (l : List TermT) : List TermT := Ye l 48
def Yc (w : Qn) (u : Int) (p : Nat) (l : List WantT) (bar : Bool) : Option (List TermT) :=
 Qa5 w (⟨u, QaT (ZW w u) (2 * 2 ^ p)⟩ :: l.map fun x => ⟨x.u, if bar = true then Qjp w x else ZW w x.u - Qjp w x⟩)
def QjM (r x : RowT) : Bool := decide (x.k = r.k) && decide (x.u = r.u) && decide (QgQ x.t r.u = QgQ r.t r.u)
def Qmx (w : Qn) (r x : RowT) : RowT := { x with t := QhO (⟨r.u, bor (QbO w x.t r.u) (QbO w r.t r.u)⟩ :: QgQ x.t r.u) }
def Y1 (w : Qn) (r : RowT) : List RowT -> List RowT
 | [] => [r]
 | x :: l => if QjM r x = true then Qmx w r x :: l else x :: Y1 w r l
def YB (w : Qn) (u : Int) (p : Nat) (l : List (List WantT)) (rows : List RowT) : List RowT := l.foldl (fun rows n => match Yc w u p n false with
 | some t => Y1 w ⟨2, u, 0, 0, t⟩ rows
 | none => rows) rows
def QaW (w : Qn) (u : Int) (p : Nat) (l : List WantT) (rows : List RowT) : List RowT := l.foldl (fun rows n => match Yc w u p [n] true with
 | some t => Y1 w ⟨3, u, 0, 0, t⟩ rows
 | none => rows) rows
def Yv (w : Qn) (u : Int) (cs : List CandT) : Nat -> List RowT -> List RowT
 | 0, rows => rows
 | n + 1, rows => match cs[n]? with
  | some c => QaW w u n c.bs (YB w u n c.ns (Yv w u cs n rows))
  | none => Yv w u cs n rows
def Yl (w : Qn) : Nat -> List RowT
 | 0 => [⟨1, 0, 0, 0, [⟨0, 1⟩]⟩]
 | n + 1 => match w[n]? with
  | some u => Yv w n u.cs u.cs.length (Yl w n)
  | none => Yl w n
def Qb9 (w : Qn) : List RowT := Yl w w.length
def mDB (w : Qn) : List (List TermT) := (Qb9 w).map RowT.t
/-! ### Trails -/
def Zh (w : Qn) (l : List QQ) (u : Int) : Int := l.foldl (fun a s => if s.u = u /\ inW w u = true then s.m else a) (ZW w u)
def YY (l : List QQ) : Int := match l.getLast? with
 | none => 0
 | some s => s.l
def QdO (l : List QQ) (u : Int) : Bool := l.any fun s => decide (s.u = u) && decide (s.c = -1)
def Qok : List Int -> Int
 | [x] => x
 | _ => -1
def Qde (m : Int) : Int := Qok (Qa4 m)
def Qdf (w : Qn) (l : List QQ) (s : QQ) : Bool :=
 inW w s.u && decide (-1 <= s.c) && decide (QaT s.m (Zh w l s.u) = s.m) &&
  if s.c = -1 then decide (0 <= Qde s.m) && !QdO l s.u && decide (s.l = IntKind.i64.wrap (YY l + 1))
  else !decide (s.m = 0) && !decide (s.m = Zh w l s.u) && decide (s.l = YY l)
def QcY (w : Qn) (l : List QQ) : Bool := (List.range l.length).all fun i => match l[i]? with
 | some s => Qdf w (l.take i) s
 | none => true
def Qf4 (w : Qn) (l : List QQ) (inc : List TermT) : Bool := inc.all fun t => decide (ZQ (Zh w l t.u) t.m = 2)
def ZR (have_ : Int -> Int) : List TermT -> Int -> Int
 | [], at_ => at_
 | t :: r, at_ => if ZQ (have_ t.u) t.m = 0 then -1 else if ZQ (have_ t.u) t.m = 1 then (if 0 <= at_ then -1 else ZR have_ r t.u) else ZR have_ r at_
def Qe2 (w : Qn) (l : List QQ) (inc : List TermT) : Int := ZR (Zh w l) inc (-1)
def YK (w : Qn) (l : List QQ) : Nat -> List (List TermT) -> Int × Int
 | _, [] => (-1, -1)
 | i, x :: r => if Qf4 w l x = true then (i, -1) else if 0 <= Qe2 w l x then (i, Qe2 w l x) else YK w l (i + 1) r
def ZK (w : Qn) (db : List (List TermT)) (l : List QQ) : Int × Int := YK w l 0 db
def Yo (w : Qn) (l : List QQ) (t : TermT) (c : Int) : Option (List QQ) :=
 if c < 0 \/ inW w t.u = false then none
 else if IntKind.i64.wrap (Zh w l t.u - QaT (Zh w l t.u) t.m) = 0 \/ IntKind.i64.wrap (Zh w l t.u - QaT (Zh w l t.u) t.m) = Zh w l t.u then none
 else some (l ++ [⟨t.u, IntKind.i64.wrap (Zh w l t.u - QaT (Zh w l t.u) t.m), YY l, c⟩])
def Xq (w : Qn) (l : List QQ) (u p : Int) : Option (List QQ) := match uAt w u with
 | none => none
 | some x => if p < 0 \/ (x.cs.length : Int) <= p then none
  else if Qdf w l ⟨u, IntKind.i64.wrap (2 * 2 ^ min p.toNat 64), IntKind.i64.wrap (YY l + 1), -1⟩ = true then some (l ++ [⟨u, IntKind.i64.wrap (2 * 2 ^ min p.toNat 64), IntKind.i64.wrap (YY l + 1), -1⟩]) else none
def dOS (o : Option (List QQ)) : D := .tup [Zz (o.getD []), .bool o.isSome]
def Qby (w : Qn) (db : List (List TermT)) : Nat -> List QQ -> List QQ × Int
 | 0, out => (out, -1)
 | n + 1, out => if (ZK w db out).2 < 0 then (out, (ZK w db out).1)
  else Qby w db n ((Yo w out ⟨(ZK w db out).2, QbO w (db.getD (ZK w db out).1.toNat []) (ZK w db out).2⟩ (ZK w db out).1).getD [])
def XA (w : Qn) (db : List (List TermT)) (l : List QQ) : List QQ × Int := Qby w db (w.length * 18 + 1) l
end M25
namespace M25
open Go Go.Abs M3
section
variable {fr : List (Nat × D)} {H : List (Nat × Box)} {t u : Nat}
theorem Qki {k n : Nat} {b : Box} {d : D} (hb : lk H k = some b) (hp : b.pr = true) (hn : n = b.rows.length) (hd : .sl b.rows = d) : QbT ⟨fr, H⟩ (.osl k n) = d := by
 unfold QbT; rw [Qq9 (S := Qc3) rfl hb hp hn]; exact hd
theorem QaF {e : YG} {k n : Nat} {b : Box} {d : D} (h : lk fr t = some (.osl k n)) (hb : lk H k = some b) (hp : b.pr = true) (hn : n = b.rows.length) (hd : .sl b.rows = d) (he : e = .ret \/ e = .normal := by first | exact .inl rfl | exact .inr rfl) : Post [.tmp t] d e ⟨fr, H⟩ :=
 Yk h (Qki hb hp hn hd) he
theorem Qf9 {e : YG} {k n : Nat} {b : Box} {q d d' : D} (h : lk fr t = some (.osl k n)) (hb : lk H k = some b) (hp : b.pr = true) (hn : n = b.rows.length) (hd : .sl b.rows = d) (h2 : lk fr u = some q) (hd2 : QbT ⟨fr, H⟩ q = d') (he : e = .ret \/ e = .normal := by first | exact .inl rfl | exact .inr rfl) : Post [.tmp t, .tmp u] (.tup [d, d']) e ⟨fr, H⟩ :=
 QT h h2 ⟨Qki hb hp hn hd, hd2⟩ he
end
theorem Qrc (n : Nat) : (min (n : Int) 16 + 1).toNat = min n 16 + 1 := by omega
theorem Qjn {n : Nat} (h : n <= 62) : IntKind.i64.wrap ((2 : Int) ^ n - 1) = 2 ^ n - 1 := by
 have := QhS h; exact Qq (by omega) (by omega)
theorem QqC (i : Nat) : (2 : Int) ^ ((i : Int) + 1).toNat = 2 ^ (i + 1) := by rw [Qnx]
theorem QoI (s : Qe6) (l : List CandT) {i : Nat} (h : i < 16) : IntKind.i64.wrap (QbP s l i + (2 : Int) ^ ((i : Int) + 1).toNat) = QbP s l i + 2 ^ (i + 1) := by
 rw [QqC]
 have h1 := QkS s l (n := i) (by omega)
 have h2 := QpN (n := i + 1) (by omega)
 exact Qq (by omega) (by omega)
theorem X2 {m : Int} {n : Nat} (h : ¬ QaT m (2 ^ n) = 0) : Xg m (n + 1) = Xg m n ++ [(n : Int) - 1] := by rw [Xg, if_neg h]
theorem Qbi {m : Int} {n : Nat} (h : QaT m (2 ^ n) = 0) : Xg m (n + 1) = Xg m n := by rw [Xg, if_pos h, List.append_nil]
theorem QoQ {l : List TermT} {u : Int} {i : Nat} (h : i < l.length) : QgQ (l.take (i + 1)) u = QgQ (l.take i) u ++ if l[i].u = u then [] else [l[i]] := by
 rw [List.take_succ_eq_append_getElem h, QgQ, List.filter_append]
 congr 1
 simp only [List.filter_cons, List.filter_nil]
 by_cases hu : l[i].u = u <;> simp [hu]
theorem Qbc {l : List TermT} {u : Int} {i : Nat} (h : i < l.length) (hn : ¬ l[i].u = u) : QgQ (l.take (i + 1)) u = QgQ (l.take i) u ++ [l[i]] := by rw [QoQ h, if_neg hn]
theorem Qdr {l : List TermT} {u : Int} {i : Nat} (h : i < l.length) (hn : l[i].u = u) : QgQ (l.take (i + 1)) u = QgQ (l.take i) u := by rw [QoQ h, if_pos hn, List.append_nil]
theorem Qfx (l : List TermT) (u : Int) : (QgQ l u).length <= l.length := List.length_filter_le ..
theorem QnN (l : List TermT) (u : Int) (i : Nat) : (QgQ (l.take i) u).length <= l.length := Nat.le_trans (Qfx ..) (List.length_take_le' ..)
def QeJ (l : List TermT) (u : Nat) (i : Nat) : List TermT := (l.take i).filter fun t => decide (t.u = ((u : Nat) : Int))
theorem QpV {l : List TermT} {u i : Nat} (h : i < l.length) (hn : l[i].u = ((u : Nat) : Int)) : QeJ l u (i + 1) = QeJ l u i ++ [l[i]] := by
 rw [QeJ, List.take_succ_eq_append_getElem h, List.filter_append]; simp [hn, QeJ]
theorem QqD {l : List TermT} {u i : Nat} (h : i < l.length) (hn : ¬ l[i].u = ((u : Nat) : Int)) : QeJ l u (i + 1) = QeJ l u i := by
 rw [QeJ, List.take_succ_eq_append_getElem h, List.filter_append]; simp [hn, QeJ]
theorem Qni (l : List TermT) (u i : Nat) : (QeJ l u i).length <= l.length := Nat.le_trans (List.length_filter_le ..) (List.length_take_le' ..)
theorem Qjg (l : List TermT) (u : Nat) : Ye l (u + 1) = Ye l u ++ QeJ l u l.length := by rw [Ye, QeJ, List.take_length]
theorem Qg8 (l : List TermT) : ∀ n, (Ye l n).length <= n * l.length
 | 0 => by simp [Ye]
 | n + 1 => by
  have := Qg8 l n
  rw [Qjg, List.length_append, Nat.succ_mul]
  have := Qni l n l.length
  omega
theorem X3 (w : Qn) (n : Nat) : QaK w (n + 1) = QaK w n ++ [ZW w n] := rfl
theorem X6 {w : Qn} {ms : List Int} {n : Nat} (h : n < ms.length) (hn : ¬ ms[n] = ZW w n) : Xj w ms (n + 1) = Xj w ms n ++ [⟨n, ms[n]⟩] := by
 rw [Xj, List.getD_eq_getElem?_getD, List.getElem?_eq_getElem h]; simp [hn]
theorem Qbu {w : Qn} {ms : List Int} {n : Nat} (h : n < ms.length) (hn : ms[n] = ZW w n) : Xj w ms (n + 1) = Xj w ms n := by
 rw [Xj, List.getD_eq_getElem?_getD, List.getElem?_eq_getElem h]; simp [hn]
theorem QlG {w : Qn} {ms : List Int} {i : Nat} (h : i < ms.length) (hz : ms[i] = 0) : QhK w ms = none := by
 rw [QhK, if_neg]
 rw [XN h (by simp [hz])]; simp
theorem QmJ {w : Qn} {ms : List Int} {i : Nat} (hi : ms.length <= i) (h : (ms.take i).all (fun m => !decide (m = 0)) = true) : QhK w ms = some (Xj w ms ms.length) := by
 rw [List.take_of_length_le hi] at h; rw [QhK, if_pos h]
theorem QfO {w : Qn} {u : Int} (h0 : 0 <= u) (h : u < w.length) : inW w u = true := by simp [inW, h0, h]
theorem Qbn {w : Qn} {u : Int} (h : u < 0 \/ (w.length : Int) <= u) : inW w u = false := by
 simp only [inW, Bool.and_eq_false_iff, decide_eq_false_iff_not]; omega
theorem Qb1 {w : Qn} {u : Int} : inW w u = true ↔ 0 <= u /\ u < w.length := by simp [inW]
theorem QlH (l : List TermT) : ∀ ms : List Int, (Xi ms l).length = ms.length := by
 induction l with
 | nil => intro ms; rfl
 | cons t l ih => intro ms; rw [Xi, List.foldl_cons]; exact (ih _).trans (List.length_set ..)
theorem Qog {ms : List Int} {l : List TermT} {i : Nat} (h : i < l.length) : Xi ms (l.take (i + 1)) = (Xi ms (l.take i)).set l[i].u.toNat (QaT ((Xi ms (l.take i)).getD l[i].u.toNat 0) l[i].m) := by
 rw [List.take_succ_eq_append_getElem h, Xi, List.foldl_append]; rfl
theorem QkR {ms : List Int} {l : List TermT} {i : Nat} (h : i < l.length) (hu : l[i].u.toNat < (Xi ms (l.take i)).length) : Xi ms (l.take (i + 1)) = (Xi ms (l.take i)).set l[i].u.toNat (QaT ((Xi ms (l.take i))[l[i].u.toNat]) l[i].m) := by
 rw [Qog h, List.getD_eq_getElem?_getD, List.getElem?_eq_getElem hu]; rfl
theorem Qnv {x y : TermT} : QaU [0, 0] (QdA x) (QdA y) = some (decide (x = y)) := by
 obtain ⟨a, b⟩ := x
 obtain ⟨c, d⟩ := y
 simp only [QdA, QaU, if_true, Option.map_some, Bool.and_true, Option.some.injEq]
 rw [Bool.eq_iff_iff]
 simp only [Bool.and_eq_true, decide_eq_true_eq, TermT.mk.injEq]
theorem Qns {α : Type} {a b : List α} {i : Nat} (ha : i < a.length) (hb : i < b.length) (h : a.take i = b.take i) (he : a[i] = b[i]) : a.take (i + 1) = b.take (i + 1) := by
 rw [List.take_succ_eq_append_getElem ha, List.take_succ_eq_append_getElem hb, h, he]
theorem QpU {α : Type} [DecidableEq α] {a b : List α} {i : Nat} (ha : i < a.length) (hb : i < b.length) (he : ¬ a[i] = b[i]) : decide (a = b) = false := decide_eq_false fun e => he (by subst e; rfl)
theorem Qfo {e : Int} (h1 : 0 <= e) (h2 : e <= 18446744073709551615) : IntKind.u64.wrap e = e := by
 unfold IntKind.wrap
 simp only [IntKind.bits, IntKind.signed, Bool.false_and, Bool.false_eq_true, if_false]
 omega
theorem Qnz {p : Nat} (h : p <= 60) : IntKind.i64.wrap ((2 : Int) * 2 ^ min ((p : Nat) : Int).toNat IntKind.i64.bits) = 2 * 2 ^ p := by
 rw [show min ((p : Nat) : Int).toNat IntKind.i64.bits = p from by simp only [IntKind.bits, Int.toNat_natCast]; omega]
 have := QhS (i := p + 1) (by omega)
 rw [Int.pow_succ] at this
 exact Qq (by omega) (by omega)
theorem Qp1 (w : Qn) (u : Int) (x : WantT) : IntKind.i64.wrap (ZW w u - Qjp w x) = ZW w u - Qjp w x := by
 have h1 := QdP w u
 have h2 := QpJ w x
 exact Qq (by omega) (by omega)
def clF (w : Qn) (bar : Bool) (x : WantT) : TermT := ⟨x.u, if bar = true then Qjp w x else ZW w x.u - Qjp w x⟩
def clT (w : Qn) (u : Int) (p : Nat) (bar : Bool) (l : List WantT) : List TermT := ⟨u, QaT (ZW w u) (2 * 2 ^ p)⟩ :: l.map (clF w bar)
theorem Qbg {w : Qn} {u : Int} {p : Nat} {bar : Bool} {l : List WantT} {i : Nat} (h : i < l.length) (hb : bar = false) : clT w u p bar (l.take (i + 1)) = clT w u p bar (l.take i) ++ [⟨l[i].u, ZW w l[i].u - Qjp w l[i]⟩] := by
 rw [clT, List.take_succ_eq_append_getElem h, List.map_append, <- List.cons_append]; simp [clT, clF, hb]
theorem Qbf {w : Qn} {u : Int} {p : Nat} {bar : Bool} {l : List WantT} {i : Nat} (h : i < l.length) (hb : bar = true) : clT w u p bar (l.take (i + 1)) = clT w u p bar (l.take i) ++ [⟨l[i].u, Qjp w l[i]⟩] := by
 rw [clT, List.take_succ_eq_append_getElem h, List.map_append, <- List.cons_append]; simp [clT, clF, hb]
theorem Ql7 (w : Qn) (u : Int) (p : Nat) (bar : Bool) (l : List WantT) : (clT w u p bar l).length = l.length + 1 := by simp [clT]
theorem QgU {w : Qn} {l : List TermT} {i : Nat} (h : i < l.length) (hu : inW w l[i].u = false) : Qa5 w l = none := by
 rw [Qa5, XN h hu]; rfl
theorem QmK {w : Qn} {l : List TermT} (h : l.all (fun t => inW w t.u) = true) : Qa5 w l = QhK w (Xi (XZ w) l) := by
 rw [Qa5, if_pos h]
theorem QfH (w : Qn) (l : List TermT) : (Xi (XZ w) l).length = w.length := by rw [QlH, XZ, Xd]
def srt (l : List TermT) (u i : Nat) : List TermT := Ye l u ++ QeJ l u i
theorem QbB {l : List TermT} {u i : Nat} (h : i < l.length) (hn : l[i].u = ((u : Nat) : Int)) : srt l u (i + 1) = srt l u i ++ [l[i]] := by rw [srt, QpV h hn, <- List.append_assoc]; rfl
theorem Qd8 {l : List TermT} {u i : Nat} (h : i < l.length) (hn : ¬ l[i].u = ((u : Nat) : Int)) : srt l u (i + 1) = srt l u i := by rw [srt, QqD h hn]; rfl
theorem X9 (l : List TermT) (u : Nat) : srt l u 0 = Ye l u := by simp [srt, QeJ]
theorem QbA (l : List TermT) (u : Nat) {i : Nat} (h : l.length = i) : Ye l (u + 1) = srt l u i := by rw [Qjg, h]; rfl
theorem QpW (l : List TermT) (u i : Nat) : (srt l u i).length <= u * l.length + l.length := by
 have h1 := Qg8 l u
 have h2 := Qni l u i
 rw [srt, List.length_append]; omega
end M25
namespace Go.Proofs
open Go Go.Abs M3 M25
set_option linter.unusedVariables false
set_option linter.unusedSimpArgs false
theorem Zt {w : Qn} (hw : WSm w) {u : Int} : Ok Tryz.prog 27 [Z4 w, .int .i64 u] (.int .i64 (ZW w u)) := by
 refine Ok.ofT Z1 Tryz.func27 Qr0 (Nat.le_of_ble_eq_true rfl) ?_
 show TW _ _ tf27.body _ _
 refine Qf fun K hK => Zx rfl rfl rfl (Qa rfl ?_)
 refine hK _ _ (Qb (kp2 rfl rfl) ?_)
 refine QB ?_ -- 0
 refine Qf fun K hK => Qa rfl (Z8 rfl rfl (Qa rfl ?_))
 refine QE (g := 7) rfl (fun h1 => ?_) (fun h1 => ?_)
 ·try rw [h1]
  try simp only [qa, qb, qc, qd, qe, List.length_map] at h1
  refine Qs rfl (Qs rfl (Qs rfl (Qs rfl (Qs rfl (Qp rfl rfl ?_)))))
  refine hK _ _ (Qb (kp3 rfl rfl rfl) ?_)
  refine Zv rfl (Qf fun K hK => Qa rfl ?_)
  refine hK _ _ (Qb (kp1 rfl) ?_)
  refine Qu (Qk (QG rfl ?_))
  rw [QdQ (by omega)]
 ·try rw [h1]
  try simp only [qa, qb, qc, qd, qe, List.length_map] at h1
  refine Qj rfl (Qa rfl (Qj rfl (Qh rfl rfl (Qj rfl (QA rfl rfl rfl (Qj rfl (QR rfl rfl (Qj rfl (QeX rfl rfl (Qp rfl rfl ?_))))))))))
  refine hK _ _ (Qb (kp3 rfl rfl rfl) ?_)
  refine Qw rfl (fun h2 => ?_) (fun h2 => ?_)
  ·try rw [h2]
   try simp only [qa, qb, qc, qd, qe, List.length_map] at h2
   refine Qf fun K hK => Qa rfl ?_
   refine hK _ _ (Qb (kp1 rfl) ?_)
   refine Qu (Qk (QG rfl ?_))
   rw [QdQ (by omega)]
  ·try rw [h2]
   try simp only [qa, qb, qc, qd, qe, List.length_map] at h2
   refine Qv (Qd (kp2 rfl rfl) (Qf fun K hK => Qh rfl rfl (QA rfl rfl rfl (Qa rfl (QJ rfl rfl rfl (by omega) (ZC (by omega) (by omega)) rfl (Q6 rfl rfl (QA rfl rfl rfl (QR rfl rfl (Qq0 rfl rfl (Q1 rfl rfl (by first | exact Qq (by omega) (by omega) | rfl) ?_))))))))))
   refine QI (Xa (by omega) (by omega)) rfl rfl (.inr rfl) (Qaq rfl rfl (Qjn (by omega)) (Qa rfl ?_))
   refine hK _ _ (Qb (kp1 rfl) ?_)
   refine Qu (QG rfl ?_)
   rw [Qfh (by omega) (by omega), List.length_map, Qrc]
theorem Yr {w : Qn} (hw : WSm w) {l : List TermT} (hl : l.length <= 1000000) {u : Int} : Ok Tryz.prog 28 [Z4 w, ZE l, .int .i64 u] (.int .i64 (QbO w l u)) := by
 refine Ok.ofT Z1 Tryz.func28 Qr1 (Nat.le_of_ble_eq_true rfl) ?_
 show TW _ _ tf28.body _ _
 refine Qf fun K hK => Zx rfl rfl rfl (Qa rfl ?_)
 refine hK _ _ (Qb (kp3 rfl rfl rfl) ?_)
 refine QB ?_ -- 0
 refine Qf fun K hK => Qa rfl ?_
 refine hK _ _ (Qb (kp4 rfl rfl rfl rfl) ?_)
 refine Qz ?_
 refine Zk (ι := Nat) (fun i => ⟨[(1, ZE l), (2, .int .i64 u), (3, .ref 3 0 0), (7, .int .i64 i)], [(3, ⟨[[.sl ((w).map Yq)]], 1, 26, true⟩)]⟩) (fun i => i <= l.length /\ Qam (ZW w u) u l = Qam (ZW w u) u (l.drop i)) (fun i => l.length - i) 0 ?_ ?_ ?_
 ·exact Q2 (l := [1, 2, 3, 7]) (lH := [3]) (kp4 rfl rfl rfl rfl) (Qe rfl Ql) rfl rfl rfl
 ·exact ⟨Nat.zero_le _, by simp⟩
 intro i hI
 try dsimp only
 refine QB ?_ -- 1
 refine Qf fun K hK => Qa rfl (Qa rfl (QR rfl rfl (Z8 rfl rfl ?_)))
 refine hK _ _ (Qb (kp5 rfl rfl rfl rfl rfl) ?_)
 refine Qw rfl (fun h1 => ?_) (fun h1 => ?_)
 ·try rw [h1]
  try simp only [qa, qb, qc, qd, qe, List.length_map] at h1
  refine Qv (Qd (kp4 rfl rfl rfl rfl) ?_)
  refine QB ?_ -- 2
  refine Qz (Qf fun K hK => Qa rfl (Qa rfl (QJ rfl rfl rfl (by omega) (QS (by omega)) rfl (Q6 rfl rfl (QA rfl rfl rfl (Qa rfl (ZN rfl rfl ?_)))))))
  refine hK _ _ (Qb (kp5 rfl rfl rfl rfl rfl) ?_)
  refine Qw rfl (fun h2 => ?_) (fun h2 => ?_)
  ·try rw [h2]
   try simp only [qa, qb, qc, qd, qe, List.length_map] at h2
   refine Qf fun K hK => Qa rfl (Qa rfl (QJ rfl rfl rfl (by omega) (QS (by omega)) rfl (Q6 rfl rfl (QA rfl rfl rfl (Qa rfl ?_)))))
   refine hK _ _ (Qb (kp1 rfl) ?_)
   refine Qu (Qr (Qk (Q4 (Qr (Qk (QG rfl ?_))))))
   rw [QbO, hI.2, QmR (by omega) h2]
  ·try rw [h2]
   try simp only [qa, qb, qc, qd, qe, List.length_map] at h2
   refine Qv (Qg (Qd (kp4 rfl rfl rfl rfl) (QL fun K hK => Qa rfl (Q1 rfl rfl (by first | exact Qq (by omega) (by omega) | rfl) (Qa rfl (hK _ ?_))))))
   refine Qi (i + 1) ?_ ?_ ?_
   ·exact Q2 (l := [1, 2, 3, 7]) (lH := [3]) (kp4 rfl rfl rfl rfl) (Qe rfl Ql) rfl rfl rfl
   ·exact ⟨by omega, by rw [hI.2, QlJ (by omega) (by assumption)]⟩
   ·first | omega | (simp only; omega) | (dsimp only; omega)
 ·try rw [h1]
  try simp only [qa, qb, qc, qd, qe, List.length_map] at h1
  refine Zi (QK (Qx (QD (Qd (kp2 rfl rfl) (Qf fun K hK => QH (cs := [_]) rfl rfl rfl rfl (Qa rfl (QI (Zt hw) rfl rfl (.inr rfl) (Qa rfl ?_))))))))
  refine hK _ _ (Qb (kp1 rfl) ?_)
  refine Qu (QG rfl ?_)
  rw [QbO, hI.2, List.drop_eq_nil_of_le (by omega)]; rfl
theorem Qc5 {w : Qn} (hw : WSm w) {x : WantT} (hx : Sm x.s.1 /\ Sm x.s.2) : Ok Tryz.prog 89 [Z4 w, .agg (Qe0 x)] (.int .i64 (Qjp w x)) := by
 refine Ok.ofT Z1 Tryz.func89 QsW (Nat.le_of_ble_eq_true rfl) ?_
 show TW _ _ tf89.body _ _
 refine Qf fun K hK => Zx rfl rfl rfl (Zx rfl rfl rfl (Qa rfl ?_))
 refine hK _ _ (Qb (kp2 rfl rfl) ?_)
 refine QB ?_ -- 0
 refine Qf fun K hK => Qh rfl rfl (QA rfl rfl rfl (Z8 rfl rfl (Qa rfl ?_)))
 refine QE (g := 11) rfl (fun h1 => ?_) (fun h1 => ?_)
 ·try rw [h1]
  try simp only [qa, qb, qc, qd, qe, List.length_map] at h1
  refine Qs rfl (Qs rfl (Qs rfl (Qs rfl (Qs rfl (Qs rfl (Qp rfl rfl ?_))))))
  refine hK _ _ (Qb (kp3 rfl rfl rfl) ?_)
  refine Zv rfl (Qf fun K hK => Qa rfl ?_)
  refine hK _ _ (Qb (kp1 rfl) ?_)
  refine Qu (Qk (QG rfl ?_))
  rw [QkP (by omega)]
 ·try rw [h1]
  try simp only [qa, qb, qc, qd, qe, List.length_map] at h1
  refine Qj rfl (Qh rfl rfl (Qj rfl (QA rfl rfl rfl (Qj rfl (Qh rfl rfl (Qj rfl (QA rfl rfl rfl (Qj rfl (QR rfl rfl (Qj rfl (QeX rfl rfl ?_)))))))))))
  refine Qp rfl rfl ?_
  refine hK _ _ (Qb (kp3 rfl rfl rfl) ?_)
  refine Qw rfl (fun h2 => ?_) (fun h2 => ?_)
  ·try rw [h2]
   try simp only [qa, qb, qc, qd, qe, List.length_map] at h2
   refine Qf fun K hK => Qa rfl ?_
   refine hK _ _ (Qb (kp1 rfl) ?_)
   refine Qu (Qk (QG rfl ?_))
   rw [QkP (by omega)]
  ·try rw [h2]
   try simp only [qa, qb, qc, qd, qe, List.length_map] at h2
   refine Qv (Qd (kp2 rfl rfl) (Qf fun K hK => Qa rfl ?_))
   refine hK _ _ (Qb (kp3 rfl rfl rfl) ?_)
   refine Qf fun K hK => Qh rfl rfl (QA rfl rfl rfl (Qh rfl rfl (QA rfl rfl rfl (QJ rfl rfl rfl (by omega) (ZC (by omega) (by omega)) rfl (Q6 rfl rfl (QA rfl rfl rfl (Qa rfl ?_)))))))
   refine hK _ _ (Qb (kp3 rfl rfl rfl) ?_)
   refine QB ?_ -- 1
   refine Qf fun K hK => Qa rfl ?_
   refine hK _ _ (Qb (kp4 rfl rfl rfl rfl) ?_)
   refine Qz ?_
   refine Zk (ι := Nat) (fun i => ⟨[(3, .ref 3 0 0), (5, .int .i64 (QbP x.s (w[x.u.toNat]'(by omega)).cs i)), (6, Qkq (w[x.u.toNat]'(by omega)).cs), (7, .int .i64 i)], [(3, ⟨[[.int .i64 (x).u, ZH (x).s.1, ZH (x).s.2]], 3, 77, true⟩)]⟩) (fun i => i <= (min (w[x.u.toNat]'(by omega)).cs.length 16)) (fun i => (min (w[x.u.toNat]'(by omega)).cs.length 16) - i) 0 ?_ ?_ ?_
   ·exact Q2 (l := [3, 5, 6, 7]) (lH := [3]) (kp4 rfl rfl rfl rfl) (Qe rfl Ql) rfl rfl rfl
   ·exact Nat.zero_le _
   intro i hI
   try dsimp only
   refine QB ?_ -- 2
   refine Qf fun K hK => Qa rfl (Qa rfl (QR rfl rfl (Z8 rfl rfl (Qa rfl ?_))))
   refine QE (g := 30) rfl (fun h3 => ?_) (fun h3 => ?_)
   ·try rw [h3]
    try simp only [qa, qb, qc, qd, qe, List.length_map] at h3
    refine Qj rfl (Qa rfl (Qj rfl (Z8 rfl rfl (Qp rfl rfl ?_))))
    refine hK _ _ (Qb (kp5 rfl rfl rfl rfl rfl) ?_)
    refine Qw rfl (fun h4 => ?_) (fun h4 => ?_)
    ·try rw [h4]
     try simp only [qa, qb, qc, qd, qe, List.length_map] at h4
     refine Qv (Qd (kp4 rfl rfl rfl rfl) ?_)
     refine QB ?_ -- 3
     refine Qz (Qf fun K hK => Qh rfl rfl (QN (ds0 := [0]) (cs := [_, _]) rfl rfl rfl rfl rfl rfl (Qa rfl (Qa rfl (QJ rfl rfl rfl (by omega) (QS (by omega)) rfl (Q6 rfl rfl (QN (ds0 := [0]) (cs := [_, _, _, _, _]) rfl rfl rfl rfl rfl rfl (QV (ds0 := []) (Qdw hx.1 hx.2 (hw.vs _ (List.getElem_mem _) _ (List.getElem_mem (by omega))).1 (hw.vs _ (List.getElem_mem _) _ (List.getElem_mem (by omega))).2) rfl rfl (.inr rfl) rfl rfl ?_))))))))
     refine hK _ _ (Qb (kp5 rfl rfl rfl rfl rfl) ?_)
     refine Qw rfl (fun h5 => ?_) (fun h5 => ?_)
     ·try rw [h5]
      try simp only [qa, qb, qc, qd, qe, List.length_map] at h5
      refine QL fun K hK => Qa rfl (Qa rfl (Q1 rfl rfl (by first | exact Qq (by omega) (by omega) | rfl) (QI (Xa (by omega) (by omega)) rfl rfl (.inr rfl) (Q1 rfl rfl (QoI _ _ (by omega)) (Qa rfl (hK _ ?_))))))
      refine Qg (Qd (kp4 rfl rfl rfl rfl) (QL fun K hK => Qa rfl (Q1 rfl rfl (by first | exact Qq (by omega) (by omega) | rfl) (Qa rfl (hK _ ?_)))))
      refine Qi (i + 1) ?_ ?_ ?_
      ·exact Q2 (l := [3, 5, 6, 7]) (lH := [3]) (kp4 rfl rfl rfl rfl) (Qe rfl Ql) (by rw [QmS (by omega) (by assumption)]; rfl) rfl rfl
      ·omega
      ·first | omega | (simp only; omega) | (dsimp only; omega)
     ·try rw [h5]
      try simp only [qa, qb, qc, qd, qe, List.length_map] at h5
      refine Qv (Qg (Qd (kp4 rfl rfl rfl rfl) (QL fun K hK => Qa rfl (Q1 rfl rfl (by first | exact Qq (by omega) (by omega) | rfl) (Qa rfl (hK _ ?_))))))
      refine Qi (i + 1) ?_ ?_ ?_
      ·exact Q2 (l := [3, 5, 6, 7]) (lH := [3]) (kp4 rfl rfl rfl rfl) (Qe rfl Ql) (by rw [Qoj (by omega) (by assumption)]; rfl) rfl rfl
      ·omega
      ·first | omega | (simp only; omega) | (dsimp only; omega)
    ·try rw [h4]
     try simp only [qa, qb, qc, qd, qe, List.length_map] at h4
     refine Zi (QK (Qx (QD (Qd (kp1 rfl) (Qf fun K hK => Qa rfl (Qa rfl ?_))))))
     refine hK _ _ (Qb (kp1 rfl) ?_)
     refine Qu (QG rfl ?_)
     rw [QmL (by omega) (by omega), show i = min (w[x.u.toNat]'(by omega)).cs.length 16 by omega]
   ·try rw [h3]
    try simp only [qa, qb, qc, qd, qe, List.length_map] at h3
    refine Qs rfl (Qs rfl (Qp rfl rfl ?_))
    refine hK _ _ (Qb (kp5 rfl rfl rfl rfl rfl) ?_)
    refine ZJ rfl (Zi (QK (Qx (QD (Qd (kp1 rfl) (Qf fun K hK => Qa rfl (Qa rfl ?_)))))))
    refine hK _ _ (Qb (kp1 rfl) ?_)
    refine Qu (QG rfl ?_)
    rw [QmL (by omega) (by omega), show i = min (w[x.u.toNat]'(by omega)).cs.length 16 by omega]
theorem XS {m : Int} : Ok Tryz.prog 39 [.int .i64 m] (Zp (Qa4 m)) := by
 refine Ok.ofT Z1 Tryz.func39 Qsb (Nat.le_of_ble_eq_true rfl) ?_
 show TW _ _ tf39.body _ _
 refine Qf fun K hK => Qa rfl ?_
 refine hK _ _ (Qb (kp1 rfl) ?_)
 refine Qf fun K hK => Qa rfl ?_
 refine hK _ _ (Qb (kp2 rfl rfl) ?_)
 refine QB ?_ -- 0
 refine Qf fun K hK => Qa rfl ?_
 refine hK _ _ (Qb (kp3 rfl rfl rfl) ?_)
 refine Qz ?_
 refine Zk (ι := Nat) (fun i => ⟨[(0, .int .i64 m), (3, .osl 3 (Xg m i).length), (4, .int .i64 i)], [(3, ⟨(Xg m i).map (fun x => [.int .i64 x]), 1, 3, true⟩)]⟩) (fun i => i <= 17) (fun i => 17 - i) 0 ?_ ?_ ?_
 ·exact le_trans (Yj 3 3 1 3 rfl rfl) (Q2 (l := [0, 3, 4]) (lH := [3]) (kp3 rfl rfl rfl) (Qe rfl Ql) rfl rfl rfl)
 ·exact Nat.zero_le _
 intro i hI
 have hlen := Qcr m i
 try dsimp only
 refine QB ?_ -- 1
 refine Qf fun K hK => Qa rfl (QoK rfl rfl ?_)
 refine hK _ _ (Qb (kp4 rfl rfl rfl rfl) ?_)
 refine Qw rfl (fun h1 => ?_) (fun h1 => ?_)
 ·try rw [h1]
  try simp only [qa, qb, qc, qd, qe] at h1
  refine Qv (Qd (kp3 rfl rfl rfl) ?_)
  refine QB ?_ -- 2
  refine Qz (Qf fun K hK => Qa rfl (Qa rfl (QI (Xa (by omega) (by omega)) rfl rfl (.inr rfl) (Qee rfl rfl (XM rfl rfl ?_)))))
  refine hK _ _ (Qb (kp4 rfl rfl rfl rfl) ?_)
  refine Qw rfl (fun h2 => ?_) (fun h2 => ?_)
  ·try rw [h2]
   try simp only [qa, qb, qc, qd, qe] at h2
   refine QL fun K hK => Qa rfl (Qa rfl (Qaq rfl rfl (by first | exact Qq (by omega) (by omega) | rfl) (QC rfl rfl (Xl rfl rfl (fun _ h => Y5 rfl rfl rfl h) rfl (by simp) rfl rfl rfl (by simp; omega) (by simp; omega) (Qa rfl (hK _ ?_))))))
   refine Qg (Qd (kp3 rfl rfl rfl) (QL fun K hK => Qa rfl (Q1 rfl rfl (by first | exact Qq (by omega) (by omega) | rfl) (Qa rfl (hK _ ?_)))))
   refine Qi (i + 1) ?_ ?_ ?_
   ·exact Q2 (l := [0, 3, 4]) (lH := [3]) (kp3 rfl rfl rfl) (Qe rfl Ql) (by first | (rw [X2 (m := m) (n := i) h2]; done) | (rw [X2 (m := m) (n := i) h2]; rfl) | (rw [X2 (m := m) (n := i) h2, List.length_append]; rfl) | (simp [X2 (m := m) (n := i) h2]; done) | (simp [X2 (m := m) (n := i) h2]; omega) | rfl) (by first | (rw [X2 (m := m) (n := i) h2]; done) | (rw [X2 (m := m) (n := i) h2]; rfl) | (rw [X2 (m := m) (n := i) h2, List.map_append]; rfl) | (simp [X2 (m := m) (n := i) h2]; done) | rfl) rfl
   ·omega
   ·first | omega | (simp only; omega) | (dsimp only; omega)
  ·try rw [h2]
   try simp only [qa, qb, qc, qd, qe] at h2
   refine Qv (Qg (Qd (kp3 rfl rfl rfl) (QL fun K hK => Qa rfl (Q1 rfl rfl (by first | exact Qq (by omega) (by omega) | rfl) (Qa rfl (hK _ ?_))))))
   refine Qi (i + 1) ?_ ?_ ?_
   ·exact Q2 (l := [0, 3, 4]) (lH := [3]) (kp3 rfl rfl rfl) (Qe rfl Ql) (by first | (rw [Qbi (m := m) (n := i) h2]; done) | (rw [Qbi (m := m) (n := i) h2]; rfl) | (rw [Qbi (m := m) (n := i) h2, List.length_append]; rfl) | (simp [Qbi (m := m) (n := i) h2]; done) | (simp [Qbi (m := m) (n := i) h2]; omega) | rfl) (by first | (rw [Qbi (m := m) (n := i) h2]; done) | (rw [Qbi (m := m) (n := i) h2]; rfl) | (rw [Qbi (m := m) (n := i) h2, List.map_append]; rfl) | (simp [Qbi (m := m) (n := i) h2]; done) | rfl) rfl
   ·omega
   ·first | omega | (simp only; omega) | (dsimp only; omega)
 ·try rw [h1]
  try simp only [qa, qb, qc, qd, qe] at h1
  refine Zi (QK (Qx (QD (Qd (kp1 rfl) (Qf fun K hK => Qa rfl (Qa rfl ?_))))))
  refine hK _ _ (Qb (kp1 rfl) ?_)
  refine Qu ?_
  exact QaF rfl rfl rfl (by simp) (by rw [Qa4, show (17 : Nat) = i by omega]; rfl)
theorem QcO {a b : List TermT} (ha : a.length <= 1000000) : Ok Tryz.prog 19 [ZE a, ZE b] (.bool (decide (a = b))) := by
 refine Ok.ofT Z1 Tryz.func19 QrX (Nat.le_of_ble_eq_true rfl) ?_
 show TW _ _ tf19.body _ _
 refine Qf fun K hK => Qa rfl ?_
 refine hK _ _ (Qb (kp2 rfl rfl) ?_)
 refine QB ?_ -- 0
 refine Qf fun K hK => Qa rfl (QR rfl rfl (Qa rfl (QR rfl rfl (XM rfl rfl ?_))))
 refine hK _ _ (Qb (kp3 rfl rfl rfl) ?_)
 refine Qw rfl (fun h1 => ?_) (fun h1 => ?_)
 ·try rw [h1]
  try simp only [qa, qb, qc, qd, qe, List.length_map] at h1
  refine Qf fun K hK => Qa rfl ?_
  refine hK _ _ (Qb (kp1 rfl) ?_)
  refine Qu (Qk (Qt rfl ?_))
  rw [decide_eq_false fun e => h1 (by rw [e])]
 ·try rw [h1]
  try simp only [qa, qb, qc, qd, qe, List.length_map] at h1
  refine Qv (Qd (kp2 rfl rfl) ?_)
  refine QB ?_ -- 1
  refine Qf fun K hK => Qa rfl ?_
  refine hK _ _ (Qb (kp3 rfl rfl rfl) ?_)
  refine Qz ?_
  refine Zk (ι := Nat) (fun i => ⟨[(0, ZE a), (1, ZE b), (5, .int .i64 i)], []⟩) (fun i => i <= a.length /\ a.take i = b.take i) (fun i => a.length - i) 0 ?_ ?_ ?_
  ·exact Zg (kp3 rfl rfl rfl)
  ·exact ⟨Nat.zero_le _, by simp⟩
  intro i hI
  try dsimp only
  refine QB ?_ -- 2
  refine Qf fun K hK => Qa rfl (Qa rfl (QR rfl rfl (Z8 rfl rfl ?_)))
  refine hK _ _ (Qb (kp4 rfl rfl rfl rfl) ?_)
  refine Qw rfl (fun h2 => ?_) (fun h2 => ?_)
  ·try rw [h2]
   try simp only [qa, qb, qc, qd, qe, List.length_map] at h2
   refine Qv (Qd (kp3 rfl rfl rfl) ?_)
   refine QB ?_ -- 3
   refine Qz (Qf fun K hK => Qa rfl (Qa rfl (QJ rfl rfl rfl (by omega) (QS (by omega)) rfl (QN (ds0 := [0]) (cs := [_, _]) rfl rfl rfl rfl rfl rfl (Qa rfl (Qa rfl (QJ rfl rfl rfl (by omega) (QS (by omega)) rfl (QN (ds0 := [0]) (cs := [_, _]) rfl rfl rfl rfl rfl rfl (Qqf rfl rfl Qnv ?_)))))))))
   refine hK _ _ (Qb (kp4 rfl rfl rfl rfl) ?_)
   refine Qw rfl (fun h3 => ?_) (fun h3 => ?_)
   ·try rw [h3]
    try simp only [qa, qb, qc, qd, qe, List.length_map] at h3
    refine Qf fun K hK => Qa rfl ?_
    refine hK _ _ (Qb (kp1 rfl) ?_)
    refine Qu (Qr (Qk (Q4 (Qr (Qk (Qt rfl ?_))))))
    rw [QpU (i := i) (by omega) (by omega) h3]
   ·try rw [h3]
    try simp only [qa, qb, qc, qd, qe, List.length_map] at h3
    refine Qv (Qg (Qd (kp3 rfl rfl rfl) (QL fun K hK => Qa rfl (Q1 rfl rfl (by first | exact Qq (by omega) (by omega) | rfl) (Qa rfl (hK _ ?_))))))
    refine Qi (i + 1) ?_ ?_ ?_
    ·exact Zg (kp3 rfl rfl rfl)
    ·exact ⟨by omega, Qns (by omega) (by omega) hI.2 h3⟩
    ·first | omega | (simp only; omega) | (dsimp only; omega)
  ·try rw [h2]
   try simp only [qa, qb, qc, qd, qe, List.length_map] at h2
   refine Zi (QK (Qx (QD (Qd (Q8) (Qf fun K hK => Qa rfl ?_)))))
   refine hK _ _ (Qb (kp1 rfl) ?_)
   refine Qu (Qt rfl ?_)
   rw [List.take_of_length_le (by omega), List.take_of_length_le (by omega)] at hI; exact (decide_eq_true hI.2).symm
end Go.Proofs
namespace Go.Proofs
open Go Go.Abs M3 M25
set_option linter.unusedVariables false
set_option linter.unusedSimpArgs false
theorem QbV {w : Qn} (hw : WSm w) (et : Nat) (het : et = 3) : OkH Tryz.prog 73 [Z4 w] [] (.osl 500000 (XZ w).length) [(500000, ⟨(XZ w).map (fun x => [.int .i64 x]), 1, et, true⟩)] := by
 subst het
 refine OkH.new Z1 Tryz.func73 QsG (Nat.le_of_ble_eq_true rfl) rfl ?_
 show TW _ _ tf73.body _ _
 have hn := hw.len
 refine Qf fun K hK => Zx rfl rfl rfl (Qa rfl ?_)
 refine hK _ _ (Qb (kp1 rfl) ?_)
 refine Qf fun K hK => Qa rfl ?_
 refine hK _ _ (Qb (kp2 rfl rfl) ?_)
 refine QB ?_ -- 0
 refine Qf fun K hK => Qa rfl ?_
 refine hK _ _ (Qb (kp3 rfl rfl rfl) ?_)
 refine Qz ?_
 refine Zk (ι := Nat) (fun i => ⟨[(1, .ref 1 0 0), (3, .osl 500000 (QaK w i).length), (4, .int .i64 i)], [(1, ⟨[[.sl ((w).map Yq)]], 1, 26, true⟩), (500000, ⟨(QaK w i).map (fun x => [.int .i64 x]), 1, 3, true⟩)]⟩) (fun i => i <= w.length) (fun i => w.length - i) 0 ?_ ?_ ?_
 ·exact le_trans (Yj 3 500000 1 3 rfl rfl) (Q2 (l := [1, 3, 4]) (lH := [1, 500000]) (kp3 rfl rfl rfl) (Qe rfl (Qe rfl Ql)) rfl rfl rfl)
 ·exact Nat.zero_le _
 intro i hI
 have hlen := Xd w i
 try dsimp only
 refine QB ?_ -- 1
 refine Qf fun K hK => Qa rfl (Qh rfl rfl (QA rfl rfl rfl (QR rfl rfl (Z8 rfl rfl ?_))))
 refine hK _ _ (Qb (kp4 rfl rfl rfl rfl) ?_)
 refine Qw rfl (fun h1 => ?_) (fun h1 => ?_)
 ·try rw [h1]
  try simp only [qa, qb, qc, qd, qe, List.length_map] at h1
  refine Qv (Qd (kp3 rfl rfl rfl) ?_)
  refine QB ?_ -- 2
  refine Qz (QL fun K hK => Qa rfl (QH (cs := [_]) rfl rfl rfl rfl (Qa rfl (QI (Zt hw) rfl rfl (.inr rfl) (QC rfl rfl (Xl rfl rfl (fun _ h => Y5 rfl rfl rfl h) rfl (by simp) rfl rfl rfl (by simp; omega) (by simp; omega) (Qa rfl (hK _ ?_))))))))
  refine Qg (Qd (kp3 rfl rfl rfl) (QL fun K hK => Qa rfl (Q1 rfl rfl (by first | exact Qq (by omega) (by omega) | rfl) (Qa rfl (hK _ ?_)))))
  refine Qi (i + 1) ?_ ?_ ?_
  ·exact Q2 (l := [1, 3, 4]) (lH := [1, 500000]) (kp3 rfl rfl rfl) (Qe rfl (Qe rfl Ql)) (by first | (rw [X3]; done) | (rw [X3]; rfl) | (rw [X3, List.length_append]; rfl) | (simp [X3]; done) | (simp [X3]; omega) | rfl) (by first | (rw [X3]; done) | (rw [X3]; rfl) | (rw [X3, List.map_append]; rfl) | (simp [X3]; done) | rfl) rfl
  ·omega
  ·first | omega | (simp only; omega) | (dsimp only; omega)
 ·try rw [h1]
  try simp only [qa, qb, qc, qd, qe, List.length_map] at h1
  refine Zi (QK (Qx (QD (Qd (kp1 rfl) (Qf fun K hK => Qa rfl (Qa rfl ?_))))))
  refine hK _ _ (Qb (kp1 rfl) ?_)
  refine Qu ?_
  refine YC rfl ?_ (Qcm ?_)
  ·rw [XZ, show w.length = i by omega]; rfl
  ·rw [XZ, show w.length = i by omega]; rfl
theorem QcP {w : Qn} (hw : WSm w) {ms : List Int} (hm : ms.length <= 1000000) : Ok Tryz.prog 74 [Z4 w, Zp ms] (dOT (QhK w ms)) := by
 refine Ok.ofT Z1 Tryz.func74 QsH (Nat.le_of_ble_eq_true rfl) ?_
 show TW _ _ tf74.body _ _
 refine Qf fun K hK => Zx rfl rfl rfl (Qa rfl (Qa rfl ?_))
 refine hK _ _ (Qb (kp2 rfl rfl) ?_)
 refine Qf fun K hK => Qa rfl ?_
 refine hK _ _ (Qb (kp3 rfl rfl rfl) ?_)
 refine QB ?_ -- 0
 refine Qf fun K hK => Qa rfl ?_
 refine hK _ _ (Qb (kp4 rfl rfl rfl rfl) ?_)
 refine Qz ?_
 refine Zk (ι := Nat) (fun i => ⟨[(1, Zp ms), (2, .ref 2 0 0), (6, .osl 6 (Xj w ms i).length), (7, .int .i64 i)], [(2, ⟨[[.sl ((w).map Yq)]], 1, 26, true⟩), (6, ⟨(Xj w ms i).map QdA, 2, 56, true⟩)]⟩) (fun i => i <= ms.length /\ (ms.take i).all (fun m => !decide (m = 0)) = true) (fun i => ms.length - i) 0 ?_ ?_ ?_
 ·exact le_trans (Yj 6 6 2 56 rfl rfl) (Q2 (l := [1, 2, 6, 7]) (lH := [2, 6]) (kp4 rfl rfl rfl rfl) (Qe rfl (Qe rfl Ql)) rfl rfl rfl)
 ·exact ⟨Nat.zero_le _, by simp⟩
 intro i hI
 have hlen := QgW w ms i
 try dsimp only
 refine QB ?_ -- 1
 refine Qf fun K hK => Qa rfl (Qa rfl (QR rfl rfl (Z8 rfl rfl ?_)))
 refine hK _ _ (Qb (kp5 rfl rfl rfl rfl rfl) ?_)
 refine Qw rfl (fun h1 => ?_) (fun h1 => ?_)
 ·try rw [h1]
  try simp only [qa, qb, qc, qd, qe, List.length_map] at h1
  refine Qv (Qd (kp4 rfl rfl rfl rfl) ?_)
  refine QB ?_ -- 2
  refine Qz ?_
  refine QB ?_ -- 3
  refine Qf fun K hK => Qa rfl (Qa rfl (QJ rfl rfl rfl (by omega) (QS (by omega)) rfl (QA rfl rfl rfl (ZN rfl rfl ?_))))
  refine hK _ _ (Qb (kp5 rfl rfl rfl rfl rfl) ?_)
  refine Qw rfl (fun h2 => ?_) (fun h2 => ?_)
  ·try rw [h2]
   try simp only [qa, qb, qc, qd, qe, List.length_map] at h2
   refine Qf fun K hK => Qa rfl (Qa rfl ?_)
   refine hK _ _ (Qb (kp2 rfl rfl) ?_)
   refine Qu (Qk (Qr (Qk (Q4 (Qr (Qk ?_))))))
   rw [QlG (i := i) (by omega) h2]
   exact QT rfl rfl ⟨rfl, rfl⟩
  ·try rw [h2]
   try simp only [qa, qb, qc, qd, qe, List.length_map] at h2
   refine Qv (Qd (kp4 rfl rfl rfl rfl) (Qf fun K hK => Qa rfl (Qa rfl (QJ rfl rfl rfl (by omega) (QS (by omega)) rfl (QO (ds0 := [0]) rfl rfl rfl rfl rfl (QN (ds0 := [1, 0]) (cs := [_]) rfl rfl rfl rfl rfl rfl (Qa rfl (QV (ds0 := [0]) (Zt hw) rfl rfl (.inr rfl) rfl rfl (XM rfl rfl ?_)))))))))
   refine hK _ _ (Qb (kp5 rfl rfl rfl rfl rfl) ?_)
   refine Qw rfl (fun h3 => ?_) (fun h3 => ?_)
   ·try rw [h3]
    try simp only [qa, qb, qc, qd, qe, List.length_map] at h3
    refine QL fun K hK => Qa rfl (Qa rfl (Qa rfl (Qa rfl (QJ rfl rfl rfl (by omega) (QS (by omega)) rfl (QA rfl rfl rfl (QX rfl rfl (QC rfl rfl (Xl rfl rfl (fun _ h => Y5 rfl rfl rfl h) rfl (by simp) rfl rfl rfl (by simp; omega) (by simp; omega) (Qa rfl (hK _ ?_))))))))))
    refine Qg (Qd (kp4 rfl rfl rfl rfl) (QL fun K hK => Qa rfl (Q1 rfl rfl (by first | exact Qq (by omega) (by omega) | rfl) (Qa rfl (hK _ ?_)))))
    refine Qi (i + 1) ?_ ?_ ?_
    ·exact Q2 (l := [1, 2, 6, 7]) (lH := [2, 6]) (kp4 rfl rfl rfl rfl) (Qe rfl (Qe rfl Ql)) (by first | (rw [X6 (by omega) h3]; done) | (rw [X6 (by omega) h3]; rfl) | (rw [X6 (by omega) h3, List.length_append]; rfl) | (simp [X6 (by omega) h3]; done) | (simp [X6 (by omega) h3]; omega) | rfl) (by first | (rw [X6 (by omega) h3]; done) | (rw [X6 (by omega) h3]; rfl) | (rw [X6 (by omega) h3, List.map_append]; rfl) | (simp [X6 (by omega) h3]; done) | rfl) rfl
    ·exact ⟨by omega, Yf (by omega) hI.2 (by simpa using h2)⟩
    ·first | omega | (simp only; omega) | (dsimp only; omega)
   ·try rw [h3]
    try simp only [qa, qb, qc, qd, qe, List.length_map] at h3
    refine Qv (Qg (Qd (kp4 rfl rfl rfl rfl) (QL fun K hK => Qa rfl (Q1 rfl rfl (by first | exact Qq (by omega) (by omega) | rfl) (Qa rfl (hK _ ?_))))))
    refine Qi (i + 1) ?_ ?_ ?_
    ·exact Q2 (l := [1, 2, 6, 7]) (lH := [2, 6]) (kp4 rfl rfl rfl rfl) (Qe rfl (Qe rfl Ql)) (by first | (rw [Qbu (by omega) h3]; done) | (rw [Qbu (by omega) h3]; rfl) | (rw [Qbu (by omega) h3, List.length_append]; rfl) | (simp [Qbu (by omega) h3]; done) | (simp [Qbu (by omega) h3]; omega) | rfl) (by first | (rw [Qbu (by omega) h3]; done) | (rw [Qbu (by omega) h3]; rfl) | (rw [Qbu (by omega) h3, List.map_append]; rfl) | (simp [Qbu (by omega) h3]; done) | rfl) rfl
    ·exact ⟨by omega, Yf (by omega) hI.2 (by simpa using h2)⟩
    ·first | omega | (simp only; omega) | (dsimp only; omega)
 ·try rw [h1]
  try simp only [qa, qb, qc, qd, qe, List.length_map] at h1
  refine Zi (QK (Qx (QD (Qd (kp1 rfl) (Qf fun K hK => Qa rfl (Qa rfl (Qa rfl ?_)))))))
  refine hK _ _ (Qb (kp2 rfl rfl) ?_)
  refine Qu ?_
  rw [QmJ (i := i) (by omega) hI.2]
  exact Qf9 rfl rfl rfl (by simp) (by show D.sl _ = ZE (Xj w ms ms.length); rw [show ms.length = i by omega]; rfl) rfl rfl
theorem XT {w : Qn} (hw : WSm w) {l : List TermT} (hl : l.length <= 2000000) : Ok Tryz.prog 52 [Z4 w, ZE l] (dOT (Qa5 w l)) := by
 refine Ok.ofT Z1 Tryz.func52 Qsm (Nat.le_of_ble_eq_true rfl) ?_
 show TW _ _ tf52.body _ _
 have hn := hw.len
 refine Qf fun K hK => Zx rfl rfl rfl (Qa rfl (Qa rfl ?_))
 refine hK _ _ (Qb (kp2 rfl rfl) ?_)
 refine Qf fun K hK => QH (cs := [_]) rfl rfl rfl rfl (Yn (Qkn rfl (by intro x hx; simp at hx; subst hx; rfl) rfl rfl rfl (QbV hw _ rfl)) (Qa rfl ?_))
 refine hK _ _ (Qb (kp3 rfl rfl rfl) ?_)
 refine Qgw (ι := Unit) (fun _ => ⟨[(2, .ref 2 0 0), (6, Zp (Xi (XZ w) l))], [(2, ⟨[[.sl ((w).map Yq)]], 1, 26, true⟩)]⟩) (fun _ => l.all (fun t => inW w t.u) = true) ?_ ?_
 ·skip
  refine Qf fun K hK => Qa rfl ?_
  refine hK _ _ (Qb (kp4 rfl rfl rfl rfl) ?_)
  refine Qz ?_
  refine Zk (ι := Nat) (fun i => ⟨[(1, ZE l), (2, .ref 2 0 0), (6, .osl 500000 (Xi (XZ w) (l.take i)).length), (7, .int .i64 i)], [(2, ⟨[[.sl ((w).map Yq)]], 1, 26, true⟩), (500000, ⟨(Xi (XZ w) (l.take i)).map (fun x => [.int .i64 x]), 1, 3, true⟩)]⟩) (fun i => i <= l.length /\ (l.take i).all (fun t => inW w t.u) = true) (fun i => l.length - i) 0 ?_ ?_ ?_
  ·exact Q2 (l := [1, 2, 6, 7]) (lH := [2, 500000]) (kp4 rfl rfl rfl rfl) (Qe rfl (Qe rfl Ql)) rfl rfl rfl
  ·exact ⟨Nat.zero_le _, by simp⟩
  intro i hI
  have hlen := QfH w (l.take i)
  try dsimp only
  refine QB ?_ -- 1
  refine Qf fun K hK => Qa rfl (Qa rfl (QR rfl rfl (Z8 rfl rfl ?_)))
  refine hK _ _ (Qb (kp5 rfl rfl rfl rfl rfl) ?_)
  refine Qw rfl (fun h1 => ?_) (fun h1 => ?_)
  ·try rw [h1]
   try simp only [qa, qb, qc, qd, qe, List.length_map] at h1
   refine Qv (Qd (kp4 rfl rfl rfl rfl) ?_)
   refine QB ?_ -- 2
   refine Qz ?_
   refine QB ?_ -- 3
   refine Qf fun K hK => Qa rfl (Qa rfl (QJ rfl rfl rfl (by omega) (QS (by omega)) rfl (Q6 rfl rfl (QA rfl rfl rfl (Z8 rfl rfl (Qa rfl ?_))))))
   refine QE (g := 22) rfl (fun h2 => ?_) (fun h2 => ?_)
   ·try rw [h2]
    try simp only [qa, qb, qc, qd, qe, List.length_map] at h2
    refine Qs rfl (Qs rfl (Qs rfl (Qs rfl (Qs rfl (Qs rfl (Qs rfl (Qs rfl (Qp rfl rfl ?_))))))))
    refine hK _ _ (Qb (kp5 rfl rfl rfl rfl rfl) ?_)
    refine Zv rfl (Qf fun K hK => Qa rfl (Qa rfl ?_))
    refine hK _ _ (Qb (kp2 rfl rfl) ?_)
    refine Qu (Qk (Qr (Qk (Q4 (Qr (QdK ?_))))))
    rw [QgU (i := i) (by omega) (Qbn (by omega))]
    exact QT rfl rfl ⟨rfl, rfl⟩
   ·try rw [h2]
    try simp only [qa, qb, qc, qd, qe, List.length_map] at h2
    refine Qj rfl (Qa rfl (Qj rfl (Qa rfl (Qj rfl (QJ rfl rfl rfl (by omega) (QS (by omega)) rfl (Qj rfl (Q6 rfl rfl (Qj rfl (QA rfl rfl rfl (Qj rfl (Qa rfl ?_)))))))))))
    refine Qj rfl (QR rfl rfl (Qj rfl (QeX rfl rfl (Qp rfl rfl ?_))))
    refine hK _ _ (Qb (kp5 rfl rfl rfl rfl rfl) ?_)
    refine Qw rfl (fun h3 => ?_) (fun h3 => ?_)
    ·try rw [h3]
     try simp only [qa, qb, qc, qd, qe, List.length_map] at h3
     refine Qf fun K hK => Qa rfl (Qa rfl ?_)
     refine hK _ _ (Qb (kp2 rfl rfl) ?_)
     refine Qu (Qk (Qr (Qk (Q4 (Qr (QdK ?_))))))
     rw [QgU (i := i) (by omega) (Qbn (by omega))]
     exact QT rfl rfl ⟨rfl, rfl⟩
    ·try rw [h3]
     try simp only [qa, qb, qc, qd, qe, List.length_map] at h3
     refine Qv (Qd (kp4 rfl rfl rfl rfl) (QL fun K hK => Qa rfl (Qa rfl (Qa rfl (QJ rfl rfl rfl (by omega) (QS (by omega)) rfl (Q6 rfl rfl (QO (ds0 := [1, 0]) rfl rfl rfl rfl rfl (Qa rfl (Qa rfl (Qa rfl ?_))))))))))
     refine QJ rfl rfl rfl (by omega) (QS (by omega)) rfl (Q6 rfl rfl (QO (ds0 := [9, 8, 2, 0]) rfl rfl rfl rfl rfl (XL (ds0 := [8, 2, 0]) rfl rfl rfl (by simp) (by omega) (by omega) rfl rfl rfl (QO (ds0 := [2, 0]) rfl (Z9 rfl (ZC (by omega) (by omega))) rfl rfl rfl (Qa rfl (Qa rfl (QJ rfl rfl rfl (by omega) (QS (by omega)) rfl (Q6 rfl rfl (QO (ds0 := [2, 0]) rfl rfl rfl rfl rfl (Qee rfl rfl (XL (ds0 := [0]) rfl rfl rfl (by simp) (by omega) (by omega) rfl rfl rfl ?_)))))))))))
     refine Y6 (ds0 := []) rfl rfl (ZC (by omega) (by omega)) rfl rfl rfl rfl rfl rfl rfl (hK _ ?_)
     refine Qg (Qd (kp4 rfl rfl rfl rfl) (QL fun K hK => Qa rfl (Q1 rfl rfl (by first | exact Qq (by omega) (by omega) | rfl) (Qa rfl (hK _ ?_)))))
     refine Qi (i + 1) ?_ ?_ ?_
     ·exact Q2 (l := [1, 2, 6, 7]) (lH := [2, 500000]) (kp4 rfl rfl rfl rfl) (Qe rfl (Qe rfl Ql)) (by rw [QkR (by omega) (by omega), List.length_set]; rfl) (by rw [QkR (by omega) (by omega), List.map_set]; rfl) rfl
     ·exact ⟨by omega, Yf (by omega) hI.2 (QfO (by omega) (by omega))⟩
     ·first | omega | (simp only; omega) | (dsimp only; omega)
  ·try rw [h1]
   try simp only [qa, qb, qc, qd, qe, List.length_map] at h1
   refine Zi (QK (Qx (QD ?_)))
   refine Yb () ?_ ?_
   ·exact le_trans (QfQ (l := [2]) (lH := [2]) 500000 6 (kp1 rfl) (Qe rfl Ql) rfl rfl rfl (by first | (simp; done) | (simp; omega)) rfl rfl rfl rfl) (Q2 (l := [2, 6]) (lH := [2]) (kp2 rfl rfl) (Qe rfl Ql) (by rw [List.take_of_length_le (show l.length <= i by omega)]; rfl) rfl rfl)
   ·exact XC (by omega) hI.2
 intro _ hJ
 try dsimp only
 refine Qf fun K hK => QH (cs := [_]) rfl rfl rfl rfl (Qa rfl (QI (QcP hw (by rw [QfH]; omega)) rfl rfl (.inl rfl) (QW rfl rfl (QW rfl rfl (Qa rfl (Qa rfl ?_))))))
 refine hK _ _ (Qb (kp2 rfl rfl) ?_)
 refine Qu ?_
 rw [QmK hJ]
 exact QT rfl rfl ⟨rfl, rfl⟩
theorem Xb {l : List TermT} (hl : l.length <= 2000000) {u : Int} : Ok Tryz.prog 90 [ZE l, .int .i64 u] (ZE (QgQ l u)) := by
 refine Ok.ofT Z1 Tryz.func90 QsX (Nat.le_of_ble_eq_true rfl) ?_
 show TW _ _ tf90.body _ _
 refine Qf fun K hK => Qa rfl ?_
 refine hK _ _ (Qb (kp2 rfl rfl) ?_)
 refine Qf fun K hK => Qa rfl ?_
 refine hK _ _ (Qb (kp3 rfl rfl rfl) ?_)
 refine QB ?_ -- 0
 refine Qf fun K hK => Qa rfl ?_
 refine hK _ _ (Qb (kp4 rfl rfl rfl rfl) ?_)
 refine Qz ?_
 refine Zk (ι := Nat) (fun i => ⟨[(0, ZE l), (1, .int .i64 u), (5, .osl 5 (QgQ (l.take i) u).length), (6, .int .i64 i)], [(5, ⟨(QgQ (l.take i) u).map QdA, 2, 56, true⟩)]⟩) (fun i => i <= l.length) (fun i => l.length - i) 0 ?_ ?_ ?_
 ·exact le_trans (Yj 5 5 2 56 rfl rfl) (Q2 (l := [0, 1, 5, 6]) (lH := [5]) (kp4 rfl rfl rfl rfl) (Qe rfl Ql) rfl rfl rfl)
 ·exact Nat.zero_le _
 intro i hI
 have hlen := QnN l u i
 try dsimp only
 refine QB ?_ -- 1
 refine Qf fun K hK => Qa rfl (Qa rfl (QR rfl rfl (Z8 rfl rfl ?_)))
 refine hK _ _ (Qb (kp5 rfl rfl rfl rfl rfl) ?_)
 refine Qw rfl (fun h1 => ?_) (fun h1 => ?_)
 ·try rw [h1]
  try simp only [qa, qb, qc, qd, qe, List.length_map] at h1
  refine Qv (Qd (kp4 rfl rfl rfl rfl) ?_)
  refine QB ?_ -- 2
  refine Qz (Qf fun K hK => Qa rfl (Qa rfl (QJ rfl rfl rfl (by omega) (QS (by omega)) rfl (Q6 rfl rfl (QA rfl rfl rfl (Qa rfl (XM rfl rfl ?_)))))))
  refine hK _ _ (Qb (kp5 rfl rfl rfl rfl rfl) ?_)
  refine Qw rfl (fun h2 => ?_) (fun h2 => ?_)
  ·try rw [h2]
   try simp only [qa, qb, qc, qd, qe, List.length_map] at h2
   refine QL fun K hK => Qa rfl (Qa rfl (Qa rfl (QJ rfl rfl rfl (by omega) (QS (by omega)) rfl (QH (cs := [_, _]) rfl rfl rfl rfl (QC rfl rfl (Xl rfl rfl (fun _ h => Y5 rfl rfl rfl h) rfl (by simp) rfl rfl rfl (by simp; omega) (by simp; omega) (Qa rfl (hK _ ?_))))))))
   refine Qg (Qd (kp4 rfl rfl rfl rfl) (QL fun K hK => Qa rfl (Q1 rfl rfl (by first | exact Qq (by omega) (by omega) | rfl) (Qa rfl (hK _ ?_)))))
   refine Qi (i + 1) ?_ ?_ ?_
   ·exact Q2 (l := [0, 1, 5, 6]) (lH := [5]) (kp4 rfl rfl rfl rfl) (Qe rfl Ql) (by first | (rw [Qbc (by omega) h2]; done) | (rw [Qbc (by omega) h2]; rfl) | (rw [Qbc (by omega) h2, List.length_append]; rfl) | (simp [Qbc (by omega) h2]; done) | (simp [Qbc (by omega) h2]; omega) | rfl) (by first | (rw [Qbc (by omega) h2]; done) | (rw [Qbc (by omega) h2]; rfl) | (rw [Qbc (by omega) h2, List.map_append]; rfl) | (simp [Qbc (by omega) h2]; done) | rfl) rfl
   ·omega
   ·first | omega | (simp only; omega) | (dsimp only; omega)
  ·try rw [h2]
   try simp only [qa, qb, qc, qd, qe, List.length_map] at h2
   refine Qv (Qg (Qd (kp4 rfl rfl rfl rfl) (QL fun K hK => Qa rfl (Q1 rfl rfl (by first | exact Qq (by omega) (by omega) | rfl) (Qa rfl (hK _ ?_))))))
   refine Qi (i + 1) ?_ ?_ ?_
   ·exact Q2 (l := [0, 1, 5, 6]) (lH := [5]) (kp4 rfl rfl rfl rfl) (Qe rfl Ql) (by first | (rw [Qdr (by omega) h2]; done) | (rw [Qdr (by omega) h2]; rfl) | (rw [Qdr (by omega) h2, List.length_append]; rfl) | (simp [Qdr (by omega) h2]; done) | (simp [Qdr (by omega) h2]; omega) | rfl) (by first | (rw [Qdr (by omega) h2]; done) | (rw [Qdr (by omega) h2]; rfl) | (rw [Qdr (by omega) h2, List.map_append]; rfl) | (simp [Qdr (by omega) h2]; done) | rfl) rfl
   ·omega
   ·first | omega | (simp only; omega) | (dsimp only; omega)
 ·try rw [h1]
  try simp only [qa, qb, qc, qd, qe, List.length_map] at h1
  refine Zi (QK (Qx (QD (Qd (kp1 rfl) (Qf fun K hK => Qa rfl (Qa rfl ?_))))))
  refine hK _ _ (Qb (kp1 rfl) ?_)
  refine Qu ?_
  exact QaF rfl rfl rfl (by simp) (by rw [List.take_of_length_le (show l.length <= i by omega)]; rfl)
theorem QbK {l : List TermT} (hl : l.length <= 3000000) : Ok Tryz.prog 91 [ZE l] (ZE (QhO l)) := by
 refine Ok.ofT Z1 Tryz.func91 QsY (Nat.le_of_ble_eq_true rfl) ?_
 show TW _ _ tf91.body _ _
 refine Qf fun K hK => Qa rfl ?_
 refine hK _ _ (Qb (kp1 rfl) ?_)
 refine Qf fun K hK => Qa rfl ?_
 refine hK _ _ (Qb (kp2 rfl rfl) ?_)
 refine QB ?_ -- 0
 refine Qf fun K hK => Qa rfl ?_
 refine hK _ _ (Qb (kp3 rfl rfl rfl) ?_)
 refine Qz ?_
 refine Zk (ι := Nat) (fun u => ⟨[(0, ZE l), (3, .osl 3 (Ye l u).length), (4, .int .i64 u)], [(3, ⟨(Ye l u).map QdA, 2, 56, true⟩)]⟩) (fun u => u <= 48) (fun u => 48 - u) 0 ?_ ?_ ?_
 ·exact le_trans (Yj 3 3 2 56 rfl rfl) (Q2 (l := [0, 3, 4]) (lH := [3]) (kp3 rfl rfl rfl) (Qe rfl Ql) rfl rfl rfl)
 ·exact Nat.zero_le _
 intro u hU
 have hlen2 : u * l.length <= 48 * 3000000 := Nat.mul_le_mul (by omega) hl
 try dsimp only
 refine QB ?_ -- 1
 refine Qf fun K hK => Qa rfl (Z8 rfl rfl ?_)
 refine hK _ _ (Qb (kp4 rfl rfl rfl rfl) ?_)
 refine Qw rfl (fun h1 => ?_) (fun h1 => ?_)
 ·try rw [h1]
  try simp only [qa, qb, qc, qd, qe, List.length_map] at h1
  refine Qv (Qd (kp3 rfl rfl rfl) ?_)
  refine QB ?_ -- 2
  refine Qz (Qf fun K hK => Qa rfl ?_)
  refine hK _ _ (Qb (kp4 rfl rfl rfl rfl) ?_)
  refine Qz ?_
  refine Zk (ι := Nat) (fun i => ⟨[(0, ZE l), (3, .osl 3 (srt l u i).length), (4, .int .i64 u), (5, .int .i64 i)], [(3, ⟨(srt l u i).map QdA, 2, 56, true⟩)]⟩) (fun i => i <= l.length) (fun i => l.length - i) 0 ?_ ?_ ?_
  ·exact Q2 (l := [0, 3, 4, 5]) (lH := [3]) (kp4 rfl rfl rfl rfl) (Qe rfl Ql) (by first | (rw [X9]; done) | (rw [X9]; rfl) | (rw [X9, List.length_append]; rfl) | (simp [X9]; done) | (simp [X9]; omega) | rfl) (by first | (rw [X9]; done) | (rw [X9]; rfl) | (rw [X9, List.map_append]; rfl) | (simp [X9]; done) | rfl) rfl
  ·exact Nat.zero_le _
  intro i hI
  have hlen3 := QpW l u i
  try dsimp only
  refine QB ?_ -- 3
  refine Qf fun K hK => Qa rfl (Qa rfl (QR rfl rfl (Z8 rfl rfl ?_)))
  refine hK _ _ (Qb (kp5 rfl rfl rfl rfl rfl) ?_)
  refine Qw rfl (fun h2 => ?_) (fun h2 => ?_)
  ·try rw [h2]
   try simp only [qa, qb, qc, qd, qe, List.length_map] at h2
   refine Qv (Qd (kp4 rfl rfl rfl rfl) ?_)
   refine QB ?_ -- 4
   refine Qz (Qf fun K hK => Qa rfl (Qa rfl (QJ rfl rfl rfl (by omega) (QS (by omega)) rfl (Q6 rfl rfl (QA rfl rfl rfl (Qa rfl (ZN rfl rfl ?_)))))))
   refine hK _ _ (Qb (kp5 rfl rfl rfl rfl rfl) ?_)
   refine Qw rfl (fun h3 => ?_) (fun h3 => ?_)
   ·try rw [h3]
    try simp only [qa, qb, qc, qd, qe, List.length_map] at h3
    refine QL fun K hK => Qa rfl (Qa rfl (Qa rfl (QJ rfl rfl rfl (by omega) (QS (by omega)) rfl (QH (cs := [_, _]) rfl rfl rfl rfl (QC rfl rfl (Xl rfl rfl (fun _ h => Y5 rfl rfl rfl h) rfl (by simp) rfl rfl rfl (by simp; omega) (by simp; omega) (Qa rfl (hK _ ?_))))))))
    refine Qg (Qd (kp4 rfl rfl rfl rfl) (QL fun K hK => Qa rfl (Q1 rfl rfl (by first | exact Qq (by omega) (by omega) | rfl) (Qa rfl (hK _ ?_)))))
    refine Qi (i + 1) ?_ ?_ ?_
    ·exact Q2 (l := [0, 3, 4, 5]) (lH := [3]) (kp4 rfl rfl rfl rfl) (Qe rfl Ql) (by first | (rw [QbB (by omega) h3]; done) | (rw [QbB (by omega) h3]; rfl) | (rw [QbB (by omega) h3, List.length_append]; rfl) | (simp [QbB (by omega) h3]; done) | (simp [QbB (by omega) h3]; omega) | rfl) (by first | (rw [QbB (by omega) h3]; done) | (rw [QbB (by omega) h3]; rfl) | (rw [QbB (by omega) h3, List.map_append]; rfl) | (simp [QbB (by omega) h3]; done) | rfl) rfl
    ·omega
    ·first | omega | (simp only; omega) | (dsimp only; omega)
   ·try rw [h3]
    try simp only [qa, qb, qc, qd, qe, List.length_map] at h3
    refine Qv (Qg (Qd (kp4 rfl rfl rfl rfl) (QL fun K hK => Qa rfl (Q1 rfl rfl (by first | exact Qq (by omega) (by omega) | rfl) (Qa rfl (hK _ ?_))))))
    refine Qi (i + 1) ?_ ?_ ?_
    ·exact Q2 (l := [0, 3, 4, 5]) (lH := [3]) (kp4 rfl rfl rfl rfl) (Qe rfl Ql) (by first | (rw [Qd8 (by omega) h3]; done) | (rw [Qd8 (by omega) h3]; rfl) | (rw [Qd8 (by omega) h3, List.length_append]; rfl) | (simp [Qd8 (by omega) h3]; done) | (simp [Qd8 (by omega) h3]; omega) | rfl) (by first | (rw [Qd8 (by omega) h3]; done) | (rw [Qd8 (by omega) h3]; rfl) | (rw [Qd8 (by omega) h3, List.map_append]; rfl) | (simp [Qd8 (by omega) h3]; done) | rfl) rfl
    ·omega
    ·first | omega | (simp only; omega) | (dsimp only; omega)
  ·try rw [h2]
   try simp only [qa, qb, qc, qd, qe, List.length_map] at h2
   refine Zi (QK (Qx (QD (Qg (Qd (kp3 rfl rfl rfl) (QL fun K hK => Qa rfl (Q1 rfl rfl (by first | exact Qq (by omega) (by omega) | rfl) (Qa rfl (hK _ ?_)))))))))
   refine Qi (u + 1) ?_ ?_ ?_
   ·exact Q2 (l := [0, 3, 4]) (lH := [3]) (kp3 rfl rfl rfl) (Qe rfl Ql) (by first | (rw [QbA l u (show l.length = i by omega)]; done) | (rw [QbA l u (show l.length = i by omega)]; rfl) | (rw [QbA l u (show l.length = i by omega), List.length_append]; rfl) | (simp [QbA l u (show l.length = i by omega)]; done) | (simp [QbA l u (show l.length = i by omega)]; omega) | rfl) (by first | (rw [QbA l u (show l.length = i by omega)]; done) | (rw [QbA l u (show l.length = i by omega)]; rfl) | (rw [QbA l u (show l.length = i by omega), List.map_append]; rfl) | (simp [QbA l u (show l.length = i by omega)]; done) | rfl) rfl
   ·omega
   ·first | omega | (simp only; omega) | (dsimp only; omega)
 ·try rw [h1]
  try simp only [qa, qb, qc, qd, qe, List.length_map] at h1
  refine Zi (QK (Qx (QD (Qd (kp1 rfl) (Qf fun K hK => Qa rfl (Qa rfl ?_))))))
  refine hK _ _ (Qb (kp1 rfl) ?_)
  refine Qu ?_
  exact QaF rfl rfl rfl (by simp) (by rw [QhO, show (48 : Nat) = u by omega]; rfl)
theorem Xx {w : Qn} (hw : WSm w) {u : Int} {p : Nat} (hp : p <= 60) {l : List WantT} (hl : l.length <= 1000000) (hx : ∀ x ∈ l, Sm x.s.1 /\ Sm x.s.2) {bar : Bool} : Ok Tryz.prog 71 [Z4 w, .int .i64 u, .int .i64 (p : Nat), Za l, .bool bar] (dOT (Yc w u p l bar)) := by
 refine Ok.ofT Z1 Tryz.func71 QsE (Nat.le_of_ble_eq_true rfl) ?_
 show TW _ _ tf71.body _ _
 refine Qf fun K hK => Zx rfl rfl rfl (Qa rfl (Qa rfl ?_))
 refine hK _ _ (Qb (kp5 rfl rfl rfl rfl rfl) ?_)
 refine Qf fun K hK => Qa rfl (QH (cs := [_]) rfl rfl rfl rfl (Qa rfl (QI (Zt hw) rfl rfl (.inr rfl) (Qa rfl (Qic rfl (Qfo (by omega) (by omega)) (Qpj rfl rfl (by omega) (Qnz hp) (Qee rfl rfl (QX rfl rfl (QC rfl rfl (Qa rfl ?_))))))))))
 refine hK _ _ (Qb (kp4 rfl rfl rfl rfl) ?_)
 refine Qgw (ι := Unit) (fun _ => ⟨[(5, .ref 5 0 0), (12, ZE (clT w u p bar l))], [(5, ⟨[[.sl ((w).map Yq)]], 1, 26, true⟩)]⟩) (fun _ => True) ?_ ?_
 ·skip
  refine Qf fun K hK => Qa rfl ?_
  refine hK _ _ (Qb (kp5 rfl rfl rfl rfl rfl) ?_)
  refine Qz ?_
  refine Zk (ι := Nat) (fun i => ⟨[(3, Za l), (4, .bool bar), (5, .ref 5 0 0), (12, .osl 24 (clT w u p bar (l.take i)).length), (13, .int .i64 i)], [(5, ⟨[[.sl ((w).map Yq)]], 1, 26, true⟩), (24, ⟨(clT w u p bar (l.take i)).map QdA, 2, 56, true⟩)]⟩) (fun i => i <= l.length) (fun i => l.length - i) 0 ?_ ?_ ?_
  ·exact Q2 (l := [3, 4, 5, 12, 13]) (lH := [5, 24]) (kp5 rfl rfl rfl rfl rfl) (Qe rfl (Qe rfl Ql)) rfl rfl rfl
  ·exact Nat.zero_le _
  intro i hI
  have hlen := Ql7 w u p bar (l.take i)
  have hlen2 : (l.take i).length <= l.length := List.length_take_le' ..
  try dsimp only
  refine QB ?_ -- 1
  refine Qf fun K hK => Qa rfl (Qa rfl (QR rfl rfl (Z8 rfl rfl ?_)))
  refine hK _ _ (Qb (kp6 rfl rfl rfl rfl rfl rfl) ?_)
  refine Qw rfl (fun h1 => ?_) (fun h1 => ?_)
  ·try rw [h1]
   try simp only [qa, qb, qc, qd, qe, List.length_map] at h1
   refine Qv (Qd (kp5 rfl rfl rfl rfl rfl) ?_)
   refine QB ?_ -- 2
   refine Qz (Qf fun K hK => QN (ds0 := [1, 0]) (cs := [_]) rfl rfl rfl rfl rfl rfl (Qa rfl (Qa rfl (QJ rfl rfl rfl (by omega) (QS (by omega)) rfl (QN (ds0 := [1, 0]) (cs := [_, _, _]) rfl rfl rfl rfl rfl rfl (QV (ds0 := [0]) (Qc5 hw (hx _ (List.getElem_mem (by omega)))) rfl rfl (.inr rfl) rfl rfl (Qa rfl ?_)))))))
   refine hK _ _ (Qb (kp6 rfl rfl rfl rfl rfl rfl) ?_)
   refine QB ?_ -- 3
   refine Qf fun K hK => Qa rfl (Yp rfl ?_)
   refine hK _ _ (Qb (kp7 rfl rfl rfl rfl rfl rfl rfl) ?_)
   refine Qw rfl (fun h2 => ?_) (fun h2 => ?_)
   ·try rw [h2]
    try simp only [qa, qb, qc, qd, qe, List.length_map] at h2
    refine QL fun K hK => QN (ds0 := [3, 1, 0]) (cs := [_]) rfl rfl rfl rfl rfl rfl (Qa rfl (Qa rfl (QJ rfl rfl rfl (by omega) (QS (by omega)) rfl (Q6 rfl rfl (QO (ds0 := [3, 1, 0]) rfl rfl rfl rfl rfl (QV (ds0 := [1, 0]) (Zt hw) rfl rfl (.inr rfl) rfl rfl (Qa rfl (Qaq rfl rfl (Qp1 w _ _) (Qa rfl (hK _ ?_))))))))))
    refine Qd (kp6 rfl rfl rfl rfl rfl rfl) (QL fun K hK => Qa rfl (Qa rfl (Qa rfl (QJ rfl rfl rfl (by omega) (QS (by omega)) rfl (Q6 rfl rfl (QA rfl rfl rfl (Qa rfl (QX rfl rfl (QC rfl rfl (Xl rfl rfl (fun _ h => Y5 rfl rfl rfl h) rfl (by simp) rfl rfl rfl (by simp; omega) (by simp; omega) ?_))))))))))
    refine Qa rfl (hK _ ?_)
    refine Qg (Qd (kp5 rfl rfl rfl rfl rfl) (QL fun K hK => Qa rfl (Q1 rfl rfl (by first | exact Qq (by omega) (by omega) | rfl) (Qa rfl (hK _ ?_)))))
    refine Qi (i + 1) ?_ ?_ ?_
    ·exact Q2 (l := [3, 4, 5, 12, 13]) (lH := [5, 24]) (kp5 rfl rfl rfl rfl rfl) (Qe rfl (Qe rfl Ql)) (by first | (rw [Qbg (by omega) h2]; done) | (rw [Qbg (by omega) h2]; rfl) | (rw [Qbg (by omega) h2, List.length_append]; rfl) | (simp [Qbg (by omega) h2]; done) | (simp [Qbg (by omega) h2]; omega) | rfl) (by first | (rw [Qbg (by omega) h2]; done) | (rw [Qbg (by omega) h2]; rfl) | (rw [Qbg (by omega) h2, List.map_append]; rfl) | (simp [Qbg (by omega) h2]; done) | rfl) rfl
    ·omega
    ·first | omega | (simp only; omega) | (dsimp only; omega)
   ·try rw [h2]
    try simp only [qa, qb, qc, qd, qe, List.length_map] at h2
    refine Qv (Qd (kp6 rfl rfl rfl rfl rfl rfl) (QL fun K hK => Qa rfl (Qa rfl (Qa rfl (QJ rfl rfl rfl (by omega) (QS (by omega)) rfl (Q6 rfl rfl (QA rfl rfl rfl (Qa rfl (QX rfl rfl (QC rfl rfl ?_))))))))))
    refine Xl rfl rfl (fun _ h => Y5 rfl rfl rfl h) rfl (by simp) rfl rfl rfl (by simp; omega) (by simp; omega) (Qa rfl (hK _ ?_))
    refine Qg (Qd (kp5 rfl rfl rfl rfl rfl) (QL fun K hK => Qa rfl (Q1 rfl rfl (by first | exact Qq (by omega) (by omega) | rfl) (Qa rfl (hK _ ?_)))))
    refine Qi (i + 1) ?_ ?_ ?_
    ·exact Q2 (l := [3, 4, 5, 12, 13]) (lH := [5, 24]) (kp5 rfl rfl rfl rfl rfl) (Qe rfl (Qe rfl Ql)) (by first | (rw [Qbf (by omega) h2]; done) | (rw [Qbf (by omega) h2]; rfl) | (rw [Qbf (by omega) h2, List.length_append]; rfl) | (simp [Qbf (by omega) h2]; done) | (simp [Qbf (by omega) h2]; omega) | rfl) (by first | (rw [Qbf (by omega) h2]; done) | (rw [Qbf (by omega) h2]; rfl) | (rw [Qbf (by omega) h2, List.map_append]; rfl) | (simp [Qbf (by omega) h2]; done) | rfl) rfl
    ·omega
    ·first | omega | (simp only; omega) | (dsimp only; omega)
  ·try rw [h1]
   try simp only [qa, qb, qc, qd, qe, List.length_map] at h1
   refine Zi (QK (Qx (QD ?_)))
   refine Yb () ?_ ?_
   ·exact le_trans (QfQ (l := [5]) (lH := [5]) 24 12 (kp1 rfl) (Qe rfl Ql) rfl rfl rfl (by first | (simp; done) | (simp; omega)) rfl rfl rfl rfl) (Q2 (l := [5, 12]) (lH := [5]) (kp2 rfl rfl) (Qe rfl Ql) (by rw [List.take_of_length_le (show l.length <= i by omega)]; rfl) rfl rfl)
   ·exact trivial
 intro _ hJ
 try dsimp only
 refine Qf fun K hK => QH (cs := [_]) rfl rfl rfl rfl (Qa rfl (QI (XT hw (by rw [Ql7]; omega)) rfl rfl (.inl rfl) (QW rfl rfl (QW rfl rfl (Qa rfl (Qa rfl ?_))))))
 refine hK _ _ (Qb (kp2 rfl rfl) ?_)
 refine Qu ?_
 exact QT rfl rfl ⟨rfl, rfl⟩
end Go.Proofs
namespace M25
open Go Go.Abs M3
def IncOk (w : Qn) (l : List TermT) : Prop := l.Pairwise (fun a b => a.u < b.u) /\ ∀ t ∈ l, 0 <= t.u /\ t.u < w.length
theorem Qg4 : ∀ (l : List TermT) (a b : Int), l.Pairwise (fun x y => x.u < y.u) -> (∀ t ∈ l, a <= t.u /\ t.u < b) -> a <= b -> (l.length : Int) <= b - a
 | [], a, b, _, _, h => by simp; omega
 | t :: l, a, b, hp, hb, h => by
  rw [List.pairwise_cons] at hp
  have h1 := hb t (by simp)
  have := Qg4 l (t.u + 1) b hp.2 (fun s hs => ⟨by have := hp.1 s hs; omega, (hb s (by simp [hs])).2⟩) (by omega)
  simp only [List.length_cons]; omega
theorem IncOk.len {w : Qn} {l : List TermT} (h : IncOk w l) : l.length <= w.length := by
 have := Qg4 l 0 w.length h.1 h.2 (by omega)
 omega
theorem IncOk.nil (w : Qn) : IncOk w [] := ⟨List.Pairwise.nil, by simp⟩
theorem QiT (w : Qn) (ms : List Int) : ∀ n, (Xj w ms n).Pairwise (fun a b => a.u < b.u) /\ ∀ t ∈ Xj w ms n, 0 <= t.u /\ t.u < n
 | 0 => ⟨List.Pairwise.nil, by simp [Xj]⟩
 | n + 1 => by
  obtain ⟨h1, h2⟩ := QiT w ms n
  rw [Xj]
  split
  ·rw [List.append_nil]; exact ⟨h1, fun t ht => by have := h2 t ht; omega⟩
  ·refine ⟨List.pairwise_append.2 ⟨h1, List.pairwise_singleton _ _, fun a ha b hb => ?_⟩, fun t ht => ?_⟩
   ·simp only [List.mem_singleton] at hb; subst hb; exact (h2 a ha).2
   ·rcases List.mem_append.1 ht with ht | ht
    ·have := h2 t ht; omega
    ·simp only [List.mem_singleton] at ht; subst ht; simp only; omega
theorem QdS {w : Qn} {l t : List TermT} (h : Qa5 w l = some t) : IncOk w t := by
 unfold Qa5 at h
 split at h
 ·unfold QhK at h
  split at h
  ·cases h
   obtain ⟨h1, h2⟩ := QiT w (Xi (XZ w) l) (Xi (XZ w) l).length
   refine ⟨h1, fun t ht => ?_⟩
   have := h2 t ht
   rw [QfH] at this
   exact this
  ·cases h
 ·cases h
theorem IncOk.ne {w : Qn} {l : List TermT} (h : IncOk w l) : l.Pairwise (fun a b => a.u ≠ b.u) := h.1.imp fun h => by omega
theorem Qgj {l : List TermT} (hl : l.Pairwise (fun a b => a.u ≠ b.u)) : ∀ n, (Ye l n).Pairwise (fun a b => a.u < b.u) /\ ∀ t ∈ Ye l n, t ∈ l /\ 0 <= t.u /\ t.u < n
 | 0 => ⟨List.Pairwise.nil, by simp [Ye]⟩
 | n + 1 => by
  obtain ⟨h1, h2⟩ := Qgj hl n
  rw [Ye]
  have hf : ∀ t ∈ l.filter (fun t => decide (t.u = ((n : Nat) : Int))), t ∈ l /\ t.u = n := fun t ht => by
   simpa using List.mem_filter.1 ht
  refine ⟨List.pairwise_append.2 ⟨h1, ?_, fun a ha b hb => ?_⟩, fun t ht => ?_⟩
  ·refine List.Pairwise.imp_of_mem (fun {a b} ha hb hab => ?_) (hl.filter _)
   have := (hf a ha).2
   have := (hf b hb).2
   omega
  ·rw [(hf b hb).2]; exact (h2 a ha).2.2
  ·rcases List.mem_append.1 ht with ht | ht
   ·have := h2 t ht; exact ⟨this.1, by omega, by omega⟩
   ·have := hf t ht; exact ⟨this.1, by omega, by omega⟩
theorem QlI {w : Qn} {l : List TermT} (hl : l.Pairwise (fun a b => a.u ≠ b.u)) (hb : ∀ t ∈ l, 0 <= t.u /\ t.u < w.length) : IncOk w (QhO l) := by
 obtain ⟨h1, h2⟩ := Qgj hl 48
 exact ⟨h1, fun t ht => hb t (h2 t ht).1⟩
theorem Qn5 {w : Qn} {r x : RowT} (hx : IncOk w x.t) (h0 : 0 <= r.u) (h1 : r.u < w.length) : IncOk w (Qmx w r x).t := by
 refine QlI (List.pairwise_cons.2 ⟨fun t ht => ?_, hx.ne.filter _⟩) fun t ht => ?_
 ·have := (List.mem_filter.1 ht).2
  simp only [Bool.not_eq_true', decide_eq_false_iff_not] at this
  exact fun e => this e.symm
 ·rcases List.mem_cons.1 ht with rfl | ht
  ·exact ⟨h0, h1⟩
  ·exact hx.2 t (List.mem_filter.1 ht).1
def QaV (w : Qn) (rows : List RowT) : Prop := ∀ x ∈ rows, IncOk w x.t
theorem QjY {w : Qn} {r : RowT} (hr : IncOk w r.t) (h0 : 0 <= r.u) (h1 : r.u < w.length) : ∀ {rows : List RowT}, QaV w rows -> QaV w (Y1 w r rows)
 | [], _ => fun x hx => by
  simp only [Y1, List.mem_singleton] at hx; subst hx; exact hr
 | y :: rows, h => fun x hx => by
  rw [Y1] at hx
  split at hx
  ·rcases List.mem_cons.1 hx with rfl | hx
   ·exact Qn5 (h y (by simp)) h0 h1
   ·exact h x (by simp [hx])
  ·rcases List.mem_cons.1 hx with rfl | hx
   ·exact h x (by simp)
   ·exact QjY hr h0 h1 (fun z hz => h z (by simp [hz])) x hx
theorem QhT (w : Qn) (r : RowT) : ∀ rows : List RowT, (Y1 w r rows).length <= rows.length + 1
 | [] => by simp [Y1]
 | x :: rows => by
  have := QhT w r rows
  rw [Y1]; split <;> simp <;> omega
theorem QjN {r x : RowT} (h : ¬ x.k = r.k \/ ¬ x.u = r.u \/ ¬ QgQ x.t r.u = QgQ r.t r.u) : QjM r x = false := by
 simp only [QjM, Bool.and_eq_false_iff, decide_eq_false_iff_not]
 rcases h with h | h | h
 ·exact .inl (.inl h)
 ·exact .inl (.inr h)
 ·exact .inr h
theorem QmD {r x : RowT} (h1 : x.k = r.k) (h2 : x.u = r.u) (h3 : QgQ x.t r.u = QgQ r.t r.u) : QjM r x = true := by simp [QjM, h1, h2, h3]
theorem Qga {w : Qn} {r : RowT} {rows : List RowT} {i : Nat} (h : i < rows.length) (hn : QjM r rows[i] = false) (hi : Y1 w r rows = rows.take i ++ Y1 w r (rows.drop i)) : Y1 w r rows = rows.take (i + 1) ++ Y1 w r (rows.drop (i + 1)) := by
 rw [hi, List.drop_eq_getElem_cons h, Y1, if_neg (by rw [hn]; simp), List.take_succ_eq_append_getElem h, List.append_assoc]; rfl
theorem QkZ {w : Qn} {r : RowT} {rows : List RowT} {i : Nat} (h : i < rows.length) (hn : QjM r rows[i] = true) (hi : Y1 w r rows = rows.take i ++ Y1 w r (rows.drop i)) : Y1 w r rows = rows.set i (Qmx w r rows[i]) := by
 rw [hi, List.drop_eq_getElem_cons h, Y1, if_pos hn, List.set_eq_take_append_cons_drop, if_pos h]
theorem Qk0 {w : Qn} {r : RowT} {rows : List RowT} {i : Nat} (h : rows.length <= i) (hi : Y1 w r rows = rows.take i ++ Y1 w r (rows.drop i)) : Y1 w r rows = rows ++ [r] := by
 rw [hi, List.drop_eq_nil_of_le h, List.take_of_length_le h, Y1]
theorem QkW {w : Qn} {u : Int} {p : Nat} {l : List (List WantT)} {rows : List RowT} {i : Nat} (h : i < l.length) : YB w u p (l.take (i + 1)) rows = match Yc w u p l[i] false with
  | some t => Y1 w ⟨2, u, 0, 0, t⟩ (YB w u p (l.take i) rows)
  | none => YB w u p (l.take i) rows := by
 rw [List.take_succ_eq_append_getElem h, YB, List.foldl_append]; rfl
theorem QiX {w : Qn} {u : Int} {p : Nat} {l : List (List WantT)} {rows : List RowT} {i : Nat} (h : i < l.length) (ho : (Yc w u p l[i] false).isSome = true) : YB w u p (l.take (i + 1)) rows = Y1 w ⟨2, u, 0, 0, (Yc w u p l[i] false).getD []⟩ (YB w u p (l.take i) rows) := by
 rw [QkW h]
 cases hc : Yc w u p l[i] false with
 | none => rw [hc] at ho; cases ho
 | some t => rfl
theorem QkV {w : Qn} {u : Int} {p : Nat} {l : List (List WantT)} {rows : List RowT} {i : Nat} (h : i < l.length) (ho : (Yc w u p l[i] false).isSome = false) : YB w u p (l.take (i + 1)) rows = YB w u p (l.take i) rows := by
 rw [QkW h]
 cases hc : Yc w u p l[i] false with
 | none => rfl
 | some t => rw [hc] at ho; cases ho
theorem Ql4 {w : Qn} {u : Int} {p : Nat} {l : List WantT} {rows : List RowT} {i : Nat} (h : i < l.length) : QaW w u p (l.take (i + 1)) rows = match Yc w u p [l[i]] true with
  | some t => Y1 w ⟨3, u, 0, 0, t⟩ (QaW w u p (l.take i) rows)
  | none => QaW w u p (l.take i) rows := by
 rw [List.take_succ_eq_append_getElem h, QaW, List.foldl_append]; rfl
theorem Qkl {w : Qn} {u : Int} {p : Nat} {l : List WantT} {rows : List RowT} {i : Nat} (h : i < l.length) (ho : (Yc w u p [l[i]] true).isSome = true) : QaW w u p (l.take (i + 1)) rows = Y1 w ⟨3, u, 0, 0, (Yc w u p [l[i]] true).getD []⟩ (QaW w u p (l.take i) rows) := by
 rw [Ql4 h]
 cases hc : Yc w u p [l[i]] true with
 | none => rw [hc] at ho; cases ho
 | some t => rfl
theorem Ql3 {w : Qn} {u : Int} {p : Nat} {l : List WantT} {rows : List RowT} {i : Nat} (h : i < l.length) (ho : (Yc w u p [l[i]] true).isSome = false) : QaW w u p (l.take (i + 1)) rows = QaW w u p (l.take i) rows := by
 rw [Ql4 h]
 cases hc : Yc w u p [l[i]] true with
 | none => rfl
 | some t => rw [hc] at ho; cases ho
theorem Qmm {w : Qn} {u : Int} {p : Nat} {l : List WantT} {b : Bool} : IncOk w ((Yc w u p l b).getD []) := by
 cases hc : Yc w u p l b with
 | none => exact IncOk.nil w
 | some t => exact QdS hc
theorem QdX {w : Qn} {u : Int} {p : Nat} (h0 : 0 <= u) (h1 : u < w.length) : ∀ {l : List (List WantT)} {rows : List RowT}, QaV w rows -> QaV w (YB w u p l rows) /\ (YB w u p l rows).length <= rows.length + l.length
 | [], rows, h => ⟨h, Nat.le_refl _⟩
 | x :: l, rows, h => by
  rw [YB, List.foldl_cons]
  cases hc : Yc w u p x false with
  | none =>
   obtain ⟨q1, q2⟩ := QdX h0 h1 (l := l) h
   exact ⟨q1, Nat.le_trans q2 (by simp)⟩
  | some t =>
   obtain ⟨q1, q2⟩ := QdX (p := p) h0 h1 (l := l) (QjY (r := ⟨2, u, 0, 0, t⟩) (QdS hc) h0 h1 h)
   have := QhT w ⟨2, u, 0, 0, t⟩ rows
   exact ⟨q1, Nat.le_trans q2 (by simp only [List.length_cons]; omega)⟩
theorem Qe8 {w : Qn} {u : Int} {p : Nat} (h0 : 0 <= u) (h1 : u < w.length) : ∀ {l : List WantT} {rows : List RowT}, QaV w rows -> QaV w (QaW w u p l rows) /\ (QaW w u p l rows).length <= rows.length + l.length
 | [], rows, h => ⟨h, Nat.le_refl _⟩
 | x :: l, rows, h => by
  rw [QaW, List.foldl_cons]
  cases hc : Yc w u p [x] true with
  | none =>
   obtain ⟨q1, q2⟩ := Qe8 h0 h1 (l := l) h
   exact ⟨q1, Nat.le_trans q2 (by simp)⟩
  | some t =>
   obtain ⟨q1, q2⟩ := Qe8 (p := p) h0 h1 (l := l) (QjY (r := ⟨3, u, 0, 0, t⟩) (QdS hc) h0 h1 h)
   have := QhT w ⟨3, u, 0, 0, t⟩ rows
   exact ⟨q1, Nat.le_trans q2 (by simp only [List.length_cons]; omega)⟩
theorem Qhk {w : Qn} {u : Int} {cs : List CandT} {n : Nat} {rows : List RowT} (h : n < cs.length) : Yv w u cs (n + 1) rows = QaW w u n cs[n].bs (YB w u n cs[n].ns (Yv w u cs n rows)) := by
 rw [Yv, List.getElem?_eq_getElem h]
theorem QfA {w : Qn} {u : Int} {cs : List CandT} (h0 : 0 <= u) (h1 : u < w.length) (hc : ∀ c ∈ cs, c.ns.length <= 1000 /\ c.bs.length <= 1000) {rows : List RowT} (h : QaV w rows) : ∀ n, n <= cs.length -> QaV w (Yv w u cs n rows) /\ (Yv w u cs n rows).length <= rows.length + n * 2000
 | 0, _ => ⟨h, by simp [Yv]⟩
 | n + 1, hn => by
  obtain ⟨q1, q2⟩ := QfA h0 h1 hc h n (by omega)
  rw [Qhk (by omega)]
  obtain ⟨q3, q4⟩ := QdX (p := n) h0 h1 (l := cs[n].ns) q1
  obtain ⟨q5, q6⟩ := Qe8 (p := n) h0 h1 (l := cs[n].bs) q3
  have := hc cs[n] (List.getElem_mem _)
  exact ⟨q5, by omega⟩
theorem Qj2 {w : Qn} {n : Nat} (h : n < w.length) : Yl w (n + 1) = Yv w n w[n].cs w[n].cs.length (Yl w n) := by
 rw [Yl, List.getElem?_eq_getElem h]
theorem Qcj {w : Qn} (hw : WSm w) (h0 : 0 < w.length) : ∀ n, n <= w.length -> QaV w (Yl w n) /\ (Yl w n).length <= 1 + n * 32000
 | 0, _ => ⟨fun x hx => by
   simp only [Yl, List.mem_singleton] at hx; subst hx
   exact ⟨List.pairwise_singleton _ _, fun t ht => by simp only [List.mem_singleton] at ht; subst ht; exact ⟨Int.le_refl _, by simp only; omega⟩⟩, by simp [Yl]⟩
 | n + 1, hn => by
  obtain ⟨q1, q2⟩ := Qcj hw h0 n (by omega)
  rw [Qj2 (by omega)]
  obtain ⟨q3, q4⟩ := QfA (u := n) (by omega) (by omega) (fun c hc => hw.ns w[n] (List.getElem_mem _) c hc) q1 w[n].cs.length (Nat.le_refl _)
  have := hw.cs w[n] (List.getElem_mem _)
  refine ⟨q3, ?_⟩
  have h5 : w[n].cs.length * 2000 <= 16 * 2000 := Nat.mul_le_mul_right _ this
  omega
theorem QmG {w : Qn} (hw : WSm w) (h0 : 0 < w.length) : ∀ t ∈ mDB w, IncOk w t := fun t ht => by
 obtain ⟨r, hr, rfl⟩ := List.mem_map.1 ht
 exact (Qcj hw h0 w.length (Nat.le_refl _)).1 r hr
theorem QhH {w : Qn} (hw : WSm w) (h0 : 0 < w.length) : (mDB w).length <= 1600000 := by
 have := (Qcj hw h0 w.length (Nat.le_refl _)).2
 have := hw.len
 rw [mDB, List.length_map, Qb9]; omega
theorem Qrg {l : List TermT} : ∀ r ∈ l.map QdA, r.length = 2 := fun r hr => by obtain ⟨x, _, rfl⟩ := List.mem_map.1 hr; rfl
theorem Qrh {l : List WantT} : ∀ r ∈ l.map Qe0, r.length = 3 := fun r hr => by obtain ⟨x, _, rfl⟩ := List.mem_map.1 hr; rfl
theorem Qi7 {l : List QQ} : ∀ r ∈ l.map Qhn, r.length = 4 := fun r hr => by obtain ⟨x, _, rfl⟩ := List.mem_map.1 hr; rfl
theorem Qnl {α : Type} {f : α -> List D} {l : List α} {i : Nat} (h : i < l.length) : ((l.map f).take ((i : Int) + 1).toNat).drop ((i : Nat) : Int).toNat = [l[i]].map f := by
 rw [Qnx, Int.toNat_natCast, List.drop_take, show i + 1 - i = 1 by omega, List.drop_eq_getElem_cons (by simpa using h)]
 simp
theorem WSm.nsLen {w : Qn} (hw : WSm w) {u i : Nat} (hu : u < w.length) (hi : i < w[u].cs.length) : w[u].cs[i].ns.length <= 1000 := (hw.ns _ (List.getElem_mem _) _ (List.getElem_mem _)).1
theorem WSm.bsLen {w : Qn} (hw : WSm w) {u i : Nat} (hu : u < w.length) (hi : i < w[u].cs.length) : w[u].cs[i].bs.length <= 1000 := (hw.ns _ (List.getElem_mem _) _ (List.getElem_mem _)).2
theorem WSm.csLen {w : Qn} (hw : WSm w) {u : Nat} (hu : u < w.length) : w[u].cs.length <= 16 := hw.cs _ (List.getElem_mem _)
theorem QpG {w : Qn} (hw : WSm w) {u i : Nat} (hu : u < w.length) (hi : i <= w[u].cs.length) : QaV w (Yv w u w[u].cs i (Yl w u)) /\ (Yv w u w[u].cs i (Yl w u)).length <= 10000000 := by
 obtain ⟨q1, q2⟩ := Qcj hw (by omega) u (by omega)
 obtain ⟨q3, q4⟩ := QfA (u := u) (by omega) (by omega) (fun c hc => hw.ns w[u] (List.getElem_mem _) c hc) q1 i hi
 have := hw.csLen hu
 have := hw.len
 have h5 : i * 2000 <= 16 * 2000 := Nat.mul_le_mul_right _ (by omega)
 have h6 : u * 32000 <= 48 * 32000 := Nat.mul_le_mul_right _ (by omega)
 exact ⟨q3, by omega⟩
theorem QhG {w : Qn} (hw : WSm w) {u i : Nat} (hu : u < w.length) (hi : i < w[u].cs.length) (k : Nat) : QaV w (YB w u i (w[u].cs[i].ns.take k) (Yv w u w[u].cs i (Yl w u))) /\ (YB w u i (w[u].cs[i].ns.take k) (Yv w u w[u].cs i (Yl w u))).length <= 20000000 := by
 obtain ⟨q1, q2⟩ := QpG hw hu (Nat.le_of_lt hi)
 obtain ⟨q3, q4⟩ := QdX (u := u) (p := i) (by omega) (by omega) (l := w[u].cs[i].ns.take k) q1
 have := hw.nsLen hu hi
 have h2 : (w[u].cs[i].ns.take k).length <= w[u].cs[i].ns.length := List.length_take_le' ..
 exact ⟨q3, by omega⟩
theorem QkM {w : Qn} (hw : WSm w) {u i : Nat} (hu : u < w.length) (hi : i < w[u].cs.length) (k : Nat) : QaV w (QaW w u i (w[u].cs[i].bs.take k) (YB w u i w[u].cs[i].ns (Yv w u w[u].cs i (Yl w u)))) /\ (QaW w u i (w[u].cs[i].bs.take k) (YB w u i w[u].cs[i].ns (Yv w u w[u].cs i (Yl w u)))).length <= 30000000 := by
 obtain ⟨q1, q2⟩ := QhG hw hu hi w[u].cs[i].ns.length
 rw [List.take_length] at q1 q2
 obtain ⟨q3, q4⟩ := Qe8 (u := u) (p := i) (by omega) (by omega) (l := w[u].cs[i].bs.take k) q1
 have := hw.bsLen hu hi
 have h2 : (w[u].cs[i].bs.take k).length <= w[u].cs[i].bs.length := List.length_take_le' ..
 exact ⟨q3, by omega⟩
end M25
namespace Go.Proofs
open Go Go.Abs M3 M25
set_option linter.unusedVariables false
set_option linter.unusedSimpArgs false
theorem Qae {w : Qn} (hw : WSm w) {r : RowT} {rows : List RowT} (hr : QaV w rows) (hrr : IncOk w r.t) (hl : rows.length <= 100000000) : OkH Tryz.prog 72 [Z4 w, .osl 500000 rows.length, .agg (Ql9 r)] [(500000, ⟨(rows).map Ql9, 5, 95, true⟩)] (.osl 500000 (Y1 w r rows).length) [(500000, ⟨(Y1 w r rows).map Ql9, 5, 95, true⟩)] := by
 refine OkH.mv Z1 Tryz.func72 QsF (Nat.le_of_ble_eq_true rfl) rfl ?_
 show TW _ _ tf72.body _ _
 have hn := hw.len
 refine Qf fun K hK => Zx rfl rfl rfl (Zx rfl rfl rfl (Qa rfl ?_))
 refine hK _ _ (Qb (kp3 rfl rfl rfl) ?_)
 refine QB ?_ -- 0
 refine Qf fun K hK => Qa rfl ?_
 refine hK _ _ (Qb (kp4 rfl rfl rfl rfl) ?_)
 refine Qz ?_
 refine Zk (ι := Nat) (fun i => ⟨[(1, .osl 500000 rows.length), (3, .ref 3 0 0), (5, .ref 5 0 0), (7, .int .i64 i)], [(3, ⟨[[.sl ((w).map Yq)]], 1, 26, true⟩), (5, ⟨[[.int .i64 (r).k, .int .i64 (r).u, .int .i64 (r).a, .int .i64 (r).b, ZE (r).t]], 5, 95, true⟩), (500000, ⟨(rows).map Ql9, 5, 95, true⟩)]⟩) (fun i => i <= rows.length /\ Y1 w r rows = rows.take i ++ Y1 w r (rows.drop i)) (fun i => rows.length - i) 0 ?_ ?_ ?_
 ·exact Q2 (l := [1, 3, 5, 7]) (lH := [3, 5, 500000]) (kp4 rfl rfl rfl rfl) (Qe rfl (Qe rfl (Qe rfl Ql))) rfl rfl rfl
 ·exact ⟨Nat.zero_le _, by simp⟩
 intro i hI
 try dsimp only
 refine QB ?_ -- 1
 refine Qf fun K hK => Qa rfl (Qa rfl (QR rfl rfl (Z8 rfl rfl ?_)))
 refine hK _ _ (Qb (kp5 rfl rfl rfl rfl rfl) ?_)
 refine Qw rfl (fun h1 => ?_) (fun h1 => ?_)
 ·try rw [h1]
  try simp only [qa, qb, qc, qd, qe, List.length_map] at h1
  refine Qv (Qd (kp4 rfl rfl rfl rfl) ?_)
  refine QB ?_ -- 2
  refine Qz (Qf fun K hK => Qa rfl (Qa rfl (Xm rfl rfl rfl (by simp) (by omega) (by omega) rfl (QH (cs := [_, _, _, _, _]) rfl (Z9 rfl (QS (by omega))) rfl rfl (ZD rfl (Q7 rfl rfl rfl rfl rfl rfl rfl rfl ?_))))))
  refine hK _ _ (Qb (kp5 rfl rfl rfl rfl rfl) ?_)
  refine Qf fun K hK => Qh rfl rfl (QO (ds0 := [20, 19, 18, 17, 16, 15, 14, 13, 12, 11, 10, 9, 8, 7, 6, 5, 4, 3, 2, 1, 0]) rfl rfl rfl rfl rfl (Qh rfl rfl (QO (ds0 := [20, 19, 18, 17, 16, 15, 14, 13, 12, 11, 10, 9, 8, 7, 6, 5, 4, 3, 2, 1, 0]) rfl rfl rfl rfl rfl ?_)))
  first | refine ZN rfl rfl ?_ | refine Qhe rfl rfl ?_
  refine Qa rfl ?_
  refine QE (g := 25) rfl (fun h2 => ?_) (fun h2 => ?_)
  ·try rw [h2]
   try simp only [qa, qb, qc, qd, qe, List.length_map] at h2
   refine Qj rfl (Qh rfl rfl (Qj rfl (QO (ds0 := [14, 13, 12, 11, 10, 9, 8, 7, 6, 5, 4, 3, 2, 1, 0]) rfl rfl rfl rfl rfl (Qj rfl (Qh rfl rfl (Qj rfl (QO (ds0 := [14, 13, 12, 11, 10, 9, 8, 7, 6, 5, 4, 3, 2, 1, 0]) rfl rfl rfl rfl rfl (Qj rfl ?_))))))))
   first | refine ZN rfl rfl ?_ | refine Qhe rfl rfl ?_
   refine Qp rfl rfl (Qa rfl ?_)
   refine QE (g := 32) rfl (fun h3 => ?_) (fun h3 => ?_)
   ·try rw [h3]
    try simp only [qa, qb, qc, qd, qe, List.length_map] at h3
    refine Qj rfl (Qh rfl rfl (Qj rfl (QO (ds0 := [7, 1, 0]) rfl rfl rfl rfl rfl (Qj rfl (Qh rfl rfl (Qj rfl (QO (ds0 := [7, 1, 0]) rfl rfl rfl rfl rfl (Qj rfl (QV (ds0 := [1, 0]) (Xb (Nat.le_trans (hr _ (List.getElem_mem (by omega))).len (by omega))) rfl rfl (.inl rfl) rfl rfl (Qj rfl (Qh rfl rfl ?_)))))))))))
    refine Qj rfl (QO (ds0 := [2, 1, 0]) rfl rfl rfl rfl rfl (Qj rfl (Qh rfl rfl (Qj rfl (QO (ds0 := [2, 1, 0]) rfl rfl rfl rfl rfl (Qj rfl (QV (ds0 := [1, 0]) (Xb (Nat.le_trans hrr.len (by omega))) rfl rfl (.inl rfl) rfl rfl (Qj rfl (QV (ds0 := [0]) (QcO (Nat.le_trans (Qfx _ _) (Nat.le_trans (hr _ (List.getElem_mem (by omega))).len (by omega)))) rfl rfl (.inr rfl) rfl rfl (Qp rfl rfl ?_))))))))))
    refine hK _ _ (Qb (kp6 rfl rfl rfl rfl rfl rfl) ?_)
    refine Qw rfl (fun h4 => ?_) (fun h4 => ?_)
    ·try rw [h4]
     try simp only [qa, qb, qc, qd, qe, List.length_map] at h4
     refine Qf fun K hK => Qh rfl rfl (QO (ds0 := [8, 7, 1, 0]) rfl rfl rfl rfl rfl (QN (ds0 := [16, 9, 8, 7, 1, 0]) (cs := [_]) rfl rfl rfl rfl rfl rfl (Qh rfl rfl (QO (ds0 := [16, 9, 8, 7, 1, 0]) rfl rfl rfl rfl rfl (Qh rfl rfl (QO (ds0 := [16, 9, 8, 7, 1, 0]) rfl rfl rfl rfl rfl (QV (ds0 := [9, 8, 7, 1, 0]) (Yr hw (Nat.le_trans (hr _ (List.getElem_mem (by omega))).len (by omega))) rfl rfl (.inr rfl) rfl rfl (QN (ds0 := [10, 9, 8, 7, 1, 0]) (cs := [_]) rfl rfl rfl rfl rfl rfl (Qh rfl rfl (QO (ds0 := [10, 9, 8, 7, 1, 0]) rfl rfl rfl rfl rfl ?_))))))))))
     refine Qh rfl rfl (QO (ds0 := [10, 9, 8, 7, 1, 0]) rfl rfl rfl rfl rfl (QV (ds0 := [9, 8, 7, 1, 0]) (Yr hw (Nat.le_trans hrr.len (by omega))) rfl rfl (.inr rfl) rfl rfl (QrM rfl rfl (QX rfl rfl (QC rfl rfl (Qh rfl rfl (QO (ds0 := [2, 1, 0]) rfl rfl rfl rfl rfl (Qh rfl rfl (QO (ds0 := [2, 1, 0]) rfl rfl rfl rfl rfl (QV (ds0 := [1, 0]) (Xb (Nat.le_trans (hr _ (List.getElem_mem (by omega))).len (by omega))) rfl rfl (.inl rfl) rfl rfl (Qba (ds0 := [0]) rfl rfl (by simp [D.ids, D.sid, ZE]) ⟨rfl, Qrg, rfl⟩ rfl rfl (by simp) rfl rfl (by have q1 := Qfx (rows[i]'(by omega)).t r.u; have q2 := (hr _ (List.getElem_mem (show i < rows.length by omega))).len; simp; omega) (by have q1 := Qfx (rows[i]'(by omega)).t r.u; have q2 := (hr _ (List.getElem_mem (show i < rows.length by omega))).len; simp; omega) rfl rfl ?_)))))))))))
     refine Qa rfl ?_
     refine hK _ _ (Qb (kp3 rfl rfl rfl) ?_)
     refine QoL (QfQ (l := [1, 7]) (lH := [500000]) 67 9 (kp2 rfl rfl) (Qe rfl Ql) rfl rfl rfl (by first | (simp; done) | (simp; omega)) rfl rfl rfl rfl) (Qf fun K hK => Qa rfl (Qa rfl (Qa rfl (QI (QbK (l := ⟨r.u, bor (QbO w (rows[i]'(by omega)).t r.u) (QbO w r.t r.u)⟩ :: QgQ (rows[i]'(by omega)).t r.u) (by have q1 := Qfx (rows[i]'(by omega)).t r.u; have q2 := (hr _ (List.getElem_mem (show i < rows.length by omega))).len; simp; omega)) rfl rfl (.inl rfl) (Xm rfl rfl rfl (by simp) (by omega) (by omega) rfl (Qh rfl rfl (Q7 rfl rfl (QS (by omega)) rfl rfl rfl rfl rfl ?_)))))))
     refine hK _ _ (Qb (kp1 rfl) ?_)
     refine Qf fun K hK => Qa rfl (Qa rfl ?_)
     refine hK _ _ (Qb (kp1 rfl) ?_)
     refine Qu (Qr (Qk (Q4 (Qr (Qk ?_)))))
     refine YC rfl ?_ (Qcm ?_)
     ·rw [QkZ (i := i) (by omega) (QmD h2 h3 h4) hI.2]; simp [QlQ, D.fz, D.fzS, Qgh, D.can, D.canS]
     ·rw [QkZ (i := i) (by omega) (QmD h2 h3 h4) hI.2]; simp [lk, List.map_set, Ql9, Qmx, setRow, D.sid, ZE]
    ·try rw [h4]
     try simp only [qa, qb, qc, qd, qe, List.length_map] at h4
     refine Qv (Qg (Qd (kp4 rfl rfl rfl rfl) (QL fun K hK => Qa rfl (Q1 rfl rfl (by first | exact Qq (by omega) (by omega) | rfl) (Qa rfl (hK _ ?_))))))
     refine Qi (i + 1) ?_ ?_ ?_
     ·exact Q2 (l := [1, 3, 5, 7]) (lH := [3, 5, 500000]) (kp4 rfl rfl rfl rfl) (Qe rfl (Qe rfl (Qe rfl Ql))) rfl rfl rfl
     ·exact ⟨by omega, Qga (by omega) (QjN (by first | exact .inl h2 | exact .inr (.inl h3) | exact .inr (.inr h4))) hI.2⟩
     ·first | omega | (simp only; omega) | (dsimp only; omega)
   ·try rw [h3]
    try simp only [qa, qb, qc, qd, qe, List.length_map] at h3
    refine Qs rfl (Qs rfl (Qs rfl (Qs rfl (Qs rfl (Qs rfl (Qs rfl (Qs rfl (Qs rfl (Qs rfl (Qs rfl (Qp rfl rfl ?_)))))))))))
    refine hK _ _ (Qb (kp6 rfl rfl rfl rfl rfl rfl) ?_)
    refine ZJ rfl (Qv (Qg (Qd (kp4 rfl rfl rfl rfl) (QL fun K hK => Qa rfl (Q1 rfl rfl (by first | exact Qq (by omega) (by omega) | rfl) (Qa rfl (hK _ ?_)))))))
    refine Qi (i + 1) ?_ ?_ ?_
    ·exact Q2 (l := [1, 3, 5, 7]) (lH := [3, 5, 500000]) (kp4 rfl rfl rfl rfl) (Qe rfl (Qe rfl (Qe rfl Ql))) rfl rfl rfl
    ·exact ⟨by omega, Qga (by omega) (QjN (by first | exact .inl h2 | exact .inr (.inl h3) | exact .inr (.inr h4))) hI.2⟩
    ·first | omega | (simp only; omega) | (dsimp only; omega)
  ·try rw [h2]
   try simp only [qa, qb, qc, qd, qe, List.length_map] at h2
   refine Qs rfl (Qs rfl (Qs rfl (Qs rfl (Qs rfl (Qp rfl rfl (Qa rfl (Qs rfl (Qs rfl (Qs rfl (Qs rfl (Qs rfl ?_)))))))))))
   refine Qs rfl (Qs rfl (Qs rfl (Qs rfl (Qs rfl (Qs rfl (Qp rfl rfl ?_))))))
   refine hK _ _ (Qb (kp6 rfl rfl rfl rfl rfl rfl) ?_)
   refine ZJ rfl (Qv (Qg (Qd (kp4 rfl rfl rfl rfl) (QL fun K hK => Qa rfl (Q1 rfl rfl (by first | exact Qq (by omega) (by omega) | rfl) (Qa rfl (hK _ ?_)))))))
   refine Qi (i + 1) ?_ ?_ ?_
   ·exact Q2 (l := [1, 3, 5, 7]) (lH := [3, 5, 500000]) (kp4 rfl rfl rfl rfl) (Qe rfl (Qe rfl (Qe rfl Ql))) rfl rfl rfl
   ·exact ⟨by omega, Qga (by omega) (QjN (by first | exact .inl h2 | exact .inr (.inl h3) | exact .inr (.inr h4))) hI.2⟩
   ·first | omega | (simp only; omega) | (dsimp only; omega)
 ·try rw [h1]
  try simp only [qa, qb, qc, qd, qe, List.length_map] at h1
  refine Zi (QK (Qx (QD (Qd (kp2 rfl rfl) (Qf fun K hK => Qa rfl (QH (cs := [_, _, _, _, _]) rfl rfl rfl rfl (QC rfl rfl (Xl rfl rfl (fun _ h => Y5 rfl rfl rfl h) rfl (by simp) rfl rfl rfl (by simp; omega) (by simp; omega) (Qa rfl ?_)))))))))
  refine hK _ _ (Qb (kp1 rfl) ?_)
  refine Qu ?_
  refine YC rfl ?_ (Qcm ?_)
  ·rw [Qk0 (i := i) (by omega) hI.2]; simp [QlQ, D.fz, D.fzS, Qgh, D.can, D.canS]
  ·rw [Qk0 (i := i) (by omega) hI.2]; simp [lk, Ql9, D.sid, ZE]
theorem Qad {w : Qn} (hw : WSm w) : Ok Tryz.prog 51 [Z4 w] (Qpy (Qb9 w)) := by
 refine Ok.ofT Z1 Tryz.func51 Qsl (Nat.le_of_ble_eq_true rfl) ?_
 show TW _ _ tf51.body _ _
 have hn := hw.len
 refine Qf fun K hK => Zx rfl rfl rfl (Qa rfl ?_)
 refine hK _ _ (Qb (kp1 rfl) ?_)
 refine Qf fun K hK => QX rfl rfl (QC rfl rfl (QX rfl rfl (QC rfl rfl (Qa rfl ?_))))
 refine hK _ _ (Qb (kp2 rfl rfl) ?_)
 refine QB ?_ -- 0
 refine Qf fun K hK => Qa rfl ?_
 refine hK _ _ (Qb (kp3 rfl rfl rfl) ?_)
 refine Qz ?_
 refine Zk (ι := Nat) (fun j => ⟨[(1, .ref 1 0 0), (3, .osl 3 (Yl w j).length), (4, .int .i64 j)], [(1, ⟨[[.sl ((w).map Yq)]], 1, 26, true⟩), (3, ⟨(Yl w j).map Ql9, 5, 95, true⟩)]⟩) (fun j => j <= w.length) (fun j => w.length - j) 0 ?_ ?_ ?_
 ·exact le_trans (QiH 14 _ (by decide)) (le_trans (QfS (k := 16) (b := ⟨[[.int .i64 1, .int .i64 0, .int .i64 0, .int .i64 0, .sl [[.int .i64 0, .int .i64 1]]]], 5, 95, false⟩) rfl (by simp) (by simp [D.sid])) (le_trans (QfR (l := [1, 4]) (lH := [1]) 16 3 3 (kp2 rfl rfl) (Qe rfl Ql) rfl rfl rfl rfl rfl rfl rfl) (Q2 (l := [1, 3, 4]) (lH := [1, 3]) (kp3 rfl rfl rfl) (Qe rfl (Qe rfl Ql)) rfl rfl rfl)))
 ·exact Nat.zero_le _
 intro j hU
 try dsimp only
 refine QB ?_ -- 1
 refine Qf fun K hK => Qa rfl (Qh rfl rfl (QA rfl rfl rfl (QR rfl rfl (Z8 rfl rfl ?_))))
 refine hK _ _ (Qb (kp4 rfl rfl rfl rfl) ?_)
 refine Qw rfl (fun h1 => ?_) (fun h1 => ?_)
 ·try rw [h1]
  try simp only [qa, qb, qc, qd, qe, List.length_map] at h1
  refine Qv (Qd (kp3 rfl rfl rfl) ?_)
  refine QB ?_ -- 2
  refine Qz (Qf fun K hK => Qa rfl ?_)
  refine hK _ _ (Qb (kp4 rfl rfl rfl rfl) ?_)
  refine Qz ?_
  refine Zk (ι := Nat) (fun i => ⟨[(1, .ref 1 0 0), (3, .osl 3 (Yv w j (w[j]'(by omega)).cs i (Yl w j)).length), (4, .int .i64 j), (5, .int .i64 i)], [(1, ⟨[[.sl ((w).map Yq)]], 1, 26, true⟩), (3, ⟨(Yv w j (w[j]'(by omega)).cs i (Yl w j)).map Ql9, 5, 95, true⟩)]⟩) (fun i => i <= (w[j]'(by omega)).cs.length) (fun i => (w[j]'(by omega)).cs.length - i) 0 ?_ ?_ ?_
  ·exact Q2 (l := [1, 3, 4, 5]) (lH := [1, 3]) (kp4 rfl rfl rfl rfl) (Qe rfl (Qe rfl Ql)) rfl rfl rfl
  ·exact Nat.zero_le _
  intro i hI
  have hcs := hw.csLen (u := j) (by omega)
  try dsimp only
  refine QB ?_ -- 3
  refine Qf fun K hK => Qa rfl (Qh rfl rfl (QA rfl rfl rfl (Qa rfl (QJ rfl rfl rfl (by omega) (QS (by omega)) rfl (Q6 rfl rfl (QA rfl rfl rfl (QR rfl rfl (Z8 rfl rfl ?_))))))))
  refine hK _ _ (Qb (kp5 rfl rfl rfl rfl rfl) ?_)
  refine Qw rfl (fun h2 => ?_) (fun h2 => ?_)
  ·try rw [h2]
   try simp only [qa, qb, qc, qd, qe, List.length_map] at h2
   refine Qv (Qd (kp4 rfl rfl rfl rfl) ?_)
   refine QB ?_ -- 4
   refine Qz (Qf fun K hK => Qh rfl rfl (QA rfl rfl rfl (Qa rfl (QJ rfl rfl rfl (by omega) (QS (by omega)) rfl (Q6 rfl rfl (QA rfl rfl rfl (Qa rfl (QJ rfl rfl rfl (by omega) (QS (by omega)) rfl (QH (cs := [_, _, _, _, _, _, _, _]) rfl rfl rfl rfl (ZD rfl ?_))))))))))
   refine Q7 rfl rfl rfl rfl rfl rfl rfl rfl ?_
   refine hK _ _ (Qb (kp5 rfl rfl rfl rfl rfl) ?_)
   refine QB ?_ -- 5
   refine Qf fun K hK => Qa rfl ?_
   refine hK _ _ (Qb (kp6 rfl rfl rfl rfl rfl rfl) ?_)
   refine Qz ?_
   refine Zk (ι := Nat) (fun k => ⟨[(1, .ref 1 0 0), (3, .osl 3 (YB w j i (((w[j]'(by omega)).cs[i]'(by omega)).ns.take k) (Yv w j (w[j]'(by omega)).cs i (Yl w j))).length), (4, .int .i64 j), (5, .int .i64 i), (6, .ref 6 0 0), (7, .int .i64 k)], [(1, ⟨[[.sl ((w).map Yq)]], 1, 26, true⟩), (3, ⟨(YB w j i (((w[j]'(by omega)).cs[i]'(by omega)).ns.take k) (Yv w j (w[j]'(by omega)).cs i (Yl w j))).map Ql9, 5, 95, true⟩), (6, ⟨[Qpx ((w[j]'(by omega)).cs[i]'(by omega))], 8, 70, true⟩)]⟩) (fun k => k <= ((w[j]'(by omega)).cs[i]'(by omega)).ns.length) (fun k => ((w[j]'(by omega)).cs[i]'(by omega)).ns.length - k) 0 ?_ ?_ ?_
   ·exact Q2 (l := [1, 3, 4, 5, 6, 7]) (lH := [1, 3, 6]) (kp6 rfl rfl rfl rfl rfl rfl) (Qe rfl (Qe rfl (Qe rfl Ql))) rfl rfl rfl
   ·exact Nat.zero_le _
   intro k hK1
   have hnl := hw.nsLen (u := j) (i := i) (by omega) (by omega)
   try dsimp only
   refine QB ?_ -- 6
   refine Qf fun K hK => Qa rfl (Qh rfl rfl (QA rfl rfl rfl (QR rfl rfl (Z8 rfl rfl ?_))))
   refine hK _ _ (Qb (kp7 rfl rfl rfl rfl rfl rfl rfl) ?_)
   refine Qw rfl (fun h3 => ?_) (fun h3 => ?_)
   ·try rw [h3]
    try simp only [qa, qb, qc, qd, qe, List.length_map] at h3
    refine Qv (Qd (kp6 rfl rfl rfl rfl rfl rfl) ?_)
    refine QB ?_ -- 7
    refine Qz (Qf fun K hK => QN (ds0 := [5, 4, 3, 2, 1, 0]) (cs := [_]) rfl rfl rfl rfl rfl rfl (Qa rfl (Qa rfl (Qh rfl rfl (QO (ds0 := [7, 6, 5, 4, 3, 2, 1, 0]) rfl rfl rfl rfl rfl (Qa rfl (QJ rfl rfl rfl (by omega) (QS (by omega)) rfl (QO (ds0 := [5, 4, 3, 2, 1, 0]) rfl rfl rfl rfl rfl (QV (ds0 := [4, 3, 2, 1, 0]) (Xx hw (p := i) (by omega) (Nat.le_trans (hw.nl _ (List.getElem_mem (by omega)) _ (List.getElem_mem (by omega)) _ (List.getElem_mem (by omega))) (by omega)) (hw.nw _ (List.getElem_mem (by omega)) _ (List.getElem_mem (by omega)) _ (List.getElem_mem (by omega)))) rfl rfl (.inl rfl) rfl rfl (Qa rfl ?_))))))))))
    refine QW rfl rfl (QW rfl rfl (Qa rfl (Qa rfl ?_)))
    refine hK _ _ (Qb (kp8 rfl rfl rfl rfl rfl rfl rfl rfl) ?_)
    refine Qf fun K hK => Qa rfl ?_
    refine hK _ _ (Qb (kp8 rfl rfl rfl rfl rfl rfl rfl rfl) ?_)
    refine Qw rfl (fun h4 => ?_) (fun h4 => ?_)
    ·try rw [h4]
     try simp only [qa, qb, qc, qd, qe, List.length_map] at h4
     refine QL fun K hK => QH (cs := [_]) rfl rfl rfl rfl (Qa rfl (Qa rfl (Qa rfl (QX rfl rfl (QlX (Qkp (k := 3) rfl rfl rfl (by decide) rfl (by decide) (by simp [D.ids, D.sid, ZE]) ⟨.osl 3 (YB w j i (((w[j]'(by omega)).cs[i]'(by omega)).ns.take k) (Yv w j (w[j]'(by omega)).cs i (Yl w j))).length, by simp, by simp [D.ids, D.sid]⟩ rfl rfl (Qae hw (r := ⟨2, j, 0, 0, (Yc w j i (((w[j]'(by omega)).cs[i]'(by omega)).ns[k]'(by omega)) false).getD []⟩) (QhG hw (by omega) (by omega) _).1 Qmm (Nat.le_trans (QhG hw (by omega) (by omega) _).2 (by omega)))) (Qa rfl (hK _ ?_)))))))
     refine Qg (Qd (kp6 rfl rfl rfl rfl rfl rfl) (QL fun K hK => Qa rfl (Q1 rfl rfl (by first | exact Qq (by omega) (by omega) | rfl) (Qa rfl (hK _ ?_)))))
     refine Qi (k + 1) ?_ ?_ ?_
     ·exact le_trans (QfR (l := [1, 4, 5, 6, 7]) (lH := [1, 6]) 69 3 3 (kp5 rfl rfl rfl rfl rfl) (Qe rfl (Qe rfl Ql)) rfl rfl rfl rfl rfl rfl rfl) (Q2 (l := [1, 3, 4, 5, 6, 7]) (lH := [1, 3, 6]) (kp6 rfl rfl rfl rfl rfl rfl) (Qe rfl (Qe rfl (Qe rfl Ql))) (by rw [QiX (by omega) h4] <;> rfl) (by rw [QiX (by omega) h4] <;> rfl) rfl)
     ·omega
     ·first | omega | (simp only; omega) | (dsimp only; omega)
    ·try rw [h4]
     try simp only [qa, qb, qc, qd, qe, List.length_map] at h4
     refine Qv (Qg (Qd (kp6 rfl rfl rfl rfl rfl rfl) (QL fun K hK => Qa rfl (Q1 rfl rfl (by first | exact Qq (by omega) (by omega) | rfl) (Qa rfl (hK _ ?_))))))
     refine Qi (k + 1) ?_ ?_ ?_
     ·exact Q2 (l := [1, 3, 4, 5, 6, 7]) (lH := [1, 3, 6]) (kp6 rfl rfl rfl rfl rfl rfl) (Qe rfl (Qe rfl (Qe rfl Ql))) (by rw [QkV (by omega) h4] <;> rfl) (by rw [QkV (by omega) h4] <;> rfl) rfl
     ·omega
     ·first | omega | (simp only; omega) | (dsimp only; omega)
   ·try rw [h3]
    try simp only [qa, qb, qc, qd, qe, List.length_map] at h3
    refine Zi (QK (Qx (QD (Qd (kp5 rfl rfl rfl rfl rfl) (Qf fun K hK => Qa rfl ?_)))))
    refine hK _ _ (Qb (kp6 rfl rfl rfl rfl rfl rfl) ?_)
    refine Qz ?_
    refine Zk (ι := Nat) (fun m => ⟨[(1, .ref 1 0 0), (3, .osl 3 (QaW w j i (((w[j]'(by omega)).cs[i]'(by omega)).bs.take m) (YB w j i ((w[j]'(by omega)).cs[i]'(by omega)).ns (Yv w j (w[j]'(by omega)).cs i (Yl w j)))).length), (4, .int .i64 j), (5, .int .i64 i), (6, .ref 6 0 0), (10, .int .i64 m)], [(1, ⟨[[.sl ((w).map Yq)]], 1, 26, true⟩), (3, ⟨(QaW w j i (((w[j]'(by omega)).cs[i]'(by omega)).bs.take m) (YB w j i ((w[j]'(by omega)).cs[i]'(by omega)).ns (Yv w j (w[j]'(by omega)).cs i (Yl w j)))).map Ql9, 5, 95, true⟩), (6, ⟨[Qpx ((w[j]'(by omega)).cs[i]'(by omega))], 8, 70, true⟩)]⟩) (fun m => m <= ((w[j]'(by omega)).cs[i]'(by omega)).bs.length) (fun m => ((w[j]'(by omega)).cs[i]'(by omega)).bs.length - m) 0 ?_ ?_ ?_
    ·exact Q2 (l := [1, 3, 4, 5, 6, 10]) (lH := [1, 3, 6]) (kp6 rfl rfl rfl rfl rfl rfl) (Qe rfl (Qe rfl (Qe rfl Ql))) (by rw [List.take_of_length_le (show ((w[j]'(by omega)).cs[i]'(by omega)).ns.length <= k by omega)] <;> rfl) (by rw [List.take_of_length_le (show ((w[j]'(by omega)).cs[i]'(by omega)).ns.length <= k by omega)] <;> rfl) rfl
    ·exact Nat.zero_le _
    intro m hM
    have hbl := hw.bsLen (u := j) (i := i) (by omega) (by omega)
    try dsimp only
    refine QB ?_ -- 8
    refine Qf fun K hK => Qa rfl (Qh rfl rfl (QA rfl rfl rfl (QR rfl rfl (Z8 rfl rfl ?_))))
    refine hK _ _ (Qb (kp7 rfl rfl rfl rfl rfl rfl rfl) ?_)
    refine Qw rfl (fun h5 => ?_) (fun h5 => ?_)
    ·try rw [h5]
     try simp only [qa, qb, qc, qd, qe, List.length_map] at h5
     refine Qv (Qd (kp6 rfl rfl rfl rfl rfl rfl) ?_)
     refine QB ?_ -- 9
     refine Qz (Qf fun K hK => QN (ds0 := [5, 4, 3, 2, 1, 0]) (cs := [_]) rfl rfl rfl rfl rfl rfl (Qa rfl (Qa rfl (Qh rfl rfl (QO (ds0 := [6, 5, 4, 3, 2, 1, 0]) rfl rfl rfl rfl rfl (Qa rfl (Qa rfl (Q1 rfl rfl (by first | exact Qq (by omega) (by omega) | rfl) (QbQ rfl rfl rfl rfl (by omega) (by omega) (by simp; omega) Qrh (Qnl (by omega)) (QV (ds0 := [4, 3, 2, 1, 0]) (Xx hw (p := i) (l := [((w[j]'(by omega)).cs[i]'(by omega)).bs[m]'(by omega)]) (by omega) (by simp) (by intro x hx; simp only [List.mem_singleton] at hx; subst hx; exact hw.bw _ (List.getElem_mem (by omega)) _ (List.getElem_mem (by omega)) _ (List.getElem_mem (by omega)))) rfl rfl (.inl rfl) rfl rfl ?_))))))))))
     refine Qa rfl (QW rfl rfl (QW rfl rfl (Qa rfl (Qa rfl ?_))))
     refine hK _ _ (Qb (kp8 rfl rfl rfl rfl rfl rfl rfl rfl) ?_)
     refine Qf fun K hK => Qa rfl ?_
     refine hK _ _ (Qb (kp8 rfl rfl rfl rfl rfl rfl rfl rfl) ?_)
     refine Qw rfl (fun h6 => ?_) (fun h6 => ?_)
     ·try rw [h6]
      try simp only [qa, qb, qc, qd, qe, List.length_map] at h6
      refine QL fun K hK => QH (cs := [_]) rfl rfl rfl rfl (Qa rfl (Qa rfl (Qa rfl (QX rfl rfl (QlX (Qkp (k := 3) rfl rfl rfl (by decide) rfl (by decide) (by simp [D.ids, D.sid, ZE]) ⟨.osl 3 (QaW w j i (((w[j]'(by omega)).cs[i]'(by omega)).bs.take m) (YB w j i ((w[j]'(by omega)).cs[i]'(by omega)).ns (Yv w j (w[j]'(by omega)).cs i (Yl w j)))).length, by simp, by simp [D.ids, D.sid]⟩ rfl rfl (Qae hw (r := ⟨3, j, 0, 0, (Yc w j i [((w[j]'(by omega)).cs[i]'(by omega)).bs[m]'(by omega)] true).getD []⟩) (QkM hw (by omega) (by omega) _).1 Qmm (Nat.le_trans (QkM hw (by omega) (by omega) _).2 (by omega)))) (Qa rfl (hK _ ?_)))))))
      refine Qg (Qd (kp6 rfl rfl rfl rfl rfl rfl) (QL fun K hK => Qa rfl (Q1 rfl rfl (by first | exact Qq (by omega) (by omega) | rfl) (Qa rfl (hK _ ?_)))))
      refine Qi (m + 1) ?_ ?_ ?_
      ·exact le_trans (QfR (l := [1, 4, 5, 6, 10]) (lH := [1, 6]) 96 3 3 (kp5 rfl rfl rfl rfl rfl) (Qe rfl (Qe rfl Ql)) rfl rfl rfl rfl rfl rfl rfl) (Q2 (l := [1, 3, 4, 5, 6, 10]) (lH := [1, 3, 6]) (kp6 rfl rfl rfl rfl rfl rfl) (Qe rfl (Qe rfl (Qe rfl Ql))) (by rw [Qkl (by omega) h6] <;> rfl) (by rw [Qkl (by omega) h6] <;> rfl) rfl)
      ·omega
      ·first | omega | (simp only; omega) | (dsimp only; omega)
     ·try rw [h6]
      try simp only [qa, qb, qc, qd, qe, List.length_map] at h6
      refine Qv (Qg (Qd (kp6 rfl rfl rfl rfl rfl rfl) (QL fun K hK => Qa rfl (Q1 rfl rfl (by first | exact Qq (by omega) (by omega) | rfl) (Qa rfl (hK _ ?_))))))
      refine Qi (m + 1) ?_ ?_ ?_
      ·exact Q2 (l := [1, 3, 4, 5, 6, 10]) (lH := [1, 3, 6]) (kp6 rfl rfl rfl rfl rfl rfl) (Qe rfl (Qe rfl (Qe rfl Ql))) (by rw [Ql3 (by omega) h6] <;> rfl) (by rw [Ql3 (by omega) h6] <;> rfl) rfl
      ·omega
      ·first | omega | (simp only; omega) | (dsimp only; omega)
    ·try rw [h5]
     try simp only [qa, qb, qc, qd, qe, List.length_map] at h5
     refine Zi (QK (Qx (QD (Qg (Qd (kp4 rfl rfl rfl rfl) (QL fun K hK => Qa rfl (Q1 rfl rfl (by first | exact Qq (by omega) (by omega) | rfl) (Qa rfl (hK _ ?_)))))))))
     refine Qi (i + 1) ?_ ?_ ?_
     ·exact Q2 (l := [1, 3, 4, 5]) (lH := [1, 3]) (kp4 rfl rfl rfl rfl) (Qe rfl (Qe rfl Ql)) (by rw [Qhk (by omega), List.take_of_length_le (show ((w[j]'(by omega)).cs[i]'(by omega)).bs.length <= m by omega)] <;> rfl) (by rw [Qhk (by omega), List.take_of_length_le (show ((w[j]'(by omega)).cs[i]'(by omega)).bs.length <= m by omega)] <;> rfl) rfl
     ·omega
     ·first | omega | (simp only; omega) | (dsimp only; omega)
  ·try rw [h2]
   try simp only [qa, qb, qc, qd, qe, List.length_map] at h2
   refine Zi (QK (Qx (QD (Qg (Qd (kp3 rfl rfl rfl) (QL fun K hK => Qa rfl (Q1 rfl rfl (by first | exact Qq (by omega) (by omega) | rfl) (Qa rfl (hK _ ?_)))))))))
   refine Qi (j + 1) ?_ ?_ ?_
   ·exact Q2 (l := [1, 3, 4]) (lH := [1, 3]) (kp3 rfl rfl rfl) (Qe rfl (Qe rfl Ql)) (by rw [Qj2 (by omega), show (w[j]'(by omega)).cs.length = i by omega] <;> rfl) (by rw [Qj2 (by omega), show (w[j]'(by omega)).cs.length = i by omega] <;> rfl) rfl
   ·omega
   ·first | omega | (simp only; omega) | (dsimp only; omega)
 ·try rw [h1]
  try simp only [qa, qb, qc, qd, qe, List.length_map] at h1
  refine Zi (QK (Qx (QD (Qd (kp1 rfl) (Qf fun K hK => Qa rfl (Qa rfl ?_))))))
  refine hK _ _ (Qb (kp1 rfl) ?_)
  refine Qu ?_
  exact QaF rfl rfl rfl (by simp) (by rw [Qb9, show w.length = j by omega] <;> rfl)
end Go.Proofs
namespace M25
open Go Go.Abs M3
/-! ### Bits of numbers -/
theorem Qgm (e : Int) : IntKind.i64.wrap e = (BitVec.ofInt 64 e).toInt := by
 have hb : (BitVec.ofInt 64 e).toInt = if e % 18446744073709551616 < 9223372036854775808 then e % 18446744073709551616 else e % 18446744073709551616 - 18446744073709551616 := by
  rw [BitVec.toInt_ofInt]; rfl
 rw [hb]
 unfold IntKind.wrap
 simp only [IntKind.bits, IntKind.signed, Bool.true_and]
 split
 ·rename_i h
  have := of_decide_eq_true h
  split <;> omega
 ·rename_i h
  have : ¬ (e % 2 ^ 64 >= 2 ^ (64 - 1)) := fun hh => h (decide_eq_true hh)
  split <;> omega
theorem Qdh (b : BitVec 64) : BitVec.ofInt 64 (b.toNat : Int) = b := by
 rw [BitVec.ofInt_natCast, BitVec.ofNat_toNat, BitVec.setWidth_eq]
theorem QoR (x y : Int) : BitVec.ofInt 64 (QaT x y) = BitVec.ofInt 64 x &&& BitVec.ofInt 64 y := by
 show BitVec.ofInt 64 (IntKind.i64.wrap ((BitVec.ofInt 64 x &&& BitVec.ofInt 64 y).toNat : Int)) = _
 rw [Qgm, BitVec.ofInt_toInt, Qdh]
theorem Qq5 (x y : Int) : BitVec.ofInt 64 (bor x y) = BitVec.ofInt 64 x ||| BitVec.ofInt 64 y := by
 show BitVec.ofInt 64 (IntKind.i64.wrap ((BitVec.ofInt 64 x ||| BitVec.ofInt 64 y).toNat : Int)) = _
 rw [Qgm, BitVec.ofInt_toInt, Qdh]
theorem QoS (x y : Int) : BitVec.ofInt 64 (Qe9 x y) = BitVec.ofInt 64 x &&& ~~~ BitVec.ofInt 64 y := by
 show BitVec.ofInt 64 (IntKind.i64.wrap ((BitVec.ofInt 64 x &&& ~~~ BitVec.ofInt 64 y).toNat : Int)) = _
 rw [Qgm, BitVec.ofInt_toInt, Qdh]
theorem Qn0 {x : Int} (h : I64 x) : IntKind.i64.wrap x = x := Qq h.1 h.2
theorem Qkm {x : Int} (h : I64 x) : (BitVec.ofInt 64 x).toInt = x := by rw [<- Qgm, Qn0 h]
theorem Qer (x y : Int) : I64 (QaT x y) := Qec _
theorem Qqq (x y : Int) : I64 (bor x y) := Qec _
theorem Qes (x y : Int) : I64 (Qe9 x y) := Qec _
def tb (x : Int) (i : Nat) : Bool := (BitVec.ofInt 64 x).getLsbD i
theorem Qg9 (x y : Int) (i : Nat) : tb (QaT x y) i = (tb x i && tb y i) := by rw [tb, QoR, BitVec.getLsbD_and]; rfl
theorem Qrj (x y : Int) (i : Nat) : tb (bor x y) i = (tb x i || tb y i) := by rw [tb, Qq5, BitVec.getLsbD_or]; rfl
theorem Qea (x y : Int) {i : Nat} : tb (Qe9 x y) i = (tb x i && !tb y i) := by
 rw [tb, QoS, BitVec.getLsbD_and, BitVec.getLsbD_not]
 by_cases h : i < 64
 ·simp [h, tb]
 ·simp [tb, BitVec.getLsbD_of_ge _ i (by omega : 64 <= i)]
theorem QqJ (x : Int) {i : Nat} (h : 64 <= i) : tb x i = false := BitVec.getLsbD_of_ge _ i h
theorem Qjk {x y : Int} (hx : I64 x) (hy : I64 y) (h : ∀ i, tb x i = tb y i) : x = y := by
 rw [<- Qkm hx, <- Qkm hy]
 congr 1
 exact BitVec.eq_of_getLsbD_eq fun i _ => h i
theorem Qh4 (i : Nat) : tb 0 i = false := by
 show (BitVec.ofInt 64 0).getLsbD i = false
 rw [show BitVec.ofInt 64 0 = 0#64 from rfl, BitVec.getLsbD_zero]
theorem QfD {x : Int} (hx : I64 x) : x = 0 ↔ ∀ i, tb x i = false := by
 constructor
 ·rintro rfl i; exact Qh4 i
 ·intro h; exact Qjk hx ⟨by omega, by omega⟩ fun i => by rw [h i, Qh4]
theorem Qnt (n : Nat) {i : Nat} (h : i < 64) : tb (n : Int) i = n.testBit i := by
 rw [tb, BitVec.ofInt_natCast, BitVec.getLsbD_ofNat]; simp [h]
theorem Qnu {k : Nat} (hk : k < 64) (i : Nat) : tb ((2 : Int) ^ k) i = decide (i = k) := by
 have e : ((2 ^ k : Nat) : Int) = (2 : Int) ^ k := by simp
 by_cases h : i < 64
 ·rw [<- e, Qnt _ h, Nat.testBit_two_pow]
  exact decide_eq_decide.2 eq_comm
 ·rw [QqJ _ (by omega)]; exact (decide_eq_false (by omega)).symm
theorem Qcl (x m : Int) : IntKind.i64.wrap (x - QaT x m) = Qe9 x m := by
 have h : BitVec.ofInt 64 (x - QaT x m) = BitVec.ofInt 64 x &&& ~~~ BitVec.ofInt 64 m := by
  rw [Int.sub_eq_add_neg, BitVec.ofInt_add, BitVec.ofInt_neg, <- BitVec.sub_eq_add_neg, QoR]
  generalize BitVec.ofInt 64 x = a
  generalize BitVec.ofInt 64 m = b
  have h1 : (a &&& ~~~b) + (a &&& b) = a := by
   rw [BitVec.add_eq_or_of_and_eq_zero]
   ·ext i hi; simp; cases a[i] <;> cases b[i] <;> rfl
   ·ext i hi; simp
    cases a[i] <;> cases b[i] <;> simp
  exact (BitVec.sub_eq_iff_eq_add).2 h1.symm
 have e : Qe9 x m = (BitVec.ofInt 64 (Qe9 x m)).toInt := (Qkm (Qes x m)).symm
 rw [e, Qgm, h, QoS]
theorem Qcn {x m : Int} : QaT x m = 0 ↔ ∀ i, tb x i = true -> tb m i = false := by
 rw [QfD (Qer x m)]
 refine forall_congr' fun i => ?_
 rw [Qg9]; cases tb x i <;> cases tb m i <;> simp
theorem QkX {x m : Int} : Qe9 x m = 0 ↔ ∀ i, tb x i = true -> tb m i = true := by
 rw [QfD (Qes x m)]
 refine forall_congr' fun i => ?_
 rw [Qea]; cases tb x i <;> cases tb m i <;> simp
theorem XO {x m : Int} (hx : I64 x) : QaT x m = x ↔ ∀ i, tb x i = true -> tb m i = true := by
 constructor
 ·intro h i hi
  have := congrArg (fun z => tb z i) h
  simp only [Qg9, hi, Bool.true_and] at this
  exact this
 ·intro h
  refine Qjk (Qer x m) hx fun i => ?_
  rw [Qg9]
  cases hx2 : tb x i
  ·rfl
  ·rw [h i hx2]; rfl
theorem QeS {x m : Int} (hx : I64 x) : Qe9 x m = x ↔ ∀ i, tb x i = true -> tb m i = false := by
 constructor
 ·intro h i hi
  have := congrArg (fun z => tb z i) h
  simp only [Qea, hi, Bool.true_and] at this
  simpa using this
 ·intro h
  refine Qjk (Qes x m) hx fun i => ?_
  rw [Qea]
  cases hx2 : tb x i
  ·rfl
  ·rw [h i hx2]; rfl
def Lo (x : Int) : Prop := 0 <= x /\ x < 131072
theorem Lo.i64 {x : Int} (h : Lo x) : I64 x := ⟨by have := h.1; omega, by have := h.2; omega⟩
theorem Lo.hi {x : Int} (h : Lo x) {i : Nat} (hi : 17 <= i) : tb x i = false := by
 obtain ⟨n, rfl⟩ := Int.eq_ofNat_of_zero_le h.1
 by_cases h6 : i < 64
 ·rw [Qnt _ h6, Nat.testBit_lt_two_pow]
  have h1 : (2 : Nat) ^ 17 <= 2 ^ i := Nat.pow_le_pow_right (by omega) hi
  have h2 : (2 : Nat) ^ 17 = 131072 := by decide
  have := h.2
  omega
 ·exact QqJ _ (by omega)
theorem Lo.of {x : Int} (hx : I64 x) (h : ∀ i, 17 <= i -> tb x i = false) : Lo x := by
 have hb : (BitVec.ofInt 64 x).toNat < 2 ^ 17 := by
  refine Nat.lt_pow_two_of_testBit _ fun i hi => ?_
  exact h i hi
 have h2 : (2 : Nat) ^ 17 = 131072 := by decide
 have e := Qkm hx
 rw [BitVec.toInt_eq_toNat_of_lt (by omega)] at e
 exact ⟨by omega, by omega⟩
theorem Qqx {x : Int} (h : Lo x) (m : Int) : Lo (Qe9 x m) := Lo.of (Qes x m) fun i hi => by rw [Qea, h.hi hi]; rfl
theorem QjO (w : Qn) (u : Int) : Lo (ZW w u) := ⟨(QdP w u).1, by have := (QdP w u).2; omega⟩
theorem QoE {x : Int} (hx : I64 x) (m : Int) : QaL x m = ZQ x m := by
 unfold ZQ QaL
 have : (Qar .andNot .i64 x m = 0) ↔ (Qar .and .i64 x m = x) := (QkX (x := x) (m := m)).trans (XO hx).symm
 by_cases h : Qar .andNot .i64 x m = 0
 ·rw [if_pos h, if_pos (this.1 h)]
 ·rw [if_neg h, if_neg (fun e => h (this.2 e))]
theorem Qav {x : Int} {k : Nat} (hk : k < 64) : QaT x (2 ^ k) = 0 ↔ tb x k = false := by
 rw [Qcn]
 constructor
 ·intro h
  cases hx : tb x k
  ·rfl
  ·have := h k hx; rw [Qnu hk] at this; simp at this
 ·intro h i hi
  rw [Qnu hk]
  by_cases e : i = k
  ·subst e; rw [h] at hi; cases hi
  ·exact decide_eq_false e
theorem Qit {x y : Int} (h : ∀ i, tb x i = true -> tb y i = true) : ∀ n, n <= 64 -> (Xg x n).length <= (Xg y n).length
 | 0, _ => Nat.le_refl _
 | n + 1, hn => by
  have := Qit h n (by omega)
  rw [Xg, Xg, List.length_append, List.length_append]
  by_cases hx : tb x n = true
  ·rw [if_neg (by rw [Qav (by omega), hx]; simp), if_neg (by rw [Qav (by omega), h n hx]; simp)]
   simp only [List.length_singleton]; omega
  ·rw [if_pos (by rw [Qav (by omega)]; simpa using hx)]
   simp only [List.length_nil]; omega
theorem Qiu {x y : Int} (h : ∀ i, tb x i = true -> tb y i = true) {k : Nat} (h1 : tb x k = false) (h2 : tb y k = true) : ∀ n, n <= 64 -> k < n -> (Xg x n).length < (Xg y n).length
 | 0, _, hk => by omega
 | n + 1, hn, hk => by
  rw [Xg, Xg, List.length_append, List.length_append]
  by_cases e : k = n
  ·subst e
   have := Qit h k (by omega)
   rw [if_pos ((Qav (by omega)).2 h1), if_neg (by rw [Qav (by omega), h2]; simp)]
   simp only [List.length_nil, List.length_singleton]; omega
  ·have := Qiu h h1 h2 n (by omega) (by omega)
   by_cases hx : tb x n = true
   ·rw [if_neg (by rw [Qav (by omega), hx]; simp), if_neg (by rw [Qav (by omega), h n hx]; simp)]
    simp only [List.length_singleton]; omega
   ·rw [if_pos (by rw [Qav (by omega)]; simpa using hx)]
    simp only [List.length_nil]; omega
theorem QpB {x m : Int} (hx : Lo x) (h : QaT x m ≠ 0) : (Qa4 (Qe9 x m)).length < (Qa4 x).length := by
 have : ∃ k, tb x k = true /\ tb m k = true := by
  refine Classical.byContradiction fun hn => h (Qcn.2 fun i hi => ?_)
  cases hm : tb m i
  ·rfl
  ·exact absurd ⟨i, hi, hm⟩ hn
 obtain ⟨k, h1, h2⟩ := this
 have hk : k < 17 := Classical.byContradiction fun hk => by rw [hx.hi (by omega)] at h1; cases h1
 exact Qiu (fun i hi => by rw [Qea] at hi; simp at hi; exact hi.1) (k := k) (by rw [Qea, h1, h2]; rfl) h1 17 (by omega) hk
end M25
namespace M25
open Go Go.Abs M3
/-! ### Trails: the loops' laws -/
theorem Qak (w : Qn) (l : List QQ) (s : QQ) (u : Int) : Zh w (l ++ [s]) u = if s.u = u /\ inW w u = true then s.m else Zh w l u := by
 rw [Zh, List.foldl_append]; rfl
theorem Qd9 {α : Type} {l : List α} {i k : Nat} (hk : k + 1 = i) (h : k < l.length) : l.take i = l.take k ++ [l[k]] := by
 subst hk; rw [List.take_succ_eq_append_getElem h]
theorem Qn9 {w : Qn} {l : List QQ} {u : Int} {i k : Nat} (hk : k + 1 = i) (h : k < l.length) (hu : l[k].u = u) (hw : inW w u = true) : Zh w (l.take i) u = l[k].m := by
 rw [Qd9 hk h, Qak, if_pos ⟨hu, hw⟩]
theorem QfV {w : Qn} {l : List QQ} {u : Int} {i k : Nat} (hk : k + 1 = i) (h : k < l.length) (hu : ¬ l[k].u = u \/ ¬ 0 <= u \/ ¬ u < w.length) : Zh w (l.take i) u = Zh w (l.take (i - 1)) u := by
 rw [Qd9 hk h, Qak, if_neg, show i - 1 = k by omega]
 rintro ⟨h1, h2⟩
 rw [Qb1] at h2
 rcases hu with hu | hu | hu
 ·exact hu h1
 ·exact hu h2.1
 ·exact hu h2.2
theorem QdM {w : Qn} {l : List QQ} {u : Int} (h : inW w u = false) : Zh w l u = 0 := by
 have hf : ZW w u = 0 := QdQ (by
  refine Classical.byContradiction fun hn => ?_
  rw [QfO (by omega) (by omega)] at h; cases h)
 suffices hs : ∀ a, l.foldl (fun a s => if s.u = u /\ inW w u = true then s.m else a) a = a by rw [Zh, hs, hf]
 induction l with
 | nil => intro a; rfl
 | cons s l ih => intro a; rw [List.foldl_cons, if_neg (by rw [h]; simp), ih]
def Qcd (w : Qn) (l : List QQ) (u : Int) : Int := l.foldl (fun a s => if s.u = u then s.m else a) (ZW w u)
theorem Qn8 {w : Qn} {l : List QQ} {u : Int} (h : inW w u = true) : Qcd w l u = Zh w l u := by
 unfold Qcd Zh
 simp only [h, and_true]
theorem QgM (w : Qn) (l : List QQ) (s : QQ) (u : Int) : Qcd w (l ++ [s]) u = if s.u = u then s.m else Qcd w l u := by
 rw [Qcd, List.foldl_append]; rfl
theorem QmC {w : Qn} {l : List QQ} {u : Int} {i k : Nat} (hk : k + 1 = i) (h : k < l.length) (hu : l[k].u = u) : Qcd w (l.take i) u = l[k].m := by
 rw [Qd9 hk h, QgM, if_pos hu]
theorem QlC {w : Qn} {l : List QQ} {u : Int} {i k : Nat} (hk : k + 1 = i) (h : k < l.length) (hu : ¬ l[k].u = u) : Qcd w (l.take i) u = Qcd w (l.take (i - 1)) u := by
 rw [Qd9 hk h, QgM, if_neg hu, show i - 1 = k by omega]
theorem QdF {w : Qn} {u : Int} : ZW w u = 0 ↔ inW w u = false := by
 constructor
 ·intro h
  cases hw : inW w u
  ·rfl
  ·rw [Qb1] at hw
   rw [Qfh hw.1 hw.2] at h
   have h2 : 2 <= (2 : Int) ^ (min (w[u.toNat]'(by omega)).cs.length 16 + 1) := by
    rw [Int.pow_succ]
    have := QpN (n := min (w[u.toNat]'(by omega)).cs.length 16) (by omega)
    omega
   omega
 ·intro h
  refine QdQ (Classical.byContradiction fun hn => ?_)
  rw [QfO (by omega) (by omega)] at h; cases h
theorem QiJ {l : List QQ} (h : (l.length : Int) = 0) : YY l = 0 := by
 have e : l = [] := List.eq_nil_of_length_eq_zero (by omega)
 subst e; rfl
theorem QkJ {l : List QQ} {k : Nat} (hk : k + 1 = l.length) : YY l = (l[k]'(by omega)).l := by
 rw [YY, List.getLast?_eq_getElem?, show l.length - 1 = k by omega, List.getElem?_eq_getElem (by omega)]
theorem Qol : ∀ {l : List Int}, ¬ (l.length : Int) = 1 -> Qok l = -1
 | [], _ => rfl
 | [x], h => by simp at h
 | x :: y :: l, _ => rfl
theorem QmX : ∀ {l : List Int} (h : (l.length : Int) = 1), Qok l = l[(0 : Int).toNat]'(by simp; omega)
 | [], h => by simp at h
 | [x], _ => rfl
 | x :: y :: l, h => by simp at h; omega
theorem Qoq {m : Int} (h : ¬ ((Qa4 m).length : Int) = 1) : Qde m = -1 := Qol h
theorem Qm2 {m : Int} (h : ((Qa4 m).length : Int) = 1) : Qde m = (Qa4 m)[(0 : Int).toNat]'(by simp; omega) := QmX h
theorem Qg7 {α : Type} {f : α -> List D} {l : List α} {i : Nat} : ((l.map f).take ((i : Nat) : Int).toNat).drop (((0 : Nat) : Int)).toNat = (l.take i).map f := by simp [List.map_take]
def QpL (w : Qn) (l : List QQ) (i : Nat) : Bool := match l[i]? with
 | some s => Qdf w (l.take i) s
 | none => true
theorem Qbv {w : Qn} {l : List QQ} {i : Nat} (h : i < l.length) : QpL w l i = Qdf w (l.take i) l[i] := by
 rw [QpL, List.getElem?_eq_getElem h]
theorem QhL (w : Qn) (l : List QQ) : QcY w l = (List.range l.length).all (QpL w l) := rfl
theorem Xu {w : Qn} {l : List QQ} {s : QQ} (h : s.u < 0 \/ (w.length : Int) <= s.u \/ s.c < -1) : Qdf w l s = false := by
 unfold Qdf
 rcases h with h | h | h
 ·rw [Qbn (.inl h)]; rfl
 ·rw [Qbn (.inr h)]; rfl
 ·rw [decide_eq_false (show ¬ -1 <= s.c by omega)]; simp
theorem Yd {w : Qn} {l : List QQ} {s : QQ} (h0 : 0 <= s.u) (h1 : s.u < w.length) (h2 : -1 <= s.c) : Qdf w l s = (decide (QaT s.m (Zh w l s.u) = s.m) &&
  if s.c = -1 then decide (0 <= Qde s.m) && !QdO l s.u && decide (s.l = IntKind.i64.wrap (YY l + 1))
  else !decide (s.m = 0) && !decide (s.m = Zh w l s.u) && decide (s.l = YY l)) := by
 rw [Qdf, QfO h0 h1, decide_eq_true h2]; rfl
theorem Qcq {w : Qn} {l : List QQ} {t : TermT} {c : Int} (h : c < 0 \/ t.u < 0 \/ (w.length : Int) <= t.u) : Yo w l t c = none := by
 rw [Yo, if_pos]
 rcases h with h | h
 ·exact .inl h
 ·exact .inr (Qbn h)
theorem Qbh {w : Qn} {l : List QQ} {t : TermT} {c : Int} (h : IntKind.i64.wrap (Zh w l t.u - QaT (Zh w l t.u) t.m) = 0 \/ IntKind.i64.wrap (Zh w l t.u - QaT (Zh w l t.u) t.m) = Zh w l t.u) : Yo w l t c = none := by
 rw [Yo]
 split
 ·rfl
 ·first | rfl | rw [if_pos h]
theorem QgD {w : Qn} {l : List QQ} {t : TermT} {c : Int} (h0 : ¬ c < 0) (h1 : inW w t.u = true) (h2 : ¬ IntKind.i64.wrap (Zh w l t.u - QaT (Zh w l t.u) t.m) = 0) (h3 : ¬ IntKind.i64.wrap (Zh w l t.u - QaT (Zh w l t.u) t.m) = Zh w l t.u) :
  Yo w l t c = some (l ++ [⟨t.u, IntKind.i64.wrap (Zh w l t.u - QaT (Zh w l t.u) t.m), YY l, c⟩]) := by
 rw [Yo, if_neg (by rw [h1]; simp [h0]), if_neg (by simp [h2, h3])]
theorem QgC (w : Qn) (l : List QQ) (t : TermT) (c : Int) : ((Yo w l t c).getD []).length <= l.length + 1 := by
 unfold Yo
 split
 ·simp
 ·split <;> simp
def Xv (w : Qn) (l : List QQ) : Prop := ∀ s ∈ l, Lo s.m
theorem Qbq {w : Qn} {l : List QQ} (h : Xv w l) (u : Int) : Lo (Zh w l u) := by
 suffices hs : ∀ (l : List QQ) a, (∀ s ∈ l, Lo s.m) -> Lo a -> Lo (l.foldl (fun a s => if s.u = u /\ inW w u = true then s.m else a) a) from hs l _ h (QjO w u)
 intro l
 induction l with
 | nil => intro a _ h; exact h
 | cons s l ih =>
  intro a hl ha
  rw [List.foldl_cons]
  refine ih _ (fun t ht => hl t (by simp [ht])) ?_
  split
  ·exact hl s (by simp)
  ·exact ha
theorem Qmc {w : Qn} {l : List QQ} {t : TermT} {c : Int} (hl : Xv w l) (h : QaT (Zh w l t.u) t.m = 0) : Yo w l t c = none :=
 Qbh (.inr (by rw [Qcl, QeS (Qbq hl _).i64, <- Qcn]; exact h))
theorem Qmd {w : Qn} {l : List QQ} {t : TermT} {c : Int} (h : Qe9 (Zh w l t.u) t.m = 0) : Yo w l t c = none :=
 Qbh (.inl (by rw [Qcl]; exact h))
theorem Qis {w : Qn} {l : List QQ} {t : TermT} {c : Int} (hl : Xv w l) (h0 : ¬ c < 0) (h1 : ¬ QaT (Zh w l t.u) t.m = 0) (h2 : ¬ Qe9 (Zh w l t.u) t.m = 0) : Yo w l t c = some (l ++ [⟨t.u, Qe9 (Zh w l t.u) t.m, YY l, c⟩]) := by
 have hin : inW w t.u = true := by
  cases hw : inW w t.u
  ·rw [QdM hw] at h1
   exact absurd (Qcn.2 fun i hi => by rw [Qh4] at hi; cases hi) h1
  ·rfl
 rw [QgD h0 hin (by rw [Qcl]; exact h2) (by rw [Qcl, QeS (Qbq hl _).i64, <- Qcn]; exact h1), Qcl]
theorem Qen {w : Qn} {l : List QQ} {u p : Int} (h : (u < 0 \/ (w.length : Int) <= u) \/ p < 0) : Xq w l u p = none := by
 unfold Xq
 split
 ·rfl
 ·rename_i x hx
  rcases h with h | h
  ·rw [Qj9 h] at hx; cases hx
  ·rw [if_pos (.inl h)]
theorem Qlo {w : Qn} {l : List QQ} {u p : Int} (h0 : 0 <= u) (h1 : u < w.length) (h : ((w[u.toNat]'(by omega)).cs.length : Int) <= p) : Xq w l u p = none := by
 rw [Xq, Qld h0 h1]
 simp only []
 rw [if_pos (.inr h)]
def QpA (l : List QQ) (u p : Int) : QQ := ⟨u, IntKind.i64.wrap (2 * 2 ^ min p.toNat 64), IntKind.i64.wrap (YY l + 1), -1⟩
theorem Qmb {w : Qn} {l : List QQ} {u p : Int} (h : Qdf w l (QpA l u p) = false) : Xq w l u p = none := by
 unfold Xq
 split
 ·rfl
 ·split
  ·rfl
  ·simp only [QpA] at h
   rw [if_neg (by rw [h]; simp)]
theorem Qlr {w : Qn} {l : List QQ} {u p : Int} (h0 : 0 <= u) (h1 : u < w.length) (h2 : ¬ p < 0) (h3 : ¬ ((w[u.toNat]'(by omega)).cs.length : Int) <= p) (h : Qdf w l (QpA l u p) = true) : Xq w l u p = some (l ++ [QpA l u p]) := by
 rw [Xq, Qld h0 h1]
 simp only []
 rw [if_neg (by omega)]
 simp only [QpA] at h ⊢
 rw [if_pos h]
theorem Qbw {h : Int -> Int} {inc : List TermT} {a : Int} {i : Nat} (hi : i < inc.length) : ZR h (inc.drop i) a = if ZQ (h inc[i].u) inc[i].m = 0 then -1 else if ZQ (h inc[i].u) inc[i].m = 1 then (if 0 <= a then -1 else ZR h (inc.drop (i + 1)) inc[i].u) else ZR h (inc.drop (i + 1)) a := by
 rw [List.drop_eq_getElem_cons hi, ZR]
theorem QiY {h : Int -> Int} {inc : List TermT} {a : Int} {i : Nat} (hi : inc.length <= i) : ZR h (inc.drop i) a = a := by
 rw [List.drop_eq_nil_of_le hi, ZR]
theorem Qj4 {w : Qn} {l : List QQ} {db : List (List TermT)} {i : Nat} (hi : i < db.length) : YK w l i (db.drop i) = if Qf4 w l db[i] = true then ((i : Int), -1) else if 0 <= Qe2 w l db[i] then ((i : Int), Qe2 w l db[i]) else YK w l (i + 1) (db.drop (i + 1)) := by
 rw [List.drop_eq_getElem_cons hi, YK]
theorem Qow {w : Qn} {l : List QQ} {db : List (List TermT)} {i : Nat} (hi : db.length <= i) : YK w l i (db.drop i) = (-1, -1) := by
 rw [List.drop_eq_nil_of_le hi, YK]
theorem QhZ (w : Qn) (l : List QQ) : ∀ (db : List (List TermT)) (i : Nat), (YK w l i db = (-1, -1)) \/ ∃ k, i <= k /\ ∃ hk : k - i < db.length, (YK w l i db = ((k : Int), -1) /\ Qf4 w l db[k - i] = true) \/ (Qf4 w l db[k - i] = false /\ 0 <= Qe2 w l db[k - i] /\ YK w l i db = ((k : Int), Qe2 w l db[k - i]))
 | [], i => .inl rfl
 | x :: db, i => by
  rw [YK]
  by_cases h1 : Qf4 w l x = true
  ·rw [if_pos h1]; exact .inr ⟨i, Nat.le_refl _, by simp, .inl ⟨rfl, by simpa using h1⟩⟩
  ·rw [if_neg h1]
   by_cases h2 : 0 <= Qe2 w l x
   ·rw [if_pos h2]; exact .inr ⟨i, Nat.le_refl _, by simp, .inr ⟨by simpa using h1, by simpa using h2, by simp⟩⟩
   ·rw [if_neg h2]
    rcases QhZ w l db (i + 1) with h | ⟨k, hk, hlt, h⟩
    ·exact .inl h
    ·refine .inr ⟨k, by omega, by simp only [List.length_cons]; omega, ?_⟩
     have e : (x :: db)[k - i]'(by simp only [List.length_cons]; omega) = db[k - (i + 1)] := by
      obtain ⟨j, hj⟩ : ∃ j, k - i = j + 1 := ⟨k - i - 1, by omega⟩
      simp only [hj, List.getElem_cons_succ]
      congr 1; omega
     rw [e]; exact h
theorem Qi9 {w : Qn} {l : List QQ} {db : List (List TermT)} (h : ¬ (ZK w db l).2 < 0) : 0 <= (ZK w db l).1 /\ (ZK w db l).1 < db.length := by
 unfold ZK at h ⊢
 rcases QhZ w l db 0 with e | ⟨k, _, hk, ⟨e, _⟩ | ⟨_, _, e⟩⟩
 ·rw [e] at h; simp at h
 ·rw [e] at h; simp at h
 ·rw [e]; simp only; omega
theorem QcC {w : Qn} {db : List (List TermT)} {n : Nat} {out : List QQ} (h : (ZK w db out).2 < 0) (hn : 0 < n) : Qby w db n out = (out, (ZK w db out).1) := by
 obtain ⟨m, rfl⟩ : ∃ m, n = m + 1 := ⟨n - 1, by omega⟩
 rw [Qby, if_pos h]
theorem Qk5 {w : Qn} {db : List (List TermT)} {n : Nat} {out : List QQ} (h : ¬ (ZK w db out).2 < 0) (hn : 0 < n) (hd : (ZK w db out).1.toNat < db.length) : Qby w db n out = Qby w db (n - 1) ((Yo w out ⟨(ZK w db out).2, QbO w db[(ZK w db out).1.toNat] (ZK w db out).2⟩ (ZK w db out).1).getD []) := by
 obtain ⟨m, rfl⟩ : ∃ m, n = m + 1 := ⟨n - 1, by omega⟩
 rw [Qby, if_neg h, List.getD_eq_getElem?_getD, List.getElem?_eq_getElem hd]; rfl
end M25
namespace Go.Proofs
open Go Go.Abs M3 M25
set_option linter.unusedVariables false
set_option linter.unusedSimpArgs false
theorem ZA {w : Qn} (hw : WSm w) {l : List QQ} (hl : l.length <= 10000000) {u : Int} : Ok Tryz.prog 26 [Z4 w, Zz l, .int .i64 u] (.int .i64 (Zh w l u)) := by
 refine Ok.ofT Z1 Tryz.func26 QrZ (Nat.le_of_ble_eq_true rfl) ?_
 show TW _ _ tf26.body _ _
 refine Qf fun K hK => Zx rfl rfl rfl (Qa rfl ?_)
 refine hK _ _ (Qb (kp3 rfl rfl rfl) ?_)
 refine QB ?_ -- 0
 refine Qf fun K hK => Qa rfl ?_
 first | refine QR rfl QU ?_ | refine QR rfl rfl ?_
 refine Qaq rfl rfl (by first | exact Qq (by omega) (by omega) | rfl) (Qa rfl ?_)
 refine hK _ _ (Qb (kp4 rfl rfl rfl rfl) ?_)
 refine Qz ?_
 refine Zk (ι := Nat) (fun i => ⟨[(1, Zz l), (2, .int .i64 u), (3, .ref 3 0 0), (7, .int .i64 ((i : Int) - 1))], [(3, ⟨[[.sl ((w).map Yq)]], 1, 26, true⟩)]⟩) (fun i => i <= l.length /\ Zh w l u = Zh w (l.take i) u) (fun i => i) l.length ?_ ?_ ?_
 ·exact Q2 (l := [1, 2, 3, 7]) (lH := [3]) (kp4 rfl rfl rfl rfl) (Qe rfl Ql) rfl rfl rfl
 ·exact ⟨Nat.le_refl _, by rw [List.take_length]⟩
 intro i hI
 try dsimp only
 refine QB ?_ -- 1
 refine Qf fun K hK => Qa rfl (QeX rfl rfl ?_)
 refine hK _ _ (Qb (kp5 rfl rfl rfl rfl rfl) ?_)
 refine Qw rfl (fun h1 => ?_) (fun h1 => ?_)
 ·try rw [h1]
  try simp only [qa, qb, qc, qd, qe, List.length_map] at h1
  refine Qv (Qd (kp4 rfl rfl rfl rfl) ?_)
  refine QB ?_ -- 2
  refine Qz (Qf fun K hK => Qa rfl (Qa rfl (QJ rfl rfl rfl (by omega) (ZC (by omega) (by omega)) rfl (Q6 rfl rfl (QA rfl rfl rfl (Qa rfl (ZN rfl rfl (Qa rfl ?_))))))))
  refine QE (g := 22) rfl (fun h2 => ?_) (fun h2 => ?_)
  ·try rw [h2]
   try simp only [qa, qb, qc, qd, qe, List.length_map] at h2
   refine Qj rfl (Qa rfl (Qj rfl (QeX rfl rfl (Qp rfl rfl (Qa rfl ?_)))))
   refine QE (g := 26) rfl (fun h3 => ?_) (fun h3 => ?_)
   ·try rw [h3]
    try simp only [qa, qb, qc, qd, qe, List.length_map] at h3
    refine Qj rfl (Qa rfl (Qj rfl (Qh rfl rfl (Qj rfl (QA rfl rfl rfl (Qj rfl ?_))))))
    first | refine QR rfl QU ?_ | refine QR rfl rfl ?_
    refine Qj rfl (Z8 rfl rfl (Qp rfl rfl ?_))
    refine hK _ _ (Qb (kp5 rfl rfl rfl rfl rfl) ?_)
    refine Qw rfl (fun h4 => ?_) (fun h4 => ?_)
    ·try rw [h4]
     try simp only [qa, qb, qc, qd, qe, List.length_map] at h4
     refine Qf fun K hK => Qa rfl (Qa rfl (QJ rfl rfl rfl (by omega) (ZC (by omega) (by omega)) rfl (Q6 rfl rfl (QA rfl rfl rfl (Qa rfl ?_)))))
     refine hK _ _ (Qb (kp1 rfl) ?_)
     refine Qu (Qr (Qk (Q4 (Qr (Qk (QG rfl ?_))))))
     rw [hI.2, Qn9 (k := ((i : Int) - 1).toNat) (by omega) (by omega) h2 (QfO (by omega) (by omega))]
    ·try rw [h4]
     try simp only [qa, qb, qc, qd, qe, List.length_map] at h4
     refine Qv (Qg (Qd (kp4 rfl rfl rfl rfl) (QL fun K hK => Qa rfl (Qaq rfl rfl (by first | exact Qq (by omega) (by omega) | rfl) (Qa rfl (hK _ ?_))))))
     refine Qi (i - 1) ?_ ?_ ?_
     ·exact Q2 (l := [1, 2, 3, 7]) (lH := [3]) (kp4 rfl rfl rfl rfl) (Qe rfl Ql) (by simp only [List.cons.injEq, Prod.mk.injEq, D.int.injEq, and_true, true_and]; omega) rfl rfl
     ·exact ⟨by omega, by rw [hI.2, QfV (k := ((i : Int) - 1).toNat) (by omega) (by omega) (by first | exact .inl h2 | exact .inr (.inl h3) | exact .inr (.inr h4))]⟩
     ·first | omega | (simp only; omega) | (dsimp only; omega)
   ·try rw [h3]
    try simp only [qa, qb, qc, qd, qe, List.length_map] at h3
    refine Qs rfl (Qs rfl (Qs rfl (Qs rfl (Qs rfl (Qp rfl rfl ?_)))))
    refine hK _ _ (Qb (kp5 rfl rfl rfl rfl rfl) ?_)
    refine ZJ rfl (Qv (Qg (Qd (kp4 rfl rfl rfl rfl) (QL fun K hK => Qa rfl (Qaq rfl rfl (by first | exact Qq (by omega) (by omega) | rfl) (Qa rfl (hK _ ?_)))))))
    refine Qi (i - 1) ?_ ?_ ?_
    ·exact Q2 (l := [1, 2, 3, 7]) (lH := [3]) (kp4 rfl rfl rfl rfl) (Qe rfl Ql) (by simp only [List.cons.injEq, Prod.mk.injEq, D.int.injEq, and_true, true_and]; omega) rfl rfl
    ·exact ⟨by omega, by rw [hI.2, QfV (k := ((i : Int) - 1).toNat) (by omega) (by omega) (by first | exact .inl h2 | exact .inr (.inl h3) | exact .inr (.inr h4))]⟩
    ·first | omega | (simp only; omega) | (dsimp only; omega)
  ·try rw [h2]
   try simp only [qa, qb, qc, qd, qe, List.length_map] at h2
   refine Qs rfl (Qs rfl (Qp rfl rfl (Qa rfl (Qs rfl (Qs rfl (Qs rfl (Qs rfl (Qs rfl (Qp rfl rfl ?_)))))))))
   refine hK _ _ (Qb (kp5 rfl rfl rfl rfl rfl) ?_)
   refine ZJ rfl (Qv (Qg (Qd (kp4 rfl rfl rfl rfl) (QL fun K hK => Qa rfl (Qaq rfl rfl (by first | exact Qq (by omega) (by omega) | rfl) (Qa rfl (hK _ ?_)))))))
   refine Qi (i - 1) ?_ ?_ ?_
   ·exact Q2 (l := [1, 2, 3, 7]) (lH := [3]) (kp4 rfl rfl rfl rfl) (Qe rfl Ql) (by simp only [List.cons.injEq, Prod.mk.injEq, D.int.injEq, and_true, true_and]; omega) rfl rfl
   ·exact ⟨by omega, by rw [hI.2, QfV (k := ((i : Int) - 1).toNat) (by omega) (by omega) (by first | exact .inl h2 | exact .inr (.inl h3) | exact .inr (.inr h4))]⟩
   ·first | omega | (simp only; omega) | (dsimp only; omega)
 ·try rw [h1]
  try simp only [qa, qb, qc, qd, qe, List.length_map] at h1
  refine Zi (QK (Qx (QD (Qd (kp2 rfl rfl) (Qf fun K hK => QH (cs := [_]) rfl rfl rfl rfl (Qa rfl (QI (Zt hw) rfl rfl (.inr rfl) (Qa rfl ?_))))))))
  refine hK _ _ (Qb (kp1 rfl) ?_)
  refine Qu (QG rfl ?_)
  rw [hI.2, show i = 0 by omega]; rfl
theorem ZT {l : List QQ} (hl : l.length <= 10000000) : Ok Tryz.prog 25 [Zz l] (.int .i64 (YY l)) := by
 refine Ok.ofT Z1 Tryz.func25 QrY (Nat.le_of_ble_eq_true rfl) ?_
 show TW _ _ tf25.body _ _
 refine Qf fun K hK => Qa rfl ?_
 refine hK _ _ (Qb (kp1 rfl) ?_)
 refine QB ?_ -- 0
 refine Qf fun K hK => Qa rfl ?_
 first | refine QR rfl QU ?_ | refine QR rfl rfl ?_
 refine ZN rfl rfl ?_
 refine hK _ _ (Qb (kp2 rfl rfl) ?_)
 refine Qw rfl (fun h1 => ?_) (fun h1 => ?_)
 ·try rw [h1]
  try simp only [qa, qb, qc, qd, qe, List.length_map] at h1
  refine Qf fun K hK => Qa rfl ?_
  refine hK _ _ (Qb (kp1 rfl) ?_)
  refine Qu (Qk (QG rfl ?_))
  rw [QiJ h1]
 ·try rw [h1]
  try simp only [qa, qb, qc, qd, qe, List.length_map] at h1
  refine Qv (Qd (kp1 rfl) (Qf fun K hK => Qa rfl (Qa rfl ?_)))
  first | refine QR rfl QU ?_ | refine QR rfl rfl ?_
  refine Qaq rfl rfl (by first | exact Qq (by omega) (by omega) | rfl) (QJ rfl rfl rfl (by omega) (ZC (by omega) (by omega)) rfl (Q6 rfl rfl (QA rfl rfl rfl (Qa rfl ?_))))
  refine hK _ _ (Qb (kp1 rfl) ?_)
  refine Qu (QG rfl ?_)
  rw [QkJ (k := ((l.length : Int) - 1).toNat) (by omega)]
theorem Qbd {l : List QQ} (hl : l.length <= 10000000) {u : Int} : Ok Tryz.prog 69 [Zz l, .int .i64 u] (.bool (QdO l u)) := by
 refine Ok.ofT Z1 Tryz.func69 QsD (Nat.le_of_ble_eq_true rfl) ?_
 show TW _ _ tf69.body _ _
 refine Qf fun K hK => Qa rfl ?_
 refine hK _ _ (Qb (kp2 rfl rfl) ?_)
 refine QB ?_ -- 0
 refine Qf fun K hK => Qa rfl ?_
 refine hK _ _ (Qb (kp3 rfl rfl rfl) ?_)
 refine Qz ?_
 refine Zk (ι := Nat) (fun i => ⟨[(0, Zz l), (1, .int .i64 u), (5, .int .i64 i)], []⟩) (fun i => i <= l.length /\ (l.take i).any (fun s => decide (s.u = u) && decide (s.c = -1)) = false) (fun i => l.length - i) 0 ?_ ?_ ?_
 ·exact Zg (kp3 rfl rfl rfl)
 ·exact ⟨Nat.zero_le _, by simp⟩
 intro i hI
 try dsimp only
 refine QB ?_ -- 1
 refine Qf fun K hK => Qa rfl (Qa rfl ?_)
 first | refine QR rfl QU ?_ | refine QR rfl rfl ?_
 refine Z8 rfl rfl ?_
 refine hK _ _ (Qb (kp4 rfl rfl rfl rfl) ?_)
 refine Qw rfl (fun h1 => ?_) (fun h1 => ?_)
 ·try rw [h1]
  try simp only [qa, qb, qc, qd, qe, List.length_map] at h1
  refine Qv (Qd (kp3 rfl rfl rfl) ?_)
  refine QB ?_ -- 2
  refine Qz (Qf fun K hK => Qa rfl (Qa rfl (QJ rfl rfl rfl (by omega) (QS (by omega)) rfl (Q6 rfl rfl (QA rfl rfl rfl (Qa rfl (ZN rfl rfl (Qa rfl ?_))))))))
  refine QE (g := 19) rfl (fun h2 => ?_) (fun h2 => ?_)
  ·try rw [h2]
   try simp only [qa, qb, qc, qd, qe, List.length_map] at h2
   refine Qj rfl (Qa rfl (Qj rfl (Qa rfl (Qj rfl (QJ rfl rfl rfl (by omega) (QS (by omega)) rfl (Qj rfl (Q6 rfl rfl (Qj rfl (QA rfl rfl rfl (Qj rfl (ZN rfl rfl ?_)))))))))))
   refine Qp rfl rfl ?_
   refine hK _ _ (Qb (kp4 rfl rfl rfl rfl) ?_)
   refine Qw rfl (fun h3 => ?_) (fun h3 => ?_)
   ·try rw [h3]
    try simp only [qa, qb, qc, qd, qe, List.length_map] at h3
    refine Qf fun K hK => Qa rfl ?_
    refine hK _ _ (Qb (kp1 rfl) ?_)
    refine Qu (Qr (Qk (Q4 (Qr (Qk (Qt rfl ?_))))))
    rw [QdO, Qjv (i := i) (by omega) (by simp [h2, h3])]
   ·try rw [h3]
    try simp only [qa, qb, qc, qd, qe, List.length_map] at h3
    refine Qv (Qg (Qd (kp3 rfl rfl rfl) (QL fun K hK => Qa rfl (Q1 rfl rfl (by first | exact Qq (by omega) (by omega) | rfl) (Qa rfl (hK _ ?_))))))
    refine Qi (i + 1) ?_ ?_ ?_
    ·exact Zg (kp3 rfl rfl rfl)
    ·exact ⟨by omega, Qif (by omega) hI.2 (by first | (simp [h2, h3]; done) | (simp [h2]; done))⟩
    ·first | omega | (simp only; omega) | (dsimp only; omega)
  ·try rw [h2]
   try simp only [qa, qb, qc, qd, qe, List.length_map] at h2
   refine Qs rfl (Qs rfl (Qs rfl (Qs rfl (Qs rfl (Qs rfl (Qp rfl rfl ?_))))))
   refine hK _ _ (Qb (kp4 rfl rfl rfl rfl) ?_)
   refine ZJ rfl (Qv (Qg (Qd (kp3 rfl rfl rfl) (QL fun K hK => Qa rfl (Q1 rfl rfl (by first | exact Qq (by omega) (by omega) | rfl) (Qa rfl (hK _ ?_)))))))
   refine Qi (i + 1) ?_ ?_ ?_
   ·exact Zg (kp3 rfl rfl rfl)
   ·exact ⟨by omega, Qif (by omega) hI.2 (by first | (simp [h2, h3]; done) | (simp [h2]; done))⟩
   ·first | omega | (simp only; omega) | (dsimp only; omega)
 ·try rw [h1]
  try simp only [qa, qb, qc, qd, qe, List.length_map] at h1
  refine Zi (QK (Qx (QD (Qd (Q8) (Qf fun K hK => Qa rfl ?_)))))
  refine hK _ _ (Qb (kp1 rfl) ?_)
  refine Qu (Qt rfl ?_)
  rw [QdO, Ql2 (i := i) (by omega) hI.2]
theorem QbW {m : Int} : Ok Tryz.prog 68 [.int .i64 m] (.int .i64 (Qde m)) := by
 refine Ok.ofT Z1 Tryz.func68 QsC (Nat.le_of_ble_eq_true rfl) ?_
 show TW _ _ tf68.body _ _
 refine Qf fun K hK => Qa rfl ?_
 refine hK _ _ (Qb (kp1 rfl) ?_)
 refine Qf fun K hK => Qa rfl (QI (XS) rfl rfl (.inl rfl) (Qa rfl ?_))
 refine hK _ _ (Qb (kp1 rfl) ?_)
 refine QB ?_ -- 0
 refine Qf fun K hK => Qa rfl ?_
 first | refine QR rfl QU ?_ | refine QR rfl rfl ?_
 refine XM rfl rfl ?_
 refine hK _ _ (Qb (kp2 rfl rfl) ?_)
 refine Qw rfl (fun h1 => ?_) (fun h1 => ?_)
 ·try rw [h1]
  try simp only [qa, qb, qc, qd, qe, List.length_map] at h1
  refine Qf fun K hK => Qa rfl ?_
  refine hK _ _ (Qb (kp1 rfl) ?_)
  refine Qu (Qk (QG rfl ?_))
  rw [Qoq h1]
 ·try rw [h1]
  try simp only [qa, qb, qc, qd, qe, List.length_map] at h1
  refine Qv (Qd (kp1 rfl) (Qf fun K hK => Qa rfl (QJ rfl rfl rfl (by omega) (ZC (by omega) (by omega)) rfl (QA rfl rfl rfl (Qa rfl ?_)))))
  refine hK _ _ (Qb (kp1 rfl) ?_)
  refine Qu (QG rfl ?_)
  rw [Qm2 h1]
theorem QcT {w : Qn} (hw : WSm w) {l : List QQ} (hl : l.length <= 10000000) {s : QQ} : Ok Tryz.prog 47 [Z4 w, Zz l, .agg (Qhn s)] (.bool (Qdf w l s)) := by
 refine Ok.ofT Z1 Tryz.func47 Qsj (Nat.le_of_ble_eq_true rfl) ?_
 show TW _ _ tf47.body _ _
 refine Qf fun K hK => Zx rfl rfl rfl (Zx rfl rfl rfl (Qa rfl ?_))
 refine hK _ _ (Qb (kp3 rfl rfl rfl) ?_)
 refine QB ?_ -- 0
 refine Qf fun K hK => Qh rfl rfl (QA rfl rfl rfl (Z8 rfl rfl (Qa rfl ?_)))
 refine QE (g := 11) rfl (fun h1 => ?_) (fun h1 => ?_)
 ·try rw [h1]
  try simp only [qa, qb, qc, qd, qe, List.length_map] at h1
  refine Qs rfl (Qs rfl (Qs rfl (Qs rfl (Qs rfl (Qs rfl (Qp rfl rfl (Qa rfl (Qs rfl (Qs rfl (Qs rfl (Qp rfl rfl ?_)))))))))))
  refine hK _ _ (Qb (kp4 rfl rfl rfl rfl) ?_)
  refine Zv rfl (Qf fun K hK => Qa rfl ?_)
  refine hK _ _ (Qb (kp1 rfl) ?_)
  refine Qu (Qk (Qt rfl ?_))
  first | (rw [Xu (by omega)]; done) | (rw [Yd (by omega) (by omega) (by omega)]; simp_all; done) | (rw [Yd (by omega) (by omega) (by omega)]; simp_all; omega)
 ·try rw [h1]
  try simp only [qa, qb, qc, qd, qe, List.length_map] at h1
  refine Qj rfl (Qh rfl rfl (Qj rfl (QA rfl rfl rfl (Qj rfl (Qh rfl rfl (Qj rfl (QA rfl rfl rfl (Qj rfl ?_))))))))
  first | refine QR rfl QU ?_ | refine QR rfl rfl ?_
  refine Qj rfl (QeX rfl rfl (Qp rfl rfl (Qa rfl ?_)))
  refine QE (g := 19) rfl (fun h2 => ?_) (fun h2 => ?_)
  ·try rw [h2]
   try simp only [qa, qb, qc, qd, qe, List.length_map] at h2
   refine Qs rfl (Qs rfl (Qs rfl (Qp rfl rfl ?_)))
   refine hK _ _ (Qb (kp4 rfl rfl rfl rfl) ?_)
   refine Zv rfl (Qf fun K hK => Qa rfl ?_)
   refine hK _ _ (Qb (kp1 rfl) ?_)
   refine Qu (Qk (Qt rfl ?_))
   first | (rw [Xu (by omega)]; done) | (rw [Yd (by omega) (by omega) (by omega)]; simp_all; done) | (rw [Yd (by omega) (by omega) (by omega)]; simp_all; omega)
  ·try rw [h2]
   try simp only [qa, qb, qc, qd, qe, List.length_map] at h2
   refine Qj rfl (Qh rfl rfl (Qj rfl (QA rfl rfl rfl (Qj rfl (Z8 rfl rfl (Qp rfl rfl ?_))))))
   refine hK _ _ (Qb (kp4 rfl rfl rfl rfl) ?_)
   refine Qw rfl (fun h3 => ?_) (fun h3 => ?_)
   ·try rw [h3]
    try simp only [qa, qb, qc, qd, qe, List.length_map] at h3
    refine Qf fun K hK => Qa rfl ?_
    refine hK _ _ (Qb (kp1 rfl) ?_)
    refine Qu (Qk (Qt rfl ?_))
    first | (rw [Xu (by omega)]; done) | (rw [Yd (by omega) (by omega) (by omega)]; simp_all; done) | (rw [Yd (by omega) (by omega) (by omega)]; simp_all; omega)
   ·try rw [h3]
    try simp only [qa, qb, qc, qd, qe, List.length_map] at h3
    refine Qv (Qd (kp3 rfl rfl rfl) (Qf fun K hK => QH (cs := [_]) rfl rfl rfl rfl (Qa rfl (Qh rfl rfl (QA rfl rfl rfl (QI (ZA hw hl) rfl rfl (.inr rfl) (Qa rfl ?_)))))))
    refine hK _ _ (Qb (kp3 rfl rfl rfl) ?_)
    refine QB ?_ -- 1
    refine Qf fun K hK => Qh rfl rfl (QA rfl rfl rfl (ZN rfl rfl ?_))
    refine hK _ _ (Qb (kp4 rfl rfl rfl rfl) ?_)
    refine Qw rfl (fun h4 => ?_) (fun h4 => ?_)
    ·try rw [h4]
     try simp only [qa, qb, qc, qd, qe, List.length_map] at h4
     refine Qf fun K hK => Qh rfl rfl (QO (ds0 := [26, 25, 24, 23, 22, 21, 20, 19, 18, 17, 16, 15, 14, 13, 12, 11, 10, 9, 8, 7, 6, 5, 4, 3, 2, 1, 0]) rfl rfl rfl rfl rfl (QV (ds0 := [25, 24, 23, 22, 21, 20, 19, 18, 17, 16, 15, 14, 13, 12, 11, 10, 9, 8, 7, 6, 5, 4, 3, 2, 1, 0]) (QbW) rfl rfl (.inr rfl) rfl rfl (QeX rfl rfl (Qa rfl ?_))))
     refine QE (g := 36) rfl (fun h5 => ?_) (fun h5 => ?_)
     ·try rw [h5]
      try simp only [qa, qb, qc, qd, qe, List.length_map] at h5
      refine Qj rfl (Qh rfl rfl (Qj rfl (QO (ds0 := [20, 17, 16, 15, 14, 13, 12, 11, 10, 9, 8, 7, 6, 5, 4, 3, 2, 1, 0]) rfl rfl rfl rfl rfl (Qj rfl (Qa rfl (Qj rfl (Qee rfl rfl (Qj rfl (Qh rfl rfl (Qj rfl (QO (ds0 := [17, 16, 15, 14, 13, 12, 11, 10, 9, 8, 7, 6, 5, 4, 3, 2, 1, 0]) rfl rfl rfl rfl rfl ?_)))))))))))
      refine Qj rfl (ZN rfl rfl (Qp rfl rfl (Qa rfl ?_)))
      refine QE (g := 45) rfl (fun h6 => ?_) (fun h6 => ?_)
      ·try rw [h6]
       try simp only [qa, qb, qc, qd, qe, List.length_map] at h6
       refine Qj rfl (Qa rfl (Qj rfl (Qh rfl rfl (Qj rfl (QO (ds0 := [11, 10, 9, 8, 7, 6, 5, 4, 3, 2, 1, 0]) rfl rfl rfl rfl rfl (Qj rfl (QV (ds0 := [10, 9, 8, 7, 6, 5, 4, 3, 2, 1, 0]) (Qbd hl) rfl rfl (.inr rfl) rfl rfl (Qj rfl (Yp rfl (Qp rfl rfl (Qa rfl ?_)))))))))))
       refine QE (g := 52) rfl (fun h7 => ?_) (fun h7 => ?_)
       ·try rw [h7]
        try simp only [qa, qb, qc, qd, qe, List.length_map] at h7
        refine Qj rfl (Qh rfl rfl (Qj rfl (QO (ds0 := [2, 1, 0]) rfl rfl rfl rfl rfl (Qj rfl (Qa rfl (Qj rfl (QV (ds0 := [3, 2, 1, 0]) (ZT hl) rfl rfl (.inr rfl) rfl rfl (Qj rfl (Q1 rfl rfl rfl (Qj rfl (ZN rfl rfl ?_)))))))))))
        refine Qp rfl rfl (Qa rfl ?_)
        refine hK _ _ (Qb (kp1 rfl) ?_)
        refine Qu (Qk (Qt rfl ?_))
        first | (rw [Xu (by omega)]; done) | (rw [Yd (by omega) (by omega) (by omega)]; simp_all; done) | (rw [Yd (by omega) (by omega) (by omega)]; simp_all; omega)
       ·try rw [h7]
        try simp only [qa, qb, qc, qd, qe, List.length_map] at h7
        refine Qs rfl (Qs rfl (Qs rfl (Qs rfl (Qs rfl (Qs rfl (Qp rfl rfl (Qa rfl ?_)))))))
        refine hK _ _ (Qb (kp1 rfl) ?_)
        refine Qu (Qk (Qt rfl ?_))
        first | (rw [Xu (by omega)]; done) | (rw [Yd (by omega) (by omega) (by omega)]; simp_all; done) | (rw [Yd (by omega) (by omega) (by omega)]; simp_all; omega)
      ·try rw [h6]
       try simp only [qa, qb, qc, qd, qe, List.length_map] at h6
       refine Qs rfl (Qs rfl (Qs rfl (Qs rfl (Qs rfl (Qp rfl rfl (Qa rfl (Qs rfl (Qs rfl (Qs rfl (Qs rfl (Qs rfl ?_)))))))))))
       refine Qs rfl (Qp rfl rfl (Qa rfl ?_))
       refine hK _ _ (Qb (kp1 rfl) ?_)
       refine Qu (Qk (Qt rfl ?_))
       first | (rw [Xu (by omega)]; done) | (rw [Yd (by omega) (by omega) (by omega)]; simp_all; done) | (rw [Yd (by omega) (by omega) (by omega)]; simp_all; omega)
     ·try rw [h5]
      try simp only [qa, qb, qc, qd, qe, List.length_map] at h5
      refine Qs rfl (Qs rfl (Qs rfl (Qs rfl (Qs rfl (Qs rfl (Qs rfl (Qp rfl rfl (Qa rfl (Qs rfl (Qs rfl (Qs rfl ?_)))))))))))
      refine Qs rfl (Qs rfl (Qp rfl rfl (Qa rfl (Qs rfl (Qs rfl (Qs rfl (Qs rfl (Qs rfl (Qs rfl (Qp rfl rfl (Qa rfl ?_)))))))))))
      refine hK _ _ (Qb (kp1 rfl) ?_)
      refine Qu (Qk (Qt rfl ?_))
      first | (rw [Xu (by omega)]; done) | (rw [Yd (by omega) (by omega) (by omega)]; simp_all; done) | (rw [Yd (by omega) (by omega) (by omega)]; simp_all; omega)
    ·try rw [h4]
     try simp only [qa, qb, qc, qd, qe, List.length_map] at h4
     refine Qv (Qd (kp3 rfl rfl rfl) (Qf fun K hK => Qh rfl rfl (QO (ds0 := [23, 22, 21, 20, 19, 18, 17, 16, 15, 14, 13, 12, 11, 10, 9, 8, 7, 6, 5, 4, 3, 2, 1, 0]) rfl rfl rfl rfl rfl (XM rfl rfl (Qa rfl ?_)))))
     refine QE (g := 63) rfl (fun h8 => ?_) (fun h8 => ?_)
     ·try rw [h8]
      try simp only [qa, qb, qc, qd, qe, List.length_map] at h8
      refine Qj rfl (Qh rfl rfl (Qj rfl (QO (ds0 := [18, 15, 14, 13, 12, 11, 10, 9, 8, 7, 6, 5, 4, 3, 2, 1, 0]) rfl rfl rfl rfl rfl (Qj rfl (Qa rfl (Qj rfl (Qee rfl rfl (Qj rfl (Qh rfl rfl (Qj rfl (QO (ds0 := [15, 14, 13, 12, 11, 10, 9, 8, 7, 6, 5, 4, 3, 2, 1, 0]) rfl rfl rfl rfl rfl ?_)))))))))))
      refine Qj rfl (ZN rfl rfl (Qp rfl rfl (Qa rfl ?_)))
      refine QE (g := 72) rfl (fun h9 => ?_) (fun h9 => ?_)
      ·try rw [h9]
       try simp only [qa, qb, qc, qd, qe, List.length_map] at h9
       refine Qj rfl (Qh rfl rfl (Qj rfl (QO (ds0 := [9, 8, 7, 6, 5, 4, 3, 2, 1, 0]) rfl rfl rfl rfl rfl (Qj rfl (Qa rfl (Qj rfl (XM rfl rfl (Qp rfl rfl (Qa rfl ?_)))))))))
       refine QE (g := 78) rfl (fun h10 => ?_) (fun h10 => ?_)
       ·try rw [h10]
        try simp only [qa, qb, qc, qd, qe, List.length_map] at h10
        refine Qj rfl (Qh rfl rfl (Qj rfl (QO (ds0 := [2, 1, 0]) rfl rfl rfl rfl rfl (Qj rfl (Qa rfl (Qj rfl (QV (ds0 := [2, 1, 0]) (ZT hl) rfl rfl (.inr rfl) rfl rfl (Qj rfl (ZN rfl rfl (Qp rfl rfl (Qa rfl ?_)))))))))))
        refine hK _ _ (Qb (kp1 rfl) ?_)
        refine Qu (Qt rfl ?_)
        first | (rw [Xu (by omega)]; done) | (rw [Yd (by omega) (by omega) (by omega)]; simp_all; done) | (rw [Yd (by omega) (by omega) (by omega)]; simp_all; omega)
       ·try rw [h10]
        try simp only [qa, qb, qc, qd, qe, List.length_map] at h10
        refine Qs rfl (Qs rfl (Qs rfl (Qs rfl (Qs rfl (Qp rfl rfl (Qa rfl ?_))))))
        refine hK _ _ (Qb (kp1 rfl) ?_)
        refine Qu (Qt rfl ?_)
        first | (rw [Xu (by omega)]; done) | (rw [Yd (by omega) (by omega) (by omega)]; simp_all; done) | (rw [Yd (by omega) (by omega) (by omega)]; simp_all; omega)
      ·try rw [h9]
       try simp only [qa, qb, qc, qd, qe, List.length_map] at h9
       refine Qs rfl (Qs rfl (Qs rfl (Qs rfl (Qp rfl rfl (Qa rfl (Qs rfl (Qs rfl (Qs rfl (Qs rfl (Qs rfl (Qp rfl rfl ?_)))))))))))
       refine Qa rfl ?_
       refine hK _ _ (Qb (kp1 rfl) ?_)
       refine Qu (Qt rfl ?_)
       first | (rw [Xu (by omega)]; done) | (rw [Yd (by omega) (by omega) (by omega)]; simp_all; done) | (rw [Yd (by omega) (by omega) (by omega)]; simp_all; omega)
     ·try rw [h8]
      try simp only [qa, qb, qc, qd, qe, List.length_map] at h8
      refine Qs rfl (Qs rfl (Qs rfl (Qs rfl (Qs rfl (Qs rfl (Qs rfl (Qp rfl rfl (Qa rfl (Qs rfl (Qs rfl (Qs rfl ?_)))))))))))
      refine Qs rfl (Qp rfl rfl (Qa rfl (Qs rfl (Qs rfl (Qs rfl (Qs rfl (Qs rfl (Qp rfl rfl (Qa rfl ?_)))))))))
      refine hK _ _ (Qb (kp1 rfl) ?_)
      refine Qu (Qt rfl ?_)
      first | (rw [Xu (by omega)]; done) | (rw [Yd (by omega) (by omega) (by omega)]; simp_all; done) | (rw [Yd (by omega) (by omega) (by omega)]; simp_all; omega)
theorem QbM {w : Qn} (hw : WSm w) {l : List QQ} (hl : l.length <= 10000000) {t : TermT} {c : Int} : Ok Tryz.prog 44 [Z4 w, Zz l, .agg (QdA t), .int .i64 c] (dOS (Yo w l t c)) := by
 refine Ok.ofT Z1 Tryz.func44 Qsg (Nat.le_of_ble_eq_true rfl) ?_
 show TW _ _ tf44.body _ _
 refine Qf fun K hK => Zx rfl rfl rfl (Zx rfl rfl rfl (Qa rfl (Qa rfl ?_)))
 refine hK _ _ (Qb (kp4 rfl rfl rfl rfl) ?_)
 refine QB ?_ -- 0
 refine Qf fun K hK => Qa rfl (Z8 rfl rfl (Qa rfl ?_))
 refine QE (g := 14) rfl (fun h1 => ?_) (fun h1 => ?_)
 ·try rw [h1]
  try simp only [qa, qb, qc, qd, qe, List.length_map] at h1
  refine Qs rfl (Qs rfl (Qs rfl (Qp rfl rfl (Qa rfl (Qs rfl (Qs rfl (Qs rfl (Qs rfl (Qs rfl (Qs rfl (Qp rfl rfl ?_)))))))))))
  refine hK _ _ (Qb (kp5 rfl rfl rfl rfl rfl) ?_)
  refine Zv rfl (Qf fun K hK => Qa rfl (Qa rfl ?_))
  refine hK _ _ (Qb (kp2 rfl rfl) ?_)
  refine Qu (Qk ?_)
  rw [Qcq (by omega)]
  exact QT rfl rfl ⟨rfl, rfl⟩
 ·try rw [h1]
  try simp only [qa, qb, qc, qd, qe, List.length_map] at h1
  refine Qj rfl (Qh rfl rfl (Qj rfl (QA rfl rfl rfl (Qj rfl (Z8 rfl rfl (Qp rfl rfl (Qa rfl ?_)))))))
  refine QE (g := 19) rfl (fun h2 => ?_) (fun h2 => ?_)
  ·try rw [h2]
   try simp only [qa, qb, qc, qd, qe, List.length_map] at h2
   refine Qs rfl (Qs rfl (Qs rfl (Qs rfl (Qs rfl (Qs rfl (Qp rfl rfl ?_))))))
   refine hK _ _ (Qb (kp5 rfl rfl rfl rfl rfl) ?_)
   refine Zv rfl (Qf fun K hK => Qa rfl (Qa rfl ?_))
   refine hK _ _ (Qb (kp2 rfl rfl) ?_)
   refine Qu (Qk ?_)
   rw [Qcq (by omega)]
   exact QT rfl rfl ⟨rfl, rfl⟩
  ·try rw [h2]
   try simp only [qa, qb, qc, qd, qe, List.length_map] at h2
   refine Qj rfl (Qh rfl rfl (Qj rfl (QA rfl rfl rfl (Qj rfl (Qh rfl rfl (Qj rfl (QA rfl rfl rfl (Qj rfl ?_))))))))
   first | refine QR rfl QU ?_ | refine QR rfl rfl ?_
   refine Qj rfl (QeX rfl rfl (Qp rfl rfl ?_))
   refine hK _ _ (Qb (kp5 rfl rfl rfl rfl rfl) ?_)
   refine Qw rfl (fun h3 => ?_) (fun h3 => ?_)
   ·try rw [h3]
    try simp only [qa, qb, qc, qd, qe, List.length_map] at h3
    refine Qf fun K hK => Qa rfl (Qa rfl ?_)
    refine hK _ _ (Qb (kp2 rfl rfl) ?_)
    refine Qu (Qk ?_)
    rw [Qcq (by omega)]
    exact QT rfl rfl ⟨rfl, rfl⟩
   ·try rw [h3]
    try simp only [qa, qb, qc, qd, qe, List.length_map] at h3
    refine Qv (Qd (kp4 rfl rfl rfl rfl) (Qf fun K hK => QH (cs := [_]) rfl rfl rfl rfl (Qa rfl (Qh rfl rfl (QA rfl rfl rfl (QI (ZA hw hl) rfl rfl (.inr rfl) (Qa rfl ?_)))))))
    refine hK _ _ (Qb (kp4 rfl rfl rfl rfl) ?_)
    refine Qf fun K hK => Qh rfl rfl (QO (ds0 := [2, 0]) rfl rfl rfl rfl rfl (Qa rfl (Qa rfl (Qh rfl rfl (QO (ds0 := [7, 6, 2, 0]) rfl rfl rfl rfl rfl (Qee rfl rfl (Qaq rfl rfl rfl (Qa rfl (QV (ds0 := [2, 0]) (ZT hl) rfl rfl (.inr rfl) rfl rfl (Qa rfl ?_))))))))))
    refine QX rfl rfl (ZD rfl (Y6 (ds0 := []) rfl rfl rfl rfl rfl rfl rfl rfl rfl rfl ?_))
    refine hK _ _ (Qb (kp3 rfl rfl rfl) ?_)
    refine QB ?_ -- 1
    refine Qf fun K hK => Qh rfl rfl (QA rfl rfl rfl (ZN rfl rfl (Qa rfl ?_)))
    refine QE (g := 47) rfl (fun h4 => ?_) (fun h4 => ?_)
    ·try rw [h4]
     try simp only [qa, qb, qc, qd, qe, List.length_map] at h4
     refine Qs rfl (Qs rfl (Qs rfl (Qs rfl (Qp rfl rfl ?_))))
     refine hK _ _ (Qb (kp3 rfl rfl rfl) ?_)
     refine Zv rfl (Qf fun K hK => Qa rfl (Qa rfl ?_))
     refine hK _ _ (Qb (kp2 rfl rfl) ?_)
     refine Qu (Qk ?_)
     rw [Qbh (by first | exact .inl h4 | exact .inr h5)]
     exact QT rfl rfl ⟨rfl, rfl⟩
    ·try rw [h4]
     try simp only [qa, qb, qc, qd, qe, List.length_map] at h4
     refine Qj rfl (Qh rfl rfl (Qj rfl (QA rfl rfl rfl (Qj rfl (Qa rfl (Qj rfl (ZN rfl rfl (Qp rfl rfl ?_))))))))
     refine hK _ _ (Qb (kp3 rfl rfl rfl) ?_)
     refine Qw rfl (fun h5 => ?_) (fun h5 => ?_)
     ·try rw [h5]
      try simp only [qa, qb, qc, qd, qe, List.length_map] at h5
      refine Qf fun K hK => Qa rfl (Qa rfl ?_)
      refine hK _ _ (Qb (kp2 rfl rfl) ?_)
      refine Qu (Qk ?_)
      rw [Qbh (by first | exact .inl h4 | exact .inr h5)]
      exact QT rfl rfl ⟨rfl, rfl⟩
     ·try rw [h5]
      try simp only [qa, qb, qc, qd, qe, List.length_map] at h5
      refine Qv (Qd (kp2 rfl rfl) (Qf fun K hK => Qa rfl (Qef (ds0 := [2, 1]) rfl rfl (fun _ h => ⟨Qi7, h⟩) rfl (.inl rfl) (by simp) (by simp; omega) (by simp; omega) rfl rfl (QN (ds0 := [3, 2, 1]) (cs := [_, _, _, _]) rfl rfl rfl rfl rfl rfl (QC rfl rfl (Qba (ds0 := [1]) rfl rfl (by simp [D.ids, D.sid]) ⟨_, rfl, rfl, rfl, rfl, rfl⟩ rfl rfl (by simp) rfl rfl (by simp; omega) (by simp; omega) rfl rfl (Qa rfl (Qa rfl ?_))))))))
      refine hK _ _ (Qb (kp2 rfl rfl) ?_)
      refine Qu ?_
      rw [QgD (by omega) (QfO (by omega) (by omega)) h4 h5]
      exact Qf9 rfl rfl rfl (by simp) (by simp [Zz, Qhn]) rfl rfl
theorem QbL {w : Qn} (hw : WSm w) {l : List QQ} (hl : l.length <= 10000000) {u p : Int} : Ok Tryz.prog 40 [Z4 w, Zz l, .int .i64 u, .int .i64 p] (dOS (Xq w l u p)) := by
 refine Ok.ofT Z1 Tryz.func40 Qsc (Nat.le_of_ble_eq_true rfl) ?_
 show TW _ _ tf40.body _ _
 refine Qf fun K hK => Zx rfl rfl rfl (Qa rfl (Qa rfl ?_))
 refine hK _ _ (Qb (kp4 rfl rfl rfl rfl) ?_)
 refine QB ?_ -- 0
 refine Qf fun K hK => Qa rfl (Z8 rfl rfl (Qa rfl ?_))
 refine QE (g := 13) rfl (fun h1 => ?_) (fun h1 => ?_)
 ·try rw [h1]
  try simp only [qa, qb, qc, qd, qe, List.length_map] at h1
  refine Qs rfl (Qs rfl (Qs rfl (Qs rfl (Qs rfl (Qp rfl rfl (Qa rfl (Qs rfl (Qs rfl (Qp rfl rfl (Qa rfl (Qs rfl ?_)))))))))))
  refine Qs rfl (Qs rfl (Qs rfl (Qs rfl (Qs rfl (Qs rfl (Qs rfl (Qs rfl (Qp rfl rfl ?_))))))))
  refine hK _ _ (Qb (kp5 rfl rfl rfl rfl rfl) ?_)
  refine Zv rfl (Qf fun K hK => Qa rfl (Qa rfl ?_))
  refine hK _ _ (Qb (kp2 rfl rfl) ?_)
  refine Qu (Qk ?_)
  rw [Qen (by omega)]
  exact QT rfl rfl ⟨rfl, rfl⟩
 ·try rw [h1]
  try simp only [qa, qb, qc, qd, qe, List.length_map] at h1
  refine Qj rfl (Qa rfl (Qj rfl (Qh rfl rfl (Qj rfl (QA rfl rfl rfl (Qj rfl ?_))))))
  first | refine QR rfl QU ?_ | refine QR rfl rfl ?_
  refine Qj rfl (QeX rfl rfl (Qp rfl rfl (Qa rfl ?_)))
  refine QE (g := 20) rfl (fun h2 => ?_) (fun h2 => ?_)
  ·try rw [h2]
   try simp only [qa, qb, qc, qd, qe, List.length_map] at h2
   refine Qs rfl (Qs rfl (Qp rfl rfl (Qa rfl (Qs rfl (Qs rfl (Qs rfl (Qs rfl (Qs rfl (Qs rfl (Qs rfl (Qs rfl ?_)))))))))))
   refine Qs rfl (Qp rfl rfl ?_)
   refine hK _ _ (Qb (kp5 rfl rfl rfl rfl rfl) ?_)
   refine Zv rfl (Qf fun K hK => Qa rfl (Qa rfl ?_))
   refine hK _ _ (Qb (kp2 rfl rfl) ?_)
   refine Qu (Qk ?_)
   rw [Qen (by omega)]
   exact QT rfl rfl ⟨rfl, rfl⟩
  ·try rw [h2]
   try simp only [qa, qb, qc, qd, qe, List.length_map] at h2
   refine Qj rfl (Qa rfl (Qj rfl (Z8 rfl rfl (Qp rfl rfl (Qa rfl ?_)))))
   refine QE (g := 24) rfl (fun h3 => ?_) (fun h3 => ?_)
   ·try rw [h3]
    try simp only [qa, qb, qc, qd, qe, List.length_map] at h3
    refine Qs rfl (Qs rfl (Qs rfl (Qs rfl (Qs rfl (Qs rfl (Qs rfl (Qs rfl (Qs rfl (Qp rfl rfl ?_)))))))))
    refine hK _ _ (Qb (kp5 rfl rfl rfl rfl rfl) ?_)
    refine Zv rfl (Qf fun K hK => Qa rfl (Qa rfl ?_))
    refine hK _ _ (Qb (kp2 rfl rfl) ?_)
    refine Qu (Qk ?_)
    rw [Qen (by omega)]
    exact QT rfl rfl ⟨rfl, rfl⟩
   ·try rw [h3]
    try simp only [qa, qb, qc, qd, qe, List.length_map] at h3
    refine Qj rfl (Qa rfl (Qj rfl (Qh rfl rfl (Qj rfl (QA rfl rfl rfl (Qj rfl (Qa rfl (Qj rfl (QJ rfl rfl rfl (by omega) (ZC (by omega) (by omega)) rfl (Qj rfl (Q6 rfl rfl ?_)))))))))))
    refine Qj rfl (QA rfl rfl rfl (Qj rfl ?_))
    first | refine QR rfl QU ?_ | refine QR rfl rfl ?_
    refine Qj rfl (QeX rfl rfl (Qp rfl rfl ?_))
    refine hK _ _ (Qb (kp5 rfl rfl rfl rfl rfl) ?_)
    refine Qw rfl (fun h4 => ?_) (fun h4 => ?_)
    ·try rw [h4]
     try simp only [qa, qb, qc, qd, qe, List.length_map] at h4
     refine Qf fun K hK => Qa rfl (Qa rfl ?_)
     refine hK _ _ (Qb (kp2 rfl rfl) ?_)
     refine Qu (Qk ?_)
     rw [Qlo (by omega) (by omega) (by omega)]
     exact QT rfl rfl ⟨rfl, rfl⟩
    ·try rw [h4]
     try simp only [qa, qb, qc, qd, qe, List.length_map] at h4
     refine Qv (Qd (kp4 rfl rfl rfl rfl) (Qf fun K hK => Qa rfl (Qa rfl (Qic rfl (Qfo (by omega) (by have := hw.cs _ (List.getElem_mem (show u.toNat < w.length by omega)); omega)) (Qpj rfl rfl (by omega) rfl (Qa rfl (QI (ZT hl) rfl rfl (.inr rfl) (Q1 rfl rfl rfl (QX rfl rfl (ZD rfl ?_))))))))))
     refine Q7 rfl rfl rfl rfl rfl rfl rfl rfl ?_
     refine hK _ _ (Qb (kp3 rfl rfl rfl) ?_)
     refine QB ?_ -- 1
     refine Qf fun K hK => QH (cs := [_]) rfl rfl rfl rfl (Qa rfl (QH (cs := [_, _, _, _]) rfl rfl rfl rfl (QI (QcT (s := QpA l u p) hw hl) rfl rfl (.inr rfl) (Yp rfl ?_))))
     refine hK _ _ (Qb (kp3 rfl rfl rfl) ?_)
     refine Qw rfl (fun h5 => ?_) (fun h5 => ?_)
     ·try rw [h5]
      try simp only [qa, qb, qc, qd, qe, List.length_map] at h5
      refine Qf fun K hK => Qa rfl (Qa rfl ?_)
      refine hK _ _ (Qb (kp2 rfl rfl) ?_)
      refine Qu (Qk ?_)
      rw [Qmb h5]
      exact QT rfl rfl ⟨rfl, rfl⟩
     ·try rw [h5]
      try simp only [qa, qb, qc, qd, qe, List.length_map] at h5
      refine Qv (Qd (kp2 rfl rfl) (Qf fun K hK => Qa rfl (Qef (ds0 := [2, 1]) rfl rfl (fun _ h => ⟨Qi7, h⟩) rfl (.inl rfl) (by simp) (by simp; omega) (by simp; omega) rfl rfl (QN (ds0 := [3, 2, 1]) (cs := [_, _, _, _]) rfl rfl rfl rfl rfl rfl (QC rfl rfl (Qba (ds0 := [1]) rfl rfl (by simp [D.ids, D.sid]) ⟨_, rfl, rfl, rfl, rfl, rfl⟩ rfl rfl (by simp) rfl rfl (by simp; omega) (by simp; omega) rfl rfl (Qa rfl (Qa rfl ?_))))))))
      refine hK _ _ (Qb (kp2 rfl rfl) ?_)
      refine Qu ?_
      rw [Qlr (by omega) (by omega) (by omega) (by omega) h5]
      exact Qf9 rfl rfl rfl (by simp) (by simp [Zz, Qhn, QpA]; rfl) rfl rfl
theorem QcR {w : Qn} (hw : WSm w) {l : List QQ} (hl : l.length <= 10000000) {inc : List TermT} (hi : inc.length <= 1000000) : Ok Tryz.prog 45 [Z4 w, Zz l, ZE inc] (.bool (Qf4 w l inc)) := by
 refine Ok.ofT Z1 Tryz.func45 Qsh (Nat.le_of_ble_eq_true rfl) ?_
 show TW _ _ tf45.body _ _
 refine Qf fun K hK => Zx rfl rfl rfl (Qa rfl ?_)
 refine hK _ _ (Qb (kp3 rfl rfl rfl) ?_)
 refine QB ?_ -- 0
 refine Qf fun K hK => Qa rfl ?_
 refine hK _ _ (Qb (kp4 rfl rfl rfl rfl) ?_)
 refine Qz ?_
 refine Zk (ι := Nat) (fun i => ⟨[(1, Zz l), (2, ZE inc), (3, .ref 3 0 0), (7, .int .i64 i)], [(3, ⟨[[.sl ((w).map Yq)]], 1, 26, true⟩)]⟩) (fun i => i <= inc.length /\ (inc.take i).all (fun t => decide (ZQ (Zh w l t.u) t.m = 2)) = true) (fun i => inc.length - i) 0 ?_ ?_ ?_
 ·exact Q2 (l := [1, 2, 3, 7]) (lH := [3]) (kp4 rfl rfl rfl rfl) (Qe rfl Ql) rfl rfl rfl
 ·exact ⟨Nat.zero_le _, by simp⟩
 intro i hI
 try dsimp only
 refine QB ?_ -- 1
 refine Qf fun K hK => Qa rfl (Qa rfl ?_)
 first | refine QR rfl QU ?_ | refine QR rfl rfl ?_
 refine Z8 rfl rfl ?_
 refine hK _ _ (Qb (kp5 rfl rfl rfl rfl rfl) ?_)
 refine Qw rfl (fun h1 => ?_) (fun h1 => ?_)
 ·try rw [h1]
  try simp only [qa, qb, qc, qd, qe, List.length_map] at h1
  refine Qv (Qd (kp4 rfl rfl rfl rfl) ?_)
  refine QB ?_ -- 2
  refine Qz (Qf fun K hK => QN (ds0 := [7, 1, 0]) (cs := [_]) rfl rfl rfl rfl rfl rfl (Qa rfl (Qa rfl (Qa rfl (QJ rfl rfl rfl (by omega) (QS (by omega)) rfl (Q6 rfl rfl (QO (ds0 := [7, 1, 0]) rfl rfl rfl rfl rfl (QV (ds0 := [1, 0]) (ZA hw hl) rfl rfl (.inr rfl) rfl rfl (Qa rfl (Qa rfl ?_))))))))))
  refine QJ rfl rfl rfl (by omega) (QS (by omega)) rfl (Q6 rfl rfl (QO (ds0 := [1, 0]) rfl rfl rfl rfl rfl (QV (ds0 := [0]) (YO) rfl rfl (.inr rfl) rfl rfl (XM rfl rfl ?_))))
  refine hK _ _ (Qb (kp5 rfl rfl rfl rfl rfl) ?_)
  refine Qw rfl (fun h2 => ?_) (fun h2 => ?_)
  ·try rw [h2]
   try simp only [qa, qb, qc, qd, qe, List.length_map] at h2
   refine Qf fun K hK => Qa rfl ?_
   refine hK _ _ (Qb (kp1 rfl) ?_)
   refine Qu (Qr (Qk (Q4 (Qr (Qk (Qt rfl ?_))))))
   rw [Qf4, XN (i := i) (by omega) (by simpa using h2)]
  ·try rw [h2]
   try simp only [qa, qb, qc, qd, qe, List.length_map] at h2
   refine Qv (Qg (Qd (kp4 rfl rfl rfl rfl) (QL fun K hK => Qa rfl (Q1 rfl rfl (by first | exact Qq (by omega) (by omega) | rfl) (Qa rfl (hK _ ?_))))))
   refine Qi (i + 1) ?_ ?_ ?_
   ·exact Q2 (l := [1, 2, 3, 7]) (lH := [3]) (kp4 rfl rfl rfl rfl) (Qe rfl Ql) rfl rfl rfl
   ·exact ⟨by omega, Yf (by omega) hI.2 (by simpa using h2)⟩
   ·first | omega | (simp only; omega) | (dsimp only; omega)
 ·try rw [h1]
  try simp only [qa, qb, qc, qd, qe, List.length_map] at h1
  refine Zi (QK (Qx (QD (Qd (Q8) (Qf fun K hK => Qa rfl ?_)))))
  refine hK _ _ (Qb (kp1 rfl) ?_)
  refine Qu (Qt rfl ?_)
  rw [Qf4, XC (i := i) (by omega) hI.2]
theorem QcS {w : Qn} (hw : WSm w) {l : List QQ} (hl : l.length <= 10000000) {inc : List TermT} (hi : inc.length <= 1000000) : Ok Tryz.prog 46 [Z4 w, Zz l, ZE inc] (.int .i64 (Qe2 w l inc)) := by
 refine Ok.ofT Z1 Tryz.func46 Qsi (Nat.le_of_ble_eq_true rfl) ?_
 show TW _ _ tf46.body _ _
 refine Qf fun K hK => Zx rfl rfl rfl (Qa rfl ?_)
 refine hK _ _ (Qb (kp3 rfl rfl rfl) ?_)
 refine Qf fun K hK => Qa rfl ?_
 refine hK _ _ (Qb (kp4 rfl rfl rfl rfl) ?_)
 refine QB ?_ -- 0
 refine Qf fun K hK => Qa rfl ?_
 refine hK _ _ (Qb (kp5 rfl rfl rfl rfl rfl) ?_)
 refine Qz ?_
 refine Zk (ι := Nat × Int) (fun ⟨i, a⟩ => ⟨[(1, Zz l), (2, ZE inc), (3, .ref 3 0 0), (7, .int .i64 a), (8, .int .i64 i)], [(3, ⟨[[.sl ((w).map Yq)]], 1, 26, true⟩)]⟩) (fun ⟨i, a⟩ => i <= inc.length /\ ZR (Zh w l) inc (-1) = ZR (Zh w l) (inc.drop i) a) (fun ⟨i, a⟩ => inc.length - i) (0, -1) ?_ ?_ ?_
 ·exact Q2 (l := [1, 2, 3, 7, 8]) (lH := [3]) (kp5 rfl rfl rfl rfl rfl) (Qe rfl Ql) rfl rfl rfl
 ·exact ⟨Nat.zero_le _, by simp⟩
 intro ⟨i, a⟩ hI
 dsimp only at hI
 try dsimp only
 refine QB ?_ -- 1
 refine Qf fun K hK => Qa rfl (Qa rfl ?_)
 first | refine QR rfl QU ?_ | refine QR rfl rfl ?_
 refine Z8 rfl rfl ?_
 refine hK _ _ (Qb (kp6 rfl rfl rfl rfl rfl rfl) ?_)
 refine Qw rfl (fun h1 => ?_) (fun h1 => ?_)
 ·try rw [h1]
  try simp only [qa, qb, qc, qd, qe, List.length_map] at h1
  refine Qv (Qd (kp5 rfl rfl rfl rfl rfl) ?_)
  refine QB ?_ -- 2
  refine Qz (Qf fun K hK => QN (ds0 := [6, 0]) (cs := [_]) rfl rfl rfl rfl rfl rfl (Qa rfl (Qa rfl (Qa rfl (QJ rfl rfl rfl (by omega) (QS (by omega)) rfl (Q6 rfl rfl (QO (ds0 := [6, 0]) rfl rfl rfl rfl rfl (QV (ds0 := [0]) (ZA hw hl) rfl rfl (.inr rfl) rfl rfl (Qa rfl (Qa rfl ?_))))))))))
  refine QJ rfl rfl rfl (by omega) (QS (by omega)) rfl (Q6 rfl rfl (QO (ds0 := [0]) rfl rfl rfl rfl rfl (QV (ds0 := []) (YO) rfl rfl (.inr rfl) rfl rfl ?_)))
  refine hK _ _ (Qb (kp6 rfl rfl rfl rfl rfl rfl) ?_)
  refine Qz (Qf fun K hK => ZN rfl rfl (Qa rfl ?_))
  refine hK _ _ (Qb (kp7 rfl rfl rfl rfl rfl rfl rfl) ?_)
  refine Qw rfl (fun h2 => ?_) (fun h2 => ?_)
  ·try rw [h2]
   try simp only [qa, qb, qc, qd, qe, List.length_map] at h2
   refine Qf fun K hK => Qa rfl ?_
   refine hK _ _ (Qb (kp1 rfl) ?_)
   refine Qu (Qr (Qr (Qk (Q4 (Qr (Qk (QG rfl ?_)))))))
   rw [Qe2, hI.2, Qbw (by omega), if_pos h2]
  ·try rw [h2]
   try simp only [qa, qb, qc, qd, qe, List.length_map] at h2
   refine Qf fun K hK => ZN rfl rfl (Qa rfl ?_)
   refine hK _ _ (Qb (kp6 rfl rfl rfl rfl rfl rfl) ?_)
   refine Qw rfl (fun h3 => ?_) (fun h3 => ?_)
   ·try rw [h3]
    try simp only [qa, qb, qc, qd, qe, List.length_map] at h3
    refine QB ?_ -- 3
    refine Qf fun K hK => Qa rfl (QeX rfl rfl ?_)
    refine hK _ _ (Qb (kp5 rfl rfl rfl rfl rfl) ?_)
    refine Qw rfl (fun h4 => ?_) (fun h4 => ?_)
    ·try rw [h4]
     try simp only [qa, qb, qc, qd, qe, List.length_map] at h4
     refine Qf fun K hK => Qa rfl ?_
     refine hK _ _ (Qb (kp1 rfl) ?_)
     refine Qu (Qk (Qr (Qr (Qk (Q4 (Qr (Qk (QG rfl ?_))))))))
     rw [Qe2, hI.2, Qbw (by omega), if_neg h2, if_pos h3, if_pos h4]
    ·try rw [h4]
     try simp only [qa, qb, qc, qd, qe, List.length_map] at h4
     refine Qv (Qd (kp4 rfl rfl rfl rfl) (QL fun K hK => Qa rfl (Qa rfl (QJ rfl rfl rfl (by omega) (QS (by omega)) rfl (Q6 rfl rfl (QA rfl rfl rfl (Qa rfl (hK _ ?_))))))))
     refine Qg (Qg (Qd (kp5 rfl rfl rfl rfl rfl) (QL fun K hK => Qa rfl (Q1 rfl rfl (by first | exact Qq (by omega) (by omega) | rfl) (Qa rfl (hK _ ?_))))))
     refine Qi (i + 1, (inc[i]'(by omega)).u) ?_ ?_ ?_
     ·exact Q2 (l := [1, 2, 3, 7, 8]) (lH := [3]) (kp5 rfl rfl rfl rfl rfl) (Qe rfl Ql) rfl rfl rfl
     ·exact ⟨by omega, by rw [hI.2, Qbw (by omega), if_neg h2, if_pos h3, if_neg h4]⟩
     ·show inc.length - (i + 1) < inc.length - i; omega
   ·try rw [h3]
    try simp only [qa, qb, qc, qd, qe, List.length_map] at h3
    refine Qv (Qg (Qg (Qd (kp5 rfl rfl rfl rfl rfl) (QL fun K hK => Qa rfl (Q1 rfl rfl (by first | exact Qq (by omega) (by omega) | rfl) (Qa rfl (hK _ ?_)))))))
    refine Qi (i + 1, a) ?_ ?_ ?_
    ·exact Q2 (l := [1, 2, 3, 7, 8]) (lH := [3]) (kp5 rfl rfl rfl rfl rfl) (Qe rfl Ql) rfl rfl rfl
    ·exact ⟨by omega, by rw [hI.2, Qbw (by omega), if_neg h2, if_neg h3]⟩
    ·show inc.length - (i + 1) < inc.length - i; omega
 ·try rw [h1]
  try simp only [qa, qb, qc, qd, qe, List.length_map] at h1
  refine Zi (QK (Qx (QD (Qd (kp1 rfl) (Qf fun K hK => Qa rfl (Qa rfl ?_))))))
  refine hK _ _ (Qb (kp1 rfl) ?_)
  refine Qu (QG rfl ?_)
  rw [Qe2, hI.2, QiY (by omega)]
theorem QcQ {w : Qn} (hw : WSm w) {db : List (List TermT)} (hd : db.length <= 100000000) (hi : ∀ x ∈ db, x.length <= 1000000) {l : List QQ} (hl : l.length <= 10000000) : Ok Tryz.prog 17 [Z4 w, dDb db, Zz l] (.tup [.int .i64 (ZK w db l).1, .int .i64 (ZK w db l).2]) := by
 refine Ok.ofT Z1 Tryz.func17 QrW (Nat.le_of_ble_eq_true rfl) ?_
 show TW _ _ tf17.body _ _
 refine Qf fun K hK => Zx rfl rfl rfl (Qa rfl (Qa rfl ?_))
 refine hK _ _ (Qb (kp3 rfl rfl rfl) ?_)
 refine QB ?_ -- 0
 refine Qf fun K hK => Qa rfl ?_
 refine hK _ _ (Qb (kp4 rfl rfl rfl rfl) ?_)
 refine Qz ?_
 refine Zk (ι := Nat) (fun i => ⟨[(1, dDb db), (2, Zz l), (3, .ref 3 0 0), (8, .int .i64 i)], [(3, ⟨[[.sl ((w).map Yq)]], 1, 26, true⟩)]⟩) (fun i => i <= db.length /\ ZK w db l = YK w l i (db.drop i)) (fun i => db.length - i) 0 ?_ ?_ ?_
 ·exact Q2 (l := [1, 2, 3, 8]) (lH := [3]) (kp4 rfl rfl rfl rfl) (Qe rfl Ql) rfl rfl rfl
 ·exact ⟨Nat.zero_le _, rfl⟩
 intro i hI
 try dsimp only
 refine QB ?_ -- 1
 refine Qf fun K hK => Qa rfl (Qa rfl ?_)
 first | refine QR rfl QU ?_ | refine QR rfl rfl ?_
 refine Z8 rfl rfl ?_
 refine hK _ _ (Qb (kp5 rfl rfl rfl rfl rfl) ?_)
 refine Qw rfl (fun h1 => ?_) (fun h1 => ?_)
 ·try rw [h1]
  try simp only [qa, qb, qc, qd, qe, List.length_map] at h1
  refine Qv (Qd (kp4 rfl rfl rfl rfl) ?_)
  refine QB ?_ -- 2
  refine Qz ?_
  refine QB ?_ -- 3
  refine Qf fun K hK => QN (ds0 := [0]) (cs := [_]) rfl rfl rfl rfl rfl rfl (Qa rfl (Qa rfl (Qa rfl (QJ rfl rfl rfl (by omega) (QS (by omega)) rfl (QO (ds0 := [0]) rfl rfl rfl rfl rfl (QV (ds0 := []) (QcR hw hl (hi _ (List.getElem_mem (by omega)))) rfl rfl (.inr rfl) rfl rfl ?_))))))
  refine hK _ _ (Qb (kp5 rfl rfl rfl rfl rfl) ?_)
  refine Qw rfl (fun h2 => ?_) (fun h2 => ?_)
  ·try rw [h2]
   try simp only [qa, qb, qc, qd, qe, List.length_map] at h2
   refine Qf fun K hK => Qa rfl (Qa rfl (Qa rfl ?_))
   refine hK _ _ (Qb (kp2 rfl rfl) ?_)
   refine Qu (Qk (Qr (Qk (Q4 (Qr (Qk ?_))))))
   rw [hI.2, Qj4 (by omega), if_pos h2]
   exact QT rfl rfl ⟨rfl, rfl⟩
  ·try rw [h2]
   try simp only [qa, qb, qc, qd, qe, List.length_map] at h2
   refine Qv (Qd (kp4 rfl rfl rfl rfl) (Qf fun K hK => QN (ds0 := [1, 0]) (cs := [_]) rfl rfl rfl rfl rfl rfl (Qa rfl (Qa rfl (Qa rfl (QJ rfl rfl rfl (by omega) (QS (by omega)) rfl (QO (ds0 := [1, 0]) rfl rfl rfl rfl rfl (QV (ds0 := [0]) (QcS hw hl (hi _ (List.getElem_mem (by omega)))) rfl rfl (.inr rfl) rfl rfl (Qa rfl ?_)))))))))
   refine hK _ _ (Qb (kp5 rfl rfl rfl rfl rfl) ?_)
   refine Qf fun K hK => Qa rfl (QeX rfl rfl ?_)
   refine hK _ _ (Qb (kp6 rfl rfl rfl rfl rfl rfl) ?_)
   refine Qw rfl (fun h3 => ?_) (fun h3 => ?_)
   ·try rw [h3]
    try simp only [qa, qb, qc, qd, qe, List.length_map] at h3
    refine Qf fun K hK => Qa rfl (Qa rfl (Qa rfl (Qa rfl ?_)))
    refine hK _ _ (Qb (kp2 rfl rfl) ?_)
    refine Qu (Qr (Qk (Q4 (Qr (Qk ?_)))))
    rw [hI.2, Qj4 (by omega), if_neg (by rw [h2]; simp), if_pos h3]
    exact QT rfl rfl ⟨rfl, rfl⟩
   ·try rw [h3]
    try simp only [qa, qb, qc, qd, qe, List.length_map] at h3
    refine Qv (Qg (Qd (kp4 rfl rfl rfl rfl) (QL fun K hK => Qa rfl (Q1 rfl rfl (by first | exact Qq (by omega) (by omega) | rfl) (Qa rfl (hK _ ?_))))))
    refine Qi (i + 1) ?_ ?_ ?_
    ·exact Q2 (l := [1, 2, 3, 8]) (lH := [3]) (kp4 rfl rfl rfl rfl) (Qe rfl Ql) rfl rfl rfl
    ·exact ⟨by omega, by rw [hI.2, Qj4 (by omega), if_neg (by rw [h2]; simp), if_neg h3]⟩
    ·first | omega | (simp only; omega) | (dsimp only; omega)
 ·try rw [h1]
  try simp only [qa, qb, qc, qd, qe, List.length_map] at h1
  refine Zi (QK (Qx (QD (Qd (Q8) (Qf fun K hK => Qa rfl (Qa rfl ?_))))))
  refine hK _ _ (Qb (kp2 rfl rfl) ?_)
  refine Qu ?_
  rw [hI.2, Qow (by omega)]
  exact QT rfl rfl ⟨rfl, rfl⟩
end Go.Proofs
namespace M25
open Go Go.Abs M3
def Qma (w : Qn) (i : Nat) : List (List TermT) := ((Qb9 w).take i).map RowT.t
theorem QbN {w : Qn} {i : Nat} (h : i < (Qb9 w).length) : Qma w (i + 1) = Qma w i ++ [(Qb9 w)[i].t] := by
 rw [Qma, List.take_succ_eq_append_getElem h, List.map_append]; rfl
theorem Qks {w : Qn} {i : Nat} (h : (Qb9 w).length <= i) : Qma w i = mDB w := by rw [Qma, List.take_of_length_le h]; rfl
theorem Qkr (w : Qn) (i : Nat) : (Qma w i).length <= (Qb9 w).length := by rw [Qma, List.length_map]; exact List.length_take_le' ..
theorem Qkh {w : Qn} (hw : WSm w) (h0 : 0 < w.length) : (Qb9 w).length <= 1600000 := by
 have := (Qcj hw h0 w.length (Nat.le_refl _)).2
 have := hw.len
 rw [Qb9]; omega
def QpC (w : Qn) (l : List Int) (j : Nat) : TermT := ⟨mPl (l.getD (2 * j) 0) w.length, 1 + mPl (l.getD (2 * j + 1) 0) (ZW w (mPl (l.getD (2 * j) 0) w.length))⟩
def QfP (w : Qn) (l : List Int) : Nat -> List TermT
 | 0 => []
 | j + 1 => QfP w l j ++ [QpC w l j]
theorem Qb2 (w : Qn) (l : List Int) : ∀ j, (QfP w l j).length = j
 | 0 => rfl
 | j + 1 => by rw [QfP, List.length_append, Qb2 w l j]; rfl
theorem Qqu (w : Qn) (l : List Int) (j : Nat) : QfP w l (j + 1) = QfP w l j ++ [QpC w l j] := rfl
def QmI (w : Qn) (l : List Int) : List TermT := (Qa5 w (QfP w l (min 4 (l.length / 2)))).getD []
theorem QpI (w : Qn) (l : List Int) : IncOk w (QmI w l) := by
 unfold QmI
 cases h : Qa5 w (QfP w l (min 4 (l.length / 2))) with
 | none => exact IncOk.nil w
 | some t => exact QdS h
theorem Qml {l : List Int} {k : Int} {j : Nat} (e : k.toNat = j) (h : j < l.length) : l[k.toNat]'(by omega) = l.getD j 0 := by
 subst e; rw [List.getD_eq_getElem?_getD, List.getElem?_eq_getElem h]; rfl
theorem Qn2 {w : Qn} {l : List Int} {j : Nat} (h : 2 * j + 1 < l.length) : QpC w l j = ⟨mPl (l[(2 * (j : Int)).toNat]'(by omega)) w.length, 1 + mPl (l[(2 * (j : Int) + 1).toNat]'(by omega)) (ZW w (mPl (l[(2 * (j : Int)).toNat]'(by omega)) w.length))⟩ := by
 rw [Qml (j := 2 * j) (by omega) (by omega), Qml (j := 2 * j + 1) (by omega) (by omega)]; rfl
theorem QoH (v : Int) {n : Int} (h : n <= 131071) : IntKind.i64.wrap (1 + mPl v n) = 1 + mPl v n := by
 have h0 := QiQ (v := v) (n := n)
 by_cases h1 : 1 <= n
 ·have := QiP (v := v) h1; exact Qq (by omega) (by omega)
 ·have : mPl v n = 0 := by rw [mPl, if_pos (by omega)]
  rw [this]; rfl
theorem Qnd {w : Qn} {db : List (List TermT)} : ∀ (n : Nat) (out : List QQ), (Qby w db n out).1.length <= out.length + n
 | 0, out => Nat.le_refl _
 | n + 1, out => by
  rw [Qby]
  split
  ·simp
  ·refine Nat.le_trans (Qnd n _) ?_
   have := QgC w out ⟨(ZK w db out).2, QbO w (db.getD (ZK w db out).1.toNat []) (ZK w db out).2⟩ (ZK w db out).1
   omega
theorem Qny {v : Int} (h : (v + 1).toNat <= 61) : IntKind.i64.wrap ((1 : Int) * 2 ^ min (v + 1).toNat IntKind.i64.bits) = 2 ^ (v + 1).toNat := by
 rw [show min (v + 1).toNat IntKind.i64.bits = (v + 1).toNat from by simp only [IntKind.bits]; omega, Int.one_mul]
 have := QhS (i := (v + 1).toNat) (by omega)
 exact Qq (by omega) (by omega)
theorem Qnk {α : Type} {f : α -> List D} {l : List α} {k : Int} (h : k = (l.length : Int)) : ((l.map f).take k.toNat).drop (((0 : Nat) : Int)).toNat = l.map f := by
 subst h; rw [Int.toNat_natCast, List.take_of_length_le (by simp)]; rfl
end M25
namespace Go.Proofs
open Go Go.Abs M3 M25
set_option linter.unusedVariables false
set_option linter.unusedSimpArgs false
theorem Qc6 {w : Qn} (hw : WSm w) {db : List (List TermT)} (hd : db.length <= 100000000) (hi : ∀ x ∈ db, x.length <= 1000000) {l : List QQ} (hl : l.length <= 1000000) : Ok Tryz.prog 15 [Z4 w, dDb db, Zz l] (.tup [Zz (XA w db l).1, .int .i64 (XA w db l).2]) := by
 refine Ok.ofT Z1 Tryz.func15 QrU (Nat.le_of_ble_eq_true rfl) ?_
 show TW _ _ tf15.body _ _
 have hn := hw.len
 refine Qf fun K hK => Zx rfl rfl rfl (Qa rfl (Qa rfl ?_))
 refine hK _ _ (Qb (kp3 rfl rfl rfl) ?_)
 refine Qf fun K hK => Qa rfl (QlW rfl rfl (fun _ h => Qlb Qi7 h) rfl (.inl rfl) (by simp) (by simp; omega) (by simp; omega) (Qa rfl ?_))
 refine hK _ _ (Qb (kp3 rfl rfl rfl) ?_)
 refine QB ?_ -- 0
 refine Qf fun K hK => Qa rfl ?_
 refine hK _ _ (Qb (kp4 rfl rfl rfl rfl) ?_)
 refine Qz ?_
 refine Zk (ι := Nat × List QQ) (fun ⟨n, out⟩ => ⟨[(1, dDb db), (3, .ref 3 0 0), (8, Zz out), (9, .int .i64 n)], [(3, ⟨[[.sl ((w).map Yq)]], 1, 26, true⟩)]⟩) (fun ⟨n, out⟩ => n <= w.length * 18 + 1 /\ out.length <= l.length + n /\ XA w db l = Qby w db (w.length * 18 + 1 - n) out) (fun ⟨n, out⟩ => w.length * 18 + 1 - n) (0, l) ?_ ?_ ?_
 ·exact le_trans (QfQ (l := [1, 3, 9]) (lH := [3]) 13 8 (kp3 rfl rfl rfl) (Qe rfl Ql) rfl rfl rfl (by simp) rfl rfl rfl rfl) (Q2 (l := [1, 3, 8, 9]) (lH := [3]) (kp4 rfl rfl rfl rfl) (Qe rfl Ql) rfl rfl rfl)
 ·exact ⟨Nat.zero_le _, Nat.le_refl _, rfl⟩
 intro ⟨n, out⟩ hI
 obtain ⟨hI1, hI2, hI3⟩ := hI
 try dsimp only at hI1 hI2 hI3
 try dsimp only
 refine QB ?_ -- 1
 refine Qf fun K hK => Qa rfl (Qh rfl rfl (QA rfl rfl rfl ?_))
 first | refine QR rfl QU ?_ | refine QR rfl rfl ?_
 refine Qpi rfl rfl (by first | exact Qq (by omega) (by omega) | rfl) (QoK rfl rfl ?_)
 refine hK _ _ (Qb (kp5 rfl rfl rfl rfl rfl) ?_)
 refine Qw rfl (fun h1 => ?_) (fun h1 => ?_)
 ·try rw [h1]
  try simp only [qa, qb, qc, qd, qe, List.length_map] at h1
  refine Qv (Qd (kp4 rfl rfl rfl rfl) ?_)
  refine QB ?_ -- 2
  refine Qz (Qf fun K hK => QH (cs := [_]) rfl rfl rfl rfl (Qa rfl (Qa rfl (QI (QcQ hw hd hi (by omega)) rfl rfl (.inl rfl) (Qa rfl (QW rfl rfl (QW rfl rfl (Qa rfl (Qa rfl ?_)))))))))
  refine hK _ _ (Qb (kp6 rfl rfl rfl rfl rfl rfl) ?_)
  refine QB ?_ -- 3
  refine Qf fun K hK => Qa rfl (Z8 rfl rfl ?_)
  refine hK _ _ (Qb (kp7 rfl rfl rfl rfl rfl rfl rfl) ?_)
  refine Qw rfl (fun h2 => ?_) (fun h2 => ?_)
  ·try rw [h2]
   try simp only [qa, qb, qc, qd, qe, List.length_map] at h2
   try have hu := Qi9 h2
   refine Qf fun K hK => Qa rfl (Qa rfl (Qa rfl (Qa rfl ?_)))
   refine hK _ _ (Qb (kp2 rfl rfl) ?_)
   refine Qu (Qk (Qr (Qk (Q4 (Qr (Qk ?_))))))
   rw [hI3, QcC h2 (by omega)]
   exact QT rfl rfl ⟨rfl, rfl⟩
  ·try rw [h2]
   try simp only [qa, qb, qc, qd, qe, List.length_map] at h2
   try have hu := Qi9 h2
   refine Qv (Qd (kp6 rfl rfl rfl rfl rfl rfl) (QL fun K hK => QN (ds0 := [4, 3, 2, 1, 0]) (cs := [_]) rfl rfl rfl rfl rfl rfl (Qa rfl (Qa rfl (QN (ds0 := [7, 6, 4, 3, 2, 1, 0]) (cs := [_]) rfl rfl rfl rfl rfl rfl (Qa rfl (Qa rfl (QJ rfl rfl rfl (by omega) (ZC (by omega) (by omega)) rfl (QO (ds0 := [7, 6, 4, 3, 2, 1, 0]) rfl rfl rfl rfl rfl (Qa rfl ?_))))))))))
   refine QV (ds0 := [6, 4, 3, 2, 1, 0]) (Yr hw (hi _ (List.getElem_mem (by omega)))) rfl rfl (.inr rfl) rfl rfl (QX rfl rfl (Qa rfl (QV (ds0 := [3, 2, 1, 0]) (QbM (t := ⟨(ZK w db out).2, QbO w (db[(ZK w db out).1.toNat]'(by omega)) (ZK w db out).2⟩) hw (by omega)) rfl rfl (.inl rfl) rfl rfl (Qa rfl (QW rfl rfl (QW rfl rfl (Qa rfl (hK _ ?_))))))))
   refine Qg (Qd (kp4 rfl rfl rfl rfl) (QL fun K hK => Qa rfl (Q1 rfl rfl (by first | exact Qq (by omega) (by omega) | rfl) (Qa rfl (hK _ ?_)))))
   refine Qi (n + 1, (Yo w out ⟨(ZK w db out).2, QbO w (db[(ZK w db out).1.toNat]'(by omega)) (ZK w db out).2⟩ (ZK w db out).1).getD []) ?_ ?_ ?_
   ·exact Q2 (l := [1, 3, 8, 9]) (lH := [3]) (kp4 rfl rfl rfl rfl) (Qe rfl Ql) rfl rfl rfl
   ·exact ⟨by omega, by have := QgC w out ⟨(ZK w db out).2, QbO w (db[(ZK w db out).1.toNat]'(by omega)) (ZK w db out).2⟩ (ZK w db out).1; simp only; omega, by rw [hI3, Qk5 h2 (by omega) (by omega), show w.length * 18 + 1 - (n + 1) = w.length * 18 + 1 - n - 1 by omega]⟩
   ·show w.length * 18 + 1 - (n + 1) < w.length * 18 + 1 - n; omega
 ·try rw [h1]
  try simp only [qa, qb, qc, qd, qe, List.length_map] at h1
  refine Zi (QK (Qx (QD (Qd (kp1 rfl) (Qf fun K hK => Qa rfl (Qa rfl (Qa rfl ?_)))))))
  refine hK _ _ (Qb (kp2 rfl rfl) ?_)
  refine Qu ?_
  rw [hI3, show w.length * 18 + 1 - n = 0 by omega]
  exact QT rfl rfl ⟨rfl, rfl⟩
theorem Qds {w : Qn} (hw : WSm w) {l : List Int} (hL : ∀ x ∈ l, I64 x) (hl : l.length <= 1000000) : Ok Tryz.prog 38 [Z4 w, Zp l] (ZE (QmI w l)) := by
 refine Ok.ofT Z1 Tryz.func38 Qsa (Nat.le_of_ble_eq_true rfl) ?_
 show TW _ _ tf38.body _ _
 have hn := hw.len
 refine Qf fun K hK => Zx rfl rfl rfl (Qa rfl ?_)
 refine hK _ _ (Qb (kp2 rfl rfl) ?_)
 refine Qf fun K hK => Qa rfl ?_
 refine hK _ _ (Qb (kp3 rfl rfl rfl) ?_)
 refine Qgw (ι := Unit) (fun _ => ⟨[(2, .ref 2 0 0), (5, ZE (QfP w l (min 4 (l.length / 2))))], [(2, ⟨[[.sl ((w).map Yq)]], 1, 26, true⟩)]⟩) (fun _ => True) ?_ ?_
 ·skip
  refine Qf fun K hK => Qa rfl ?_
  refine hK _ _ (Qb (kp4 rfl rfl rfl rfl) ?_)
  refine Qz ?_
  refine Zk (ι := Nat) (fun j => ⟨[(1, Zp l), (2, .ref 2 0 0), (5, .osl 5 (QfP w l j).length), (6, .int .i64 (2 * (j : Int)))], [(2, ⟨[[.sl ((w).map Yq)]], 1, 26, true⟩), (5, ⟨(QfP w l j).map QdA, 2, 56, true⟩)]⟩) (fun j => j <= min 4 (l.length / 2)) (fun j => min 4 (l.length / 2) - j) 0 ?_ ?_ ?_
  ·exact le_trans (Yj 5 5 2 56 rfl rfl) (Q2 (l := [1, 2, 5, 6]) (lH := [2, 5]) (kp4 rfl rfl rfl rfl) (Qe rfl (Qe rfl Ql)) rfl rfl rfl)
  ·exact Nat.zero_le _
  intro j hI
  have hlen := Qb2 w l j
  try dsimp only
  refine QB ?_ -- 1
  refine Qf fun K hK => Qa rfl (Q1 rfl rfl (by first | exact Qq (by omega) (by omega) | rfl) (Qa rfl ?_))
  first | refine QR rfl QU ?_ | refine QR rfl rfl ?_
  refine Z8 rfl rfl (Qa rfl ?_)
  refine QE (g := 15) rfl (fun h1 => ?_) (fun h1 => ?_)
  ·try rw [h1]
   try simp only [qa, qb, qc, qd, qe, List.length_map] at h1
   refine Qj rfl (Qa rfl (Qj rfl (Z8 rfl rfl (Qp rfl rfl ?_))))
   refine hK _ _ (Qb (kp5 rfl rfl rfl rfl rfl) ?_)
   refine Qw rfl (fun h2 => ?_) (fun h2 => ?_)
   ·try rw [h2]
    try simp only [qa, qb, qc, qd, qe, List.length_map] at h2
    refine Qv (Qd (kp4 rfl rfl rfl rfl) ?_)
    refine QB ?_ -- 2
    refine Qz (Qf fun K hK => Qa rfl (Qa rfl (QJ rfl rfl rfl (by omega) (ZC (by omega) (by omega)) rfl (QO (ds0 := [1, 0]) rfl rfl rfl rfl rfl (Qh rfl rfl (QO (ds0 := [2, 1, 0]) rfl rfl rfl rfl rfl ?_))))))
    first | refine QR rfl QU ?_ | refine QR rfl rfl ?_
    refine QV (ds0 := [0]) (Z3 (by omega) (hL _ (List.getElem_mem (by omega)))) rfl rfl (.inr rfl) rfl rfl (Qa rfl ?_)
    refine hK _ _ (Qb (kp5 rfl rfl rfl rfl rfl) ?_)
    refine QL fun K hK => Qa rfl (Qa rfl (Qa rfl (Qa rfl (Q1 rfl rfl (by first | exact Qq (by omega) (by omega) | rfl) (QJ rfl rfl rfl (by omega) (ZC (by omega) (by omega)) rfl (QO (ds0 := [5, 4, 3, 2, 1, 0]) rfl rfl rfl rfl rfl (QN (ds0 := [6, 5, 4, 3, 2, 1, 0]) (cs := [_]) rfl rfl rfl rfl rfl rfl (Qa rfl (QV (ds0 := [5, 4, 3, 2, 1, 0]) (Zt hw) rfl rfl (.inr rfl) rfl rfl (QV (ds0 := [4, 3, 2, 1, 0]) (Z3 (by have := QdP w (mPl (l[(2 * (j : Int)).toNat]'(by omega)) w.length); omega) (hL _ (List.getElem_mem (by omega)))) rfl rfl (.inr rfl) rfl rfl ?_))))))))))
    refine Q1 rfl rfl (QoH _ (QdP _ _).2) (QX rfl rfl (QC rfl rfl (Qba (ds0 := [0]) rfl rfl (by simp [D.ids, D.sid]) ⟨_, rfl, rfl, rfl, rfl, rfl⟩ rfl rfl (by simp) rfl rfl (by simp; omega) (by simp; omega) rfl rfl (Qa rfl (hK _ ?_)))))
    refine Qg (Qd (kp4 rfl rfl rfl rfl) (QL fun K hK => Qa rfl (Q1 rfl rfl (by first | exact Qq (by omega) (by omega) | rfl) (Qa rfl (hK _ ?_)))))
    refine Qi (j + 1) ?_ ?_ ?_
    ·exact le_trans (QfR (l := [1, 2, 6]) (lH := [2]) 43 5 5 (kp3 rfl rfl rfl) (Qe rfl Ql) rfl rfl rfl rfl rfl rfl rfl) (Q2 (l := [1, 2, 5, 6]) (lH := [2, 5]) (kp4 rfl rfl rfl rfl) (Qe rfl (Qe rfl Ql)) (by simp only [List.cons.injEq, Prod.mk.injEq, D.int.injEq, D.osl.injEq, true_and, and_true, Qb2]; first | omega | (constructor <;> first | omega | rfl | (simp [Qb2]; done))) (by rw [Qqu, List.map_append, Qn2 (by omega)]; rfl) rfl)
    ·show j + 1 <= _; omega
    ·show min 4 (l.length / 2) - (j + 1) < min 4 (l.length / 2) - j; omega
   ·try rw [h2]
    try simp only [qa, qb, qc, qd, qe, List.length_map] at h2
    refine Zi (QK (Qx (QD ?_)))
    refine Yb () ?_ ?_
    ·exact le_trans (QfQ (l := [2]) (lH := [2]) 5 5 (kp1 rfl) (Qe rfl Ql) rfl rfl rfl (by first | (simp; done) | (simp; omega)) rfl rfl rfl rfl) (Q2 (l := [2, 5]) (lH := [2]) (kp2 rfl rfl) (Qe rfl Ql) (by rw [show min 4 (l.length / 2) = j by omega]; rfl) rfl rfl)
    ·exact trivial
  ·try rw [h1]
   try simp only [qa, qb, qc, qd, qe, List.length_map] at h1
   refine Qs rfl (Qs rfl (Qp rfl rfl ?_))
   refine hK _ _ (Qb (kp5 rfl rfl rfl rfl rfl) ?_)
   refine ZJ rfl (Zi (QK (Qx (QD ?_))))
   refine Yb () ?_ ?_
   ·exact le_trans (QfQ (l := [2]) (lH := [2]) 5 5 (kp1 rfl) (Qe rfl Ql) rfl rfl rfl (by first | (simp; done) | (simp; omega)) rfl rfl rfl rfl) (Q2 (l := [2, 5]) (lH := [2]) (kp2 rfl rfl) (Qe rfl Ql) (by rw [show min 4 (l.length / 2) = j by omega]; rfl) rfl rfl)
   ·exact trivial
 intro _ hJ
 try dsimp only
 refine Qf fun K hK => QH (cs := [_]) rfl rfl rfl rfl (Qa rfl (QI (XT hw (by rw [Qb2]; omega)) rfl rfl (.inl rfl) (Qa rfl (QW rfl rfl (QW rfl rfl (Qa rfl (Qa rfl ?_)))))))
 refine hK _ _ (Qb (kp1 rfl) ?_)
 refine Qf fun K hK => Qa rfl (Qa rfl ?_)
 refine hK _ _ (Qb (kp1 rfl) ?_)
 refine Qu (Yk rfl ?_)
 rfl
theorem QaX {w : Qn} (hw : WSm w) (h0 : 0 < w.length) : Ok Tryz.prog 30 [Z4 w, Zp []] (dDb (mDB w)) := by
 refine Ok.ofT Z1 Tryz.func30 QrK (Nat.le_of_ble_eq_true rfl) ?_
 show TW _ _ tf30.body _ _
 have hn := Qkh hw h0
 refine Qf fun K hK => Zx rfl rfl rfl (Qa rfl ?_)
 refine hK _ _ (Qb (kp2 rfl rfl) ?_)
 refine Qf fun K hK => QH (cs := [_]) rfl rfl rfl rfl (QI (Qad hw) rfl rfl (.inl rfl) (Qa rfl ?_))
 refine hK _ _ (Qb (kp3 rfl rfl rfl) ?_)
 refine Qf fun K hK => Qa rfl ?_
 refine hK _ _ (Qb (kp4 rfl rfl rfl rfl) ?_)
 refine QB ?_ -- 0
 refine Qf fun K hK => Qa rfl ?_
 refine hK _ _ (Qb (kp5 rfl rfl rfl rfl rfl) ?_)
 refine Qz ?_
 refine Zk (ι := Nat) (fun i => ⟨[(1, Zp []), (2, .ref 2 0 0), (5, Qpy (Qb9 w)), (6, .osl 6 (Qma w i).length), (7, .int .i64 i)], [(2, ⟨[[.sl ((w).map Yq)]], 1, 26, true⟩), (6, ⟨(Qma w i).map (fun t => [ZE t]), 1, 39, true⟩)]⟩) (fun i => i <= (Qb9 w).length) (fun i => (Qb9 w).length - i) 0 ?_ ?_ ?_
 ·exact le_trans (Yj 6 6 1 39 rfl rfl) (Q2 (l := [1, 2, 5, 6, 7]) (lH := [2, 6]) (kp5 rfl rfl rfl rfl rfl) (Qe rfl (Qe rfl Ql)) rfl rfl rfl)
 ·exact Nat.zero_le _
 intro i hI
 have hlen := Qkr w i
 try dsimp only
 refine QB ?_ -- 1
 refine Qf fun K hK => Qa rfl (Qa rfl ?_)
 first | refine QR rfl QU ?_ | refine QR rfl rfl ?_
 refine Z8 rfl rfl ?_
 refine hK _ _ (Qb (kp6 rfl rfl rfl rfl rfl rfl) ?_)
 refine Qw rfl (fun h1 => ?_) (fun h1 => ?_)
 ·try rw [h1]
  try simp only [qa, qb, qc, qd, qe, List.length_map, List.length_nil] at h1
  refine Qv (Qd (kp5 rfl rfl rfl rfl rfl) ?_)
  refine QB ?_ -- 2
  refine Qz (QL fun K hK => Qa rfl (Qa rfl (Qa rfl (QJ rfl rfl rfl (by omega) (QS (by omega)) rfl (Q6 rfl rfl (QA rfl rfl rfl (QC rfl rfl (Xl rfl rfl (fun _ h => Y5 rfl rfl rfl h) rfl (by simp) rfl rfl rfl (by simp; omega) (by simp; omega) (Qa rfl (hK _ ?_))))))))))
  refine Qg (Qd (kp5 rfl rfl rfl rfl rfl) (QL fun K hK => Qa rfl (Q1 rfl rfl (by first | exact Qq (by omega) (by omega) | rfl) (Qa rfl (hK _ ?_)))))
  refine Qi (i + 1) ?_ ?_ ?_
  ·exact Q2 (l := [1, 2, 5, 6, 7]) (lH := [2, 6]) (kp5 rfl rfl rfl rfl rfl) (Qe rfl (Qe rfl Ql)) (by first | (rw [QbN (by omega)]; done) | (rw [QbN (by omega)]; rfl) | (rw [QbN (by omega), List.length_append]; rfl) | (simp [QbN (by omega)]; done) | (simp [QbN (by omega)]; omega) | rfl) (by first | (rw [QbN (by omega)]; done) | (rw [QbN (by omega)]; rfl) | (rw [QbN (by omega), List.map_append]; rfl) | (simp [QbN (by omega)]; done) | rfl) rfl
  ·omega
  ·first | omega | (simp only; omega) | (dsimp only; omega)
 ·try rw [h1]
  try simp only [qa, qb, qc, qd, qe, List.length_map, List.length_nil] at h1
  refine Zi (QK (Qx (QD (Qd (kp3 rfl rfl rfl) ?_))))
  refine QB ?_ -- 3
  refine Qf fun K hK => Qa rfl ?_
  refine hK _ _ (Qb (kp4 rfl rfl rfl rfl) ?_)
  refine Qz ?_
  refine Zk (ι := Unit) (fun _ => ⟨[(1, Zp []), (2, .ref 2 0 0), (6, .osl 6 (mDB w).length), (8, .int .i64 0)], [(2, ⟨[[.sl ((w).map Yq)]], 1, 26, true⟩), (6, ⟨(mDB w).map (fun t => [ZE t]), 1, 39, true⟩)]⟩) (fun _ => True) (fun _ => 0) () ?_ ?_ ?_
  ·exact Q2 (l := [1, 2, 6, 8]) (lH := [2, 6]) (kp4 rfl rfl rfl rfl) (Qe rfl (Qe rfl Ql)) (by rw [Qks (by omega)]) (by rw [Qks (by omega)]) rfl
  ·trivial
  intro _ hJ
  try dsimp only
  refine QB ?_ -- 4
  refine Qf fun K hK => Qa rfl (Qa rfl ?_)
  first | refine QR rfl QU ?_ | refine QR rfl rfl ?_
  refine Z8 rfl rfl (Qa rfl ?_)
  refine QE (g := 31) rfl (fun h2 => ?_) (fun h2 => ?_)
  ·try rw [h2]
   try simp only [qa, qb, qc, qd, qe, List.length_map, List.length_nil] at h2
   exact absurd h2 (by decide)
  ·try rw [h2]
   try simp only [qa, qb, qc, qd, qe, List.length_map, List.length_nil] at h2
   refine Qs rfl (Qs rfl (Qs rfl (Qs rfl (Qs rfl (Qp rfl rfl ?_)))))
   refine hK _ _ (Qb (kp5 rfl rfl rfl rfl rfl) ?_)
   refine ZJ rfl (Zi (QK (Qx (QD (Qd (kp1 rfl) (Qf fun K hK => Qa rfl (Qa rfl ?_)))))))
   refine hK _ _ (Qb (kp1 rfl) ?_)
   refine Qu ?_
   exact QaF rfl rfl rfl (by simp) (by rfl)
theorem Qll {v : Int} (h0 : -1 <= v) (h1v : v <= 60) : Ok Tryz.prog 86 [.int .i64 v] (.int .i64 (2 ^ (v + 1).toNat)) := by
 refine Ok.ofT Z1 Tryz.func86 QsT (Nat.le_of_ble_eq_true rfl) ?_
 show TW _ _ tf86.body _ _
 refine Qf fun K hK => Qa rfl ?_
 refine hK _ _ (Qb (kp1 rfl) ?_)
 refine Qf fun K hK => Qa rfl (Q1 rfl rfl (by first | exact Qq (by omega) (by omega) | rfl) (Qpj rfl rfl (by omega) (Qny (by omega)) (Qa rfl ?_)))
 refine hK _ _ (Qb (kp1 rfl) ?_)
 refine Qu (QG rfl ?_)
 rfl
theorem Qlm {w : Qn} (hw : WSm w) {u : Int} : Ok Tryz.prog 85 [Z4 w, .int .i64 u] (.bool (inW w u)) := by
 refine Ok.ofT Z1 Tryz.func85 QsS (Nat.le_of_ble_eq_true rfl) ?_
 show TW _ _ tf85.body _ _
 refine Qf fun K hK => Zx rfl rfl rfl (Qa rfl ?_)
 refine hK _ _ (Qb (kp2 rfl rfl) ?_)
 refine Qf fun K hK => Qa rfl (QeX rfl rfl (Qa rfl ?_))
 refine QE (g := 7) rfl (fun h1 => ?_) (fun h1 => ?_)
 ·try rw [h1]
  try simp only [qa, qb, qc, qd, qe, List.length_map] at h1
  refine Qj rfl (Qa rfl (Qj rfl (Qh rfl rfl (Qj rfl (QA rfl rfl rfl (Qj rfl ?_))))))
  first | refine QR rfl QU ?_ | refine QR rfl rfl ?_
  refine Qj rfl (Z8 rfl rfl (Qp rfl rfl (Qa rfl ?_)))
  refine hK _ _ (Qb (kp1 rfl) ?_)
  refine Qu (Qt rfl ?_)
  first | rfl | (rw [Qbn (by omega)]; done) | (rw [inW, decide_eq_true h1, Bool.true_and])
 ·try rw [h1]
  try simp only [qa, qb, qc, qd, qe, List.length_map] at h1
  refine Qs rfl (Qs rfl (Qs rfl (Qs rfl (Qs rfl (Qp rfl rfl (Qa rfl ?_))))))
  refine hK _ _ (Qb (kp1 rfl) ?_)
  refine Qu (Qt rfl ?_)
  first | rfl | (rw [Qbn (by omega)]; done) | (rw [inW, decide_eq_true h1, Bool.true_and])
theorem Qdb {w : Qn} (hw : WSm w) {u : Int} : Ok Tryz.prog 63 [Z4 w, .int .i64 u] (.int .i64 (ZW w u)) := by
 refine Ok.ofT Z1 Tryz.func63 Qsx (Nat.le_of_ble_eq_true rfl) ?_
 show TW _ _ tf63.body _ _
 refine Qf fun K hK => Zx rfl rfl rfl (Qa rfl ?_)
 refine hK _ _ (Qb (kp2 rfl rfl) ?_)
 refine QB ?_ -- 0
 refine Qf fun K hK => QH (cs := [_]) rfl rfl rfl rfl (Qa rfl (QI (Qlm hw) rfl rfl (.inr rfl) (Yp rfl ?_)))
 refine hK _ _ (Qb (kp3 rfl rfl rfl) ?_)
 refine Qw rfl (fun h1 => ?_) (fun h1 => ?_)
 ·try rw [h1]
  try simp only [qa, qb, qc, qd, qe, List.length_map] at h1
  try have h1b := Qb1.1 h1
  refine Qf fun K hK => Qa rfl ?_
  refine hK _ _ (Qb (kp1 rfl) ?_)
  refine Qu (Qk (QG rfl ?_))
  rw [QdF.2 h1]
 ·try rw [h1]
  try simp only [qa, qb, qc, qd, qe, List.length_map] at h1
  try have h1b := Qb1.1 h1
  refine Qv (Qd (kp2 rfl rfl) (Qf fun K hK => Qh rfl rfl (QA rfl rfl rfl (Qa rfl (QJ rfl rfl rfl (by omega) (ZC (by omega) (by omega)) rfl (Q6 rfl rfl (QA rfl rfl rfl ?_)))))))
  first | refine QR rfl QU ?_ | refine QR rfl rfl ?_
  refine QI (Qll (by omega) (by have := hw.cs _ (List.getElem_mem (show u.toNat < w.length by omega)); omega)) rfl rfl (.inr rfl) (Qaq rfl rfl (Qjn (by have := hw.cs _ (List.getElem_mem (show u.toNat < w.length by omega)); omega)) (Qa rfl ?_))
  refine hK _ _ (Qb (kp1 rfl) ?_)
  refine Qu (QG rfl ?_)
  rw [Qfh h1b.1 h1b.2, show min (w[u.toNat]'(by omega)).cs.length 16 = (w[u.toNat]'(by omega)).cs.length from Nat.min_eq_left (hw.cs _ (List.getElem_mem _)), Qnx]
theorem Qim {w : Qn} (hw : WSm w) {l : List QQ} (hl : l.length <= 10000000) {u : Int} : Ok Tryz.prog 88 [Z4 w, Zz l, .int .i64 u] (.int .i64 (Qcd w l u)) := by
 refine Ok.ofT Z1 Tryz.func88 QsV (Nat.le_of_ble_eq_true rfl) ?_
 show TW _ _ tf88.body _ _
 refine Qf fun K hK => Zx rfl rfl rfl (Qa rfl ?_)
 refine hK _ _ (Qb (kp3 rfl rfl rfl) ?_)
 refine QB ?_ -- 0
 refine Qf fun K hK => Qa rfl ?_
 first | refine QR rfl QU ?_ | refine QR rfl rfl ?_
 refine Qaq rfl rfl (by first | exact Qq (by omega) (by omega) | rfl) (Qa rfl ?_)
 refine hK _ _ (Qb (kp4 rfl rfl rfl rfl) ?_)
 refine Qz ?_
 refine Zk (ι := Nat) (fun i => ⟨[(1, Zz l), (2, .int .i64 u), (3, .ref 3 0 0), (7, .int .i64 ((i : Int) - 1))], [(3, ⟨[[.sl ((w).map Yq)]], 1, 26, true⟩)]⟩) (fun i => i <= l.length /\ Qcd w l u = Qcd w (l.take i) u) (fun i => i) l.length ?_ ?_ ?_
 ·exact Q2 (l := [1, 2, 3, 7]) (lH := [3]) (kp4 rfl rfl rfl rfl) (Qe rfl Ql) rfl rfl rfl
 ·exact ⟨Nat.le_refl _, by rw [List.take_length]⟩
 intro i hI
 try dsimp only
 refine QB ?_ -- 1
 refine Qf fun K hK => Qa rfl (QeX rfl rfl ?_)
 refine hK _ _ (Qb (kp5 rfl rfl rfl rfl rfl) ?_)
 refine Qw rfl (fun h1 => ?_) (fun h1 => ?_)
 ·try rw [h1]
  try simp only [qa, qb, qc, qd, qe, List.length_map] at h1
  refine Qv (Qd (kp4 rfl rfl rfl rfl) ?_)
  refine QB ?_ -- 2
  refine Qz (Qf fun K hK => Qa rfl (Qa rfl (QJ rfl rfl rfl (by omega) (ZC (by omega) (by omega)) rfl (Q6 rfl rfl (QA rfl rfl rfl (Qa rfl (ZN rfl rfl ?_)))))))
  refine hK _ _ (Qb (kp5 rfl rfl rfl rfl rfl) ?_)
  refine Qw rfl (fun h2 => ?_) (fun h2 => ?_)
  ·try rw [h2]
   try simp only [qa, qb, qc, qd, qe, List.length_map] at h2
   refine Qf fun K hK => Qa rfl (Qa rfl (QJ rfl rfl rfl (by omega) (ZC (by omega) (by omega)) rfl (Q6 rfl rfl (QA rfl rfl rfl (Qa rfl ?_)))))
   refine hK _ _ (Qb (kp1 rfl) ?_)
   refine Qu (Qr (Qk (Q4 (Qr (Qk (QG rfl ?_))))))
   rw [hI.2, QmC (k := ((i : Int) - 1).toNat) (by omega) (by omega) h2]
  ·try rw [h2]
   try simp only [qa, qb, qc, qd, qe, List.length_map] at h2
   refine Qv (Qg (Qd (kp4 rfl rfl rfl rfl) (QL fun K hK => Qa rfl (Qaq rfl rfl (by first | exact Qq (by omega) (by omega) | rfl) (Qa rfl (hK _ ?_))))))
   refine Qi (i - 1) ?_ ?_ ?_
   ·exact Q2 (l := [1, 2, 3, 7]) (lH := [3]) (kp4 rfl rfl rfl rfl) (Qe rfl Ql) (by simp only [List.cons.injEq, Prod.mk.injEq, D.int.injEq, and_true, true_and]; omega) rfl rfl
   ·exact ⟨by omega, by rw [hI.2, QlC (k := ((i : Int) - 1).toNat) (by omega) (by omega) h2]⟩
   ·first | omega | (simp only; omega) | (dsimp only; omega)
 ·try rw [h1]
  try simp only [qa, qb, qc, qd, qe, List.length_map] at h1
  refine Zi (QK (Qx (QD (Qd (kp2 rfl rfl) (Qf fun K hK => QH (cs := [_]) rfl rfl rfl rfl (Qa rfl (QI (Qdb hw) rfl rfl (.inr rfl) (Qa rfl ?_))))))))
  refine hK _ _ (Qb (kp1 rfl) ?_)
  refine Qu (QG rfl ?_)
  rw [hI.2, show i = 0 by omega]; rfl
theorem Qil {w : Qn} (hw : WSm w) {l : List QQ} (hl : l.length <= 10000000) {u : Int} : Ok Tryz.prog 65 [Z4 w, Zz l, .int .i64 u] (.int .i64 (Zh w l u)) := by
 refine Ok.ofT Z1 Tryz.func65 Qsz (Nat.le_of_ble_eq_true rfl) ?_
 show TW _ _ tf65.body _ _
 refine Qf fun K hK => Zx rfl rfl rfl (Qa rfl ?_)
 refine hK _ _ (Qb (kp3 rfl rfl rfl) ?_)
 refine QB ?_ -- 0
 refine Qf fun K hK => QH (cs := [_]) rfl rfl rfl rfl (Qa rfl (QI (Qdb hw) rfl rfl (.inr rfl) (ZN rfl rfl ?_)))
 refine hK _ _ (Qb (kp4 rfl rfl rfl rfl) ?_)
 refine Qw rfl (fun h1 => ?_) (fun h1 => ?_)
 ·try rw [h1]
  try simp only [qa, qb, qc, qd, qe, List.length_map] at h1
  refine Qf fun K hK => Qa rfl ?_
  refine hK _ _ (Qb (kp1 rfl) ?_)
  refine Qu (Qk (QG rfl ?_))
  rw [QdM (QdF.1 h1)]
 ·try rw [h1]
  try simp only [qa, qb, qc, qd, qe, List.length_map] at h1
  refine Qv (Qd (kp3 rfl rfl rfl) (Qf fun K hK => QH (cs := [_]) rfl rfl rfl rfl (Qa rfl (Qa rfl (QI (Qim hw hl) rfl rfl (.inr rfl) (Qa rfl ?_))))))
  refine hK _ _ (Qb (kp1 rfl) ?_)
  refine Qu (QG rfl ?_)
  rw [Qn8 (by simpa using fun e => h1 (QdF.2 e))]
theorem Qhj {l : List QQ} (hl : l.length <= 10000000) : Ok Tryz.prog 67 [Zz l] (.int .i64 (YY l)) := by
 refine Ok.ofT Z1 Tryz.func67 QsB (Nat.le_of_ble_eq_true rfl) ?_
 show TW _ _ tf67.body _ _
 refine Qf fun K hK => Qa rfl ?_
 refine hK _ _ (Qb (kp1 rfl) ?_)
 refine QB ?_ -- 0
 refine Qf fun K hK => Qa rfl ?_
 first | refine QR rfl QU ?_ | refine QR rfl rfl ?_
 refine ZN rfl rfl ?_
 refine hK _ _ (Qb (kp2 rfl rfl) ?_)
 refine Qw rfl (fun h1 => ?_) (fun h1 => ?_)
 ·try rw [h1]
  try simp only [qa, qb, qc, qd, qe, List.length_map] at h1
  refine Qf fun K hK => Qa rfl ?_
  refine hK _ _ (Qb (kp1 rfl) ?_)
  refine Qu (Qk (QG rfl ?_))
  rw [QiJ h1]
 ·try rw [h1]
  try simp only [qa, qb, qc, qd, qe, List.length_map] at h1
  refine Qv (Qd (kp1 rfl) (Qf fun K hK => Qa rfl (Qa rfl ?_)))
  first | refine QR rfl QU ?_ | refine QR rfl rfl ?_
  refine Qaq rfl rfl (by first | exact Qq (by omega) (by omega) | rfl) (QJ rfl rfl rfl (by omega) (ZC (by omega) (by omega)) rfl (Q6 rfl rfl (QA rfl rfl rfl (Qa rfl ?_))))
  refine hK _ _ (Qb (kp1 rfl) ?_)
  refine Qu (QG rfl ?_)
  rw [QkJ (k := ((l.length : Int) - 1).toNat) (by omega)]
theorem Qln {l : List QQ} (hl : l.length <= 10000000) {s : QQ} : Ok Tryz.prog 66 [Zz l, .agg (Qhn s)] (Zz (l ++ [s])) := by
 refine Ok.ofT Z1 Tryz.func66 QsA (Nat.le_of_ble_eq_true rfl) ?_
 show TW _ _ tf66.body _ _
 refine Qf fun K hK => Zx rfl rfl rfl (Qa rfl ?_)
 refine hK _ _ (Qb (kp2 rfl rfl) ?_)
 refine Qf fun K hK => Qa rfl (Qa rfl ?_)
 first | refine QR rfl QU ?_ | refine QR rfl rfl ?_
 refine Qa rfl ?_
 first | refine QR rfl QU ?_ | refine QR rfl rfl ?_
 refine QnH rfl rfl rfl rfl rfl (by omega) (by omega) (by simp) Qi7 (Qnk rfl) (QN (ds0 := [2, 1, 0]) (cs := [_, _, _, _]) rfl rfl rfl rfl rfl rfl (QC rfl rfl (Qef (ds0 := [0]) rfl rfl (fun _ h => Y5 rfl rfl rfl h) rfl (.inr (by simp)) Qi7 (by simp; omega) (by simp; omega) rfl rfl (Qa rfl ?_))))
 refine hK _ _ (Qb (kp1 rfl) ?_)
 refine Qu ?_
 exact QaF rfl rfl rfl (by simp) (by simp [Zz, Qhn])
theorem Qgp {w : Qn} (hw : WSm w) {l : List QQ} (hl : l.length <= 10000000) (hp : Xv w l) {t : TermT} {c : Int} : Ok Tryz.prog 43 [Z4 w, Zz l, .agg (QdA t), .int .i64 c] (dOS (Yo w l t c)) := by
 refine Ok.ofT Z1 Tryz.func43 Qsf (Nat.le_of_ble_eq_true rfl) ?_
 show TW _ _ tf43.body _ _
 refine Qf fun K hK => Zx rfl rfl rfl (Zx rfl rfl rfl (Qa rfl (Qa rfl ?_)))
 refine hK _ _ (Qb (kp4 rfl rfl rfl rfl) ?_)
 refine Qf fun K hK => QH (cs := [_]) rfl rfl rfl rfl (Qa rfl (Qh rfl rfl (QA rfl rfl rfl (QI (Qil hw hl) rfl rfl (.inr rfl) (Qa rfl ?_)))))
 refine hK _ _ (Qb (kp4 rfl rfl rfl rfl) ?_)
 refine QB ?_ -- 0
 refine Qf fun K hK => Qa rfl (Z8 rfl rfl (Qa rfl ?_))
 refine QE (g := 18) rfl (fun h1 => ?_) (fun h1 => ?_)
 ·try rw [h1]
  try simp only [qa, qb, qc, qd, qe, List.length_map] at h1
  refine Qs rfl (Qs rfl (Qs rfl (Qs rfl (Qs rfl (Qp rfl rfl (Qa rfl (Qs rfl (Qs rfl (Qs rfl (Qs rfl (Qs rfl ?_)))))))))))
  refine Qp rfl rfl ?_
  refine hK _ _ (Qb (kp5 rfl rfl rfl rfl rfl) ?_)
  refine Zv rfl (Qf fun K hK => Qa rfl (Qa rfl ?_))
  refine hK _ _ (Qb (kp2 rfl rfl) ?_)
  refine Qu (Qk ?_)
  rw [Qcq (.inl h1)]
  exact QT rfl rfl ⟨rfl, rfl⟩
 ·try rw [h1]
  try simp only [qa, qb, qc, qd, qe, List.length_map] at h1
  refine Qj rfl (Qa rfl (Qj rfl (Qh rfl rfl (Qj rfl (QA rfl rfl rfl (Qj rfl (Qee rfl rfl (Qj rfl (ZN rfl rfl (Qp rfl rfl (Qa rfl ?_)))))))))))
  refine QE (g := 25) rfl (fun h2 => ?_) (fun h2 => ?_)
  ·try rw [h2]
   try simp only [qa, qb, qc, qd, qe, List.length_map] at h2
   refine Qs rfl (Qs rfl (Qs rfl (Qs rfl (Qs rfl (Qp rfl rfl ?_)))))
   refine hK _ _ (Qb (kp5 rfl rfl rfl rfl rfl) ?_)
   refine Zv rfl (Qf fun K hK => Qa rfl (Qa rfl ?_))
   refine hK _ _ (Qb (kp2 rfl rfl) ?_)
   refine Qu (Qk ?_)
   rw [Qmc hp h2]
   exact QT rfl rfl ⟨rfl, rfl⟩
  ·try rw [h2]
   try simp only [qa, qb, qc, qd, qe, List.length_map] at h2
   refine Qj rfl (Qa rfl (Qj rfl (Qh rfl rfl (Qj rfl (QA rfl rfl rfl (Qj rfl (Qe5 rfl rfl (Qj rfl (ZN rfl rfl (Qp rfl rfl ?_))))))))))
   refine hK _ _ (Qb (kp5 rfl rfl rfl rfl rfl) ?_)
   refine Qw rfl (fun h3 => ?_) (fun h3 => ?_)
   ·try rw [h3]
    try simp only [qa, qb, qc, qd, qe, List.length_map] at h3
    refine Qf fun K hK => Qa rfl (Qa rfl ?_)
    refine hK _ _ (Qb (kp2 rfl rfl) ?_)
    refine Qu (Qk ?_)
    rw [Qmd h3]
    exact QT rfl rfl ⟨rfl, rfl⟩
   ·try rw [h3]
    try simp only [qa, qb, qc, qd, qe, List.length_map] at h3
    refine Qv (Qd (kp4 rfl rfl rfl rfl) (Qf fun K hK => Qa rfl (Qh rfl rfl (QO (ds0 := [3, 2, 1]) rfl rfl rfl rfl rfl (Qa rfl (Qh rfl rfl (QO (ds0 := [7, 3, 2, 1]) rfl rfl rfl rfl rfl (Qe5 rfl rfl (Qa rfl (QV (ds0 := [3, 2, 1]) (Qhj hl) rfl rfl (.inr rfl) rfl rfl ?_))))))))))
    refine Qa rfl (QX rfl rfl (QV (ds0 := [1]) (Qln (s := ⟨t.u, Qe9 (Zh w l t.u) t.m, YY l, c⟩) hl) rfl rfl (.inl rfl) rfl rfl (Qa rfl (Qa rfl ?_))))
    refine hK _ _ (Qb (kp2 rfl rfl) ?_)
    refine Qu ?_
    rw [Qis hp (by omega) h2 h3]
    exact QT rfl rfl ⟨rfl, rfl⟩
end Go.Proofs
namespace M25
open Go Go.Abs M3
/-! ### prop: what is left of each unit, scans -/
def ZP (w : Qn) (l : List QQ) : List Int := (List.range w.length).map fun k => Zh w l ((k : Nat) : Int)
theorem Qa3 (w : Qn) (l : List QQ) : (ZP w l).length = w.length := by simp [ZP]
def Qdd (w : Qn) (i : Nat) : List Int := (List.range w.length).map fun k => if k < i then ZW w ((k : Nat) : Int) else 0
theorem QiF (w : Qn) (i : Nat) : (Qdd w i).length = w.length := by simp [Qdd]
theorem QlB (w : Qn) : Qdd w 0 = List.replicate w.length 0 := by
  refine List.ext_getElem (by simp [Qdd]) fun i h1 h2 => ?_
  simp [Qdd]
theorem QkE {w : Qn} {i : Nat} : Qdd w (i + 1) = (Qdd w i).set i (ZW w ((i : Nat) : Int)) := by
  refine List.ext_getElem (by simp [Qdd]) fun k h1 h2 => ?_
  rw [List.getElem_set]
  simp only [Qdd, List.getElem_map, List.getElem_range]
  by_cases e : i = k
  · subst e; simp
  · rw [if_neg e]
    by_cases h : k < i
    · rw [if_pos h, if_pos (by omega)]
    · rw [if_neg h, if_neg (by omega)]
theorem QiE (w : Qn) {i : Nat} (h : w.length <= i) : Qdd w i = ZP w [] := by
  refine List.ext_getElem (by simp [Qdd, ZP]) fun k h1 h2 => ?_
  simp only [Qdd, ZP, List.getElem_map, List.getElem_range]
  rw [QiF] at h1
  rw [if_pos (by omega)]; rfl
theorem QkH {w : Qn} {l : List QQ} {k : Nat} (h : k < (ZP w l).length) : (ZP w l)[k] = Zh w l ((k : Nat) : Int) := by simp [ZP]
theorem QgN {w : Qn} {l : List QQ} {s : QQ} (h0 : 0 <= s.u) (h1 : s.u < w.length) : ZP w (l ++ [s]) = (ZP w l).set s.u.toNat s.m := by
  refine List.ext_getElem (by simp [ZP]) fun k q1 q2 => ?_
  rw [List.getElem_set]
  simp only [ZP, List.getElem_map, List.getElem_range]
  rw [Qa3] at q1
  rw [Qak]
  by_cases e : s.u.toNat = k
  · rw [if_pos e, if_pos ⟨by omega, QfO (by omega) (by omega)⟩]
  · rw [if_neg e, if_neg (by intro h; exact e (by omega))]
theorem QlD {w : Qn} {l : List QQ} {s : QQ} (h : ¬ 0 <= s.u \/ ¬ s.u < w.length) : ZP w (l ++ [s]) = ZP w l := by
  refine List.ext_getElem (by simp [ZP]) fun k q1 q2 => ?_
  simp only [ZP, List.getElem_map, List.getElem_range]
  rw [Qa3] at q1
  rw [Qak, if_neg]
  rintro ⟨h1, _⟩
  omega
theorem QkI {w : Qn} {l : List QQ} {i : Nat} (h : i < l.length) (h0 : 0 <= l[i].u) (h1 : l[i].u < w.length) : ZP w (l.take (i + 1)) = (ZP w (l.take i)).set l[i].u.toNat l[i].m := by
  rw [List.take_succ_eq_append_getElem h, QgN h0 h1]
theorem Qfe {w : Qn} {l : List QQ} {i : Nat} (h : i < l.length) (hn : ¬ 0 <= l[i].u \/ ¬ l[i].u < w.length) : ZP w (l.take (i + 1)) = ZP w (l.take i) := by
  rw [List.take_succ_eq_append_getElem h, QlD hn]
def hAt (hv : List Int) (u : Int) : Int := if 0 <= u /\ u < hv.length then hv.getD u.toNat 0 else 0
theorem QoU {hv : List Int} {u : Int} (h0 : 0 <= u) (h1 : u < hv.length) : hAt hv u = hv[u.toNat]'(by omega) := by
  rw [hAt, if_pos ⟨h0, h1⟩, List.getD_eq_getElem?_getD, List.getElem?_eq_getElem (by omega)]; rfl
theorem QjJ {hv : List Int} {u : Int} (h : ¬ 0 <= u \/ ¬ u < hv.length) : hAt hv u = 0 := by
  rw [hAt, if_neg]; omega
theorem Qmt (w : Qn) (l : List QQ) : hAt (ZP w l) = Zh w l := by
  funext u
  by_cases h : 0 <= u /\ u < w.length
  · rw [QoU h.1 (by rw [Qa3]; exact h.2), QkH, Int.toNat_of_nonneg h.1]
  · rw [QjJ (by rw [Qa3]; omega), QdM]
    exact Qbn (by omega)
def X7 (h : Int -> Int) : List TermT -> Int -> Option Int
  | [], a => some a
  | t :: r, a => if QaL (h t.u) t.m = 0 then none else if QaL (h t.u) t.m = 1 then (if 0 <= a then none else X7 h r t.u) else X7 h r a
theorem Qfl {h : Int -> Int} {inc : List TermT} {a : Int} {i : Nat} (hi : i < inc.length) : X7 h (inc.drop i) a = if QaL (h inc[i].u) inc[i].m = 0 then none else if QaL (h inc[i].u) inc[i].m = 1 then (if 0 <= a then none else X7 h (inc.drop (i + 1)) inc[i].u) else X7 h (inc.drop (i + 1)) a := by
  rw [List.drop_eq_getElem_cons hi, X7]
theorem QmY {h : Int -> Int} {inc : List TermT} {a : Int} {i : Nat} (hi : inc.length <= i) : X7 h (inc.drop i) a = some a := by
  rw [List.drop_eq_nil_of_le hi, X7]
def Qdj (h : Int -> Int) : Nat -> List (List TermT) -> Int × Int
  | _, [] => (-1, -1)
  | i, x :: r => match X7 h x (-1) with
    | some u => ((i : Int), u)
    | none => Qdj h (i + 1) r
theorem Qnh {h : Int -> Int} {db : List (List TermT)} {i : Nat} (hi : i < db.length) (ho : (X7 h db[i] (-1)).isSome = true) : Qdj h i (db.drop i) = ((i : Int), (X7 h db[i] (-1)).getD 0) := by
  rw [List.drop_eq_getElem_cons hi, Qdj]
  cases hc : X7 h db[i] (-1) with
  | none => rw [hc] at ho; cases ho
  | some u => rfl
theorem Qov {h : Int -> Int} {db : List (List TermT)} {i : Nat} (hi : i < db.length) (ho : (X7 h db[i] (-1)).isSome = false) : Qdj h i (db.drop i) = Qdj h (i + 1) (db.drop (i + 1)) := by
  rw [List.drop_eq_getElem_cons hi, Qdj]
  cases hc : X7 h db[i] (-1) with
  | none => rfl
  | some u => rw [hc] at ho; cases ho
theorem Qng {h : Int -> Int} {db : List (List TermT)} {i : Nat} (hi : db.length <= i) : Qdj h i (db.drop i) = (-1, -1) := by rw [List.drop_eq_nil_of_le hi, Qdj]
theorem QeL (m : Int) : ZQ 0 m = 2 := by
  rw [ZQ, if_pos]
  exact Qcn.2 fun i hi => by rw [Qh4] at hi; cases hi
theorem Qgl (x m : Int) : ZQ x m = 0 \/ ZQ x m = 1 \/ ZQ x m = 2 := by
  unfold ZQ
  split
  · exact .inr (.inr rfl)
  · split
    · exact .inl rfl
    · exact .inr (.inl rfl)
theorem QeE {h : Int -> Int} (hI : ∀ u, I64 (h u)) (hneg : ∀ u, u < 0 -> h u = 0) : ∀ (l : List TermT) (a : Int), (a = -1 \/ 0 <= a) ->
    (∀ b, X7 h l a = some b -> ZR h l a = b /\ (b = a \/ (a = -1 /\ 0 <= b)) /\ (b = a -> ∀ t ∈ l, ZQ (h t.u) t.m = 2)) /\ (X7 h l a = none -> ZR h l a = -1 /\ ∃ t ∈ l, ZQ (h t.u) t.m ≠ 2)
  | [], a, ha => ⟨fun b hb => by simp only [X7, Option.some.injEq] at hb; subst hb; exact ⟨rfl, .inl rfl, by simp⟩, fun hb => by simp [X7] at hb⟩
  | t :: r, a, ha => by
    rw [X7, ZR, QoE (hI t.u)]
    rcases Qgl (h t.u) t.m with e | e | e
    · simp only [show (ZQ (h t.u) t.m = 0) = True from by rw [e]; simp, if_true]
      exact ⟨(fun b hb => by cases hb), fun _ => ⟨by first | rfl | trivial, t, by simp, by rw [e]; decide⟩⟩
    · simp only [show (ZQ (h t.u) t.m = 0) = False from by rw [e]; simp, show (ZQ (h t.u) t.m = 1) = True from by rw [e]; simp, if_true, if_false]
      have hu : 0 <= t.u := Classical.byContradiction fun hn => by
        rw [hneg t.u (by omega), QeL] at e; cases e
      by_cases h0 : 0 <= a
      · rw [if_pos h0, if_pos h0]
        exact ⟨(fun b hb => by cases hb), fun _ => ⟨rfl, t, by simp, by rw [e]; decide⟩⟩
      · rw [if_neg h0, if_neg h0]
        obtain ⟨q1, q2⟩ := QeE hI hneg r t.u (.inr hu)
        refine ⟨fun b hb => ?_, fun hb => ?_⟩
        · obtain ⟨p1, p2, _⟩ := q1 b hb
          rcases p2 with rfl | ⟨p2, _⟩
          · exact ⟨p1, .inr ⟨by omega, hu⟩, fun e2 => by omega⟩
          · omega
        · exact ⟨(q2 hb).1, t, by simp, by rw [e]; decide⟩
    · simp only [show (ZQ (h t.u) t.m = 0) = False from by rw [e]; simp, show (ZQ (h t.u) t.m = 1) = False from by rw [e]; simp, if_false]
      obtain ⟨q1, q2⟩ := QeE hI hneg r a ha
      refine ⟨fun b hb => ?_, fun hb => ?_⟩
      · obtain ⟨p1, p2, p3⟩ := q1 b hb
        refine ⟨p1, p2, fun e2 s hs => ?_⟩
        rcases List.mem_cons.1 hs with rfl | hs
        · exact e
        · exact p3 e2 s hs
      · obtain ⟨p1, s, hs, p2⟩ := q2 hb
        exact ⟨p1, s, by simp [hs], p2⟩
theorem QkG {w : Qn} {l : List QQ} {u : Int} (h : u < 0) : Zh w l u = 0 := QdM (Qbn (.inl h))
theorem Qh3 {w : Qn} {l : List QQ} {inc : List TermT} : Qf4 w l inc = true ↔ ∀ t ∈ inc, ZQ (Zh w l t.u) t.m = 2 := by simp [Qf4]
theorem Qk8 {w : Qn} {l : List QQ} (hp : Xv w l) : ∀ (db : List (List TermT)) (i : Nat), Qdj (Zh w l) i db = YK w l i db
  | [], _ => rfl
  | x :: db, i => by
    rw [Qdj, YK]
    obtain ⟨q1, q2⟩ := QeE (h := Zh w l) (fun u => (Qbq hp u).i64) (fun u => QkG) x (-1) (.inl rfl)
    cases hc : X7 (Zh w l) x (-1) with
    | none =>
      obtain ⟨p1, t, ht, p2⟩ := q2 hc
      rw [if_neg (fun hs => p2 (Qh3.1 hs t ht)), if_neg (by show ¬ 0 <= ZR _ _ _; rw [p1]; omega)]
      exact Qk8 hp db (i + 1)
    | some b =>
      obtain ⟨p1, p2, p3⟩ := q1 b hc
      by_cases hs : Qf4 w l x = true
      · rw [if_pos hs]
        simp only
        rcases p2 with rfl | ⟨_, p2⟩
        · rfl
        · exfalso
          have := Qh3.1 hs
          have key : ∀ (r : List TermT), (∀ t ∈ r, ZQ (Zh w l t.u) t.m = 2) -> ZR (Zh w l) r (-1) = -1 := by
            intro r
            induction r with
            | nil => intro _; rfl
            | cons t r ih =>
              intro h
              rw [ZR, if_neg (by rw [h t (by simp)]; decide), if_neg (by rw [h t (by simp)]; decide)]
              exact ih fun s hs => h s (by simp [hs])
          rw [key x this] at p1
          omega
      · rw [if_neg hs]
        have hb : b ≠ -1 := fun e => hs (Qh3.2 (p3 e))
        have h0 : 0 <= b := by
          rcases p2 with e | ⟨_, e⟩
          · exact absurd e hb
          · exact e
        have hm : Qe2 w l x = b := p1
        rw [hm, if_pos h0]
theorem Qnf {w : Qn} {db : List (List TermT)} {l : List QQ} (hp : Xv w l) : Qdj (hAt (ZP w l)) 0 db = ZK w db l := by rw [Qmt, Qk8 hp]; rfl
theorem QjU {h : Int -> Int} (hneg : ∀ u, u < 0 -> h u = 0) : ∀ (l : List TermT) (a : Int), 0 <= ZR h l a -> (a = ZR h l a /\ ∀ t ∈ l, ZQ (h t.u) t.m = 2) \/ (¬ 0 <= a /\ ∃ k, ∃ hk : k < l.length, l[k].u = ZR h l a /\ ZQ (h l[k].u) l[k].m = 1 /\ ∀ j, ∀ hj : j < l.length, j ≠ k -> ZQ (h l[j].u) l[j].m = 2)
  | [], a, _ => .inl ⟨rfl, by simp⟩
  | t :: r, a, h0 => by
    rw [ZR] at h0 ⊢
    rcases Qgl (h t.u) t.m with e | e | e
    · rw [if_pos e] at h0; omega
    · rw [if_neg (by rw [e]; decide), if_pos e] at h0 ⊢
      by_cases ha : 0 <= a
      · rw [if_pos ha] at h0; omega
      · rw [if_neg ha] at h0 ⊢
        rcases QjU hneg r t.u h0 with ⟨q1, q2⟩ | ⟨q1, k, hk, q2, q3, q4⟩
        · refine .inr ⟨ha, 0, by simp, by simpa using q1, by simpa using e, fun j hj hn => ?_⟩
          obtain ⟨i, rfl⟩ : ∃ i, j = i + 1 := ⟨j - 1, by omega⟩
          simp only [List.getElem_cons_succ]
          exact q2 _ (List.getElem_mem _)
        · rw [hneg t.u (by omega), QeL] at e; cases e
    · rw [if_neg (by rw [e]; decide), if_neg (by rw [e]; decide)] at h0 ⊢
      rcases QjU hneg r a h0 with ⟨q1, q2⟩ | ⟨q1, k, hk, q2, q3, q4⟩
      · exact .inl ⟨q1, fun s hs => by
          rcases List.mem_cons.1 hs with rfl | hs
          · exact e
          · exact q2 s hs⟩
      · refine .inr ⟨q1, k + 1, by simpa using hk, by simpa using q2, by simpa using q3, fun j hj hn => ?_⟩
        cases j with
        | zero => simpa using e
        | succ j => simp only [List.getElem_cons_succ]; exact q4 j (by simpa using hj) (by omega)
structure OpenAt (w : Qn) (db : List (List TermT)) (l : List QQ) (a : Nat) (k : Nat) : Prop where
  ha : a < db.length
  hk : k < db[a].length
  eq : ZK w db l = ((a : Int), db[a][k].u)
  one : ZQ (Zh w l db[a][k].u) db[a][k].m = 1
  two : ∀ j, ∀ hj : j < db[a].length, j ≠ k -> ZQ (Zh w l db[a][j].u) db[a][j].m = 2
theorem Qd5 {w : Qn} {db : List (List TermT)} {l : List QQ} (h : ¬ (ZK w db l).2 < 0) : ∃ a k, OpenAt w db l a k := by
  have h' := h
  unfold ZK at h
  rcases QhZ w l db 0 with e | ⟨a, _, ha, ⟨e, _⟩ | ⟨_, h0, e⟩⟩
  · rw [e] at h; simp at h
  · rw [e] at h; simp at h
  · simp only [Nat.sub_zero] at ha h0 e
    rcases QjU (fun u hu => QkG hu) db[a] (-1) h0 with ⟨q1, _⟩ | ⟨_, k, hk, q2, q3, q4⟩
    · have : (0 : Int) <= -1 := by rw [q1]; exact h0
      omega
    · exact ⟨a, k, ha, hk, by rw [ZK, e, q2]; rfl, q3, q4⟩
theorem Qox {w : Qn} {db : List (List TermT)} {l : List QQ} (h : (ZK w db l).1 < 0) : (ZK w db l).2 < 0 := by
  refine Classical.byContradiction fun hn => ?_
  obtain ⟨a, k, ho⟩ := Qd5 hn
  rw [ho.eq] at h; simp only at h; omega
theorem Qjl {x m : Int} (h : ZQ x m = 1) : QaT x m ≠ 0 /\ ¬ QaT x m = x := by
  unfold ZQ at h
  split at h
  · cases h
  · rename_i h1
    split at h
    · cases h
    · rename_i h2; exact ⟨h2, h1⟩
theorem Qo4 {w : Qn} {l : List QQ} {u m : Int} (h : ZQ (Zh w l u) m = 1) : inW w u = true := by
  cases hw : inW w u
  · rw [QdM hw, QeL] at h; cases h
  · rfl
theorem Qf7 {f u : Int} : ∀ {l : List TermT} {k : Nat} (hk : k < l.length), l[k].u = u -> (∀ j, ∀ hj : j < k, (l[j]'(by omega)).u ≠ u) -> Qam f u l = l[k].m
  | t :: l, 0, _, h, _ => by rw [Qam, if_pos (by simpa using h)]; rfl
  | t :: l, k + 1, hk, h, hn => by
    have h0 := hn 0 (by omega)
    simp only [List.getElem_cons_zero] at h0
    rw [Qam, if_neg h0, List.getElem_cons_succ]
    exact Qf7 (by simpa using hk) (by simpa using h) fun j hj => by
      have := hn (j + 1) (by omega)
      simpa using this
theorem IncOk.uniq {w : Qn} {l : List TermT} (h : IncOk w l) {i j : Nat} (hi : i < l.length) (hj : j < l.length) (e : l[i].u = l[j].u) : i = j := by
  have hp := List.pairwise_iff_getElem.1 h.1
  rcases Nat.lt_trichotomy i j with h1 | h1 | h1
  · have := hp i j hi hj h1; omega
  · exact h1
  · have := hp j i hj hi h1; omega
theorem OpenAt.mask {w : Qn} {db : List (List TermT)} {l : List QQ} {a k : Nat} (h : OpenAt w db l a k) (hi : ∀ x ∈ db, IncOk w x) : QbO w (db[a]'h.ha) ((db[a]'h.ha)[k]'h.hk).u = ((db[a]'h.ha)[k]'h.hk).m :=
  Qf7 h.hk rfl fun j hj e => by
    have := (hi _ (List.getElem_mem h.ha)).uniq (by have := h.hk; omega) h.hk e
    omega
theorem OpenAt.step {w : Qn} {db : List (List TermT)} {l : List QQ} {a k : Nat} (h : OpenAt w db l a k) (hp : Xv w l) : Yo w l ((db[a]'h.ha)[k]'h.hk) a = some (l ++ [⟨((db[a]'h.ha)[k]'h.hk).u, Qe9 (Zh w l ((db[a]'h.ha)[k]'h.hk).u) ((db[a]'h.ha)[k]'h.hk).m, YY l, a⟩]) := by
  obtain ⟨h1, h2⟩ := Qjl h.one
  refine Qis hp (by omega) h1 fun e => h2 ?_
  rw [XO (Qbq hp _).i64, <- QkX]; exact e
theorem QeF {w : Qn} {l : List QQ} {s : QQ} (hp : Xv w l) (hs : Lo s.m) : Xv w (l ++ [s]) := fun t ht => by
  rcases List.mem_append.1 ht with ht | ht
  · exact hp t ht
  · simp only [List.mem_singleton] at ht; subst ht; exact hs
def Qe4 (w : Qn) (l : List QQ) : Nat -> Nat
  | 0 => 0
  | k + 1 => Qe4 w l k + (Qa4 (Zh w l ((k : Nat) : Int))).length
def tot (w : Qn) (l : List QQ) : Nat := Qe4 w l w.length
theorem Qnw (w : Qn) (l : List QQ) : ∀ n, Qe4 w l n <= 17 * n
  | 0 => Nat.le_refl _
  | n + 1 => by
    have := Qnw w l n
    have h2 : (Qa4 (Zh w l ((n : Nat) : Int))).length <= 17 := Qcr _ 17
    rw [Qe4]; omega
theorem Qlc {w : Qn} {l : List QQ} {u m lv c : Int} (hp : Xv w l) (hu : inW w u = true) (hm : QaT (Zh w l u) m ≠ 0) : ∀ n, Qe4 w (l ++ [⟨u, Qe9 (Zh w l u) m, lv, c⟩]) n <= Qe4 w l n /\ (u < n -> Qe4 w (l ++ [⟨u, Qe9 (Zh w l u) m, lv, c⟩]) n < Qe4 w l n)
  | 0 => ⟨Nat.le_refl _, fun h => by rw [Qb1] at hu; omega⟩
  | n + 1 => by
    obtain ⟨h1, h2⟩ := Qlc (lv := lv) (c := c) hp hu hm n
    rw [Qe4, Qe4, Qak]
    by_cases e : u = n
    · rw [if_pos ⟨e, by rw [<- e]; exact hu⟩]
      subst e
      have := QpB (Qbq hp _) hm
      exact ⟨by simp only; omega, fun _ => by simp only; omega⟩
    · rw [if_neg (fun h => e h.1)]
      exact ⟨by omega, fun h => by have := h2 (by omega); omega⟩
theorem QqL {w : Qn} {l : List QQ} {u m lv c : Int} (hp : Xv w l) (hu : inW w u = true) (hm : QaT (Zh w l u) m ≠ 0) : tot w (l ++ [⟨u, Qe9 (Zh w l u) m, lv, c⟩]) < tot w l :=
  (Qlc hp hu hm w.length).2 (by rw [Qb1] at hu; omega)
def Qkt (w : Qn) (l : List QQ) (t : TermT) (c : Int) : QQ := ⟨t.u, Qe9 (Zh w l t.u) t.m, YY l, c⟩
theorem OpenAt.step' {w : Qn} {db : List (List TermT)} {l : List QQ} {a k : Nat} (h : OpenAt w db l a k) (hp : Xv w l) : Yo w l ((db[a]'h.ha)[k]'h.hk) a = some (l ++ [Qkt w l ((db[a]'h.ha)[k]'h.hk) a]) := h.step hp
theorem OpenAt.inW {w : Qn} {db : List (List TermT)} {l : List QQ} {a k : Nat} (h : OpenAt w db l a k) : 0 <= ((db[a]'h.ha)[k]'h.hk).u /\ ((db[a]'h.ha)[k]'h.hk).u < w.length := Qb1.1 (Qo4 h.one)
theorem OpenAt.go {w : Qn} {db : List (List TermT)} {l : List QQ} {a k : Nat} (h : OpenAt w db l a k) (hp : Xv w l) (hi : ∀ x ∈ db, IncOk w x) {n : Nat} (hn : 0 < n) : Qby w db n l = Qby w db (n - 1) (l ++ [Qkt w l ((db[a]'h.ha)[k]'h.hk) a]) := by
  have h2 : ¬ (ZK w db l).2 < 0 := by rw [h.eq]; have := h.inW.1; simp only; omega
  have hd : (ZK w db l).1.toNat < db.length := by rw [h.eq]; simpa using h.ha
  rw [Qk5 h2 hn hd]
  have e1 : db[(ZK w db l).1.toNat]'hd = db[a]'h.ha := by
    congr 1; rw [h.eq]; simp
  rw [e1, h.eq]
  simp only
  rw [h.mask hi, h.step' hp]; rfl
theorem OpenAt.plain {w : Qn} {db : List (List TermT)} {l : List QQ} {a k : Nat} (h : OpenAt w db l a k) (hp : Xv w l) : Xv w (l ++ [Qkt w l ((db[a]'h.ha)[k]'h.hk) a]) := QeF hp (Qqx (Qbq hp _) _)
theorem OpenAt.tot {w : Qn} {db : List (List TermT)} {l : List QQ} {a k : Nat} (h : OpenAt w db l a k) (hp : Xv w l) : M25.tot w (l ++ [Qkt w l ((db[a]'h.ha)[k]'h.hk) a]) < M25.tot w l := QqL hp (Qo4 h.one) (Qjl h.one).1
theorem QiI {w : Qn} {l : List QQ} {t : TermT} {c : Int} (h0 : 0 <= t.u) (h1 : t.u < w.length) (h2 : t.u.toNat < (ZP w l).length) : ZP w (l ++ [Qkt w l t c]) = (ZP w l).set t.u.toNat (Qe9 ((ZP w l)[t.u.toNat]) t.m) := by
  rw [QgN h0 h1, QkH, Int.toNat_of_nonneg h0]; rfl
end M25
