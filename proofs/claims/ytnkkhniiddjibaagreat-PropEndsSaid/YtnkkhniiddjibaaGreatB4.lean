/- Part 4 of the means of the proof: a verified abstract evaluator, the prepared functions, and contracts of functions. It states nothing of the claim by itself. -/
import Derived.Test.YtnkkhniiddjibaaGreatB3
set_option linter.unusedSimpArgs false
set_option linter.unusedVariables false
namespace Go.Proofs
open Go Go.Abs M3 M25
set_option linter.unusedVariables false
set_option linter.unusedSimpArgs false
theorem XS {e a b c : Int} {p q : List UInt8} {f : Bool} : Ok Tryz.prog 103 [.agg [.int .i64 e, .int .i64 a, .int .i64 b, .int .i64 c, .str p, .str q, .bool f]] (.bool (QgL e a b c p q f)) := by
 refine Ok.ofT ZT Tryz.func103 QqU (Nat.le_of_ble_eq_true rfl) ?_
 show TW _ _ tf103.body _ _
 refine Qf fun K hK => Zv rfl rfl rfl (Qa rfl ?_)
 refine hK _ _ (Qb (kp1 rfl) ?_)
 refine Qf fun K hK => Qh rfl rfl (QA rfl rfl rfl (X8 rfl rfl (Qa rfl ?_)))
 refine QE (g := 6) rfl (fun h1 => ?_) (fun h1 => ?_)
 ·try rw [h1]
  try simp only [qa, qb, qc, qd, qe] at h1
  refine Qt rfl (Qt rfl (Qt rfl (Qt rfl (Zw rfl (Zw rfl (Zw rfl (Zw rfl (Qt rfl (Qt rfl (Zw rfl (Zw rfl ?_)))))))))))
  refine Zw rfl (Zw rfl (Qt rfl (Qo rfl rfl (Qa rfl ?_))))
  refine hK _ _ (Qb (kp1 rfl) ?_)
  refine Qu (Qs rfl ?_)
  simp_all [QgL]
 ·try rw [h1]
  try simp only [qa, qb, qc, qd, qe] at h1
  refine Qk rfl (Qh rfl rfl (Qk rfl (QA rfl rfl rfl (Qk rfl (Yk rfl (Qk rfl (Qa rfl ?_)))))))
  refine QE (g := 10) rfl (fun h2 => ?_) (fun h2 => ?_)
  ·try rw [h2]
   try simp only [qa, qb, qc, qd, qe] at h2
   refine Qk rfl (Qh rfl rfl (Qk rfl (Qh rfl rfl (Qk rfl (QA rfl rfl rfl (Qk rfl (Qg1 rfl rfl (Qk rfl (Qo rfl rfl (Qk rfl (Qa rfl ?_)))))))))))
   refine QE (g := 16) rfl (fun h3 => ?_) (fun h3 => ?_)
   ·try rw [h3]
    try simp only [qa, qb, qc, qd, qe] at h3
    refine Qk rfl (Qh rfl rfl (Qk rfl (QH (cs := [_, _, _, _, _]) rfl rfl rfl rfl (Qk rfl (QI (XR) rfl rfl (.inr rfl) (Qk rfl (Yk rfl (Qk rfl (Qo rfl rfl (Qo rfl rfl (Qa rfl ?_)))))))))))
    refine hK _ _ (Qb (kp1 rfl) ?_)
    refine Qu (Qs rfl ?_)
    simp_all [QgL]
   ·try rw [h3]
    try simp only [qa, qb, qc, qd, qe] at h3
    refine Qt rfl (Qt rfl (Qt rfl (Qt rfl (Qk rfl (Qo rfl rfl (Qo rfl rfl (Qa rfl ?_)))))))
    refine hK _ _ (Qb (kp1 rfl) ?_)
    refine Qu (Qs rfl ?_)
    simp_all [QgL]
  ·try rw [h2]
   try simp only [qa, qb, qc, qd, qe] at h2
   refine Qt rfl (Qt rfl (Qt rfl (Qt rfl (Qk rfl (Qo rfl rfl (Qk rfl (Qa rfl (Qt rfl (Qt rfl (Qt rfl (Qt rfl ?_)))))))))))
   refine Qk rfl (Qo rfl rfl (Qo rfl rfl (Qa rfl ?_)))
   refine hK _ _ (Qb (kp1 rfl) ?_)
   refine Qu (Qs rfl ?_)
   simp_all [QgL]
theorem QcO {a b c : Int} {p q : List UInt8} : Ok Tryz.prog 59 [.agg [.int .i64 a, .int .i64 b, .int .i64 c, .str p, .str q]] (.agg (dCu (QfS a b c))) := by
 refine Ok.ofT ZT Tryz.func59 Qr1 (Nat.le_of_ble_eq_true rfl) ?_
 show TW _ _ tf59.body _ _
 refine Qf fun K hK => Zv rfl rfl rfl (ZG rfl ?_)
 refine hK _ _ (Qb (kp2 rfl rfl) ?_)
 refine QB ?_ -- 0
 refine Qf fun K hK => QH (cs := [_, _, _, _, _]) rfl rfl rfl rfl (QI (XR) rfl rfl (.inr rfl) ?_)
 refine hK _ _ (Qb (kp3 rfl rfl rfl) ?_)
 refine Qw rfl (fun h1 => ?_) (fun h1 => ?_)
 ·try rw [h1]
  try simp only [qa, qb, qc, qd, qe] at h1
  refine Qf fun K hK => QI (YV) rfl rfl (.inl rfl) (Q6 rfl rfl rfl rfl rfl rfl rfl rfl ?_)
  refine hK _ _ (Qb (kp1 rfl) ?_)
  refine Qu (Qj (Post.eq (ZD (ds := [.int .i64 _, .int .i64 _, .int .i64 _, .int .i64 _, .str _, .str _, .bool _]) (cs := [_, _, _, _, _, _, _]) rfl rfl rfl rfl rfl) ?_))
  simp [QfS, dCu, Qbz, h1]
 ·try rw [h1]
  try simp only [qa, qb, qc, qd, qe] at h1
  refine Qv (Qd (kp2 rfl rfl) (Qf fun K hK => Qh rfl rfl (QA rfl rfl rfl (Qh rfl rfl (QA rfl rfl rfl (Qh rfl rfl (QA rfl rfl rfl (QV rfl rfl (QI (YK) rfl rfl (.inl rfl) (Q6 rfl rfl rfl rfl rfl rfl rfl rfl ?_))))))))))
  refine hK _ _ (Qb (kp1 rfl) ?_)
  refine Qu (Post.eq (ZD (ds := [.int .i64 _, .int .i64 _, .int .i64 _, .int .i64 _, .str _, .str _, .bool _]) (cs := [_, _, _, _, _, _, _]) rfl rfl rfl rfl rfl) ?_)
  simp [QfS, dCu, Qbz, h1]
theorem QbR {a b c : Int} {p q : List UInt8} : Ok Tryz.prog 60 [.agg [.int .i64 a, .int .i64 b, .int .i64 c, .str p, .str q]] (.agg (dCu (QdH a b c))) := by
 refine Ok.ofT ZT Tryz.func60 Qr2 (Nat.le_of_ble_eq_true rfl) ?_
 show TW _ _ tf60.body _ _
 refine Qf fun K hK => Zv rfl rfl rfl (ZG rfl ?_)
 refine hK _ _ (Qb (kp2 rfl rfl) ?_)
 refine Qf fun K hK => Qh rfl rfl (QA rfl rfl rfl (Qh rfl rfl (QA rfl rfl rfl (Qh rfl rfl (QA rfl rfl rfl (QV rfl rfl (QI (Qc1 (by simp) (by simp)) rfl rfl (.inl rfl) (Qa rfl (QQ rfl rfl (QQ rfl rfl ?_))))))))))
 refine ZG rfl (Q6 rfl rfl rfl rfl rfl rfl rfl rfl (Qa rfl ?_))
 refine hK _ _ (Qb (kp3 rfl rfl rfl) ?_)
 refine QB ?_ -- 0
 refine Qf fun K hK => Qa rfl (Yk rfl ?_)
 refine hK _ _ (Qb (kp3 rfl rfl rfl) ?_)
 refine Qw rfl (fun h1 => ?_) (fun h1 => ?_)
 ·try rw [h1]
  try simp only [qa, qb, qc, qd, qe] at h1
  refine Qf fun K hK => QI (Y5) rfl rfl (.inl rfl) (Q6 rfl rfl rfl rfl rfl rfl rfl rfl ?_)
  refine hK _ _ (Qb (kp1 rfl) ?_)
  refine Qu (Qj (Post.eq (ZD (ds := [.int .i64 _, .int .i64 _, .int .i64 _, .int .i64 _, .str _, .str _, .bool _]) (cs := [_, _, _, _, _, _, _]) rfl rfl rfl rfl rfl) ?_))
  cases hn : QiC a b c [] [] <;> simp [QdH, dCu, QeT, hn] at *
 ·try rw [h1]
  try simp only [qa, qb, qc, qd, qe] at h1
  refine Qv (Qd (kp2 rfl rfl) (Qf fun K hK => QH (cs := [_, _, _, _, _]) rfl rfl rfl rfl (QI (YK) rfl rfl (.inl rfl) (Q6 rfl rfl rfl rfl rfl rfl rfl rfl ?_))))
  refine hK _ _ (Qb (kp1 rfl) ?_)
  refine Qu (Post.eq (ZD (ds := [.int .i64 _, .int .i64 _, .int .i64 _, .int .i64 _, .str _, .str _, .bool _]) (cs := [_, _, _, _, _, _, _]) rfl rfl rfl rfl rfl) ?_)
  cases hn : QiC a b c [] [] <;> simp [QdH, dCu, QeT, hn] at *
theorem XT  : Ok Tryz.prog 75 [] (ZE [(Qbz, QeT)]) := by
 refine Ok.ofT ZT Tryz.func75 Qsg (Nat.le_of_ble_eq_true rfl) ?_
 show TW _ _ tf75.body _ _
 refine Qf fun K hK => Qa rfl ?_
 refine hK _ _ (Qb (Q5) ?_)
 refine Qf fun K hK => QI (YV) rfl rfl (.inl rfl) (QI (Y5) rfl rfl (.inl rfl) (QV rfl rfl (QC rfl rfl (Qa rfl ?_))))
 refine hK _ _ (Qb (kp1 rfl) ?_)
 refine Qu (Ye rfl ?_)
 rfl
theorem Z5  : Ok Tryz.prog 56 [] (Qha ([], [])) := by
 refine Ok.ofT ZT Tryz.func56 QrY (Nat.le_of_ble_eq_true rfl) ?_
 show TW _ _ tf56.body _ _
 refine Qf fun K hK => ZG rfl ?_
 refine hK _ _ (Qb (kp1 rfl) ?_)
 refine Qf fun K hK => QV rfl rfl (Q6 rfl rfl rfl rfl rfl rfl rfl rfl ?_)
 refine hK _ _ (Qb (kp1 rfl) ?_)
 refine Qu (Post.eq (ZD (ds := [.sl _, .sl _]) (cs := [_, _]) rfl rfl rfl rfl rfl) ?_)
 rfl
theorem Qat  : Ok Tryz.prog 54 [] (Qha ([(Qbz, QeT)], [(Qbz, QeT)])) := by
 refine Ok.ofT ZT Tryz.func54 QrW (Nat.le_of_ble_eq_true rfl) ?_
 show TW _ _ tf54.body _ _
 refine Qf fun K hK => ZG rfl ?_
 refine hK _ _ (Qb (kp1 rfl) ?_)
 refine Qf fun K hK => QI (XT) rfl rfl (.inl rfl) (QI (XT) rfl rfl (.inl rfl) (QV rfl rfl (Q6 rfl rfl rfl rfl rfl rfl rfl rfl ?_)))
 refine hK _ _ (Qb (kp1 rfl) ?_)
 refine Qu (Post.eq (ZD (ds := [.sl _, .sl _]) (cs := [_, _]) rfl rfl rfl rfl rfl) ?_)
 rfl
theorem XQ {a b c : Int} {p q : List UInt8} (hp : p.length <= 1000000) (hq : q.length <= 1000000) : Ok Tryz.prog 35 [.agg [.int .i64 a, .int .i64 b, .int .i64 c, .str p, .str q]] (Qha (Y8 a b c p q)) := by
 refine Ok.ofT ZT Tryz.func35 QrF (Nat.le_of_ble_eq_true rfl) ?_
 show TW _ _ tf35.body _ _
 refine Qf fun K hK => Zv rfl rfl rfl (ZG rfl ?_)
 refine hK _ _ (Qb (kp2 rfl rfl) ?_)
 refine QB ?_ -- 0
 refine Qf fun K hK => QH (cs := [_, _, _, _, _]) rfl rfl rfl rfl (QI (Ze (by omega) (by omega)) rfl rfl (.inr rfl) (Yk rfl ?_))
 refine hK _ _ (Qb (kp3 rfl rfl rfl) ?_)
 refine Qw rfl (fun h1 => ?_) (fun h1 => ?_)
 ·try rw [h1]
  try simp only [qa, qb, qc, qd, qe] at h1
  refine Qf fun K hK => QI (Z5) rfl rfl (.inl rfl) (Q6 rfl rfl rfl rfl rfl rfl rfl rfl ?_)
  refine hK _ _ (Qb (kp1 rfl) ?_)
  refine Qu (Qj (Post.eq (ZD (ds := [.sl _, .sl _]) (cs := [_, _]) rfl rfl rfl rfl rfl) ?_))
  simp [Y8, Qha, ZE, QeR, dCu, h1]
 ·try rw [h1]
  try simp only [qa, qb, qc, qd, qe] at h1
  refine Qv (Qd (kp2 rfl rfl) ?_)
  refine QB ?_ -- 1
  refine Qf fun K hK => Qh rfl rfl (QA rfl rfl rfl (Qnj rfl rfl ?_))
  refine hK _ _ (Qb (kp3 rfl rfl rfl) ?_)
  refine Qw rfl (fun h2 => ?_) (fun h2 => ?_)
  ·try rw [h2]
   try simp only [qa, qb, qc, qd, qe] at h2
   refine Qf fun K hK => QN (ds0 := [6, 3, 2, 1, 0]) (cs := [_, _, _, _, _]) rfl rfl rfl rfl rfl rfl (QX (ds0 := [3, 2, 1, 0]) (YK) rfl rfl (.inl rfl) rfl rfl (QN (ds0 := [4, 3, 2, 1, 0]) (cs := [_, _, _, _, _]) rfl rfl rfl rfl rfl rfl (QX (ds0 := [3, 2, 1, 0]) (QbQ) rfl rfl (.inl rfl) rfl rfl (QV rfl rfl (QC rfl rfl (QV rfl rfl (YY (ds0 := []) rfl rfl rfl rfl rfl rfl rfl rfl rfl rfl ?_)))))))
   refine hK _ _ (Qb (kp1 rfl) ?_)
   refine Qu (Qj (Post.eq (ZD (ds := [.sl _, .sl _]) (cs := [_, _]) rfl rfl rfl rfl rfl) ?_))
   simp [Y8, Qha, ZE, QeR, dCu, h1, h2]
  ·try rw [h2]
   try simp only [qa, qb, qc, qd, qe] at h2
   refine Qv (Qd (kp2 rfl rfl) (Qf fun K hK => QN (ds0 := [6, 3, 2, 1, 0]) (cs := [_, _, _, _, _]) rfl rfl rfl rfl rfl rfl (QX (ds0 := [3, 2, 1, 0]) (QcO) rfl rfl (.inl rfl) rfl rfl (QN (ds0 := [4, 3, 2, 1, 0]) (cs := [_, _, _, _, _]) rfl rfl rfl rfl rfl rfl (QX (ds0 := [3, 2, 1, 0]) (QbR) rfl rfl (.inl rfl) rfl rfl (QV rfl rfl (QC rfl rfl (QV rfl rfl (YY (ds0 := []) rfl rfl rfl rfl rfl rfl rfl rfl rfl rfl ?_)))))))))
   refine hK _ _ (Qb (kp1 rfl) ?_)
   refine Qu (Post.eq (ZD (ds := [.sl _, .sl _]) (cs := [_, _]) rfl rfl rfl rfl rfl) ?_)
   subst h2
   simp [Y8, Qha, ZE, QeR, dCu, h1]
end Go.Proofs
namespace Go.Proofs
open Go Go.Abs M3 M25
set_option linter.unusedVariables false
set_option linter.unusedSimpArgs false
theorem ZR {l : List (Cu × Cu)} (hl : Sm l) : Ok Tryz.prog 102 [ZE l] (.bool (Qeo l)) := by
 refine Ok.ofT ZT Tryz.func102 QqT (Nat.le_of_ble_eq_true rfl) ?_
 show TW _ _ tf102.body _ _
 have hn := hl.1
 refine Qf fun K hK => Qa rfl ?_
 refine hK _ _ (Qb (kp1 rfl) ?_)
 refine QB ?_ -- 0
 refine Qf fun K hK => Qa rfl ?_
 refine hK _ _ (Qb (kp2 rfl rfl) ?_)
 refine Qz ?_
 refine Zi (ι := Nat) (fun i => ⟨[(0, ZE l), (3, .int .i64 i)], []⟩) (fun i => i <= l.length /\ (List.range i).all (QpK l) = true) (fun i => l.length - i) 0 ?_ ?_ ?_
 ·exact Zb (kp2 rfl rfl)
 ·exact ⟨Nat.zero_le _, rfl⟩
 intro i hI
 try dsimp only
 refine QB ?_ -- 1
 refine Qf fun K hK => Qa rfl (Qa rfl (QO rfl rfl (Z3 rfl rfl ?_)))
 refine hK _ _ (Qb (kp3 rfl rfl rfl) ?_)
 refine Qw rfl (fun h1 => ?_) (fun h1 => ?_)
 ·try rw [h1]
  try simp only [qa, qb, qc, qd, qe, List.length_map] at h1
  refine Qv (Qd (kp2 rfl rfl) ?_)
  refine QB ?_ -- 2
  refine Qz (Qf fun K hK => Qa rfl (Qa rfl (QJ rfl rfl rfl (by omega) (QT (by omega)) rfl (QN (ds0 := [20, 19, 18, 17, 16, 15, 14, 13, 12, 11, 10, 9, 8, 7, 6, 5, 4, 3, 2, 1, 0]) (cs := [_, _, _, _, _, _, _, _, _, _, _, _, _, _]) rfl rfl rfl rfl rfl rfl (QX (ds0 := [19, 18, 17, 16, 15, 14, 13, 12, 11, 10, 9, 8, 7, 6, 5, 4, 3, 2, 1, 0]) (YC (hl.at (i := i) (by omega)).1.1 (hl.at (i := i) (by omega)).1.2 (hl.at (i := i) (by omega)).2.1 (hl.at (i := i) (by omega)).2.2) rfl rfl (.inr rfl) rfl rfl (Yk rfl (Qa rfl ?_)))))))
  refine QE (g := 16) rfl (fun h2 => ?_) (fun h2 => ?_)
  ·try rw [h2]
   try simp only [qa, qb, qc, qd, qe, List.length_map] at h2
   refine Qt rfl (Qt rfl (Qt rfl (Zw rfl (Zw rfl (Zw rfl (Zw rfl (Zw rfl (Zw rfl (Zw rfl (Zw rfl (Zw rfl ?_)))))))))))
   refine Zw rfl (Zw rfl (Zw rfl (Zw rfl (Qt rfl (Qo rfl rfl ?_)))))
   refine hK _ _ (Qb (kp3 rfl rfl rfl) ?_)
   refine Zs rfl (Qf fun K hK => Qa rfl ?_)
   refine hK _ _ (Qb (kp1 rfl) ?_)
   refine Qu (Qr (Qj (Q0 (Qr (Qj (Qs rfl ?_))))))
   first
    | exact (QhF hI.2 (by omega)).symm
    | exact (Qct (i := i) (by omega) (QgQ (by omega) (.inl h2))).symm
    | (simp only [QdT] at *; exact (Qct (i := i) (by omega) (QgQ (by omega) (.inr ⟨by omega, h4⟩))).symm)
  ·try rw [h2]
   try simp only [qa, qb, qc, qd, qe, List.length_map] at h2
   refine Qk rfl (Qa rfl (Qk rfl (QhT rfl rfl (Qk rfl (Qa rfl ?_)))))
   refine QE (g := 19) rfl (fun h3 => ?_) (fun h3 => ?_)
   ·try rw [h3]
    try simp only [qa, qb, qc, qd, qe, List.length_map] at h3
    refine Qk rfl (Qa rfl (Qk rfl (Qa rfl (Qk rfl (QaE rfl rfl (by first | exact Qq (by omega) (by omega) | rfl) (Qk rfl (QJ rfl rfl rfl (by omega) (ZB (by omega) (by omega)) rfl (Qk rfl (Q7 rfl rfl (Qk rfl (QN (ds0 := [3, 2, 1, 0]) (cs := [_, _, _, _, _, _, _]) rfl rfl rfl rfl rfl rfl ?_)))))))))))
    refine Qk rfl (Qa rfl (Qk rfl (Qa rfl (Qk rfl (QJ rfl rfl rfl (by omega) (QT (by omega)) rfl (Qk rfl (Q7 rfl rfl (Qk rfl (QN (ds0 := [3, 2, 1, 0]) (cs := [_, _, _, _, _, _, _]) rfl rfl rfl rfl rfl rfl (Qk rfl (QX (ds0 := [2, 1, 0]) (Zr (hl.at (i := ((i : Int) - 1).toNat) (by omega)).2.1 (hl.at (i := ((i : Int) - 1).toNat) (by omega)).2.2 (hl.at (i := i) (by omega)).1.1 (hl.at (i := i) (by omega)).1.2) rfl rfl (.inr rfl) rfl rfl ?_)))))))))))
    refine Qk rfl (QeX rfl rfl (Qk rfl (Qo rfl rfl (Qo rfl rfl ?_))))
    refine hK _ _ (Qb (kp3 rfl rfl rfl) ?_)
    refine Qw rfl (fun h4 => ?_) (fun h4 => ?_)
    ·try rw [h4]
     try simp only [qa, qb, qc, qd, qe, List.length_map] at h4
     refine Qf fun K hK => Qa rfl ?_
     refine hK _ _ (Qb (kp1 rfl) ?_)
     refine Qu (Qr (Qj (Q0 (Qr (Qj (Qs rfl ?_))))))
     first
      | exact (QhF hI.2 (by omega)).symm
      | exact (Qct (i := i) (by omega) (QgQ (by omega) (.inl h2))).symm
      | (simp only [QdT] at *; exact (Qct (i := i) (by omega) (QgQ (by omega) (.inr ⟨by omega, h4⟩))).symm)
    ·try rw [h4]
     try simp only [qa, qb, qc, qd, qe, List.length_map] at h4
     refine Qv (Qg (Qd (kp2 rfl rfl) (QL fun K hK => Qa rfl (Q1 rfl rfl (by first | exact Qq (by omega) (by omega) | rfl) (Qa rfl (hK _ ?_))))))
     refine Qi (i + 1) ?_ ?_ ?_
     ·exact Zb (kp2 rfl rfl)
     ·exact ⟨by omega, QkG hI.2 (QoG (by omega) h2 (by first | exact .inl (by omega) | (simp only [QdT] at *; exact .inr (Int.not_le.1 h4))))⟩
     ·first | omega | (simp only; omega) | (dsimp only; omega)
   ·try rw [h3]
    try simp only [qa, qb, qc, qd, qe, List.length_map] at h3
    refine Qt rfl (Qt rfl (Qt rfl (Qt rfl (Qt rfl (Qt rfl (Qt rfl (Qt rfl (Qt rfl (Qt rfl (Qt rfl (Qt rfl ?_)))))))))))
    refine Qt rfl (Qk rfl (Qo rfl rfl (Qo rfl rfl ?_)))
    refine hK _ _ (Qb (kp3 rfl rfl rfl) ?_)
    refine ZJ rfl (Qv (Qg (Qd (kp2 rfl rfl) (QL fun K hK => Qa rfl (Q1 rfl rfl (by first | exact Qq (by omega) (by omega) | rfl) (Qa rfl (hK _ ?_)))))))
    refine Qi (i + 1) ?_ ?_ ?_
    ·exact Zb (kp2 rfl rfl)
    ·exact ⟨by omega, QkG hI.2 (QoG (by omega) h2 (by first | exact .inl (by omega) | (simp only [QdT] at *; exact .inr (Int.not_le.1 h4))))⟩
    ·first | omega | (simp only; omega) | (dsimp only; omega)
 ·try rw [h1]
  try simp only [qa, qb, qc, qd, qe, List.length_map] at h1
  refine Zf (QK (Qx (QD (Qd (Q5) (Qf fun K hK => Qa rfl ?_)))))
  refine hK _ _ (Qb (kp1 rfl) ?_)
  refine Qu (Qs rfl ?_)
  first
   | exact (QhF hI.2 (by omega)).symm
   | exact (Qct (i := i) (by omega) (QgQ (by omega) (.inl h2))).symm
   | (simp only [QdT] at *; exact (Qct (i := i) (by omega) (QgQ (by omega) (.inr ⟨by omega, h4⟩))).symm)
theorem QaT {l : List (Cu × Cu)} (hl : Sm l) {x y : Cu} (hx : Cu.sm x) (hy : Cu.sm y) : Ok Tryz.prog 106 [ZE l, .agg (dCu x), .agg (dCu y)] (.bool (mIn l x y)) := by
 refine Ok.ofT ZT Tryz.func106 QqX (Nat.le_of_ble_eq_true rfl) ?_
 show TW _ _ tf106.body _ _
 have hn := hl.1
 refine Qf fun K hK => Zv rfl rfl rfl (Zv rfl rfl rfl (Qa rfl ?_))
 refine hK _ _ (Qb (kp3 rfl rfl rfl) ?_)
 refine QB ?_ -- 0
 refine Qf fun K hK => Qa rfl ?_
 refine hK _ _ (Qb (kp4 rfl rfl rfl rfl) ?_)
 refine Qz ?_
 refine Zi (ι := Nat) (fun i => ⟨[(0, ZE l), (4, .ref 4 0 0), (5, .ref 5 0 0), (7, .int .i64 i)], [(4, ⟨[dCu x], 7, 105, true⟩), (5, ⟨[dCu y], 7, 105, true⟩)]⟩) (fun i => i <= l.length /\ (l.take i).any (inC x y) = false) (fun i => l.length - i) 0 ?_ ?_ ?_
 ·exact Q4 (l := [0, 4, 5, 7]) (lH := [4, 5]) (kp4 rfl rfl rfl rfl) (Qe rfl (Qe rfl Ql)) rfl rfl rfl
 ·exact ⟨Nat.zero_le _, by simp⟩
 intro i hI
 try dsimp only
 refine QB ?_ -- 1
 refine Qf fun K hK => Qa rfl (Qa rfl (QO rfl rfl (Z3 rfl rfl ?_)))
 refine hK _ _ (Qb (kp5 rfl rfl rfl rfl rfl) ?_)
 refine Qw rfl (fun h1 => ?_) (fun h1 => ?_)
 ·try rw [h1]
  try simp only [qa, qb, qc, qd, qe, List.length_map] at h1
  refine Qv (Qd (kp4 rfl rfl rfl rfl) ?_)
  refine QB ?_ -- 2
  refine Qz (Qf fun K hK => Qa rfl (Qa rfl (QJ rfl rfl rfl (by omega) (QT (by omega)) rfl (Q7 rfl rfl (QN (ds0 := [11, 10, 9, 8, 7, 6, 5, 4, 3, 2, 1, 0]) (cs := [_, _, _, _, _, _, _]) rfl rfl rfl rfl rfl rfl (QN (ds0 := [11, 10, 9, 8, 7, 6, 5, 4, 3, 2, 1, 0]) (cs := [_, _, _, _, _, _, _]) rfl rfl rfl rfl rfl rfl (QX (ds0 := [10, 9, 8, 7, 6, 5, 4, 3, 2, 1, 0]) (Zr (hl.at (i := i) (by omega)).1.1 (hl.at (i := i) (by omega)).1.2 hx.1 hx.2) rfl rfl (.inr rfl) rfl rfl (Qni rfl rfl (Qa rfl ?_)))))))))
  refine QE (g := 22) rfl (fun h2 => ?_) (fun h2 => ?_)
  ·try rw [h2]
   try simp only [qa, qb, qc, qd, qe, List.length_map] at h2
   refine Qk rfl (QN (ds0 := [2, 1, 0]) (cs := [_, _, _, _, _, _, _]) rfl rfl rfl rfl rfl rfl (Qk rfl (Qa rfl (Qk rfl (Qa rfl (Qk rfl (QJ rfl rfl rfl (by omega) (QT (by omega)) rfl (Qk rfl (Q7 rfl rfl (Qk rfl (QN (ds0 := [2, 1, 0]) (cs := [_, _, _, _, _, _, _]) rfl rfl rfl rfl rfl rfl ?_)))))))))))
   refine Qk rfl (QX (ds0 := [1, 0]) (Zr hy.1 hy.2 (hl.at (i := i) (by omega)).2.1 (hl.at (i := i) (by omega)).2.2) rfl rfl (.inr rfl) rfl rfl (Qk rfl (Qni rfl rfl (Qo rfl rfl ?_))))
   refine hK _ _ (Qb (kp5 rfl rfl rfl rfl rfl) ?_)
   refine Qw rfl (fun h3 => ?_) (fun h3 => ?_)
   ·try rw [h3]
    try simp only [qa, qb, qc, qd, qe, List.length_map] at h3
    refine Qf fun K hK => Qa rfl ?_
    refine hK _ _ (Qb (kp1 rfl) ?_)
    refine Qu (Qr (Qj (Q0 (Qr (Qj (Qs rfl ?_))))))
    first
     | exact (QlE (i := i) (by omega) hI.2).symm
     | exact (Qjd (i := i) (by omega) (Qp4 h2 h3)).symm
   ·try rw [h3]
    try simp only [qa, qb, qc, qd, qe, List.length_map] at h3
    refine Qv (Qg (Qd (kp4 rfl rfl rfl rfl) (QL fun K hK => Qa rfl (Q1 rfl rfl (by first | exact Qq (by omega) (by omega) | rfl) (Qa rfl (hK _ ?_))))))
    refine Qi (i + 1) ?_ ?_ ?_
    ·exact Q4 (l := [0, 4, 5, 7]) (lH := [4, 5]) (kp4 rfl rfl rfl rfl) (Qe rfl (Qe rfl Ql)) rfl rfl rfl
    ·exact ⟨by omega, Qh1 (by omega) hI.2 (Qp3 (by first | exact .inl h2 | exact .inr h3))⟩
    ·first | omega | (simp only; omega) | (dsimp only; omega)
  ·try rw [h2]
   try simp only [qa, qb, qc, qd, qe, List.length_map] at h2
   refine Qt rfl (Qt rfl (Qt rfl (Qt rfl (Qt rfl (Qt rfl (Qt rfl (Qt rfl (Qo rfl rfl ?_))))))))
   refine hK _ _ (Qb (kp5 rfl rfl rfl rfl rfl) ?_)
   refine ZJ rfl (Qv (Qg (Qd (kp4 rfl rfl rfl rfl) (QL fun K hK => Qa rfl (Q1 rfl rfl (by first | exact Qq (by omega) (by omega) | rfl) (Qa rfl (hK _ ?_)))))))
   refine Qi (i + 1) ?_ ?_ ?_
   ·exact Q4 (l := [0, 4, 5, 7]) (lH := [4, 5]) (kp4 rfl rfl rfl rfl) (Qe rfl (Qe rfl Ql)) rfl rfl rfl
   ·exact ⟨by omega, Qh1 (by omega) hI.2 (Qp3 (by first | exact .inl h2 | exact .inr h3))⟩
   ·first | omega | (simp only; omega) | (dsimp only; omega)
 ·try rw [h1]
  try simp only [qa, qb, qc, qd, qe, List.length_map] at h1
  refine Zf (QK (Qx (QD (Qd (Q5) (Qf fun K hK => Qa rfl ?_)))))
  refine hK _ _ (Qb (kp1 rfl) ?_)
  refine Qu (Qs rfl ?_)
  first
   | exact (QlE (i := i) (by omega) hI.2).symm
   | exact (Qjd (i := i) (by omega) (Qp4 h2 h3)).symm
end Go.Proofs
namespace Go.Proofs
open Go Go.Abs M3 M25
set_option linter.unusedVariables false
set_option linter.unusedSimpArgs false
theorem Qaq {l : List (Cu × Cu)} (hl : Sm l) {a b c : Int} {p q : List UInt8} (hp : p.length <= 1000000) (hq : q.length <= 1000000) : Ok Tryz.prog 108 [ZE l, .agg [.int .i64 a, .int .i64 b, .int .i64 c, .str p, .str q]] (.bool (Qhw l a b c p q)) := by
 refine Ok.ofT ZT Tryz.func108 QqZ (Nat.le_of_ble_eq_true rfl) ?_
 show TW _ _ tf108.body _ _
 have hn := hl.1
 refine Qf fun K hK => Zv rfl rfl rfl (Qa rfl ?_)
 refine hK _ _ (Qb (kp2 rfl rfl) ?_)
 refine QB ?_ -- 0
 refine Qf fun K hK => Qa rfl ?_
 refine hK _ _ (Qb (kp3 rfl rfl rfl) ?_)
 refine Qz ?_
 refine Zi (ι := Nat) (fun i => ⟨[(0, ZE l), (3, .ref 3 0 0), (5, .int .i64 i)], [(3, ⟨[[.int .i64 a, .int .i64 b, .int .i64 c, .str p, .str q]], 5, 67, true⟩)]⟩) (fun i => i <= l.length /\ (l.take i).any (fun s => Qhx s a b c p q) = false) (fun i => l.length - i) 0 ?_ ?_ ?_
 ·exact Q4 (l := [0, 3, 5]) (lH := [3]) (kp3 rfl rfl rfl) (Qe rfl Ql) rfl rfl rfl
 ·exact ⟨Nat.zero_le _, by simp⟩
 intro i hI
 try dsimp only
 refine QB ?_ -- 1
 refine Qf fun K hK => Qa rfl (Qa rfl (QO rfl rfl (Z3 rfl rfl (Qa rfl ?_))))
 refine QE (g := 10) rfl (fun h1 => ?_) (fun h1 => ?_)
 ·try rw [h1]
  try simp only [qa, qb, qc, qd, qe, List.length_map] at h1
  refine Qk rfl (Qa rfl (Qk rfl (QI (ZR hl) rfl rfl (.inr rfl) (Qo rfl rfl ?_))))
  refine hK _ _ (Qb (kp4 rfl rfl rfl rfl) ?_)
  refine Qw rfl (fun h2 => ?_) (fun h2 => ?_)
  ·try rw [h2]
   try simp only [qa, qb, qc, qd, qe, List.length_map] at h2
   refine Qv (Qd (kp3 rfl rfl rfl) ?_)
   refine QB ?_ -- 2
   refine Qz (Qf fun K hK => Qa rfl (Qa rfl (QJ rfl rfl rfl (by omega) (QT (by omega)) rfl (QN (ds0 := [0]) (cs := [_, _, _, _, _, _, _, _, _, _, _, _, _, _]) rfl rfl rfl rfl rfl rfl (QN (ds0 := [0]) (cs := [_, _, _, _, _]) rfl rfl rfl rfl rfl rfl (QX (ds0 := []) (QcN (hl.at (i := i) (by omega)).1.1 (hl.at (i := i) (by omega)).1.2 (hl.at (i := i) (by omega)).2.1 (hl.at (i := i) (by omega)).2.2 hp hq) rfl rfl (.inr rfl) rfl rfl ?_))))))
   refine hK _ _ (Qb (kp4 rfl rfl rfl rfl) ?_)
   refine Qw rfl (fun h3 => ?_) (fun h3 => ?_)
   ·try rw [h3]
    try simp only [qa, qb, qc, qd, qe, List.length_map] at h3
    refine Qf fun K hK => Qa rfl ?_
    refine hK _ _ (Qb (kp1 rfl) ?_)
    refine Qu (Qr (Qj (Q0 (Qr (Qj (Qs rfl ?_))))))
    first
     | exact (Qhl (i := i) (by omega) hI.2).symm
     | exact (Qhm h2).symm
     | exact (Qhn h2 (i := i) (by omega) h3).symm
   ·try rw [h3]
    try simp only [qa, qb, qc, qd, qe, List.length_map] at h3
    refine Qv (Qg (Qd (kp3 rfl rfl rfl) (QL fun K hK => Qa rfl (Q1 rfl rfl (by first | exact Qq (by omega) (by omega) | rfl) (Qa rfl (hK _ ?_))))))
    refine Qi (i + 1) ?_ ?_ ?_
    ·exact Q4 (l := [0, 3, 5]) (lH := [3]) (kp3 rfl rfl rfl) (Qe rfl Ql) rfl rfl rfl
    ·exact ⟨by omega, Qh1 (by omega) hI.2 h3⟩
    ·first | omega | (simp only; omega) | (dsimp only; omega)
  ·try rw [h2]
   try simp only [qa, qb, qc, qd, qe, List.length_map] at h2
   refine Zf (QK (Qx (QD (Qd (Q5) (Qf fun K hK => Qa rfl ?_)))))
   refine hK _ _ (Qb (kp1 rfl) ?_)
   refine Qu (Qs rfl ?_)
   first
    | exact (Qhl (i := i) (by omega) hI.2).symm
    | exact (Qhm h2).symm
    | exact (Qhn h2 (i := i) (by omega) h3).symm
 ·try rw [h1]
  try simp only [qa, qb, qc, qd, qe, List.length_map] at h1
  refine Qt rfl (Qt rfl (Qo rfl rfl ?_))
  refine hK _ _ (Qb (kp4 rfl rfl rfl rfl) ?_)
  refine ZJ rfl (Zf (QK (Qx (QD (Qd (Q5) (Qf fun K hK => Qa rfl ?_))))))
  refine hK _ _ (Qb (kp1 rfl) ?_)
  refine Qu (Qs rfl ?_)
  first
   | exact (Qhl (i := i) (by omega) hI.2).symm
   | exact (Qhm h2).symm
   | exact (Qhn h2 (i := i) (by omega) h3).symm
theorem YE {s : List (Cu × Cu) × List (Cu × Cu)} (h1s : Sm s.1) (h2s : Sm s.2) : Ok Tryz.prog 97 [Qha s] (.bool (QfT s)) := by
 refine Ok.ofT ZT Tryz.func97 QsC (Nat.le_of_ble_eq_true rfl) ?_
 show TW _ _ tf97.body _ _
 have hn := h1s.1
 refine Qf fun K hK => Zv rfl rfl rfl (Qa rfl ?_)
 refine hK _ _ (Qb (kp1 rfl) ?_)
 refine QB ?_ -- 0
 refine Qf fun K hK => Qh rfl rfl (QA rfl rfl rfl (QI (ZR h1s) rfl rfl (.inr rfl) (Yk rfl (Qa rfl ?_))))
 refine QE (g := 8) rfl (fun h1 => ?_) (fun h1 => ?_)
 ·try rw [h1]
  try simp only [qa, qb, qc, qd, qe, List.length_map] at h1
  refine Qt rfl (Qt rfl (Qt rfl (Qt rfl (Qo rfl rfl ?_))))
  refine hK _ _ (Qb (kp2 rfl rfl) ?_)
  refine Zs rfl (Qf fun K hK => Qa rfl ?_)
  refine hK _ _ (Qb (kp1 rfl) ?_)
  refine Qu (Qj (Qs rfl ?_))
  first
   | exact (QdP (i := i) h1 h2 (by omega) hI.2).symm
   | exact (QaL (i := i) (by omega) (.inl h4)).symm
   | exact (QaL (i := i) (by omega) (.inr h5)).symm
   | exact (QaM (.inl h1)).symm
   | exact (QaM (.inr h2)).symm
 ·try rw [h1]
  try simp only [qa, qb, qc, qd, qe, List.length_map] at h1
  refine Qk rfl (Qh rfl rfl (Qk rfl (QA rfl rfl rfl (Qk rfl (QI (ZR h2s) rfl rfl (.inr rfl) (Qk rfl (Yk rfl (Qo rfl rfl ?_))))))))
  refine hK _ _ (Qb (kp2 rfl rfl) ?_)
  refine Qw rfl (fun h2 => ?_) (fun h2 => ?_)
  ·try rw [h2]
   try simp only [qa, qb, qc, qd, qe, List.length_map] at h2
   refine Qf fun K hK => Qa rfl ?_
   refine hK _ _ (Qb (kp1 rfl) ?_)
   refine Qu (Qj (Qs rfl ?_))
   first
    | exact (QdP (i := i) h1 h2 (by omega) hI.2).symm
    | exact (QaL (i := i) (by omega) (.inl h4)).symm
    | exact (QaL (i := i) (by omega) (.inr h5)).symm
    | exact (QaM (.inl h1)).symm
    | exact (QaM (.inr h2)).symm
  ·try rw [h2]
   try simp only [qa, qb, qc, qd, qe, List.length_map] at h2
   refine Qv (Qd (kp1 rfl) ?_)
   refine QB ?_ -- 1
   refine Qf fun K hK => Qa rfl ?_
   refine hK _ _ (Qb (kp2 rfl rfl) ?_)
   refine Qz ?_
   refine Zi (ι := Nat) (fun i => ⟨[(1, .ref 1 0 0), (3, .int .i64 i)], [(1, ⟨[[ZE s.1, ZE s.2]], 2, 74, true⟩)]⟩) (fun i => i <= s.1.length /\ (s.1.take i).all (fun x => QbB x.1 && QbB x.2) = true) (fun i => s.1.length - i) 0 ?_ ?_ ?_
   ·exact Q4 (l := [1, 3]) (lH := [1]) (kp2 rfl rfl) (Qe rfl Ql) rfl rfl rfl
   ·exact ⟨Nat.zero_le _, by simp⟩
   intro i hI
   try dsimp only
   refine QB ?_ -- 2
   refine Qf fun K hK => Qa rfl (Qh rfl rfl (QA rfl rfl rfl (QO rfl rfl (Z3 rfl rfl ?_))))
   refine hK _ _ (Qb (kp3 rfl rfl rfl) ?_)
   refine Qw rfl (fun h3 => ?_) (fun h3 => ?_)
   ·try rw [h3]
    try simp only [qa, qb, qc, qd, qe, List.length_map] at h3
    refine Qv (Qd (kp2 rfl rfl) ?_)
    refine QB ?_ -- 3
    refine Qz (Qf fun K hK => Qh rfl rfl (QA rfl rfl rfl (Qa rfl (QJ rfl rfl rfl (by omega) (QT (by omega)) rfl (Q7 rfl rfl (QH (cs := [_, _, _, _, _, _, _]) rfl rfl rfl rfl (QI (XS) rfl rfl (.inr rfl) (Yk rfl (Qa rfl ?_)))))))))
    refine QE (g := 29) rfl (fun h4 => ?_) (fun h4 => ?_)
    ·try rw [h4]
     try simp only [qa, qb, qc, qd, qe, List.length_map] at h4
     refine Qt rfl (Qt rfl (Qt rfl (Qt rfl (Qt rfl (Qt rfl (Qt rfl (Qt rfl (Qo rfl rfl ?_))))))))
     refine hK _ _ (Qb (kp3 rfl rfl rfl) ?_)
     refine Zs rfl (Qf fun K hK => Qa rfl ?_)
     refine hK _ _ (Qb (kp1 rfl) ?_)
     refine Qu (Qr (Qj (Q0 (Qr (Qj (Qs rfl ?_))))))
     first
      | exact (QdP (i := i) h1 h2 (by omega) hI.2).symm
      | exact (QaL (i := i) (by omega) (.inl h4)).symm
      | exact (QaL (i := i) (by omega) (.inr h5)).symm
      | exact (QaM (.inl h1)).symm
      | exact (QaM (.inr h2)).symm
    ·try rw [h4]
     try simp only [qa, qb, qc, qd, qe, List.length_map] at h4
     refine Qk rfl (Qh rfl rfl (Qk rfl (QA rfl rfl rfl (Qk rfl (Qa rfl (Qk rfl (QJ rfl rfl rfl (by omega) (QT (by omega)) rfl (Qk rfl (Q7 rfl rfl (Qk rfl (QH (cs := [_, _, _, _, _, _, _]) rfl rfl rfl rfl ?_)))))))))))
     refine Qk rfl (QI (XS) rfl rfl (.inr rfl) (Qk rfl (Yk rfl (Qo rfl rfl ?_))))
     refine hK _ _ (Qb (kp3 rfl rfl rfl) ?_)
     refine Qw rfl (fun h5 => ?_) (fun h5 => ?_)
     ·try rw [h5]
      try simp only [qa, qb, qc, qd, qe, List.length_map] at h5
      refine Qf fun K hK => Qa rfl ?_
      refine hK _ _ (Qb (kp1 rfl) ?_)
      refine Qu (Qr (Qj (Q0 (Qr (Qj (Qs rfl ?_))))))
      first
       | exact (QdP (i := i) h1 h2 (by omega) hI.2).symm
       | exact (QaL (i := i) (by omega) (.inl h4)).symm
       | exact (QaL (i := i) (by omega) (.inr h5)).symm
       | exact (QaM (.inl h1)).symm
       | exact (QaM (.inr h2)).symm
     ·try rw [h5]
      try simp only [qa, qb, qc, qd, qe, List.length_map] at h5
      refine Qv (Qg (Qd (kp2 rfl rfl) (QL fun K hK => Qa rfl (Q1 rfl rfl (by first | exact Qq (by omega) (by omega) | rfl) (Qa rfl (hK _ ?_))))))
      refine Qi (i + 1) ?_ ?_ ?_
      ·exact Q4 (l := [1, 3]) (lH := [1]) (kp2 rfl rfl) (Qe rfl Ql) rfl rfl rfl
      ·exact ⟨by omega, Z8 (by omega) hI.2 (by rw [show QbB s.1[i].1 = true from h4, show QbB s.1[i].2 = true from h5]; rfl)⟩
      ·first | omega | (simp only; omega) | (dsimp only; omega)
   ·try rw [h3]
    try simp only [qa, qb, qc, qd, qe, List.length_map] at h3
    refine Zf (QK (Qx (QD (Qd (Q5) (Qf fun K hK => Qa rfl ?_)))))
    refine hK _ _ (Qb (kp1 rfl) ?_)
    refine Qu (Qs rfl ?_)
    first
     | exact (QdP (i := i) h1 h2 (by omega) hI.2).symm
     | exact (QaL (i := i) (by omega) (.inl h4)).symm
     | exact (QaL (i := i) (by omega) (.inr h5)).symm
     | exact (QaM (.inl h1)).symm
     | exact (QaM (.inr h2)).symm
theorem Qdq {s : List (Cu × Cu) × List (Cu × Cu)} (h1s : Sm s.1) (h2s : Sm s.2) {a b c : Int} {p q : List UInt8} (hp : p.length <= 1000000) (hq : q.length <= 1000000) : Ok Tryz.prog 100 [Qha s, .agg [.int .i64 a, .int .i64 b, .int .i64 c, .str p, .str q]] (.bool (Qlh s a b c p q)) := by
 refine Ok.ofT ZT Tryz.func100 QqR (Nat.le_of_ble_eq_true rfl) ?_
 show TW _ _ tf100.body _ _
 refine Qf fun K hK => Zv rfl rfl rfl (Zv rfl rfl rfl (Qa rfl ?_))
 refine hK _ _ (Qb (kp2 rfl rfl) ?_)
 refine QB ?_ -- 0
 refine Qf fun K hK => QH (cs := [_, _]) rfl rfl rfl rfl (QI (YE h1s h2s) rfl rfl (.inr rfl) (Yk rfl (Qa rfl ?_)))
 refine QE (g := 8) rfl (fun h1 => ?_) (fun h1 => ?_)
 ·try rw [h1]
  try simp only [qa, qb, qc, qd, qe] at h1
  refine Qt rfl (Qt rfl (Qt rfl (Qo rfl rfl ?_)))
  refine hK _ _ (Qb (kp3 rfl rfl rfl) ?_)
  refine Zs rfl (Qf fun K hK => Qa rfl ?_)
  refine hK _ _ (Qb (kp1 rfl) ?_)
  refine Qu (Qj (Qs rfl ?_))
  simp_all [Qlh]
 ·try rw [h1]
  try simp only [qa, qb, qc, qd, qe] at h1
  refine Qk rfl (QH (cs := [_, _, _, _, _]) rfl rfl rfl rfl (Qk rfl (QI (Ze hp hq) rfl rfl (.inr rfl) (Qk rfl (Yk rfl (Qo rfl rfl ?_))))))
  refine hK _ _ (Qb (kp3 rfl rfl rfl) ?_)
  refine Qw rfl (fun h2 => ?_) (fun h2 => ?_)
  ·try rw [h2]
   try simp only [qa, qb, qc, qd, qe] at h2
   refine Qf fun K hK => Qa rfl ?_
   refine hK _ _ (Qb (kp1 rfl) ?_)
   refine Qu (Qj (Qs rfl ?_))
   simp_all [Qlh]
  ·try rw [h2]
   try simp only [qa, qb, qc, qd, qe] at h2
   refine Qv (Qd (kp2 rfl rfl) ?_)
   refine QB ?_ -- 1
   refine Qf fun K hK => Qh rfl rfl (QA rfl rfl rfl (Qg1 rfl rfl ?_))
   refine hK _ _ (Qb (kp3 rfl rfl rfl) ?_)
   refine Qw rfl (fun h3 => ?_) (fun h3 => ?_)
   ·try rw [h3]
    try simp only [qa, qb, qc, qd, qe] at h3
    refine Qf fun K hK => Qh rfl rfl (QA rfl rfl rfl (QH (cs := [_, _, _, _, _]) rfl rfl rfl rfl (QI (Qaq h1s hp hq) rfl rfl (.inr rfl) (Qa rfl ?_))))
    refine hK _ _ (Qb (kp1 rfl) ?_)
    refine Qu (Qj (Qs rfl ?_))
    simp_all [Qlh]
   ·try rw [h3]
    try simp only [qa, qb, qc, qd, qe] at h3
    refine Qv (Qd (kp2 rfl rfl) (Qf fun K hK => Qh rfl rfl (QA rfl rfl rfl (QH (cs := [_, _, _, _, _]) rfl rfl rfl rfl (QI (Qaq h2s hp hq) rfl rfl (.inr rfl) (Qa rfl ?_))))))
    refine hK _ _ (Qb (kp1 rfl) ?_)
    refine Qu (Qs rfl ?_)
    simp_all [Qlh]
end Go.Proofs
namespace Go.Proofs
open Go Go.Abs M3 M25
set_option linter.unusedVariables false
set_option linter.unusedSimpArgs false
theorem Qas {l : List Cu} {c : Cu} (hl : l.length <= 3000000) (hs : ∀ x ∈ l, Cu.sm x) (hc : Cu.sm c) : Ok Tryz.prog 111 [Qg9 l, .agg (dCu c)] (Qg9 (Qb7 l c)) := by
 refine Ok.ofT ZT Tryz.func111 Qq2 (Nat.le_of_ble_eq_true rfl) ?_
 show TW _ _ tf111.body _ _
 refine Qf fun K hK => Zv rfl rfl rfl (Qa rfl ?_)
 refine hK _ _ (Qb (kp2 rfl rfl) ?_)
 refine Qf fun K hK => Qa rfl ?_
 refine hK _ _ (Qb (kp3 rfl rfl rfl) ?_)
 refine QB ?_ -- 0
 refine Qz ?_
 refine Zi (ι := Nat) (fun k => ⟨[(0, Qg9 l), (3, .ref 3 0 0), (5, .int .i64 k)], [(3, ⟨[dCu c], 7, 105, true⟩)]⟩) (fun k => k <= l.length /\ Qb7 l c = l.take k ++ Qb7 (l.drop k) c) (fun k => l.length - k) 0 ?_ ?_ ?_
 ·exact Q4 (l := [0, 3, 5]) (lH := [3]) (kp3 rfl rfl rfl) (Qe rfl Ql) rfl rfl rfl
 ·exact ⟨Nat.zero_le _, by simp⟩
 intro k hI
 try dsimp only
 refine QB ?_ -- 1
 refine Qf fun K hK => Qa rfl (Qa rfl (QO rfl rfl (Z3 rfl rfl (Qa rfl ?_))))
 refine QE (g := 10) rfl (fun h1 => ?_) (fun h1 => ?_)
 ·try rw [h1]
  try simp only [qa, qb, qc, qd, qe, List.length_map] at h1
  refine Qk rfl (Qa rfl (Qk rfl (Qa rfl (Qk rfl (QJ rfl rfl rfl (by omega) (QT (by omega)) rfl (Qk rfl (QN (ds0 := [2, 1, 0]) (cs := [_, _, _, _, _, _, _]) rfl rfl rfl rfl rfl rfl (Qk rfl (QN (ds0 := [2, 1, 0]) (cs := [_, _, _, _, _, _, _]) rfl rfl rfl rfl rfl rfl (Qk rfl (QX (ds0 := [1, 0]) (Zr (hs _ (List.getElem_mem (by omega))).1 (hs _ (List.getElem_mem (by omega))).2 hc.1 hc.2) rfl rfl (.inr rfl) rfl rfl ?_)))))))))))
  refine Qk rfl (Z3 rfl rfl (Qo rfl rfl ?_))
  refine hK _ _ (Qb (kp4 rfl rfl rfl rfl) ?_)
  refine Qw rfl (fun h2 => ?_) (fun h2 => ?_)
  ·try rw [h2]
   try simp only [qa, qb, qc, qd, qe, List.length_map] at h2
   refine Qv (Qd (kp3 rfl rfl rfl) (Qz (QL fun K hK => Qa rfl (Q1 rfl rfl (by first | exact Qq (by omega) (by omega) | rfl) (Qa rfl (hK _ ?_))))))
   refine Qg ?_
   refine Qi (k + 1) ?_ ?_ ?_
   ·exact Q4 (l := [0, 3, 5]) (lH := [3]) (kp3 rfl rfl rfl) (Qe rfl Ql) rfl rfl rfl
   ·exact ⟨by omega, Qmr (by omega) h2 hI.2⟩
   ·first | omega | (simp only; omega) | (dsimp only; omega)
  ·try rw [h2]
   try simp only [qa, qb, qc, qd, qe, List.length_map] at h2
   refine Zf (QK (Qx (QD (Qd (kp3 rfl rfl rfl) ?_))))
   refine QB ?_ -- 2
   refine Qf fun K hK => Qa rfl (Qa rfl (QO rfl rfl (Z3 rfl rfl (Qa rfl ?_))))
   refine QE (g := 25) rfl (fun h3 => ?_) (fun h3 => ?_)
   ·try rw [h3]
    try simp only [qa, qb, qc, qd, qe, List.length_map] at h3
    refine Qk rfl (Qa rfl (Qk rfl (Qa rfl (Qk rfl (QJ rfl rfl rfl (by omega) (QT (by omega)) rfl (Qk rfl (QN (ds0 := [2, 1, 0]) (cs := [_, _, _, _, _, _, _]) rfl rfl rfl rfl rfl rfl (Qk rfl (QN (ds0 := [2, 1, 0]) (cs := [_, _, _, _, _, _, _]) rfl rfl rfl rfl rfl rfl (Qk rfl (QX (ds0 := [1, 0]) (Zr (hs _ (List.getElem_mem (by omega))).1 (hs _ (List.getElem_mem (by omega))).2 hc.1 hc.2) rfl rfl (.inr rfl) rfl rfl ?_)))))))))))
    refine Qk rfl (ZI rfl rfl (Qo rfl rfl ?_))
    refine hK _ _ (Qb (kp4 rfl rfl rfl rfl) ?_)
    refine Qw rfl (fun h4 => ?_) (fun h4 => ?_)
    ·try rw [h4]
     try simp only [qa, qb, qc, qd, qe, List.length_map] at h4
     refine Qf fun K hK => Qa rfl (Qa rfl ?_)
     refine hK _ _ (Qb (kp1 rfl) ?_)
     refine Qu (Qj (Ye rfl ?_))
     rw [Qmq (k := k) (by omega) (by assumption) hI.2]; rfl
    ·try rw [h4]
     try simp only [qa, qb, qc, qd, qe, List.length_map] at h4
     refine Qv (Qd (kp3 rfl rfl rfl) (Qf fun K hK => Qa rfl (Qa rfl (Qd8 rfl rfl rfl rfl (by omega) (by omega) (by simp; omega) QiR rfl (Qd7 (ds0 := [5, 1, 0]) rfl rfl (fun _ h => ⟨Qn8, h⟩) rfl (.inl rfl) (by simp) (by simp; omega) (by simp; omega) rfl rfl (QN (ds0 := [6, 5, 1, 0]) (cs := [_, _, _, _, _, _, _]) rfl rfl rfl rfl rfl rfl (QC rfl rfl (Qa4 (ds0 := [1, 0]) rfl rfl (by simp [D.ids, D.sid]) ⟨_, rfl, rfl, rfl, rfl, rfl⟩ rfl rfl (by simp) rfl rfl (by simp; omega) (by simp; omega) rfl rfl (Qa rfl (Qa rfl ?_))))))))))
     refine Qd8 rfl rfl rfl rfl (by omega) (by simp; omega) (by simp) QiR rfl (Qa4 (ds0 := [0]) rfl rfl (by simp [D.ids, D.sid]) ⟨rfl, Qn8, rfl⟩ rfl rfl (by simp) rfl rfl (by simp; omega) (by simp; omega) rfl rfl (Qa rfl ?_))
     refine hK _ _ (Qb (kp1 rfl) ?_)
     refine Qu (Ye rfl ?_)
     rw [Qkv (k := k) (by first | exact .inl (by omega) | exact .inr ⟨by omega, by assumption, by assumption⟩) hI.2]; simp [QbM, D.fz, D.fzS, QcW, lk, D.can, D.canS, Qg9, D.sid, (show ∀ a b : Nat, a + 1 + b = a + (b + 1) from fun a b => by omega), List.take_of_length_le (show (l.map dCu).length <= l.length by simp)] <;> rfl
   ·try rw [h3]
    try simp only [qa, qb, qc, qd, qe, List.length_map] at h3
    exact absurd h1 h3
 ·try rw [h1]
  try simp only [qa, qb, qc, qd, qe, List.length_map] at h1
  refine Qt rfl (Qt rfl (Qt rfl (Qt rfl (Qt rfl (Qt rfl (Qt rfl (Qo rfl rfl ?_)))))))
  refine hK _ _ (Qb (kp4 rfl rfl rfl rfl) ?_)
  refine ZJ rfl (Zf (QK (Qx (QD (Qd (kp3 rfl rfl rfl) ?_)))))
  refine QB ?_ -- 2
  refine Qf fun K hK => Qa rfl (Qa rfl (QO rfl rfl (Z3 rfl rfl (Qa rfl ?_))))
  refine QE (g := 25) rfl (fun h5 => ?_) (fun h5 => ?_)
  ·try rw [h5]
   try simp only [qa, qb, qc, qd, qe, List.length_map] at h5
   exact absurd h5 h1
  ·try rw [h5]
   try simp only [qa, qb, qc, qd, qe, List.length_map] at h5
   refine Qt rfl (Qt rfl (Qt rfl (Qt rfl (Qt rfl (Qt rfl (Qt rfl (Qo rfl rfl ?_)))))))
   refine hK _ _ (Qb (kp4 rfl rfl rfl rfl) ?_)
   refine ZJ rfl (Qv (Qd (kp3 rfl rfl rfl) (Qf fun K hK => Qa rfl (Qa rfl (Qd8 rfl rfl rfl rfl (by omega) (by omega) (by simp; omega) QiR rfl (Qd7 (ds0 := [5, 1, 0]) rfl rfl (fun _ h => ⟨Qn8, h⟩) rfl (.inl rfl) (by simp) (by simp; omega) (by simp; omega) rfl rfl (QN (ds0 := [6, 5, 1, 0]) (cs := [_, _, _, _, _, _, _]) rfl rfl rfl rfl rfl rfl (QC rfl rfl (Qa4 (ds0 := [1, 0]) rfl rfl (by simp [D.ids, D.sid]) ⟨_, rfl, rfl, rfl, rfl, rfl⟩ rfl rfl (by simp) rfl rfl (by simp; omega) (by simp; omega) rfl rfl (Qa rfl ?_))))))))))
   refine Qa rfl (Qd8 rfl rfl rfl rfl (by omega) (by simp; omega) (by simp) QiR rfl (Qa4 (ds0 := [0]) rfl rfl (by simp [D.ids, D.sid]) ⟨rfl, Qn8, rfl⟩ rfl rfl (by simp) rfl rfl (by simp; omega) (by simp; omega) rfl rfl (Qa rfl ?_)))
   refine hK _ _ (Qb (kp1 rfl) ?_)
   refine Qu (Ye rfl ?_)
   rw [Qkv (k := k) (by first | exact .inl (by omega) | exact .inr ⟨by omega, by assumption, by assumption⟩) hI.2]; simp [QbM, D.fz, D.fzS, QcW, lk, D.can, D.canS, Qg9, D.sid, (show ∀ a b : Nat, a + 1 + b = a + (b + 1) from fun a b => by omega), List.take_of_length_le (show (l.map dCu).length <= l.length by simp)] <;> rfl
theorem Qad {l : List (Cu × Cu)} (hl : Sm l) : Ok Tryz.prog 105 [ZE l] (Qg9 (YQ l)) := by
 refine Ok.ofT ZT Tryz.func105 QqW (Nat.le_of_ble_eq_true rfl) ?_
 show TW _ _ tf105.body _ _
 have hn := hl.1
 refine Qf fun K hK => Qa rfl ?_
 refine hK _ _ (Qb (kp1 rfl) ?_)
 refine Qf fun K hK => QI (YV) rfl rfl (.inl rfl) (QI (Y5) rfl rfl (.inl rfl) (QC rfl rfl (Qa rfl ?_)))
 refine hK _ _ (Qb (kp2 rfl rfl) ?_)
 refine QB ?_ -- 0
 refine Qf fun K hK => Qa rfl ?_
 refine hK _ _ (Qb (kp3 rfl rfl rfl) ?_)
 refine Qz ?_
 refine Zi (ι := Nat) (fun i => ⟨[(0, ZE l), (3, Qg9 (YQ (l.take i))), (4, .int .i64 i)], []⟩) (fun i => i <= l.length) (fun i => l.length - i) 0 ?_ ?_ ?_
 ·exact le_trans (Qiu 7 _ (by decide)) (Q4 (l := [0, 3, 4]) (lH := []) (kp3 rfl rfl rfl) Ql rfl rfl rfl)
 ·exact Nat.zero_le _
 intro i hI
 try dsimp only
 refine QB ?_ -- 1
 refine Qf fun K hK => Qa rfl (Qa rfl (QO rfl rfl (Z3 rfl rfl ?_)))
 refine hK _ _ (Qb (kp4 rfl rfl rfl rfl) ?_)
 refine Qw rfl (fun h1 => ?_) (fun h1 => ?_)
 ·try rw [h1]
  try simp only [qa, qb, qc, qd, qe, List.length_map] at h1
  refine Qv (Qd (kp3 rfl rfl rfl) ?_)
  refine QB ?_ -- 2
  refine Qz (QL fun K hK => Qa rfl (Qa rfl (Qa rfl (QJ rfl rfl rfl (by omega) (QT (by omega)) rfl (Q7 rfl rfl (QN (ds0 := [7, 1, 0]) (cs := [_, _, _, _, _, _, _]) rfl rfl rfl rfl rfl rfl (QX (ds0 := [1, 0]) (Qas (Nat.le_trans (Qe7 hl i).1 (by omega)) (Qe7 hl i).2 (hl.2 _ (List.getElem_mem (by omega))).1) rfl rfl (.inl rfl) rfl rfl (Qa rfl (Qa rfl (QJ rfl rfl rfl (by omega) (QT (by omega)) rfl ?_))))))))))
  refine Q7 rfl rfl (QN (ds0 := [1, 0]) (cs := [_, _, _, _, _, _, _]) rfl rfl rfl rfl rfl rfl (QX (ds0 := [0]) (Qas (Nat.le_trans (Qe9 _ _) (by have := (Qe7 hl i).1; omega)) (Qhz (Qe7 hl i).2 (hl.2 _ (List.getElem_mem (by omega))).1) (hl.2 _ (List.getElem_mem (by omega))).2) rfl rfl (.inl rfl) rfl rfl (Qa rfl (hK _ ?_))))
  refine Qg (Qd (kp3 rfl rfl rfl) (QL fun K hK => Qa rfl (Q1 rfl rfl (by first | exact Qq (by omega) (by omega) | rfl) (Qa rfl (hK _ ?_)))))
  refine Qi (i + 1) ?_ ?_ ?_
  ·exact Q4 (l := [0, 3, 4]) (lH := []) (kp3 rfl rfl rfl) Ql (by rw [QnS (by omega)]; rfl) rfl rfl
  ·omega
  ·first | omega | (simp only; omega) | (dsimp only; omega)
 ·try rw [h1]
  try simp only [qa, qb, qc, qd, qe, List.length_map] at h1
  refine Zf (QK (Qx (QD (Qd (kp1 rfl) (Qf fun K hK => Qa rfl (Qa rfl ?_))))))
  refine hK _ _ (Qb (kp1 rfl) ?_)
  refine Qu (Ye rfl ?_)
  rw [List.take_of_length_le (show l.length <= i by omega)]; rfl
end Go.Proofs
namespace Go.Proofs
open Go Go.Abs M3 M25
set_option linter.unusedVariables false
set_option linter.unusedSimpArgs false
theorem Qae {l : List (Cu × Cu)} {x y : Cu} (hn : l.length <= 3000000) (hl : ∀ s ∈ l, Cu.sm s.1 /\ Cu.sm s.2) (hx : Cu.sm x) (hy : Cu.sm y) : OkH Tryz.prog 107 [.osl 500000 l.length, .agg (dCu x), .agg (dCu y)] [(500000, ⟨l.map QeR, 14, 108, true⟩)] (.osl 500000 (Qb5 l x y).length) [(500000, ⟨(Qb5 l x y).map QeR, 14, 108, true⟩)] := by
 refine OkH.mv ZT Tryz.func107 QqY (Nat.le_of_ble_eq_true rfl) rfl ?_
 show TW _ _ tf107.body _ _
 refine Qf fun K hK => Zv rfl rfl rfl (Zv rfl rfl rfl (Qa rfl ?_))
 refine hK _ _ (Qb (kp3 rfl rfl rfl) ?_)
 refine QB ?_ -- 0
 refine Qf fun K hK => Qa rfl (QO rfl rfl (QaE rfl rfl (by first | exact Qq (by omega) (by omega) | rfl) (Qa rfl ?_)))
 refine hK _ _ (Qb (kp4 rfl rfl rfl rfl) ?_)
 refine Qf fun K hK => Qa rfl (QeX rfl rfl (Qa rfl ?_))
 refine QE (g := 13) rfl (fun h1 => ?_) (fun h1 => ?_)
 ·try rw [h1]
  try simp only [qa, qb, qc, qd, qe, List.length_map] at h1
  refine Qk rfl (Qa rfl (Qk rfl (Qa rfl (Qk rfl (XD (ds0 := [5, 4, 2, 1, 0]) rfl rfl rfl (by simp) (by omega) (by omega) rfl rfl rfl (Qk rfl (Qh rfl rfl (Qk rfl (QN (ds0 := [2, 1, 0]) (cs := [_, _, _, _, _, _, _]) rfl (Z4 rfl (ZB (by omega) (by omega))) rfl rfl rfl rfl (Qk rfl (QN (ds0 := [2, 1, 0]) (cs := [_, _, _, _, _, _, _]) rfl rfl rfl rfl rfl rfl ?_)))))))))))
  refine Qk rfl (QX (ds0 := [1, 0]) (Zr (hl _ (List.getElem_mem (by omega))).2.1 (hl _ (List.getElem_mem (by omega))).2.2 hx.1 hx.2) rfl rfl (.inr rfl) rfl rfl (Qk rfl (ZI rfl rfl (Qo rfl rfl ?_))))
  refine hK _ _ (Qb (kp5 rfl rfl rfl rfl rfl) ?_)
  refine Qw rfl (fun h2 => ?_) (fun h2 => ?_)
  ·try rw [h2]
   try simp only [qa, qb, qc, qd, qe, List.length_map] at h2
   refine Qf fun K hK => Qa rfl (Qa rfl (QH (cs := [_, _, _, _, _, _, _]) rfl rfl rfl rfl (Xd rfl rfl rfl (by simp) (by omega) (by omega) rfl (Qh rfl rfl (Q6 rfl rfl (ZB (by omega) (by omega)) rfl rfl rfl rfl rfl ?_)))))
   refine hK _ _ (Qb (kp1 rfl) ?_)
   refine Qf fun K hK => Qa rfl (Qa rfl ?_)
   refine hK _ _ (Qb (kp1 rfl) ?_)
   refine Qu (Qj ?_)
   refine Yy rfl ?_ (Qcg ?_)
   ·rw [Qiz (i := ((l.length : Int) - 1).toNat) (by omega) h2]; simp [Qlt, D.fz, D.fzS, Qf7, D.can, D.canS]
   ·rw [Qiz (i := ((l.length : Int) - 1).toNat) (by omega) h2]; simp [lk, List.map_set, QeR, dCu, setRow, D.sid]
  ·try rw [h2]
   try simp only [qa, qb, qc, qd, qe, List.length_map] at h2
   refine Qv (Qd (kp3 rfl rfl rfl) (Qf fun K hK => Qa rfl (QH (cs := [_, _, _, _, _, _, _]) rfl rfl rfl rfl (QH (cs := [_, _, _, _, _, _, _]) rfl rfl rfl rfl (QV rfl rfl (QC rfl rfl (Xc rfl rfl (fun _ h => YX rfl rfl rfl h) rfl (by simp) rfl rfl rfl (by simp; omega) (by simp; omega) (Qa rfl ?_))))))))
   refine hK _ _ (Qb (kp1 rfl) ?_)
   refine Qu ?_
   refine Yy rfl ?_ (Qcg ?_)
   ·rw [QdK (.inr ⟨((l.length : Int) - 1).toNat, by omega, h2⟩)]; simp [Qlt, D.fz, D.fzS, Qf7, D.can, D.canS]
   ·rw [QdK (.inr ⟨((l.length : Int) - 1).toNat, by omega, h2⟩)]; simp [lk, QeR, dCu, D.sid]
 ·try rw [h1]
  try simp only [qa, qb, qc, qd, qe, List.length_map] at h1
  refine Qt rfl (Qt rfl (Qt rfl (Qt rfl (Qt rfl (Qt rfl (Qt rfl (Qt rfl (Qo rfl rfl ?_))))))))
  refine hK _ _ (Qb (kp5 rfl rfl rfl rfl rfl) ?_)
  refine ZJ rfl (Qv (Qd (kp3 rfl rfl rfl) (Qf fun K hK => Qa rfl (QH (cs := [_, _, _, _, _, _, _]) rfl rfl rfl rfl (QH (cs := [_, _, _, _, _, _, _]) rfl rfl rfl rfl (QV rfl rfl (QC rfl rfl (Xc rfl rfl (fun _ h => YX rfl rfl rfl h) rfl (by simp) rfl rfl rfl (by simp; omega) (by simp; omega) (Qa rfl ?_)))))))))
  refine hK _ _ (Qb (kp1 rfl) ?_)
  refine Qu ?_
  have h0 : l = [] := List.eq_nil_of_length_eq_zero (by omega)
  refine Yy rfl ?_ (Qcg ?_)
  ·rw [QdK (.inl h0)]; simp [Qlt, D.fz, D.fzS, Qf7, D.can, D.canS]
  ·rw [QdK (.inl h0)]; simp [lk, QeR, dCu, D.sid]
end Go.Proofs
namespace Go.Proofs
open Go Go.Abs M3 M25
set_option linter.unusedVariables false
set_option linter.unusedSimpArgs false
theorem Qc3 {l : List (Cu × Cu)} (hl : Sm l) : Ok Tryz.prog 104 [ZE l] (.tup [ZE (Qjy l), .bool (l.all QdN)]) := by
  refine Ok.ofT ZT Tryz.func104 QqV (Nat.le_of_ble_eq_true rfl) ?_
  show TW _ _ tf104.body _ _
  have hn := hl.1
  have hc1 := Qb3 l
  refine Qf fun K hK => Qa rfl (Qa rfl ?_)
  refine hK _ _ (Qb (kp1 rfl) ?_)
  refine QB ?_ -- 0
  refine Qf fun K hK => Qa rfl ?_
  refine hK _ _ (Qb (kp2 rfl rfl) ?_)
  refine Qz ?_
  refine Zi (ι := Nat) (fun i => ⟨[(0, ZE l), (4, .int .i64 i)], []⟩) (fun i => i <= l.length /\ (l.take i).all QdN = true) (fun i => l.length - i) 0 ?_ ?_ ?_
  · exact Zb (kp2 rfl rfl)
  · exact ⟨Nat.zero_le _, by simp⟩
  intro i hI
  try dsimp only
  refine QB ?_ -- 1
  refine Qf fun K hK => Qa rfl (Qa rfl (QO rfl rfl (Z3 rfl rfl ?_)))
  refine hK _ _ (Qb (kp3 rfl rfl rfl) ?_)
  refine Qw rfl (fun h1 => ?_) (fun h1 => ?_)
  · try rw [h1]
    try simp only [qa, qb, qc, qd, qe, List.length_map] at h1
    refine Qv (Qd (kp2 rfl rfl) ?_)
    refine QB ?_ -- 2
    refine Qz (Qf fun K hK => Qa rfl (Qa rfl (QJ rfl rfl rfl (by omega) (QT (by omega)) rfl (QH (cs := [_, _, _, _, _, _, _, _, _, _, _, _, _, _]) rfl rfl rfl rfl (QI (YC (hl.at (i := i) (by omega)).1.1 (hl.at (i := i) (by omega)).1.2 (hl.at (i := i) (by omega)).2.1 (hl.at (i := i) (by omega)).2.2) rfl rfl (.inr rfl) (Yk rfl ?_))))))
    refine hK _ _ (Qb (kp3 rfl rfl rfl) ?_)
    refine Qw rfl (fun h2 => ?_) (fun h2 => ?_)
    · try rw [h2]
      try simp only [qa, qb, qc, qd, qe, List.length_map] at h2
      refine Qf fun K hK => Qa rfl (Qa rfl ?_)
      refine hK _ _ (Qb (kp2 rfl rfl) ?_)
      refine Qu (Qr (Qj (Q0 (Qr (Qj ?_)))))
      first
        | exact QS rfl rfl ⟨by rw [Qjy, if_neg (by rw [XE (i := i) (by omega) (by assumption)]; simp)]; rfl, by rw [XE (i := i) (by omega) (by assumption)]; rfl⟩
        | (have ha : l.all QdN = true := Xv (by omega) hI.2
           exact QS rfl rfl ⟨by rw [Qjy, if_pos ha, hI2.done (by omega)]; simp [QbM, D.fz, D.fzS, QcW, lk, D.can, D.canS, ZE], by rw [ha]; rfl⟩)
    · try rw [h2]
      try simp only [qa, qb, qc, qd, qe, List.length_map] at h2
      refine Qv (Qg (Qd (kp2 rfl rfl) (QL fun K hK => Qa rfl (Q1 rfl rfl (by first | exact Qq (by omega) (by omega) | rfl) (Qa rfl (hK _ ?_))))))
      refine Qi (i + 1) ?_ ?_ ?_
      · exact Zb (kp2 rfl rfl)
      · exact ⟨by omega, Z8 (by omega) hI.2 (by assumption)⟩
      · first | omega | (simp only; omega) | (dsimp only; omega)
  · try rw [h1]
    try simp only [qa, qb, qc, qd, qe, List.length_map] at h1
    refine Zf (QK (Qx (QD (Qd (kp1 rfl) (Qf fun K hK => Qa rfl ?_)))))
    refine hK _ _ (Qb (kp2 rfl rfl) ?_)
    refine Qf fun K hK => Qa rfl (QI (Qad hl) rfl rfl (.inl rfl) (Qa rfl ?_))
    refine hK _ _ (Qb (kp3 rfl rfl rfl) ?_)
    refine QB ?_ -- 3
    refine Qf fun K hK => Qa rfl ?_
    refine hK _ _ (Qb (kp4 rfl rfl rfl rfl) ?_)
    refine Qz ?_
    refine Zi (ι := Nat × List (Cu × Cu)) (fun ⟨i, out⟩ => ⟨[(0, ZE l), (5, .osl 5 out.length), (6, Qg9 (YQ l)), (7, .int .i64 i)], [(5, ⟨out.map QeR, 14, 108, true⟩)]⟩) (fun ⟨i, out⟩ => i <= (YQ l).length /\ FillI (mIn l) (YQ l) i out) (fun ⟨i, out⟩ => (YQ l).length - i) (0, []) ?_ ?_ ?_
    · exact le_trans (Yd 5 5 14 108 rfl rfl) (Q4 (l := [0, 5, 6, 7]) (lH := [5]) (kp4 rfl rfl rfl rfl) (Qe rfl Ql) rfl rfl rfl)
    · exact ⟨Nat.zero_le _, FillI.zero⟩
    intro ⟨i, out⟩ hI
    obtain ⟨hI1, hI2⟩ := hI
    have hI3 := hI2.1
    try dsimp only
    refine QB ?_ -- 4
    refine Qf fun K hK => Qa rfl (Q1 rfl rfl (by first | exact Qq (by omega) (by omega) | rfl) (Qa rfl (QO rfl rfl (Z3 rfl rfl ?_))))
    refine hK _ _ (Qb (kp5 rfl rfl rfl rfl rfl) ?_)
    refine Qw rfl (fun h3 => ?_) (fun h3 => ?_)
    · try rw [h3]
      try simp only [qa, qb, qc, qd, qe, List.length_map] at h3
      refine Qv (Qd (kp4 rfl rfl rfl rfl) ?_)
      refine QB ?_ -- 5
      refine Qz (Qf fun K hK => Qa rfl (Qa rfl (Qa rfl (QJ rfl rfl rfl (by omega) (QT (by omega)) rfl (QN (ds0 := [0]) (cs := [_, _, _, _, _, _, _]) rfl rfl rfl rfl rfl rfl (Qa rfl (Qa rfl (Q1 rfl rfl (by first | exact Qq (by omega) (by omega) | rfl) (QJ rfl rfl rfl (by omega) (Qki (by omega)) rfl (QN (ds0 := [0]) (cs := [_, _, _, _, _, _, _]) rfl rfl rfl rfl rfl rfl ?_))))))))))
      refine QX (ds0 := []) (QaT hl (Yw hl _ (List.getElem_mem (by omega))) (Yw hl _ (List.getElem_mem (by omega)))) rfl rfl (.inr rfl) rfl rfl ?_
      refine hK _ _ (Qb (kp5 rfl rfl rfl rfl rfl) ?_)
      refine Qw rfl (fun h4 => ?_) (fun h4 => ?_)
      · try rw [h4]
        try simp only [qa, qb, qc, qd, qe, List.length_map] at h4
        refine QL fun K hK => Qa rfl (Qa rfl (Qa rfl (QJ rfl rfl rfl (by omega) (QT (by omega)) rfl (QN (ds0 := [1, 0]) (cs := [_, _, _, _, _, _, _]) rfl rfl rfl rfl rfl rfl (Qa rfl (Qa rfl (Q1 rfl rfl (by first | exact Qq (by omega) (by omega) | rfl) (QJ rfl rfl rfl (by omega) (Qki (by omega)) rfl (QN (ds0 := [1, 0]) (cs := [_, _, _, _, _, _, _]) rfl rfl rfl rfl rfl rfl (QjX (ds0 := [0]) (Qj5 (k := 5) rfl rfl rfl (by decide) rfl (by decide) (by simp [D.ids, D.sid, dCu]) ⟨.osl 5 out.length, by simp, by simp [D.ids, D.sid]⟩ rfl rfl (Qae (by omega) hI2.2.1 (Yw hl _ (List.getElem_mem (by omega))) (Yw hl _ (List.getElem_mem (by omega))))) (fun _ h => by cases h) rfl rfl ?_))))))))))
        refine Qa rfl (hK _ ?_)
        refine Qg (Qd (kp4 rfl rfl rfl rfl) (QL fun K hK => Qa rfl (Q1 rfl rfl (by first | exact Qq (by omega) (by omega) | rfl) (Qa rfl (hK _ ?_)))))
        refine Qi (i + 1, Qb5 out (YQ l)[i] (YQ l)[i + 1]) ?_ ?_ ?_
        · exact le_trans (Qmc (l := [0, 6, 7]) (t := 50) (u := 5) 5 (kp3 rfl rfl rfl) rfl rfl rfl rfl) (Q4 (l := [0, 5, 6, 7]) (lH := [5]) (kp4 rfl rfl rfl rfl) (Qe rfl Ql) rfl rfl rfl)
        · exact ⟨by omega, hI2.take (Yw hl) (by omega) (by assumption)⟩
        · show (YQ l).length - (i + 1) < (YQ l).length - i; omega
      · try rw [h4]
        try simp only [qa, qb, qc, qd, qe, List.length_map] at h4
        refine Qv (Qg (Qd (kp4 rfl rfl rfl rfl) (QL fun K hK => Qa rfl (Q1 rfl rfl (by first | exact Qq (by omega) (by omega) | rfl) (Qa rfl (hK _ ?_))))))
        refine Qi (i + 1, out) ?_ ?_ ?_
        · exact Q4 (l := [0, 5, 6, 7]) (lH := [5]) (kp4 rfl rfl rfl rfl) (Qe rfl Ql) rfl rfl rfl
        · exact ⟨by omega, hI2.skip (by omega) (by assumption)⟩
        · show (YQ l).length - (i + 1) < (YQ l).length - i; omega
    · try rw [h3]
      try simp only [qa, qb, qc, qd, qe, List.length_map] at h3
      refine Zf (QK (Qx (QD (Qd (kp1 rfl) (Qf fun K hK => Qa rfl (Qa rfl (Qa rfl ?_)))))))
      refine hK _ _ (Qb (kp2 rfl rfl) ?_)
      refine Qu ?_
      first
        | exact QS rfl rfl ⟨by rw [Qjy, if_neg (by rw [XE (i := i) (by omega) (by assumption)]; simp)]; rfl, by rw [XE (i := i) (by omega) (by assumption)]; rfl⟩
        | (have ha : l.all QdN = true := Xv (by omega) hI.2
           exact QS rfl rfl ⟨by rw [Qjy, if_pos ha, hI2.done (by omega)]; simp [QbM, D.fz, D.fzS, QcW, lk, D.can, D.canS, ZE], by rw [ha]; rfl⟩)
end Go.Proofs
namespace Go.Proofs
open Go Go.Abs M3 M25
set_option linter.unusedVariables false
set_option linter.unusedSimpArgs false
theorem QaS {a b : List (Cu × Cu)} (ha : Sm a) (hb : Sm b) (hab : a.length + b.length <= 1000000) : Ok Tryz.prog 98 [ZE a, ZE b] (ZE (QoD a b)) := by
 refine Ok.ofT ZT Tryz.func98 QsD (Nat.le_of_ble_eq_true rfl) ?_
 show TW _ _ tf98.body _ _
 refine Qf fun K hK => Qa rfl ?_
 refine hK _ _ (Qb (kp2 rfl rfl) ?_)
 refine QB ?_ -- 0
 refine Qf fun K hK => Qa rfl (QI (ZR ha) rfl rfl (.inr rfl) (Yk rfl (Qa rfl ?_)))
 refine QE (g := 10) rfl (fun h1 => ?_) (fun h1 => ?_)
 ·try rw [h1]
  try simp only [qa, qb, qc, qd, qe] at h1
  refine Qt rfl (Qt rfl (Qt rfl (Qo rfl rfl ?_)))
  refine hK _ _ (Qb (kp3 rfl rfl rfl) ?_)
  refine Zs rfl (Qf fun K hK => Qa rfl ?_)
  refine hK _ _ (Qb (kp1 rfl) ?_)
  refine Qu (Qj (Ye rfl ?_))
  rw [QoD, if_neg (by simp [h1])]; rfl
 ·try rw [h1]
  try simp only [qa, qb, qc, qd, qe] at h1
  refine Qk rfl (Qa rfl (Qk rfl (QI (ZR hb) rfl rfl (.inr rfl) (Qk rfl (Yk rfl (Qo rfl rfl ?_))))))
  refine hK _ _ (Qb (kp3 rfl rfl rfl) ?_)
  refine Qw rfl (fun h2 => ?_) (fun h2 => ?_)
  ·try rw [h2]
   try simp only [qa, qb, qc, qd, qe] at h2
   refine Qf fun K hK => Qa rfl ?_
   refine hK _ _ (Qb (kp1 rfl) ?_)
   refine Qu (Qj (Ye rfl ?_))
   rw [QoD, if_neg (by simp [h1, h2])]; rfl
  ·try rw [h2]
   try simp only [qa, qb, qc, qd, qe] at h2
   refine Qv (Qd (kp2 rfl rfl) (Qf fun K hK => Qa rfl (Qlz rfl rfl (fun _ h => QkP QoJ h) rfl (.inl rfl) (by simp) (by simp; omega) (by simp; omega) (Qa rfl (Xc rfl rfl (fun _ h => QkP QoJ h) rfl (by simp) rfl rfl rfl (by simp; omega) (by simp; omega) ?_)))))
   apply QoU [17] (by simp)
   ·simp [St.freezeL, St.freeze, rem, D.fz, D.fzS, Box.fz, lk, D.scrub]; exact ⟨rfl, rfl⟩
   ·exact Qc3 (ha.app hb hab)
   ·rfl
   ·simp [QbM, D.fz, D.fzS, QcW, D.can, D.canS, ZE]
   ·exact .inl rfl
   refine Qa rfl (QQ rfl rfl (QQ rfl rfl (Qa rfl (Qa rfl ?_))))
   refine hK _ _ (Qb (kp1 rfl) ?_)
   refine Qf fun K hK => Qa rfl (Qa rfl ?_)
   refine hK _ _ (Qb (kp1 rfl) ?_)
   refine Qu (Ye rfl ?_)
   rw [QoD, if_pos ⟨h1, h2⟩]; rfl
theorem Qar {a : List (Cu × Cu)} (ha : Sm a) : Ok Tryz.prog 99 [ZE a] (ZE (Qjz a)) := by
 refine Ok.ofT ZT Tryz.func99 QsE (Nat.le_of_ble_eq_true rfl) ?_
 show TW _ _ tf99.body _ _
 have hn := ha.1
 have hc1 := Qb3 a
 refine Qf fun K hK => Qa rfl ?_
 refine hK _ _ (Qb (kp1 rfl) ?_)
 refine QB ?_ -- 0
 refine Qf fun K hK => Qa rfl (QI (ZR ha) rfl rfl (.inr rfl) (Yk rfl ?_))
 refine hK _ _ (Qb (kp2 rfl rfl) ?_)
 refine Qw rfl (fun h1 => ?_) (fun h1 => ?_)
 ·try rw [h1]
  try simp only [qa, qb, qc, qd, qe, List.length_map] at h1
  refine Qf fun K hK => Qa rfl ?_
  refine hK _ _ (Qb (kp1 rfl) ?_)
  refine Qu (Qj (Ye rfl ?_))
  rw [Qjz, if_neg (by simp [h1])]; rfl
 ·try rw [h1]
  try simp only [qa, qb, qc, qd, qe, List.length_map] at h1
  refine Qv (Qd (kp1 rfl) (Qf fun K hK => Qa rfl ?_))
  refine hK _ _ (Qb (kp2 rfl rfl) ?_)
  refine Qf fun K hK => Qa rfl (QI (Qad ha) rfl rfl (.inl rfl) (Qa rfl ?_))
  refine hK _ _ (Qb (kp3 rfl rfl rfl) ?_)
  refine QB ?_ -- 1
  refine Qf fun K hK => Qa rfl ?_
  refine hK _ _ (Qb (kp4 rfl rfl rfl rfl) ?_)
  refine Qz ?_
  refine Zi (ι := Nat × List (Cu × Cu)) (fun ⟨i, out⟩ => ⟨[(0, ZE a), (3, .osl 3 out.length), (4, Qg9 (YQ a)), (5, .int .i64 i)], [(3, ⟨out.map QeR, 14, 108, true⟩)]⟩) (fun ⟨i, out⟩ => i <= (YQ a).length /\ FillI (fun x y => !mIn a x y) (YQ a) i out) (fun ⟨i, out⟩ => (YQ a).length - i) (0, []) ?_ ?_ ?_
  ·exact le_trans (Yd 3 3 14 108 rfl rfl) (Q4 (l := [0, 3, 4, 5]) (lH := [3]) (kp4 rfl rfl rfl rfl) (Qe rfl Ql) rfl rfl rfl)
  ·exact ⟨Nat.zero_le _, FillI.zero⟩
  intro ⟨i, out⟩ hI
  obtain ⟨hI1, hI2⟩ := hI
  have hI3 := hI2.1
  try dsimp only
  refine QB ?_ -- 2
  refine Qf fun K hK => Qa rfl (Q1 rfl rfl (by first | exact Qq (by omega) (by omega) | rfl) (Qa rfl (QO rfl rfl (Z3 rfl rfl ?_))))
  refine hK _ _ (Qb (kp5 rfl rfl rfl rfl rfl) ?_)
  refine Qw rfl (fun h2 => ?_) (fun h2 => ?_)
  ·try rw [h2]
   try simp only [qa, qb, qc, qd, qe, List.length_map] at h2
   refine Qv (Qd (kp4 rfl rfl rfl rfl) ?_)
   refine QB ?_ -- 3
   refine Qz (Qf fun K hK => Qa rfl (Qa rfl (Qa rfl (QJ rfl rfl rfl (by omega) (QT (by omega)) rfl (QN (ds0 := [1, 0]) (cs := [_, _, _, _, _, _, _]) rfl rfl rfl rfl rfl rfl (Qa rfl (Qa rfl (Q1 rfl rfl (by first | exact Qq (by omega) (by omega) | rfl) (QJ rfl rfl rfl (by omega) (Qki (by omega)) rfl (QN (ds0 := [1, 0]) (cs := [_, _, _, _, _, _, _]) rfl rfl rfl rfl rfl rfl ?_))))))))))
   refine QX (ds0 := [0]) (QaT ha (Yw ha _ (List.getElem_mem (by omega))) (Yw ha _ (List.getElem_mem (by omega)))) rfl rfl (.inr rfl) rfl rfl (Yk rfl ?_)
   refine hK _ _ (Qb (kp5 rfl rfl rfl rfl rfl) ?_)
   refine Qw rfl (fun h3 => ?_) (fun h3 => ?_)
   ·try rw [h3]
    try simp only [qa, qb, qc, qd, qe, List.length_map] at h3
    refine QL fun K hK => Qa rfl (Qa rfl (Qa rfl (QJ rfl rfl rfl (by omega) (QT (by omega)) rfl (QN (ds0 := [1, 0]) (cs := [_, _, _, _, _, _, _]) rfl rfl rfl rfl rfl rfl (Qa rfl (Qa rfl (Q1 rfl rfl (by first | exact Qq (by omega) (by omega) | rfl) (QJ rfl rfl rfl (by omega) (Qki (by omega)) rfl (QN (ds0 := [1, 0]) (cs := [_, _, _, _, _, _, _]) rfl rfl rfl rfl rfl rfl (QjX (ds0 := [0]) (Qj5 (k := 3) rfl rfl rfl (by decide) rfl (by decide) (by simp [D.ids, D.sid, dCu]) ⟨.osl 3 out.length, by simp, by simp [D.ids, D.sid]⟩ rfl rfl (Qae (by omega) hI2.2.1 (Yw ha _ (List.getElem_mem (by omega))) (Yw ha _ (List.getElem_mem (by omega))))) (fun _ h => by cases h) rfl rfl ?_))))))))))
    refine Qa rfl (hK _ ?_)
    refine Qg (Qd (kp4 rfl rfl rfl rfl) (QL fun K hK => Qa rfl (Q1 rfl rfl (by first | exact Qq (by omega) (by omega) | rfl) (Qa rfl (hK _ ?_)))))
    refine Qi (i + 1, Qb5 out (YQ a)[i] (YQ a)[i + 1]) ?_ ?_ ?_
    ·exact le_trans (Qmc (l := [0, 4, 5]) (t := 40) (u := 3) 3 (kp3 rfl rfl rfl) rfl rfl rfl rfl) (Q4 (l := [0, 3, 4, 5]) (lH := [3]) (kp4 rfl rfl rfl rfl) (Qe rfl Ql) rfl rfl rfl)
    ·exact ⟨by omega, hI2.take (Yw ha) (by omega) (by simp; assumption)⟩
    ·show (YQ a).length - (i + 1) < (YQ a).length - i; omega
   ·try rw [h3]
    try simp only [qa, qb, qc, qd, qe, List.length_map] at h3
    refine Qv (Qg (Qd (kp4 rfl rfl rfl rfl) (QL fun K hK => Qa rfl (Q1 rfl rfl (by first | exact Qq (by omega) (by omega) | rfl) (Qa rfl (hK _ ?_))))))
    refine Qi (i + 1, out) ?_ ?_ ?_
    ·exact Q4 (l := [0, 3, 4, 5]) (lH := [3]) (kp4 rfl rfl rfl rfl) (Qe rfl Ql) rfl rfl rfl
    ·exact ⟨by omega, hI2.skip (by omega) (by simp; assumption)⟩
    ·show (YQ a).length - (i + 1) < (YQ a).length - i; omega
  ·try rw [h2]
   try simp only [qa, qb, qc, qd, qe, List.length_map] at h2
   refine Zf (QK (Qx (QD (Qd (kp1 rfl) (Qf fun K hK => Qa rfl (Qa rfl ?_))))))
   refine hK _ _ (Qb (kp1 rfl) ?_)
   refine Qu (Ye rfl ?_)
   rw [Qjz, if_pos h1, hI2.done (by omega)]; simp [QbM, D.fz, D.fzS, QcW, lk, D.can, D.canS, ZE]
end Go.Proofs
namespace Go.Proofs
open Go Go.Abs M3 M25
set_option linter.unusedVariables false
set_option linter.unusedSimpArgs false
theorem Qeb {a b : QeY} (h1a : Sm a.1) (h2a : Sm a.2) (h1b : Sm b.1) (h2b : Sm b.2) (hl1 : a.1.length + b.1.length <= 1000000) (hl2 : a.2.length + b.2.length <= 1000000) : Ok Tryz.prog 83 [Qha a, Qha b] (Qha (QoE a b)) := by
 refine Ok.ofT ZT Tryz.func83 Qso (Nat.le_of_ble_eq_true rfl) ?_
 show TW _ _ tf83.body _ _
 refine Qf fun K hK => Zv rfl rfl rfl (Zv rfl rfl rfl (ZG rfl ?_))
 refine hK _ _ (Qb (kp3 rfl rfl rfl) ?_)
 refine QB ?_ -- 0
 refine Qf fun K hK => QH (cs := [_, _]) rfl rfl rfl rfl (QI (YE h1a h2a) rfl rfl (.inr rfl) (Yk rfl (Qa rfl ?_)))
 refine QE (g := 8) rfl (fun h1 => ?_) (fun h1 => ?_)
 ·try rw [h1]
  try simp only [qa, qb, qc, qd, qe] at h1
  refine Qt rfl (Qt rfl (Qt rfl (Qo rfl rfl ?_)))
  refine hK _ _ (Qb (kp4 rfl rfl rfl rfl) ?_)
  refine Zs rfl (Qf fun K hK => QI (Z5) rfl rfl (.inl rfl) (Q6 rfl rfl rfl rfl rfl rfl rfl rfl ?_))
  refine hK _ _ (Qb (kp1 rfl) ?_)
  refine Qu (Qj (Post.eq (ZD (ds := [.sl _, .sl _]) (cs := [_, _]) rfl rfl rfl rfl rfl) ?_))
  rw [QoE, if_neg (by simp [h1])]; rfl
 ·try rw [h1]
  try simp only [qa, qb, qc, qd, qe] at h1
  refine Qk rfl (QH (cs := [_, _]) rfl rfl rfl rfl (Qk rfl (QI (YE h1b h2b) rfl rfl (.inr rfl) (Qk rfl (Yk rfl (Qo rfl rfl ?_))))))
  refine hK _ _ (Qb (kp4 rfl rfl rfl rfl) ?_)
  refine Qw rfl (fun h2 => ?_) (fun h2 => ?_)
  ·try rw [h2]
   try simp only [qa, qb, qc, qd, qe] at h2
   refine Qf fun K hK => QI (Z5) rfl rfl (.inl rfl) (Q6 rfl rfl rfl rfl rfl rfl rfl rfl ?_)
   refine hK _ _ (Qb (kp1 rfl) ?_)
   refine Qu (Qj (Post.eq (ZD (ds := [.sl _, .sl _]) (cs := [_, _]) rfl rfl rfl rfl rfl) ?_))
   rw [QoE, if_neg (by simp [h1, h2])]; rfl
  ·try rw [h2]
   try simp only [qa, qb, qc, qd, qe] at h2
   refine Qv (Qd (kp3 rfl rfl rfl) (Qf fun K hK => Qh rfl rfl (QU (ds0 := [7, 1, 0]) rfl rfl rfl rfl rfl (Qh rfl rfl (QU (ds0 := [7, 1, 0]) rfl rfl rfl rfl rfl (QX (ds0 := [1, 0]) (QaS h1a h1b hl1) rfl rfl (.inl rfl) rfl rfl (Qh rfl rfl (QU (ds0 := [2, 1, 0]) rfl rfl rfl rfl rfl (Qh rfl rfl (QU (ds0 := [2, 1, 0]) rfl rfl rfl rfl rfl ?_))))))))))
   refine QX (ds0 := [1, 0]) (QaS h2a h2b hl2) rfl rfl (.inl rfl) rfl rfl (QV rfl rfl (YY (ds0 := []) rfl rfl rfl rfl rfl rfl rfl rfl rfl rfl ?_))
   refine hK _ _ (Qb (kp1 rfl) ?_)
   refine Qu (Post.eq (ZD (ds := [.sl _, .sl _]) (cs := [_, _]) rfl rfl rfl rfl rfl) ?_)
   rw [QoE, if_pos ⟨h1, h2⟩]; rfl
theorem Qdr {a : QeY} (h1a : Sm a.1) (h2a : Sm a.2) : Ok Tryz.prog 84 [Qha a] (Qha (Qhy a)) := by
 refine Ok.ofT ZT Tryz.func84 Qsp (Nat.le_of_ble_eq_true rfl) ?_
 show TW _ _ tf84.body _ _
 refine Qf fun K hK => Zv rfl rfl rfl (ZG rfl ?_)
 refine hK _ _ (Qb (kp2 rfl rfl) ?_)
 refine QB ?_ -- 0
 refine Qf fun K hK => QH (cs := [_, _]) rfl rfl rfl rfl (QI (YE h1a h2a) rfl rfl (.inr rfl) (Yk rfl ?_))
 refine hK _ _ (Qb (kp3 rfl rfl rfl) ?_)
 refine Qw rfl (fun h1 => ?_) (fun h1 => ?_)
 ·try rw [h1]
  try simp only [qa, qb, qc, qd, qe] at h1
  refine Qf fun K hK => QI (Z5) rfl rfl (.inl rfl) (Q6 rfl rfl rfl rfl rfl rfl rfl rfl ?_)
  refine hK _ _ (Qb (kp1 rfl) ?_)
  refine Qu (Qj (Post.eq (ZD (ds := [.sl _, .sl _]) (cs := [_, _]) rfl rfl rfl rfl rfl) ?_))
  rw [Qhy, if_neg (by simp [h1])]; rfl
 ·try rw [h1]
  try simp only [qa, qb, qc, qd, qe] at h1
  refine Qv (Qd (kp2 rfl rfl) (Qf fun K hK => Qh rfl rfl (QU (ds0 := [5, 1, 0]) rfl rfl rfl rfl rfl (QX (ds0 := [1, 0]) (Qar h1a) rfl rfl (.inl rfl) rfl rfl (Qh rfl rfl (QU (ds0 := [2, 1, 0]) rfl rfl rfl rfl rfl (QX (ds0 := [1, 0]) (Qar h2a) rfl rfl (.inl rfl) rfl rfl (QV rfl rfl (YY (ds0 := []) rfl rfl rfl rfl rfl rfl rfl rfl rfl rfl ?_)))))))))
  refine hK _ _ (Qb (kp1 rfl) ?_)
  refine Qu (Post.eq (ZD (ds := [.sl _, .sl _]) (cs := [_, _]) rfl rfl rfl rfl rfl) ?_)
  rw [Qhy, if_pos h1]; rfl
end Go.Proofs
namespace Go.Proofs
open Go Go.Abs M3 M25
set_option linter.unusedVariables false
set_option linter.unusedSimpArgs false
theorem ZW {v n : Int} (hn : n <= 9223372036854775807) (hv : I64 v) : Ok Tryz.prog 31 [.int .i64 v, .int .i64 n] (.int .i64 (mPl v n)) := by
 refine Ok.ofT ZT Tryz.func31 QrB (Nat.le_of_ble_eq_true rfl) ?_
 show TW _ _ tf31.body _ _
 refine Qf fun K hK => Qa rfl ?_
 refine hK _ _ (Qb (kp2 rfl rfl) ?_)
 refine QB ?_ -- 0
 refine Qf fun K hK => Qa rfl (Z3 rfl rfl ?_)
 refine hK _ _ (Qb (kp3 rfl rfl rfl) ?_)
 refine Qw rfl (fun h1 => ?_) (fun h1 => ?_)
 ·try rw [h1]
  try simp only [qa, qb, qc, qd, qe] at h1
  refine Qf fun K hK => Qa rfl ?_
  refine hK _ _ (Qb (kp1 rfl) ?_)
  refine Qu (Qj (QG rfl ?_))
  rw [mPl, if_pos h1]
 ·try rw [h1]
  try simp only [qa, qb, qc, qd, qe] at h1
  refine Qv (Qd (kp2 rfl rfl) (Qf fun K hK => Qa rfl (Qa rfl (Qnk rfl rfl (by omega) (Qa rfl ?_)))))
  refine hK _ _ (Qb (kp2 rfl rfl) ?_)
  refine QB ?_ -- 1
  refine Qf fun K hK => Qa rfl (Z3 rfl rfl ?_)
  refine hK _ _ (Qb (kp3 rfl rfl rfl) ?_)
  refine Qw rfl (fun h2 => ?_) (fun h2 => ?_)
  ·try rw [h2]
   try simp only [qa, qb, qc, qd, qe] at h2
   refine Qf fun K hK => Qa rfl (Qa rfl (Q1 rfl rfl (Qq (by have := Int.lt_tmod_of_pos v (show 0 < n by omega); omega) (by have := Int.tmod_lt_of_pos v (show 0 < n by omega); omega)) (Qa rfl ?_)))
   refine hK _ _ (Qb (kp1 rfl) ?_)
   refine Qu (Qj (QG rfl ?_))
   rw [mPl, if_neg h1, QfU, if_pos h2]
  ·try rw [h2]
   try simp only [qa, qb, qc, qd, qe] at h2
   refine Qv (Qd (kp1 rfl) (Qf fun K hK => Qa rfl (Qa rfl ?_)))
   refine hK _ _ (Qb (kp1 rfl) ?_)
   refine Qu (QG rfl ?_)
   rw [mPl, if_neg h1, QfU, if_neg h2]
theorem Qea {l : List Int} {i : Int} : Ok Tryz.prog 61 [Zn l, .int .i64 i] (.int .i64 (Qnd l i)) := by
 refine Ok.ofT ZT Tryz.func61 Qr3 (Nat.le_of_ble_eq_true rfl) ?_
 show TW _ _ tf61.body _ _
 refine Qf fun K hK => Qa rfl ?_
 refine hK _ _ (Qb (kp2 rfl rfl) ?_)
 refine QB ?_ -- 0
 refine Qf fun K hK => Qa rfl (Z3 rfl rfl (Qa rfl ?_))
 refine QE (g := 7) rfl (fun h1 => ?_) (fun h1 => ?_)
 ·try rw [h1]
  try simp only [qa, qb, qc, qd, qe, List.length_map] at h1
  refine Qt rfl (Qt rfl (Qt rfl (Qt rfl (Qo rfl rfl ?_))))
  refine hK _ _ (Qb (kp3 rfl rfl rfl) ?_)
  refine Zs rfl (Qf fun K hK => Qa rfl (Qnk rfl rfl (by omega) (Qa rfl ?_)))
  refine hK _ _ (Qb (kp1 rfl) ?_)
  refine Qu (Qj (QG rfl ?_))
  rw [Qnd, if_pos (by omega)]
 ·try rw [h1]
  try simp only [qa, qb, qc, qd, qe, List.length_map] at h1
  refine Qk rfl (Qa rfl (Qk rfl (Qa rfl (Qk rfl (QO rfl rfl (Qk rfl (QeX rfl rfl (Qo rfl rfl ?_))))))))
  refine hK _ _ (Qb (kp3 rfl rfl rfl) ?_)
  refine Qw rfl (fun h2 => ?_) (fun h2 => ?_)
  ·try rw [h2]
   try simp only [qa, qb, qc, qd, qe, List.length_map] at h2
   refine Qf fun K hK => Qa rfl (Qnk rfl rfl (by omega) (Qa rfl ?_))
   refine hK _ _ (Qb (kp1 rfl) ?_)
   refine Qu (Qj (QG rfl ?_))
   rw [Qnd, if_pos (by omega)]
  ·try rw [h2]
   try simp only [qa, qb, qc, qd, qe, List.length_map] at h2
   refine Qv (Qd (kp2 rfl rfl) (Qf fun K hK => Qa rfl (Qa rfl (QJ rfl rfl rfl (by omega) (ZB (by omega) (by omega)) rfl (QA rfl rfl rfl (Qa rfl ?_))))))
   refine hK _ _ (Qb (kp1 rfl) ?_)
   refine Qu (QG rfl ?_)
   exact (Qmi (by omega) (by omega)).symm
theorem XG {k : Nat} {L : List Int} {I n : Int} (hk : 1000000 <= k) (hL : ∀ x ∈ L, I64 x) (hn : n <= 9223372036854775807) (et : Nat) : OkH Tryz.prog 36 [.ref k 0 0, .int .i64 n] [(k, gB L I et)] (.int .i64 (nx L I n)) ((k, gB L (nxI I) et) :: [(k, gB L I et)]) := by
 refine OkH.lent hk ZT Tryz.func36 QrG (Nat.le_of_ble_eq_true rfl) rfl ?_
 show TW _ _ tf36.body _ _
 refine Qf fun K hK => Qa rfl ?_
 refine hK _ _ (Qb (kp2 rfl rfl) ?_)
 refine Qf fun K hK => Qa rfl (Ya rfl rfl (Qh rfl Qe6 (QA rfl (Z4 Qem rfl) rfl (Q1 rfl rfl rfl (Ya rfl rfl (Qh rfl Qe6 (Q6 rfl Qem rfl rfl rfl rfl rfl rfl ?_)))))))
 refine hK _ _ (Qb (kp2 rfl rfl) ?_)
 refine Qf fun K hK => Qa rfl (Ya rfl rfl (Qh rfl Qe6 (QU (ds0 := [3, 1, 0]) rfl (Z4 Qem rfl) rfl rfl rfl (Qa rfl (Ya rfl rfl (Qh rfl Qe6 (QU (ds0 := [4, 3, 1, 0]) rfl (Z4 Qem rfl) rfl rfl rfl (QaE rfl rfl rfl (QX (ds0 := [1, 0]) (Qea) rfl rfl (.inr rfl) rfl rfl (Qa rfl ?_))))))))))
 refine QX (ds0 := [0]) (ZW hn (QnR hL (Qgd _))) rfl rfl (.inr rfl) rfl rfl (Qa rfl ?_)
 refine hK _ _ (Qb (kp1 rfl) ?_)
 refine Qu ?_
 exact Yy rfl rfl (Qpz Qem)
end Go.Proofs
namespace Go.Proofs
open Go Go.Abs M3 M25
set_option linter.unusedVariables false
set_option linter.unusedSimpArgs false
theorem Y3 {v : Int} (h0 : 0 <= v) (h1v : v <= 61) : Ok Tryz.prog 50 [.int .i64 v] (.int .i64 (2 ^ v.toNat)) := by
 refine Ok.ofT ZT Tryz.func50 QrS (Nat.le_of_ble_eq_true rfl) ?_
 show TW _ _ tf50.body _ _
 refine Qf fun K hK => Qa rfl ?_
 refine hK _ _ (Qb (kp1 rfl) ?_)
 refine Qf fun K hK => Qa rfl ?_
 refine hK _ _ (Qb (kp2 rfl rfl) ?_)
 refine QB ?_ -- 0
 refine Qf fun K hK => Qa rfl ?_
 refine hK _ _ (Qb (kp3 rfl rfl rfl) ?_)
 refine Qz ?_
 refine Zi (ι := Nat) (fun i => ⟨[(0, .int .i64 v), (3, .int .i64 (2 ^ i)), (4, .int .i64 i)], []⟩) (fun i => (i : Int) <= v) (fun i => v.toNat - i) 0 ?_ ?_ ?_
 ·exact Zb (kp3 rfl rfl rfl)
 ·exact h0
 intro i hI
 have hp := QhD (i := i + 1) (by omega)
 rw [Int.pow_succ] at hp
 try dsimp only
 refine QB ?_ -- 1
 refine Qf fun K hK => Qa rfl (Qa rfl (Z3 rfl rfl ?_))
 refine hK _ _ (Qb (kp4 rfl rfl rfl rfl) ?_)
 refine Qw rfl (fun h1 => ?_) (fun h1 => ?_)
 ·try rw [h1]
  try simp only [qa, qb, qc, qd, qe] at h1
  refine Qv (Qd (kp3 rfl rfl rfl) ?_)
  refine QB ?_ -- 2
  refine Qz (QL fun K hK => Qa rfl (QoW rfl rfl (Qq (by obtain ⟨p1, p2⟩ := hp; generalize (2 : Int) ^ i = z at *; omega) (by obtain ⟨p1, p2⟩ := hp; generalize (2 : Int) ^ i = z at *; omega)) (Qa rfl (hK _ ?_))))
  refine Qg (Qd (kp3 rfl rfl rfl) (QL fun K hK => Qa rfl (Q1 rfl rfl (Qq (by omega) (by omega)) (Qa rfl (hK _ ?_)))))
  refine Qi (i + 1) ?_ ?_ ?_
  ·exact Q4 (l := [0, 3, 4]) (lH := []) (kp3 rfl rfl rfl) Ql (by rw [Int.pow_succ]; rfl) rfl rfl
  ·show ((i + 1 : Nat) : Int) <= v; omega
  ·first | omega | (simp only; omega) | (dsimp only; omega)
 ·try rw [h1]
  try simp only [qa, qb, qc, qd, qe] at h1
  refine Zf (QK (Qx (QD (Qd (kp1 rfl) (Qf fun K hK => Qa rfl (Qa rfl ?_))))))
  refine hK _ _ (Qb (kp1 rfl) ?_)
  refine Qu (QG rfl ?_)
  rw [show v.toNat = i by omega]
theorem XH {h m : Int} : Ok Tryz.prog 29 [.int .i64 h, .int .i64 m] (.int .i64 (ZQ h m)) := by
 refine Ok.ofT ZT Tryz.func29 QrA (Nat.le_of_ble_eq_true rfl) ?_
 show TW _ _ tf29.body _ _
 refine Qf fun K hK => Qa rfl ?_
 refine hK _ _ (Qb (kp2 rfl rfl) ?_)
 refine QB ?_ -- 0
 refine Qz (Qf fun K hK => Qa rfl (Qa rfl (QeP rfl rfl (Qa rfl (ZI rfl rfl (Qa rfl ?_))))))
 refine hK _ _ (Qb (kp3 rfl rfl rfl) ?_)
 refine Qw rfl (fun h1 => ?_) (fun h1 => ?_)
 ·try rw [h1]
  try simp only [qa, qb, qc, qd, qe] at h1
  refine Qf fun K hK => Qa rfl ?_
  refine hK _ _ (Qb (kp1 rfl) ?_)
  refine Qu (Qr (Qj (QG rfl ?_)))
  rw [ZQ, if_pos h1]
 ·try rw [h1]
  try simp only [qa, qb, qc, qd, qe] at h1
  refine Qf fun K hK => Qa rfl (Qa rfl (QeP rfl rfl (ZI rfl rfl (Qa rfl ?_))))
  refine hK _ _ (Qb (kp1 rfl) ?_)
  refine Qw rfl (fun h2 => ?_) (fun h2 => ?_)
  ·try rw [h2]
   try simp only [qa, qb, qc, qd, qe] at h2
   refine Qf fun K hK => Qa rfl ?_
   refine hK _ _ (Qb (kp1 rfl) ?_)
   refine Qu (Qr (Qj (QG rfl ?_)))
   rw [ZQ, if_neg h1, if_pos h2]
  ·try rw [h2]
   try simp only [qa, qb, qc, qd, qe] at h2
   refine Qv (Qg (Qd (Q5) (Qf fun K hK => Qa rfl ?_)))
   refine hK _ _ (Qb (kp1 rfl) ?_)
   refine Qu (QG rfl ?_)
   rw [ZQ, if_neg h1, if_neg h2]
theorem Qh6 {h m : Int} : Ok Tryz.prog 87 [.int .i64 h, .int .i64 m] (.int .i64 (QaK h m)) := by
 refine Ok.ofT ZT Tryz.func87 Qss (Nat.le_of_ble_eq_true rfl) ?_
 show TW _ _ tf87.body _ _
 refine Qf fun K hK => Qa rfl ?_
 refine hK _ _ (Qb (kp2 rfl rfl) ?_)
 refine QB ?_ -- 0
 refine Qz (Qf fun K hK => Qa rfl (Qa rfl (QeW rfl rfl (ZI rfl rfl (Qa rfl ?_)))))
 refine hK _ _ (Qb (kp3 rfl rfl rfl) ?_)
 refine Qw rfl (fun h1 => ?_) (fun h1 => ?_)
 ·try rw [h1]
  try simp only [qa, qb, qc, qd, qe] at h1
  refine Qf fun K hK => Qa rfl ?_
  refine hK _ _ (Qb (kp1 rfl) ?_)
  refine Qu (Qr (Qj (QG rfl ?_)))
  rw [QaK, if_pos h1]
 ·try rw [h1]
  try simp only [qa, qb, qc, qd, qe] at h1
  refine Qf fun K hK => Qa rfl (Qa rfl (QeP rfl rfl (ZI rfl rfl (Qa rfl ?_))))
  refine hK _ _ (Qb (kp1 rfl) ?_)
  refine Qw rfl (fun h2 => ?_) (fun h2 => ?_)
  ·try rw [h2]
   try simp only [qa, qb, qc, qd, qe] at h2
   refine Qf fun K hK => Qa rfl ?_
   refine hK _ _ (Qb (kp1 rfl) ?_)
   refine Qu (Qr (Qj (QG rfl ?_)))
   rw [QaK, if_neg h1, if_pos h2]
  ·try rw [h2]
   try simp only [qa, qb, qc, qd, qe] at h2
   refine Qv (Qg (Qd (Q5) (Qf fun K hK => Qa rfl ?_)))
   refine hK _ _ (Qb (kp1 rfl) ?_)
   refine Qu (QG rfl ?_)
   rw [QaK, if_neg h1, if_neg h2]
end Go.Proofs
namespace Go.Proofs
open Go Go.Abs M3 M25
set_option linter.unusedVariables false
set_option linter.unusedSimpArgs false
theorem Xf  : Ok Tryz.prog 53 [] (.sl (versions.map dVr)) := by
 refine Ok.ofT ZT Tryz.func53 QrV (Nat.le_of_ble_eq_true rfl) ?_
 show TW _ _ tf53.body _ _
 refine Qf fun K hK => Qa rfl ?_
 refine hK _ _ (Qb (Q5) ?_)
 refine Qf fun K hK => QV rfl rfl (QV rfl rfl (QV rfl rfl (QV rfl rfl (QC rfl rfl (Qa rfl ?_)))))
 refine hK _ _ (Qb (kp1 rfl) ?_)
 refine Qu (Ye rfl ?_)
 rfl
end Go.Proofs
namespace M25
open Go Go.Abs M3
structure WantT where
 u : Int
 s : QeY
structure CandT where
 v : Vr
 sh : Int
 ns : List (List WantT)
 bs : List WantT
structure Qnm where
 n : List UInt8
 f : List UInt8
 cs : List CandT
abbrev Qp := List Qnm
def QeS (x : WantT) : List D := [.int .i64 x.u, ZE x.s.1, ZE x.s.2]
def Q9 (l : List WantT) : D := .sl (l.map QeS)
def QW (l : List (List WantT)) : D := .sl (l.map fun r => [Q9 r])
def Qpb (c : CandT) : List D := [.int .i64 c.v.a, .int .i64 c.v.b, .int .i64 c.v.c, .str c.v.p, .str c.v.q, .int .i64 c.sh, QW c.ns, Q9 c.bs]
def Qj7 (l : List CandT) : D := .sl (l.map Qpb)
def Ym (u : Qnm) : List D := [.str u.n, .str u.f, Qj7 u.cs]
def ZY (w : Qp) : D := .agg [.sl (w.map Ym)]
structure TermT where
 u : Int
 m : Int
 deriving DecidableEq
structure StepT where
 u : Int
 m : Int
 l : Int
 c : Int
 deriving DecidableEq
structure RowT where
 k : Int
 u : Int
 a : Int
 b : Int
 t : List TermT
def Qdu (t : TermT) : List D := [.int .i64 t.u, .int .i64 t.m]
def ZF (l : List TermT) : D := .sl (l.map Qdu)
def Qfu (s : StepT) : List D := [.int .i64 s.u, .int .i64 s.m, .int .i64 s.l, .int .i64 s.c]
def Zu (l : List StepT) : D := .sl (l.map Qfu)
def QlL (r : RowT) : List D := [.int .i64 r.k, .int .i64 r.u, .int .i64 r.a, .int .i64 r.b, ZF r.t]
def Qpc (l : List RowT) : D := .sl (l.map QlL)
def dDb (l : List (List TermT)) : D := .sl (l.map fun t => [ZF t])
abbrev QbD (a b : Int) : Int := Qal .and .i64 a b
abbrev bor (a b : Int) : Int := Qal .or .i64 a b
abbrev Qfo (a b : Int) : Int := Qal .andNot .i64 a b
def uAt (w : Qp) (u : Int) : Option Qnm := if u < 0 then none else w[u.toNat]?
theorem QkR {w : Qp} {u : Int} (h0 : 0 <= u) (h : u < w.length) : uAt w u = some (w[u.toNat]'(by omega)) := by
 rw [uAt, if_neg (by omega), List.getElem?_eq_getElem (by omega)]
theorem QjQ {w : Qp} {u : Int} (h : u < 0 \/ (w.length : Int) <= u) : uAt w u = none := by
 unfold uAt
 split
 ·rfl
 ·rw [List.getElem?_eq_none]; omega
def Yx (w : Qp) (u : Int) : Int := match uAt w u with
 | none => 0
 | some x => 2 ^ (min x.cs.length 16 + 1) - 1
theorem Qe8 {w : Qp} {u : Int} (h0 : 0 <= u) (h : u < w.length) : Yx w u = 2 ^ (min (w[u.toNat]'(by omega)).cs.length 16 + 1) - 1 := by
 rw [Yx, QkR h0 h]
theorem QdJ {w : Qp} {u : Int} (h : u < 0 \/ (w.length : Int) <= u) : Yx w u = 0 := by rw [Yx, QjQ h]
theorem Qcn (w : Qp) (u : Int) : 0 <= Yx w u /\ Yx w u <= 131071 := by
 unfold Yx
 split
 ·omega
 ·rename_i x _
  have h1 : (2 : Nat) ^ (min x.cs.length 16 + 1) <= 2 ^ 17 := Nat.pow_le_pow_right (by omega) (by omega)
  have h2 : 1 <= (2 : Nat) ^ (min x.cs.length 16 + 1) := Nat.one_le_two_pow
  have h3 : ((2 ^ (min x.cs.length 16 + 1) : Nat) : Int) = (2 : Int) ^ (min x.cs.length 16 + 1) := by simp
  rw [<- h3]
  have h4 : (2 : Nat) ^ 17 = 131072 := by decide
  omega
def Qgp (v : Vr) : Prop := v.p.length <= 1000000 /\ v.q.length <= 1000000
structure WSm (w : Qp) : Prop where
 len : w.length <= 48
 cs : ∀ u ∈ w, u.cs.length <= 16
 vs : ∀ u ∈ w, ∀ c ∈ u.cs, Qgp c.v
 ns : ∀ u ∈ w, ∀ c ∈ u.cs, c.ns.length <= 1000 /\ c.bs.length <= 1000
 nl : ∀ u ∈ w, ∀ c ∈ u.cs, ∀ r ∈ c.ns, r.length <= 1000
 nw : ∀ u ∈ w, ∀ c ∈ u.cs, ∀ r ∈ c.ns, ∀ x ∈ r, Sm x.s.1 /\ Sm x.s.2
 bw : ∀ u ∈ w, ∀ c ∈ u.cs, ∀ x ∈ c.bs, Sm x.s.1 /\ Sm x.s.2
def QqI (s : QeY) (v : Vr) : Bool := Qlh s v.a v.b v.c v.p v.q
def QbJ (s : QeY) (l : List CandT) : Nat -> Int
 | 0 => 0
 | n + 1 => QbJ s l n + match l[n]? with
  | some c => if QqI s c.v = true then 2 ^ (n + 1) else 0
  | none => 0
theorem Qky (s : QeY) (l : List CandT) : ∀ n, 0 <= QbJ s l n /\ QbJ s l n <= 2 ^ (n + 1) - 2
 | 0 => by simp [QbJ]
 | n + 1 => by
  obtain ⟨h1, h2⟩ := Qky s l n
  have h3 : (2 : Int) ^ (n + 1 + 1) = 2 ^ (n + 1) * 2 := Int.pow_succ ..
  have h4 : (0 : Int) < 2 ^ (n + 1) := Int.pow_pos (by omega)
  rw [QbJ, h3]
  generalize (2 : Int) ^ (n + 1) = z at *
  split
  ·split <;> omega
  ·omega
theorem Qmv {s : QeY} {l : List CandT} {i : Nat} (h : i < l.length) (hp : QqI s l[i].v = true) : QbJ s l (i + 1) = QbJ s l i + 2 ^ (i + 1) := by
 rw [QbJ, List.getElem?_eq_getElem h]; simp only [hp, if_true]
theorem QnX {s : QeY} {l : List CandT} {i : Nat} (h : i < l.length) (hp : QqI s l[i].v = false) : QbJ s l (i + 1) = QbJ s l i := by
 rw [QbJ, List.getElem?_eq_getElem h]; simp only [hp, Bool.false_eq_true, if_false, Int.add_zero]
def Qi8 (w : Qp) (x : WantT) : Int := match uAt w x.u with
 | none => 0
 | some un => QbJ x.s un.cs (min un.cs.length 16)
theorem Qmo {w : Qp} {x : WantT} (h0 : 0 <= x.u) (h : x.u < w.length) : Qi8 w x = QbJ x.s (w[x.u.toNat]'(by omega)).cs (min (w[x.u.toNat]'(by omega)).cs.length 16) := by
 rw [Qi8, QkR h0 h]
theorem Qku {w : Qp} {x : WantT} (h : x.u < 0 \/ (w.length : Int) <= x.u) : Qi8 w x = 0 := by rw [Qi8, QjQ h]
theorem Qpq {n : Nat} (h : n <= 17) : 1 <= (2 : Int) ^ n /\ (2 : Int) ^ n <= 131072 := by
 have h1 : (2 : Nat) ^ n <= 2 ^ 17 := Nat.pow_le_pow_right (by omega) h
 have h2 : 1 <= (2 : Nat) ^ n := Nat.one_le_two_pow
 have h3 : ((2 ^ n : Nat) : Int) = (2 : Int) ^ n := by simp
 rw [<- h3]
 have h4 : (2 : Nat) ^ 17 = 131072 := by decide
 omega
theorem Qkx (s : QeY) (l : List CandT) {n : Nat} (h : n <= 16) : 0 <= QbJ s l n /\ QbJ s l n <= 131070 := by
 obtain ⟨h1, h2⟩ := Qky s l n
 have := Qpq (n := n + 1) (by omega)
 omega
theorem Qpm (w : Qp) (x : WantT) : 0 <= Qi8 w x /\ Qi8 w x <= 131070 := by
 unfold Qi8
 split
 ·omega
 ·exact Qkx _ _ (by omega)
def YR (m : Int) : Nat -> List Int
 | 0 => []
 | n + 1 => YR m n ++ if QbD m (2 ^ n) = 0 then [] else [(n : Int) - 1]
def XJ (m : Int) : List Int := YR m 17
theorem QaV (m : Int) : ∀ n, (YR m n).length <= n
 | 0 => Nat.le_refl _
 | n + 1 => by
  have := QaV m n
  rw [YR, List.length_append]
  split <;> simp <;> omega
def QbA (f : Int) (u : Int) : List TermT -> Int
 | [] => f
 | t :: r => if t.u = u then t.m else QbA f u r
def Qc9 (w : Qp) (l : List TermT) (u : Int) : Int := QbA (Yx w u) u l
theorem Qll {f u : Int} {l : List TermT} {i : Nat} (h : i < l.length) (hn : ¬ l[i].u = u) : QbA f u (l.drop i) = QbA f u (l.drop (i + 1)) := by
 rw [List.drop_eq_getElem_cons h, QbA, if_neg hn]
theorem Qmu {f u : Int} {l : List TermT} {i : Nat} (h : i < l.length) (hn : l[i].u = u) : QbA f u (l.drop i) = l[i].m := by
 rw [List.drop_eq_getElem_cons h, QbA, if_pos hn]
def QbU (w : Qp) : Nat -> List Int
 | 0 => []
 | n + 1 => QbU w n ++ [Yx w n]
theorem Qc7 (w : Qp) : ∀ n, (QbU w n).length = n
 | 0 => rfl
 | n + 1 => by rw [QbU, List.length_append, Qc7 w n]; rfl
def QaY (w : Qp) : List Int := QbU w w.length
def Xs (w : Qp) (ms : List Int) : Nat -> List TermT
 | 0 => []
 | n + 1 => Xs w ms n ++ if ms.getD n 0 = Yx w n then [] else [⟨n, ms.getD n 0⟩]
theorem QgM (w : Qp) (ms : List Int) : ∀ n, (Xs w ms n).length <= n
 | 0 => Nat.le_refl _
 | n + 1 => by
  have := QgM w ms n
  rw [Xs, List.length_append]
  split <;> simp <;> omega
def QiB (w : Qp) (ms : List Int) : Option (List TermT) := if ms.all (fun m => !decide (m = 0)) = true then some (Xs w ms ms.length) else none
def dOT (o : Option (List TermT)) : D := .tup [ZF (o.getD []), .bool o.isSome]
def Xr (ms : List Int) (l : List TermT) : List Int := l.foldl (fun ms t => ms.set t.u.toNat (QbD (ms.getD t.u.toNat 0) t.m)) ms
def inW (w : Qp) (u : Int) : Bool := decide (0 <= u) && decide (u < w.length)
def QcV (w : Qp) (l : List TermT) : Option (List TermT) := if l.all (fun t => inW w t.u) = true then QiB w (Xr (QaY w) l) else none
def QgG (l : List TermT) (u : Int) : List TermT := l.filter fun t => !decide (t.u = u)
def Yl (l : List TermT) : Nat -> List TermT
 | 0 => []
 | n + 1 => Yl l n ++ l.filter fun t => decide (t.u = ((n : Nat) : Int))
def QhA (l : List TermT) : List TermT := Yl l 48
def Yi (w : Qp) (u : Int) (p : Nat) (l : List WantT) (bar : Bool) : Option (List TermT) :=
 QcV w (⟨u, QbD (Yx w u) (2 * 2 ^ p)⟩ :: l.map fun x => ⟨x.u, if bar = true then Qi8 w x else Yx w x.u - Qi8 w x⟩)
def Qju (r x : RowT) : Bool := decide (x.k = r.k) && decide (x.u = r.u) && decide (QgG x.t r.u = QgG r.t r.u)
def QnJ (w : Qp) (r x : RowT) : RowT := { x with t := QhA (⟨r.u, bor (Qc9 w x.t r.u) (Qc9 w r.t r.u)⟩ :: QgG x.t r.u) }
def Xb (w : Qp) (r : RowT) : List RowT -> List RowT
 | [] => [r]
 | x :: l => if Qju r x = true then QnJ w r x :: l else x :: Xb w r l
def YN (w : Qp) (u : Int) (p : Nat) (l : List (List WantT)) (rows : List RowT) : List RowT := l.foldl (fun rows n => match Yi w u p n false with
 | some t => Xb w ⟨2, u, 0, 0, t⟩ rows
 | none => rows) rows
def QbE (w : Qp) (u : Int) (p : Nat) (l : List WantT) (rows : List RowT) : List RowT := l.foldl (fun rows n => match Yi w u p [n] true with
 | some t => Xb w ⟨3, u, 0, 0, t⟩ rows
 | none => rows) rows
def YF (w : Qp) (u : Int) (cs : List CandT) : Nat -> List RowT -> List RowT
 | 0, rows => rows
 | n + 1, rows => match cs[n]? with
  | some c => QbE w u n c.bs (YN w u n c.ns (YF w u cs n rows))
  | none => YF w u cs n rows
def Yr (w : Qp) : Nat -> List RowT
 | 0 => [⟨1, 0, 0, 0, [⟨0, 1⟩]⟩]
 | n + 1 => match w[n]? with
  | some u => YF w n u.cs u.cs.length (Yr w n)
  | none => Yr w n
def Qb2 (w : Qp) : List RowT := Yr w w.length
def mDB (w : Qp) : List (List TermT) := (Qb2 w).map RowT.t
/-! ### Trails -/
def Zg (w : Qp) (l : List StepT) (u : Int) : Int := l.foldl (fun a s => if s.u = u /\ inW w u = true then s.m else a) (Yx w u)
def Xq (l : List StepT) : Int := match l.getLast? with
 | none => 0
 | some s => s.l
def QdI (l : List StepT) (u : Int) : Bool := l.any fun s => decide (s.u = u) && decide (s.c = -1)
def QnY : List Int -> Int
 | [x] => x
 | _ => -1
def Qda (m : Int) : Int := QnY (XJ m)
def Qdb (w : Qp) (l : List StepT) (s : StepT) : Bool :=
 inW w s.u && decide (-1 <= s.c) && decide (QbD s.m (Zg w l s.u) = s.m) &&
  if s.c = -1 then decide (0 <= Qda s.m) && !QdI l s.u && decide (s.l = IntKind.i64.wrap (Xq l + 1))
  else !decide (s.m = 0) && !decide (s.m = Zg w l s.u) && decide (s.l = Xq l)
def QdM (w : Qp) (l : List StepT) : Bool := (List.range l.length).all fun i => match l[i]? with
 | some s => Qdb w (l.take i) s
 | none => true
def QfV (w : Qp) (l : List StepT) (inc : List TermT) : Bool := inc.all fun t => decide (ZQ (Zg w l t.u) t.m = 2)
def ZN (have_ : Int -> Int) : List TermT -> Int -> Int
 | [], at_ => at_
 | t :: r, at_ => if ZQ (have_ t.u) t.m = 0 then -1 else if ZQ (have_ t.u) t.m = 1 then (if 0 <= at_ then -1 else ZN have_ r t.u) else ZN have_ r at_
def QeU (w : Qp) (l : List StepT) (inc : List TermT) : Int := ZN (Zg w l) inc (-1)
def YG (w : Qp) (l : List StepT) : Nat -> List (List TermT) -> Int × Int
 | _, [] => (-1, -1)
 | i, x :: r => if QfV w l x = true then (i, -1) else if 0 <= QeU w l x then (i, QeU w l x) else YG w l (i + 1) r
def Zx (w : Qp) (db : List (List TermT)) (l : List StepT) : Int × Int := YG w l 0 db
def Yj (w : Qp) (l : List StepT) (t : TermT) (c : Int) : Option (List StepT) :=
 if c < 0 \/ inW w t.u = false then none
 else if IntKind.i64.wrap (Zg w l t.u - QbD (Zg w l t.u) t.m) = 0 \/ IntKind.i64.wrap (Zg w l t.u - QbD (Zg w l t.u) t.m) = Zg w l t.u then none
 else some (l ++ [⟨t.u, IntKind.i64.wrap (Zg w l t.u - QbD (Zg w l t.u) t.m), Xq l, c⟩])
def Xh (w : Qp) (l : List StepT) (u p : Int) : Option (List StepT) := match uAt w u with
 | none => none
 | some x => if p < 0 \/ (x.cs.length : Int) <= p then none
  else if Qdb w l ⟨u, IntKind.i64.wrap (2 * 2 ^ min p.toNat 64), IntKind.i64.wrap (Xq l + 1), -1⟩ = true then some (l ++ [⟨u, IntKind.i64.wrap (2 * 2 ^ min p.toNat 64), IntKind.i64.wrap (Xq l + 1), -1⟩]) else none
def dOS (o : Option (List StepT)) : D := .tup [Zu (o.getD []), .bool o.isSome]
def Qbr (w : Qp) (db : List (List TermT)) : Nat -> List StepT -> List StepT × Int
 | 0, out => (out, -1)
 | n + 1, out => if (Zx w db out).2 < 0 then (out, (Zx w db out).1)
  else Qbr w db n ((Yj w out ⟨(Zx w db out).2, Qc9 w (db.getD (Zx w db out).1.toNat []) (Zx w db out).2⟩ (Zx w db out).1).getD [])
def XU (w : Qp) (db : List (List TermT)) (l : List StepT) : List StepT × Int := Qbr w db (w.length * 18 + 1) l
end M25
namespace M25
open Go Go.Abs M3
section
variable {fr : List (Nat × D)} {H : List (Nat × Box)} {t u : Nat}
theorem QjZ {k n : Nat} {b : Box} {d : D} (hb : lk H k = some b) (hp : b.pr = true) (hn : n = b.rows.length) (hd : .sl b.rows = d) : QbM ⟨fr, H⟩ (.osl k n) = d := by
 unfold QbM; rw [QqH (S := QcW) rfl hb hp hn]; exact hd
theorem QaA {e : YA} {k n : Nat} {b : Box} {d : D} (h : lk fr t = some (.osl k n)) (hb : lk H k = some b) (hp : b.pr = true) (hn : n = b.rows.length) (hd : .sl b.rows = d) (he : e = .ret \/ e = .normal := by first | exact .inl rfl | exact .inr rfl) : Post [.tmp t] d e ⟨fr, H⟩ :=
 Ye h (QjZ hb hp hn hd) he
theorem Qf0 {e : YA} {k n : Nat} {b : Box} {q d d' : D} (h : lk fr t = some (.osl k n)) (hb : lk H k = some b) (hp : b.pr = true) (hn : n = b.rows.length) (hd : .sl b.rows = d) (h2 : lk fr u = some q) (hd2 : QbM ⟨fr, H⟩ q = d') (he : e = .ret \/ e = .normal := by first | exact .inl rfl | exact .inr rfl) : Post [.tmp t, .tmp u] (.tup [d, d']) e ⟨fr, H⟩ :=
 QS h h2 ⟨QjZ hb hp hn hd, hd2⟩ he
end
theorem QqJ (n : Nat) : (min (n : Int) 16 + 1).toNat = min n 16 + 1 := by omega
theorem Qi6 {n : Nat} (h : n <= 62) : IntKind.i64.wrap ((2 : Int) ^ n - 1) = 2 ^ n - 1 := by
 have := QhD h; exact Qq (by omega) (by omega)
theorem Qqc (i : Nat) : (2 : Int) ^ ((i : Int) + 1).toNat = 2 ^ (i + 1) := by rw [Qna]
theorem Qon (s : QeY) (l : List CandT) {i : Nat} (h : i < 16) : IntKind.i64.wrap (QbJ s l i + (2 : Int) ^ ((i : Int) + 1).toNat) = QbJ s l i + 2 ^ (i + 1) := by
 rw [Qqc]
 have h1 := Qkx s l (n := i) (by omega)
 have h2 := Qpq (n := i + 1) (by omega)
 exact Qq (by omega) (by omega)
theorem XX {m : Int} {n : Nat} (h : ¬ QbD m (2 ^ n) = 0) : YR m (n + 1) = YR m n ++ [(n : Int) - 1] := by rw [YR, if_neg h]
theorem Qbd {m : Int} {n : Nat} (h : QbD m (2 ^ n) = 0) : YR m (n + 1) = YR m n := by rw [YR, if_pos h, List.append_nil]
theorem Qov {l : List TermT} {u : Int} {i : Nat} (h : i < l.length) : QgG (l.take (i + 1)) u = QgG (l.take i) u ++ if l[i].u = u then [] else [l[i]] := by
 rw [List.take_succ_eq_append_getElem h, QgG, List.filter_append]
 congr 1
 simp only [List.filter_cons, List.filter_nil]
 by_cases hu : l[i].u = u <;> simp [hu]
theorem Qa7 {l : List TermT} {u : Int} {i : Nat} (h : i < l.length) (hn : ¬ l[i].u = u) : QgG (l.take (i + 1)) u = QgG (l.take i) u ++ [l[i]] := by rw [Qov h, if_neg hn]
theorem Qdl {l : List TermT} {u : Int} {i : Nat} (h : i < l.length) (hn : l[i].u = u) : QgG (l.take (i + 1)) u = QgG (l.take i) u := by rw [Qov h, if_pos hn, List.append_nil]
theorem Qfp (l : List TermT) (u : Int) : (QgG l u).length <= l.length := List.length_filter_le ..
theorem Qnr (l : List TermT) (u : Int) (i : Nat) : (QgG (l.take i) u).length <= l.length := Nat.le_trans (Qfp ..) (List.length_take_le' ..)
def QeB (l : List TermT) (u : Nat) (i : Nat) : List TermT := (l.take i).filter fun t => decide (t.u = ((u : Nat) : Int))
theorem Qpx {l : List TermT} {u i : Nat} (h : i < l.length) (hn : l[i].u = ((u : Nat) : Int)) : QeB l u (i + 1) = QeB l u i ++ [l[i]] := by
 rw [QeB, List.take_succ_eq_append_getElem h, List.filter_append]; simp [hn, QeB]
theorem Qqd {l : List TermT} {u i : Nat} (h : i < l.length) (hn : ¬ l[i].u = ((u : Nat) : Int)) : QeB l u (i + 1) = QeB l u i := by
 rw [QeB, List.take_succ_eq_append_getElem h, List.filter_append]; simp [hn, QeB]
theorem QmV (l : List TermT) (u i : Nat) : (QeB l u i).length <= l.length := Nat.le_trans (List.length_filter_le ..) (List.length_take_le' ..)
theorem QiZ (l : List TermT) (u : Nat) : Yl l (u + 1) = Yl l u ++ QeB l u l.length := by rw [Yl, QeB, List.take_length]
theorem QgW (l : List TermT) : ∀ n, (Yl l n).length <= n * l.length
 | 0 => by simp [Yl]
 | n + 1 => by
  have := QgW l n
  rw [QiZ, List.length_append, Nat.succ_mul]
  have := QmV l n l.length
  omega
theorem XY (w : Qp) (n : Nat) : QbU w (n + 1) = QbU w n ++ [Yx w n] := rfl
theorem X0 {w : Qp} {ms : List Int} {n : Nat} (h : n < ms.length) (hn : ¬ ms[n] = Yx w n) : Xs w ms (n + 1) = Xs w ms n ++ [⟨n, ms[n]⟩] := by
 rw [Xs, List.getD_eq_getElem?_getD, List.getElem?_eq_getElem h]; simp [hn]
theorem Qbo {w : Qp} {ms : List Int} {n : Nat} (h : n < ms.length) (hn : ms[n] = Yx w n) : Xs w ms (n + 1) = Xs w ms n := by
 rw [Xs, List.getD_eq_getElem?_getD, List.getElem?_eq_getElem h]; simp [hn]
theorem Qli {w : Qp} {ms : List Int} {i : Nat} (h : i < ms.length) (hz : ms[i] = 0) : QiB w ms = none := by
 rw [QiB, if_neg]
 rw [XE h (by simp [hz])]; simp
theorem Qmm {w : Qp} {ms : List Int} {i : Nat} (hi : ms.length <= i) (h : (ms.take i).all (fun m => !decide (m = 0)) = true) : QiB w ms = some (Xs w ms ms.length) := by
 rw [List.take_of_length_le hi] at h; rw [QiB, if_pos h]
theorem QeJ {w : Qp} {u : Int} (h0 : 0 <= u) (h : u < w.length) : inW w u = true := by simp [inW, h0, h]
theorem Qbi {w : Qp} {u : Int} (h : u < 0 \/ (w.length : Int) <= u) : inW w u = false := by
 simp only [inW, Bool.and_eq_false_iff, decide_eq_false_iff_not]; omega
theorem QbV {w : Qp} {u : Int} : inW w u = true ↔ 0 <= u /\ u < w.length := by simp [inW]
theorem Qlj (l : List TermT) : ∀ ms : List Int, (Xr ms l).length = ms.length := by
 induction l with
 | nil => intro ms; rfl
 | cons t l ih => intro ms; rw [Xr, List.foldl_cons]; exact (ih _).trans (List.length_set ..)
theorem QnV {ms : List Int} {l : List TermT} {i : Nat} (h : i < l.length) : Xr ms (l.take (i + 1)) = (Xr ms (l.take i)).set l[i].u.toNat (QbD ((Xr ms (l.take i)).getD l[i].u.toNat 0) l[i].m) := by
 rw [List.take_succ_eq_append_getElem h, Xr, List.foldl_append]; rfl
theorem Qkw {ms : List Int} {l : List TermT} {i : Nat} (h : i < l.length) (hu : l[i].u.toNat < (Xr ms (l.take i)).length) : Xr ms (l.take (i + 1)) = (Xr ms (l.take i)).set l[i].u.toNat (QbD ((Xr ms (l.take i))[l[i].u.toNat]) l[i].m) := by
 rw [QnV h, List.getD_eq_getElem?_getD, List.getElem?_eq_getElem hu]; rfl
theorem Qm9 {x y : TermT} : Qav [0, 0] (Qdu x) (Qdu y) = some (decide (x = y)) := by
 obtain ⟨a, b⟩ := x
 obtain ⟨c, d⟩ := y
 simp only [Qdu, Qav, if_true, Option.map_some, Bool.and_true, Option.some.injEq]
 rw [Bool.eq_iff_iff]
 simp only [Bool.and_eq_true, decide_eq_true_eq, TermT.mk.injEq]
theorem Qm3 {x y : StepT} : Qav [0, 0, 0, 0] (Qfu x) (Qfu y) = some (decide (x = y)) := by
 obtain ⟨a, b, e, f⟩ := x
 obtain ⟨c, d, g, h⟩ := y
 simp only [Qfu, Qav, if_true, Option.map_some, Bool.and_true, Option.some.injEq]
 rw [Bool.eq_iff_iff]
 simp only [Bool.and_eq_true, decide_eq_true_eq, StepT.mk.injEq]
theorem Qi3 {α : Type} {a b : List α} {i : Nat} (ha : i < a.length) (hb : i < b.length) (h : a.take i = b.take i) (he : a[i] = b[i]) : a.take (i + 1) = b.take (i + 1) := by
 rw [List.take_succ_eq_append_getElem ha, List.take_succ_eq_append_getElem hb, h, he]
theorem QmR {α : Type} [DecidableEq α] {a b : List α} {i : Nat} (ha : i < a.length) (hb : i < b.length) (he : ¬ a[i] = b[i]) : decide (a = b) = false := decide_eq_false fun e => he (by subst e; rfl)
theorem Qfg {e : Int} (h1 : 0 <= e) (h2 : e <= 18446744073709551615) : IntKind.u64.wrap e = e := by
 unfold IntKind.wrap
 simp only [IntKind.bits, IntKind.signed, Bool.false_and, Bool.false_eq_true, if_false]
 omega
theorem Qnc {p : Nat} (h : p <= 60) : IntKind.i64.wrap ((2 : Int) * 2 ^ min ((p : Nat) : Int).toNat IntKind.i64.bits) = 2 * 2 ^ p := by
 rw [show min ((p : Nat) : Int).toNat IntKind.i64.bits = p from by simp only [IntKind.bits, Int.toNat_natCast]; omega]
 have := QhD (i := p + 1) (by omega)
 rw [Int.pow_succ] at this
 exact Qq (by omega) (by omega)
theorem QpE (w : Qp) (u : Int) (x : WantT) : IntKind.i64.wrap (Yx w u - Qi8 w x) = Yx w u - Qi8 w x := by
 have h1 := Qcn w u
 have h2 := Qpm w x
 exact Qq (by omega) (by omega)
def clF (w : Qp) (bar : Bool) (x : WantT) : TermT := ⟨x.u, if bar = true then Qi8 w x else Yx w x.u - Qi8 w x⟩
def clT (w : Qp) (u : Int) (p : Nat) (bar : Bool) (l : List WantT) : List TermT := ⟨u, QbD (Yx w u) (2 * 2 ^ p)⟩ :: l.map (clF w bar)
theorem Qbb {w : Qp} {u : Int} {p : Nat} {bar : Bool} {l : List WantT} {i : Nat} (h : i < l.length) (hb : bar = false) : clT w u p bar (l.take (i + 1)) = clT w u p bar (l.take i) ++ [⟨l[i].u, Yx w l[i].u - Qi8 w l[i]⟩] := by
 rw [clT, List.take_succ_eq_append_getElem h, List.map_append, <- List.cons_append]; simp [clT, clF, hb]
theorem Qba {w : Qp} {u : Int} {p : Nat} {bar : Bool} {l : List WantT} {i : Nat} (h : i < l.length) (hb : bar = true) : clT w u p bar (l.take (i + 1)) = clT w u p bar (l.take i) ++ [⟨l[i].u, Qi8 w l[i]⟩] := by
 rw [clT, List.take_succ_eq_append_getElem h, List.map_append, <- List.cons_append]; simp [clT, clF, hb]
theorem QlJ (w : Qp) (u : Int) (p : Nat) (bar : Bool) (l : List WantT) : (clT w u p bar l).length = l.length + 1 := by simp [clT]
theorem QgK {w : Qp} {l : List TermT} {i : Nat} (h : i < l.length) (hu : inW w l[i].u = false) : QcV w l = none := by
 rw [QcV, XE h hu]; rfl
theorem Qmn {w : Qp} {l : List TermT} (h : l.all (fun t => inW w t.u) = true) : QcV w l = QiB w (Xr (QaY w) l) := by
 rw [QcV, if_pos h]
theorem Qfz (w : Qp) (l : List TermT) : (Xr (QaY w) l).length = w.length := by rw [Qlj, QaY, Qc7]
def srt (l : List TermT) (u i : Nat) : List TermT := Yl l u ++ QeB l u i
theorem Qbu {l : List TermT} {u i : Nat} (h : i < l.length) (hn : l[i].u = ((u : Nat) : Int)) : srt l u (i + 1) = srt l u i ++ [l[i]] := by rw [srt, Qpx h hn, <- List.append_assoc]; rfl
theorem Qd3 {l : List TermT} {u i : Nat} (h : i < l.length) (hn : ¬ l[i].u = ((u : Nat) : Int)) : srt l u (i + 1) = srt l u i := by rw [srt, Qqd h hn]; rfl
theorem X4 (l : List TermT) (u : Nat) : srt l u 0 = Yl l u := by simp [srt, QeB]
theorem Qbt (l : List TermT) (u : Nat) {i : Nat} (h : l.length = i) : Yl l (u + 1) = srt l u i := by rw [QiZ, h]; rfl
theorem Qpy (l : List TermT) (u i : Nat) : (srt l u i).length <= u * l.length + l.length := by
 have h1 := QgW l u
 have h2 := QmV l u i
 rw [srt, List.length_append]; omega
end M25
namespace Go.Proofs
open Go Go.Abs M3 M25
set_option linter.unusedVariables false
set_option linter.unusedSimpArgs false
theorem Zz {w : Qp} (hw : WSm w) {u : Int} : Ok Tryz.prog 27 [ZY w, .int .i64 u] (.int .i64 (Yx w u)) := by
 refine Ok.ofT ZT Tryz.func27 Qry (Nat.le_of_ble_eq_true rfl) ?_
 show TW _ _ tf27.body _ _
 refine Qf fun K hK => Zv rfl rfl rfl (Qa rfl ?_)
 refine hK _ _ (Qb (kp2 rfl rfl) ?_)
 refine QB ?_ -- 0
 refine Qf fun K hK => Qa rfl (Z3 rfl rfl (Qa rfl ?_))
 refine QE (g := 7) rfl (fun h1 => ?_) (fun h1 => ?_)
 ·try rw [h1]
  try simp only [qa, qb, qc, qd, qe, List.length_map] at h1
  refine Qt rfl (Qt rfl (Qt rfl (Qt rfl (Qt rfl (Qo rfl rfl ?_)))))
  refine hK _ _ (Qb (kp3 rfl rfl rfl) ?_)
  refine Zs rfl (Qf fun K hK => Qa rfl ?_)
  refine hK _ _ (Qb (kp1 rfl) ?_)
  refine Qu (Qj (QG rfl ?_))
  rw [QdJ (by omega)]
 ·try rw [h1]
  try simp only [qa, qb, qc, qd, qe, List.length_map] at h1
  refine Qk rfl (Qa rfl (Qk rfl (Qh rfl rfl (Qk rfl (QA rfl rfl rfl (Qk rfl (QO rfl rfl (Qk rfl (QeX rfl rfl (Qo rfl rfl ?_))))))))))
  refine hK _ _ (Qb (kp3 rfl rfl rfl) ?_)
  refine Qw rfl (fun h2 => ?_) (fun h2 => ?_)
  ·try rw [h2]
   try simp only [qa, qb, qc, qd, qe, List.length_map] at h2
   refine Qf fun K hK => Qa rfl ?_
   refine hK _ _ (Qb (kp1 rfl) ?_)
   refine Qu (Qj (QG rfl ?_))
   rw [QdJ (by omega)]
  ·try rw [h2]
   try simp only [qa, qb, qc, qd, qe, List.length_map] at h2
   refine Qv (Qd (kp2 rfl rfl) (Qf fun K hK => Qh rfl rfl (QA rfl rfl rfl (Qa rfl (QJ rfl rfl rfl (by omega) (ZB (by omega) (by omega)) rfl (Q7 rfl rfl (QA rfl rfl rfl (QO rfl rfl (Qqz rfl rfl (Q1 rfl rfl (by first | exact Qq (by omega) (by omega) | rfl) ?_))))))))))
   refine QI (Y3 (by omega) (by omega)) rfl rfl (.inr rfl) (QaE rfl rfl (Qi6 (by omega)) (Qa rfl ?_))
   refine hK _ _ (Qb (kp1 rfl) ?_)
   refine Qu (QG rfl ?_)
   rw [Qe8 (by omega) (by omega), List.length_map, QqJ]
theorem YU {w : Qp} (hw : WSm w) {l : List TermT} (hl : l.length <= 1000000) {u : Int} : Ok Tryz.prog 28 [ZY w, ZF l, .int .i64 u] (.int .i64 (Qc9 w l u)) := by
 refine Ok.ofT ZT Tryz.func28 Qrz (Nat.le_of_ble_eq_true rfl) ?_
 show TW _ _ tf28.body _ _
 refine Qf fun K hK => Zv rfl rfl rfl (Qa rfl ?_)
 refine hK _ _ (Qb (kp3 rfl rfl rfl) ?_)
 refine QB ?_ -- 0
 refine Qf fun K hK => Qa rfl ?_
 refine hK _ _ (Qb (kp4 rfl rfl rfl rfl) ?_)
 refine Qz ?_
 refine Zi (ι := Nat) (fun i => ⟨[(1, ZF l), (2, .int .i64 u), (3, .ref 3 0 0), (7, .int .i64 i)], [(3, ⟨[[.sl ((w).map Ym)]], 1, 26, true⟩)]⟩) (fun i => i <= l.length /\ QbA (Yx w u) u l = QbA (Yx w u) u (l.drop i)) (fun i => l.length - i) 0 ?_ ?_ ?_
 ·exact Q4 (l := [1, 2, 3, 7]) (lH := [3]) (kp4 rfl rfl rfl rfl) (Qe rfl Ql) rfl rfl rfl
 ·exact ⟨Nat.zero_le _, by simp⟩
 intro i hI
 try dsimp only
 refine QB ?_ -- 1
 refine Qf fun K hK => Qa rfl (Qa rfl (QO rfl rfl (Z3 rfl rfl ?_)))
 refine hK _ _ (Qb (kp5 rfl rfl rfl rfl rfl) ?_)
 refine Qw rfl (fun h1 => ?_) (fun h1 => ?_)
 ·try rw [h1]
  try simp only [qa, qb, qc, qd, qe, List.length_map] at h1
  refine Qv (Qd (kp4 rfl rfl rfl rfl) ?_)
  refine QB ?_ -- 2
  refine Qz (Qf fun K hK => Qa rfl (Qa rfl (QJ rfl rfl rfl (by omega) (QT (by omega)) rfl (Q7 rfl rfl (QA rfl rfl rfl (Qa rfl (ZI rfl rfl ?_)))))))
  refine hK _ _ (Qb (kp5 rfl rfl rfl rfl rfl) ?_)
  refine Qw rfl (fun h2 => ?_) (fun h2 => ?_)
  ·try rw [h2]
   try simp only [qa, qb, qc, qd, qe, List.length_map] at h2
   refine Qf fun K hK => Qa rfl (Qa rfl (QJ rfl rfl rfl (by omega) (QT (by omega)) rfl (Q7 rfl rfl (QA rfl rfl rfl (Qa rfl ?_)))))
   refine hK _ _ (Qb (kp1 rfl) ?_)
   refine Qu (Qr (Qj (Q0 (Qr (Qj (QG rfl ?_))))))
   rw [Qc9, hI.2, Qmu (by omega) h2]
  ·try rw [h2]
   try simp only [qa, qb, qc, qd, qe, List.length_map] at h2
   refine Qv (Qg (Qd (kp4 rfl rfl rfl rfl) (QL fun K hK => Qa rfl (Q1 rfl rfl (by first | exact Qq (by omega) (by omega) | rfl) (Qa rfl (hK _ ?_))))))
   refine Qi (i + 1) ?_ ?_ ?_
   ·exact Q4 (l := [1, 2, 3, 7]) (lH := [3]) (kp4 rfl rfl rfl rfl) (Qe rfl Ql) rfl rfl rfl
   ·exact ⟨by omega, by rw [hI.2, Qll (by omega) (by assumption)]⟩
   ·first | omega | (simp only; omega) | (dsimp only; omega)
 ·try rw [h1]
  try simp only [qa, qb, qc, qd, qe, List.length_map] at h1
  refine Zf (QK (Qx (QD (Qd (kp2 rfl rfl) (Qf fun K hK => QH (cs := [_]) rfl rfl rfl rfl (Qa rfl (QI (Zz hw) rfl rfl (.inr rfl) (Qa rfl ?_))))))))
  refine hK _ _ (Qb (kp1 rfl) ?_)
  refine Qu (QG rfl ?_)
  rw [Qc9, hI.2, List.drop_eq_nil_of_le (by omega)]; rfl
theorem QcY {w : Qp} (hw : WSm w) {x : WantT} (hx : Sm x.s.1 /\ Sm x.s.2) : Ok Tryz.prog 89 [ZY w, .agg (QeS x)] (.int .i64 (Qi8 w x)) := by
 refine Ok.ofT ZT Tryz.func89 Qsu (Nat.le_of_ble_eq_true rfl) ?_
 show TW _ _ tf89.body _ _
 refine Qf fun K hK => Zv rfl rfl rfl (Zv rfl rfl rfl (Qa rfl ?_))
 refine hK _ _ (Qb (kp2 rfl rfl) ?_)
 refine QB ?_ -- 0
 refine Qf fun K hK => Qh rfl rfl (QA rfl rfl rfl (Z3 rfl rfl (Qa rfl ?_)))
 refine QE (g := 11) rfl (fun h1 => ?_) (fun h1 => ?_)
 ·try rw [h1]
  try simp only [qa, qb, qc, qd, qe, List.length_map] at h1
  refine Qt rfl (Qt rfl (Qt rfl (Qt rfl (Qt rfl (Qt rfl (Qo rfl rfl ?_))))))
  refine hK _ _ (Qb (kp3 rfl rfl rfl) ?_)
  refine Zs rfl (Qf fun K hK => Qa rfl ?_)
  refine hK _ _ (Qb (kp1 rfl) ?_)
  refine Qu (Qj (QG rfl ?_))
  rw [Qku (by omega)]
 ·try rw [h1]
  try simp only [qa, qb, qc, qd, qe, List.length_map] at h1
  refine Qk rfl (Qh rfl rfl (Qk rfl (QA rfl rfl rfl (Qk rfl (Qh rfl rfl (Qk rfl (QA rfl rfl rfl (Qk rfl (QO rfl rfl (Qk rfl (QeX rfl rfl ?_)))))))))))
  refine Qo rfl rfl ?_
  refine hK _ _ (Qb (kp3 rfl rfl rfl) ?_)
  refine Qw rfl (fun h2 => ?_) (fun h2 => ?_)
  ·try rw [h2]
   try simp only [qa, qb, qc, qd, qe, List.length_map] at h2
   refine Qf fun K hK => Qa rfl ?_
   refine hK _ _ (Qb (kp1 rfl) ?_)
   refine Qu (Qj (QG rfl ?_))
   rw [Qku (by omega)]
  ·try rw [h2]
   try simp only [qa, qb, qc, qd, qe, List.length_map] at h2
   refine Qv (Qd (kp2 rfl rfl) (Qf fun K hK => Qa rfl ?_))
   refine hK _ _ (Qb (kp3 rfl rfl rfl) ?_)
   refine Qf fun K hK => Qh rfl rfl (QA rfl rfl rfl (Qh rfl rfl (QA rfl rfl rfl (QJ rfl rfl rfl (by omega) (ZB (by omega) (by omega)) rfl (Q7 rfl rfl (QA rfl rfl rfl (Qa rfl ?_)))))))
   refine hK _ _ (Qb (kp3 rfl rfl rfl) ?_)
   refine QB ?_ -- 1
   refine Qf fun K hK => Qa rfl ?_
   refine hK _ _ (Qb (kp4 rfl rfl rfl rfl) ?_)
   refine Qz ?_
   refine Zi (ι := Nat) (fun i => ⟨[(3, .ref 3 0 0), (5, .int .i64 (QbJ x.s (w[x.u.toNat]'(by omega)).cs i)), (6, Qj7 (w[x.u.toNat]'(by omega)).cs), (7, .int .i64 i)], [(3, ⟨[[.int .i64 (x).u, ZE (x).s.1, ZE (x).s.2]], 3, 77, true⟩)]⟩) (fun i => i <= (min (w[x.u.toNat]'(by omega)).cs.length 16)) (fun i => (min (w[x.u.toNat]'(by omega)).cs.length 16) - i) 0 ?_ ?_ ?_
   ·exact Q4 (l := [3, 5, 6, 7]) (lH := [3]) (kp4 rfl rfl rfl rfl) (Qe rfl Ql) rfl rfl rfl
   ·exact Nat.zero_le _
   intro i hI
   try dsimp only
   refine QB ?_ -- 2
   refine Qf fun K hK => Qa rfl (Qa rfl (QO rfl rfl (Z3 rfl rfl (Qa rfl ?_))))
   refine QE (g := 30) rfl (fun h3 => ?_) (fun h3 => ?_)
   ·try rw [h3]
    try simp only [qa, qb, qc, qd, qe, List.length_map] at h3
    refine Qk rfl (Qa rfl (Qk rfl (Z3 rfl rfl (Qo rfl rfl ?_))))
    refine hK _ _ (Qb (kp5 rfl rfl rfl rfl rfl) ?_)
    refine Qw rfl (fun h4 => ?_) (fun h4 => ?_)
    ·try rw [h4]
     try simp only [qa, qb, qc, qd, qe, List.length_map] at h4
     refine Qv (Qd (kp4 rfl rfl rfl rfl) ?_)
     refine QB ?_ -- 3
     refine Qz (Qf fun K hK => Qh rfl rfl (QN (ds0 := [0]) (cs := [_, _]) rfl rfl rfl rfl rfl rfl (Qa rfl (Qa rfl (QJ rfl rfl rfl (by omega) (QT (by omega)) rfl (Q7 rfl rfl (QN (ds0 := [0]) (cs := [_, _, _, _, _]) rfl rfl rfl rfl rfl rfl (QX (ds0 := []) (Qdq hx.1 hx.2 (hw.vs _ (List.getElem_mem _) _ (List.getElem_mem (by omega))).1 (hw.vs _ (List.getElem_mem _) _ (List.getElem_mem (by omega))).2) rfl rfl (.inr rfl) rfl rfl ?_))))))))
     refine hK _ _ (Qb (kp5 rfl rfl rfl rfl rfl) ?_)
     refine Qw rfl (fun h5 => ?_) (fun h5 => ?_)
     ·try rw [h5]
      try simp only [qa, qb, qc, qd, qe, List.length_map] at h5
      refine QL fun K hK => Qa rfl (Qa rfl (Q1 rfl rfl (by first | exact Qq (by omega) (by omega) | rfl) (QI (Y3 (by omega) (by omega)) rfl rfl (.inr rfl) (Q1 rfl rfl (Qon _ _ (by omega)) (Qa rfl (hK _ ?_))))))
      refine Qg (Qd (kp4 rfl rfl rfl rfl) (QL fun K hK => Qa rfl (Q1 rfl rfl (by first | exact Qq (by omega) (by omega) | rfl) (Qa rfl (hK _ ?_)))))
      refine Qi (i + 1) ?_ ?_ ?_
      ·exact Q4 (l := [3, 5, 6, 7]) (lH := [3]) (kp4 rfl rfl rfl rfl) (Qe rfl Ql) (by rw [Qmv (by omega) (by assumption)]; rfl) rfl rfl
      ·omega
      ·first | omega | (simp only; omega) | (dsimp only; omega)
     ·try rw [h5]
      try simp only [qa, qb, qc, qd, qe, List.length_map] at h5
      refine Qv (Qg (Qd (kp4 rfl rfl rfl rfl) (QL fun K hK => Qa rfl (Q1 rfl rfl (by first | exact Qq (by omega) (by omega) | rfl) (Qa rfl (hK _ ?_))))))
      refine Qi (i + 1) ?_ ?_ ?_
      ·exact Q4 (l := [3, 5, 6, 7]) (lH := [3]) (kp4 rfl rfl rfl rfl) (Qe rfl Ql) (by rw [QnX (by omega) (by assumption)]; rfl) rfl rfl
      ·omega
      ·first | omega | (simp only; omega) | (dsimp only; omega)
    ·try rw [h4]
     try simp only [qa, qb, qc, qd, qe, List.length_map] at h4
     refine Zf (QK (Qx (QD (Qd (kp1 rfl) (Qf fun K hK => Qa rfl (Qa rfl ?_))))))
     refine hK _ _ (Qb (kp1 rfl) ?_)
     refine Qu (QG rfl ?_)
     rw [Qmo (by omega) (by omega), show i = min (w[x.u.toNat]'(by omega)).cs.length 16 by omega]
   ·try rw [h3]
    try simp only [qa, qb, qc, qd, qe, List.length_map] at h3
    refine Qt rfl (Qt rfl (Qo rfl rfl ?_))
    refine hK _ _ (Qb (kp5 rfl rfl rfl rfl rfl) ?_)
    refine ZJ rfl (Zf (QK (Qx (QD (Qd (kp1 rfl) (Qf fun K hK => Qa rfl (Qa rfl ?_)))))))
    refine hK _ _ (Qb (kp1 rfl) ?_)
    refine Qu (QG rfl ?_)
    rw [Qmo (by omega) (by omega), show i = min (w[x.u.toNat]'(by omega)).cs.length 16 by omega]
theorem XN {m : Int} : Ok Tryz.prog 39 [.int .i64 m] (Zn (XJ m)) := by
 refine Ok.ofT ZT Tryz.func39 QrJ (Nat.le_of_ble_eq_true rfl) ?_
 show TW _ _ tf39.body _ _
 refine Qf fun K hK => Qa rfl ?_
 refine hK _ _ (Qb (kp1 rfl) ?_)
 refine Qf fun K hK => Qa rfl ?_
 refine hK _ _ (Qb (kp2 rfl rfl) ?_)
 refine QB ?_ -- 0
 refine Qf fun K hK => Qa rfl ?_
 refine hK _ _ (Qb (kp3 rfl rfl rfl) ?_)
 refine Qz ?_
 refine Zi (ι := Nat) (fun i => ⟨[(0, .int .i64 m), (3, .osl 3 (YR m i).length), (4, .int .i64 i)], [(3, ⟨(YR m i).map (fun x => [.int .i64 x]), 1, 3, true⟩)]⟩) (fun i => i <= 17) (fun i => 17 - i) 0 ?_ ?_ ?_
 ·exact le_trans (Yd 3 3 1 3 rfl rfl) (Q4 (l := [0, 3, 4]) (lH := [3]) (kp3 rfl rfl rfl) (Qe rfl Ql) rfl rfl rfl)
 ·exact Nat.zero_le _
 intro i hI
 have hlen := QaV m i
 try dsimp only
 refine QB ?_ -- 1
 refine Qf fun K hK => Qa rfl (Qni rfl rfl ?_)
 refine hK _ _ (Qb (kp4 rfl rfl rfl rfl) ?_)
 refine Qw rfl (fun h1 => ?_) (fun h1 => ?_)
 ·try rw [h1]
  try simp only [qa, qb, qc, qd, qe] at h1
  refine Qv (Qd (kp3 rfl rfl rfl) ?_)
  refine QB ?_ -- 2
  refine Qz (Qf fun K hK => Qa rfl (Qa rfl (QI (Y3 (by omega) (by omega)) rfl rfl (.inr rfl) (QeP rfl rfl (X8 rfl rfl ?_)))))
  refine hK _ _ (Qb (kp4 rfl rfl rfl rfl) ?_)
  refine Qw rfl (fun h2 => ?_) (fun h2 => ?_)
  ·try rw [h2]
   try simp only [qa, qb, qc, qd, qe] at h2
   refine QL fun K hK => Qa rfl (Qa rfl (QaE rfl rfl (by first | exact Qq (by omega) (by omega) | rfl) (QC rfl rfl (Xc rfl rfl (fun _ h => YX rfl rfl rfl h) rfl (by simp) rfl rfl rfl (by simp; omega) (by simp; omega) (Qa rfl (hK _ ?_))))))
   refine Qg (Qd (kp3 rfl rfl rfl) (QL fun K hK => Qa rfl (Q1 rfl rfl (by first | exact Qq (by omega) (by omega) | rfl) (Qa rfl (hK _ ?_)))))
   refine Qi (i + 1) ?_ ?_ ?_
   ·exact Q4 (l := [0, 3, 4]) (lH := [3]) (kp3 rfl rfl rfl) (Qe rfl Ql) (by first | (rw [XX (m := m) (n := i) h2]; done) | (rw [XX (m := m) (n := i) h2]; rfl) | (rw [XX (m := m) (n := i) h2, List.length_append]; rfl) | (simp [XX (m := m) (n := i) h2]; done) | (simp [XX (m := m) (n := i) h2]; omega) | rfl) (by first | (rw [XX (m := m) (n := i) h2]; done) | (rw [XX (m := m) (n := i) h2]; rfl) | (rw [XX (m := m) (n := i) h2, List.map_append]; rfl) | (simp [XX (m := m) (n := i) h2]; done) | rfl) rfl
   ·omega
   ·first | omega | (simp only; omega) | (dsimp only; omega)
  ·try rw [h2]
   try simp only [qa, qb, qc, qd, qe] at h2
   refine Qv (Qg (Qd (kp3 rfl rfl rfl) (QL fun K hK => Qa rfl (Q1 rfl rfl (by first | exact Qq (by omega) (by omega) | rfl) (Qa rfl (hK _ ?_))))))
   refine Qi (i + 1) ?_ ?_ ?_
   ·exact Q4 (l := [0, 3, 4]) (lH := [3]) (kp3 rfl rfl rfl) (Qe rfl Ql) (by first | (rw [Qbd (m := m) (n := i) h2]; done) | (rw [Qbd (m := m) (n := i) h2]; rfl) | (rw [Qbd (m := m) (n := i) h2, List.length_append]; rfl) | (simp [Qbd (m := m) (n := i) h2]; done) | (simp [Qbd (m := m) (n := i) h2]; omega) | rfl) (by first | (rw [Qbd (m := m) (n := i) h2]; done) | (rw [Qbd (m := m) (n := i) h2]; rfl) | (rw [Qbd (m := m) (n := i) h2, List.map_append]; rfl) | (simp [Qbd (m := m) (n := i) h2]; done) | rfl) rfl
   ·omega
   ·first | omega | (simp only; omega) | (dsimp only; omega)
 ·try rw [h1]
  try simp only [qa, qb, qc, qd, qe] at h1
  refine Zf (QK (Qx (QD (Qd (kp1 rfl) (Qf fun K hK => Qa rfl (Qa rfl ?_))))))
  refine hK _ _ (Qb (kp1 rfl) ?_)
  refine Qu ?_
  exact QaA rfl rfl rfl (by simp) (by rw [XJ, show (17 : Nat) = i by omega]; rfl)
theorem QcG {a b : List TermT} (ha : a.length <= 1000000) : Ok Tryz.prog 19 [ZF a, ZF b] (.bool (decide (a = b))) := by
 refine Ok.ofT ZT Tryz.func19 Qrv (Nat.le_of_ble_eq_true rfl) ?_
 show TW _ _ tf19.body _ _
 refine Qf fun K hK => Qa rfl ?_
 refine hK _ _ (Qb (kp2 rfl rfl) ?_)
 refine QB ?_ -- 0
 refine Qf fun K hK => Qa rfl (QO rfl rfl (Qa rfl (QO rfl rfl (X8 rfl rfl ?_))))
 refine hK _ _ (Qb (kp3 rfl rfl rfl) ?_)
 refine Qw rfl (fun h1 => ?_) (fun h1 => ?_)
 ·try rw [h1]
  try simp only [qa, qb, qc, qd, qe, List.length_map] at h1
  refine Qf fun K hK => Qa rfl ?_
  refine hK _ _ (Qb (kp1 rfl) ?_)
  refine Qu (Qj (Qs rfl ?_))
  rw [decide_eq_false fun e => h1 (by rw [e])]
 ·try rw [h1]
  try simp only [qa, qb, qc, qd, qe, List.length_map] at h1
  refine Qv (Qd (kp2 rfl rfl) ?_)
  refine QB ?_ -- 1
  refine Qf fun K hK => Qa rfl ?_
  refine hK _ _ (Qb (kp3 rfl rfl rfl) ?_)
  refine Qz ?_
  refine Zi (ι := Nat) (fun i => ⟨[(0, ZF a), (1, ZF b), (5, .int .i64 i)], []⟩) (fun i => i <= a.length /\ a.take i = b.take i) (fun i => a.length - i) 0 ?_ ?_ ?_
  ·exact Zb (kp3 rfl rfl rfl)
  ·exact ⟨Nat.zero_le _, by simp⟩
  intro i hI
  try dsimp only
  refine QB ?_ -- 2
  refine Qf fun K hK => Qa rfl (Qa rfl (QO rfl rfl (Z3 rfl rfl ?_)))
  refine hK _ _ (Qb (kp4 rfl rfl rfl rfl) ?_)
  refine Qw rfl (fun h2 => ?_) (fun h2 => ?_)
  ·try rw [h2]
   try simp only [qa, qb, qc, qd, qe, List.length_map] at h2
   refine Qv (Qd (kp3 rfl rfl rfl) ?_)
   refine QB ?_ -- 3
   refine Qz (Qf fun K hK => Qa rfl (Qa rfl (QJ rfl rfl rfl (by omega) (QT (by omega)) rfl (QN (ds0 := [0]) (cs := [_, _]) rfl rfl rfl rfl rfl rfl (Qa rfl (Qa rfl (QJ rfl rfl rfl (by omega) (QT (by omega)) rfl (QN (ds0 := [0]) (cs := [_, _]) rfl rfl rfl rfl rfl rfl (Qop rfl rfl Qm9 ?_)))))))))
   refine hK _ _ (Qb (kp4 rfl rfl rfl rfl) ?_)
   refine Qw rfl (fun h3 => ?_) (fun h3 => ?_)
   ·try rw [h3]
    try simp only [qa, qb, qc, qd, qe, List.length_map] at h3
    refine Qf fun K hK => Qa rfl ?_
    refine hK _ _ (Qb (kp1 rfl) ?_)
    refine Qu (Qr (Qj (Q0 (Qr (Qj (Qs rfl ?_))))))
    rw [QmR (i := i) (by omega) (by omega) h3]
   ·try rw [h3]
    try simp only [qa, qb, qc, qd, qe, List.length_map] at h3
    refine Qv (Qg (Qd (kp3 rfl rfl rfl) (QL fun K hK => Qa rfl (Q1 rfl rfl (by first | exact Qq (by omega) (by omega) | rfl) (Qa rfl (hK _ ?_))))))
    refine Qi (i + 1) ?_ ?_ ?_
    ·exact Zb (kp3 rfl rfl rfl)
    ·exact ⟨by omega, Qi3 (by omega) (by omega) hI.2 h3⟩
    ·first | omega | (simp only; omega) | (dsimp only; omega)
  ·try rw [h2]
   try simp only [qa, qb, qc, qd, qe, List.length_map] at h2
   refine Zf (QK (Qx (QD (Qd (Q5) (Qf fun K hK => Qa rfl ?_)))))
   refine hK _ _ (Qb (kp1 rfl) ?_)
   refine Qu (Qs rfl ?_)
   rw [List.take_of_length_le (by omega), List.take_of_length_le (by omega)] at hI; exact (decide_eq_true hI.2).symm
end Go.Proofs
namespace Go.Proofs
open Go Go.Abs M3 M25
set_option linter.unusedVariables false
set_option linter.unusedSimpArgs false
theorem QbO {w : Qp} (hw : WSm w) (et : Nat) (het : et = 3) : OkH Tryz.prog 73 [ZY w] [] (.osl 500000 (QaY w).length) [(500000, ⟨(QaY w).map (fun x => [.int .i64 x]), 1, et, true⟩)] := by
 subst het
 refine OkH.new ZT Tryz.func73 Qse (Nat.le_of_ble_eq_true rfl) rfl ?_
 show TW _ _ tf73.body _ _
 have hn := hw.len
 refine Qf fun K hK => Zv rfl rfl rfl (Qa rfl ?_)
 refine hK _ _ (Qb (kp1 rfl) ?_)
 refine Qf fun K hK => Qa rfl ?_
 refine hK _ _ (Qb (kp2 rfl rfl) ?_)
 refine QB ?_ -- 0
 refine Qf fun K hK => Qa rfl ?_
 refine hK _ _ (Qb (kp3 rfl rfl rfl) ?_)
 refine Qz ?_
 refine Zi (ι := Nat) (fun i => ⟨[(1, .ref 1 0 0), (3, .osl 500000 (QbU w i).length), (4, .int .i64 i)], [(1, ⟨[[.sl ((w).map Ym)]], 1, 26, true⟩), (500000, ⟨(QbU w i).map (fun x => [.int .i64 x]), 1, 3, true⟩)]⟩) (fun i => i <= w.length) (fun i => w.length - i) 0 ?_ ?_ ?_
 ·exact le_trans (Yd 3 500000 1 3 rfl rfl) (Q4 (l := [1, 3, 4]) (lH := [1, 500000]) (kp3 rfl rfl rfl) (Qe rfl (Qe rfl Ql)) rfl rfl rfl)
 ·exact Nat.zero_le _
 intro i hI
 have hlen := Qc7 w i
 try dsimp only
 refine QB ?_ -- 1
 refine Qf fun K hK => Qa rfl (Qh rfl rfl (QA rfl rfl rfl (QO rfl rfl (Z3 rfl rfl ?_))))
 refine hK _ _ (Qb (kp4 rfl rfl rfl rfl) ?_)
 refine Qw rfl (fun h1 => ?_) (fun h1 => ?_)
 ·try rw [h1]
  try simp only [qa, qb, qc, qd, qe, List.length_map] at h1
  refine Qv (Qd (kp3 rfl rfl rfl) ?_)
  refine QB ?_ -- 2
  refine Qz (QL fun K hK => Qa rfl (QH (cs := [_]) rfl rfl rfl rfl (Qa rfl (QI (Zz hw) rfl rfl (.inr rfl) (QC rfl rfl (Xc rfl rfl (fun _ h => YX rfl rfl rfl h) rfl (by simp) rfl rfl rfl (by simp; omega) (by simp; omega) (Qa rfl (hK _ ?_))))))))
  refine Qg (Qd (kp3 rfl rfl rfl) (QL fun K hK => Qa rfl (Q1 rfl rfl (by first | exact Qq (by omega) (by omega) | rfl) (Qa rfl (hK _ ?_)))))
  refine Qi (i + 1) ?_ ?_ ?_
  ·exact Q4 (l := [1, 3, 4]) (lH := [1, 500000]) (kp3 rfl rfl rfl) (Qe rfl (Qe rfl Ql)) (by first | (rw [XY]; done) | (rw [XY]; rfl) | (rw [XY, List.length_append]; rfl) | (simp [XY]; done) | (simp [XY]; omega) | rfl) (by first | (rw [XY]; done) | (rw [XY]; rfl) | (rw [XY, List.map_append]; rfl) | (simp [XY]; done) | rfl) rfl
  ·omega
  ·first | omega | (simp only; omega) | (dsimp only; omega)
 ·try rw [h1]
  try simp only [qa, qb, qc, qd, qe, List.length_map] at h1
  refine Zf (QK (Qx (QD (Qd (kp1 rfl) (Qf fun K hK => Qa rfl (Qa rfl ?_))))))
  refine hK _ _ (Qb (kp1 rfl) ?_)
  refine Qu ?_
  refine Yy rfl ?_ (Qcg ?_)
  ·rw [QaY, show w.length = i by omega]; rfl
  ·rw [QaY, show w.length = i by omega]; rfl
theorem QcH {w : Qp} (hw : WSm w) {ms : List Int} (hm : ms.length <= 1000000) : Ok Tryz.prog 74 [ZY w, Zn ms] (dOT (QiB w ms)) := by
 refine Ok.ofT ZT Tryz.func74 Qsf (Nat.le_of_ble_eq_true rfl) ?_
 show TW _ _ tf74.body _ _
 refine Qf fun K hK => Zv rfl rfl rfl (Qa rfl (Qa rfl ?_))
 refine hK _ _ (Qb (kp2 rfl rfl) ?_)
 refine Qf fun K hK => Qa rfl ?_
 refine hK _ _ (Qb (kp3 rfl rfl rfl) ?_)
 refine QB ?_ -- 0
 refine Qf fun K hK => Qa rfl ?_
 refine hK _ _ (Qb (kp4 rfl rfl rfl rfl) ?_)
 refine Qz ?_
 refine Zi (ι := Nat) (fun i => ⟨[(1, Zn ms), (2, .ref 2 0 0), (6, .osl 6 (Xs w ms i).length), (7, .int .i64 i)], [(2, ⟨[[.sl ((w).map Ym)]], 1, 26, true⟩), (6, ⟨(Xs w ms i).map Qdu, 2, 56, true⟩)]⟩) (fun i => i <= ms.length /\ (ms.take i).all (fun m => !decide (m = 0)) = true) (fun i => ms.length - i) 0 ?_ ?_ ?_
 ·exact le_trans (Yd 6 6 2 56 rfl rfl) (Q4 (l := [1, 2, 6, 7]) (lH := [2, 6]) (kp4 rfl rfl rfl rfl) (Qe rfl (Qe rfl Ql)) rfl rfl rfl)
 ·exact ⟨Nat.zero_le _, by simp⟩
 intro i hI
 have hlen := QgM w ms i
 try dsimp only
 refine QB ?_ -- 1
 refine Qf fun K hK => Qa rfl (Qa rfl (QO rfl rfl (Z3 rfl rfl ?_)))
 refine hK _ _ (Qb (kp5 rfl rfl rfl rfl rfl) ?_)
 refine Qw rfl (fun h1 => ?_) (fun h1 => ?_)
 ·try rw [h1]
  try simp only [qa, qb, qc, qd, qe, List.length_map] at h1
  refine Qv (Qd (kp4 rfl rfl rfl rfl) ?_)
  refine QB ?_ -- 2
  refine Qz ?_
  refine QB ?_ -- 3
  refine Qf fun K hK => Qa rfl (Qa rfl (QJ rfl rfl rfl (by omega) (QT (by omega)) rfl (QA rfl rfl rfl (ZI rfl rfl ?_))))
  refine hK _ _ (Qb (kp5 rfl rfl rfl rfl rfl) ?_)
  refine Qw rfl (fun h2 => ?_) (fun h2 => ?_)
  ·try rw [h2]
   try simp only [qa, qb, qc, qd, qe, List.length_map] at h2
   refine Qf fun K hK => Qa rfl (Qa rfl ?_)
   refine hK _ _ (Qb (kp2 rfl rfl) ?_)
   refine Qu (Qj (Qr (Qj (Q0 (Qr (Qj ?_))))))
   rw [Qli (i := i) (by omega) h2]
   exact QS rfl rfl ⟨rfl, rfl⟩
  ·try rw [h2]
   try simp only [qa, qb, qc, qd, qe, List.length_map] at h2
   refine Qv (Qd (kp4 rfl rfl rfl rfl) (Qf fun K hK => Qa rfl (Qa rfl (QJ rfl rfl rfl (by omega) (QT (by omega)) rfl (QU (ds0 := [0]) rfl rfl rfl rfl rfl (QN (ds0 := [1, 0]) (cs := [_]) rfl rfl rfl rfl rfl rfl (Qa rfl (QX (ds0 := [0]) (Zz hw) rfl rfl (.inr rfl) rfl rfl (X8 rfl rfl ?_)))))))))
   refine hK _ _ (Qb (kp5 rfl rfl rfl rfl rfl) ?_)
   refine Qw rfl (fun h3 => ?_) (fun h3 => ?_)
   ·try rw [h3]
    try simp only [qa, qb, qc, qd, qe, List.length_map] at h3
    refine QL fun K hK => Qa rfl (Qa rfl (Qa rfl (Qa rfl (QJ rfl rfl rfl (by omega) (QT (by omega)) rfl (QA rfl rfl rfl (QV rfl rfl (QC rfl rfl (Xc rfl rfl (fun _ h => YX rfl rfl rfl h) rfl (by simp) rfl rfl rfl (by simp; omega) (by simp; omega) (Qa rfl (hK _ ?_))))))))))
    refine Qg (Qd (kp4 rfl rfl rfl rfl) (QL fun K hK => Qa rfl (Q1 rfl rfl (by first | exact Qq (by omega) (by omega) | rfl) (Qa rfl (hK _ ?_)))))
    refine Qi (i + 1) ?_ ?_ ?_
    ·exact Q4 (l := [1, 2, 6, 7]) (lH := [2, 6]) (kp4 rfl rfl rfl rfl) (Qe rfl (Qe rfl Ql)) (by first | (rw [X0 (by omega) h3]; done) | (rw [X0 (by omega) h3]; rfl) | (rw [X0 (by omega) h3, List.length_append]; rfl) | (simp [X0 (by omega) h3]; done) | (simp [X0 (by omega) h3]; omega) | rfl) (by first | (rw [X0 (by omega) h3]; done) | (rw [X0 (by omega) h3]; rfl) | (rw [X0 (by omega) h3, List.map_append]; rfl) | (simp [X0 (by omega) h3]; done) | rfl) rfl
    ·exact ⟨by omega, Z8 (by omega) hI.2 (by simpa using h2)⟩
    ·first | omega | (simp only; omega) | (dsimp only; omega)
   ·try rw [h3]
    try simp only [qa, qb, qc, qd, qe, List.length_map] at h3
    refine Qv (Qg (Qd (kp4 rfl rfl rfl rfl) (QL fun K hK => Qa rfl (Q1 rfl rfl (by first | exact Qq (by omega) (by omega) | rfl) (Qa rfl (hK _ ?_))))))
    refine Qi (i + 1) ?_ ?_ ?_
    ·exact Q4 (l := [1, 2, 6, 7]) (lH := [2, 6]) (kp4 rfl rfl rfl rfl) (Qe rfl (Qe rfl Ql)) (by first | (rw [Qbo (by omega) h3]; done) | (rw [Qbo (by omega) h3]; rfl) | (rw [Qbo (by omega) h3, List.length_append]; rfl) | (simp [Qbo (by omega) h3]; done) | (simp [Qbo (by omega) h3]; omega) | rfl) (by first | (rw [Qbo (by omega) h3]; done) | (rw [Qbo (by omega) h3]; rfl) | (rw [Qbo (by omega) h3, List.map_append]; rfl) | (simp [Qbo (by omega) h3]; done) | rfl) rfl
    ·exact ⟨by omega, Z8 (by omega) hI.2 (by simpa using h2)⟩
    ·first | omega | (simp only; omega) | (dsimp only; omega)
 ·try rw [h1]
  try simp only [qa, qb, qc, qd, qe, List.length_map] at h1
  refine Zf (QK (Qx (QD (Qd (kp1 rfl) (Qf fun K hK => Qa rfl (Qa rfl (Qa rfl ?_)))))))
  refine hK _ _ (Qb (kp2 rfl rfl) ?_)
  refine Qu ?_
  rw [Qmm (i := i) (by omega) hI.2]
  exact Qf0 rfl rfl rfl (by simp) (by show D.sl _ = ZF (Xs w ms ms.length); rw [show ms.length = i by omega]; rfl) rfl rfl
theorem XO {w : Qp} (hw : WSm w) {l : List TermT} (hl : l.length <= 2000000) : Ok Tryz.prog 52 [ZY w, ZF l] (dOT (QcV w l)) := by
 refine Ok.ofT ZT Tryz.func52 QrU (Nat.le_of_ble_eq_true rfl) ?_
 show TW _ _ tf52.body _ _
 have hn := hw.len
 refine Qf fun K hK => Zv rfl rfl rfl (Qa rfl (Qa rfl ?_))
 refine hK _ _ (Qb (kp2 rfl rfl) ?_)
 refine Qf fun K hK => QH (cs := [_]) rfl rfl rfl rfl (Yh (Qj3 rfl (by intro x hx; simp at hx; subst hx; rfl) rfl rfl rfl (QbO hw _ rfl)) (Qa rfl ?_))
 refine hK _ _ (Qb (kp3 rfl rfl rfl) ?_)
 refine Qgo (ι := Unit) (fun _ => ⟨[(2, .ref 2 0 0), (6, Zn (Xr (QaY w) l))], [(2, ⟨[[.sl ((w).map Ym)]], 1, 26, true⟩)]⟩) (fun _ => l.all (fun t => inW w t.u) = true) ?_ ?_
 ·skip
  refine Qf fun K hK => Qa rfl ?_
  refine hK _ _ (Qb (kp4 rfl rfl rfl rfl) ?_)
  refine Qz ?_
  refine Zi (ι := Nat) (fun i => ⟨[(1, ZF l), (2, .ref 2 0 0), (6, .osl 500000 (Xr (QaY w) (l.take i)).length), (7, .int .i64 i)], [(2, ⟨[[.sl ((w).map Ym)]], 1, 26, true⟩), (500000, ⟨(Xr (QaY w) (l.take i)).map (fun x => [.int .i64 x]), 1, 3, true⟩)]⟩) (fun i => i <= l.length /\ (l.take i).all (fun t => inW w t.u) = true) (fun i => l.length - i) 0 ?_ ?_ ?_
  ·exact Q4 (l := [1, 2, 6, 7]) (lH := [2, 500000]) (kp4 rfl rfl rfl rfl) (Qe rfl (Qe rfl Ql)) rfl rfl rfl
  ·exact ⟨Nat.zero_le _, by simp⟩
  intro i hI
  have hlen := Qfz w (l.take i)
  try dsimp only
  refine QB ?_ -- 1
  refine Qf fun K hK => Qa rfl (Qa rfl (QO rfl rfl (Z3 rfl rfl ?_)))
  refine hK _ _ (Qb (kp5 rfl rfl rfl rfl rfl) ?_)
  refine Qw rfl (fun h1 => ?_) (fun h1 => ?_)
  ·try rw [h1]
   try simp only [qa, qb, qc, qd, qe, List.length_map] at h1
   refine Qv (Qd (kp4 rfl rfl rfl rfl) ?_)
   refine QB ?_ -- 2
   refine Qz ?_
   refine QB ?_ -- 3
   refine Qf fun K hK => Qa rfl (Qa rfl (QJ rfl rfl rfl (by omega) (QT (by omega)) rfl (Q7 rfl rfl (QA rfl rfl rfl (Z3 rfl rfl (Qa rfl ?_))))))
   refine QE (g := 22) rfl (fun h2 => ?_) (fun h2 => ?_)
   ·try rw [h2]
    try simp only [qa, qb, qc, qd, qe, List.length_map] at h2
    refine Qt rfl (Qt rfl (Qt rfl (Qt rfl (Qt rfl (Qt rfl (Qt rfl (Qt rfl (Qo rfl rfl ?_))))))))
    refine hK _ _ (Qb (kp5 rfl rfl rfl rfl rfl) ?_)
    refine Zs rfl (Qf fun K hK => Qa rfl (Qa rfl ?_))
    refine hK _ _ (Qb (kp2 rfl rfl) ?_)
    refine Qu (Qj (Qr (Qj (Q0 (Qr (QdE ?_))))))
    rw [QgK (i := i) (by omega) (Qbi (by omega))]
    exact QS rfl rfl ⟨rfl, rfl⟩
   ·try rw [h2]
    try simp only [qa, qb, qc, qd, qe, List.length_map] at h2
    refine Qk rfl (Qa rfl (Qk rfl (Qa rfl (Qk rfl (QJ rfl rfl rfl (by omega) (QT (by omega)) rfl (Qk rfl (Q7 rfl rfl (Qk rfl (QA rfl rfl rfl (Qk rfl (Qa rfl ?_)))))))))))
    refine Qk rfl (QO rfl rfl (Qk rfl (QeX rfl rfl (Qo rfl rfl ?_))))
    refine hK _ _ (Qb (kp5 rfl rfl rfl rfl rfl) ?_)
    refine Qw rfl (fun h3 => ?_) (fun h3 => ?_)
    ·try rw [h3]
     try simp only [qa, qb, qc, qd, qe, List.length_map] at h3
     refine Qf fun K hK => Qa rfl (Qa rfl ?_)
     refine hK _ _ (Qb (kp2 rfl rfl) ?_)
     refine Qu (Qj (Qr (Qj (Q0 (Qr (QdE ?_))))))
     rw [QgK (i := i) (by omega) (Qbi (by omega))]
     exact QS rfl rfl ⟨rfl, rfl⟩
    ·try rw [h3]
     try simp only [qa, qb, qc, qd, qe, List.length_map] at h3
     refine Qv (Qd (kp4 rfl rfl rfl rfl) (QL fun K hK => Qa rfl (Qa rfl (Qa rfl (QJ rfl rfl rfl (by omega) (QT (by omega)) rfl (Q7 rfl rfl (QU (ds0 := [1, 0]) rfl rfl rfl rfl rfl (Qa rfl (Qa rfl (Qa rfl ?_))))))))))
     refine QJ rfl rfl rfl (by omega) (QT (by omega)) rfl (Q7 rfl rfl (QU (ds0 := [9, 8, 2, 0]) rfl rfl rfl rfl rfl (XD (ds0 := [8, 2, 0]) rfl rfl rfl (by simp) (by omega) (by omega) rfl rfl rfl (QU (ds0 := [2, 0]) rfl (Z4 rfl (ZB (by omega) (by omega))) rfl rfl rfl (Qa rfl (Qa rfl (QJ rfl rfl rfl (by omega) (QT (by omega)) rfl (Q7 rfl rfl (QU (ds0 := [2, 0]) rfl rfl rfl rfl rfl (QeP rfl rfl (XD (ds0 := [0]) rfl rfl rfl (by simp) (by omega) (by omega) rfl rfl rfl ?_)))))))))))
     refine YY (ds0 := []) rfl rfl (ZB (by omega) (by omega)) rfl rfl rfl rfl rfl rfl rfl (hK _ ?_)
     refine Qg (Qd (kp4 rfl rfl rfl rfl) (QL fun K hK => Qa rfl (Q1 rfl rfl (by first | exact Qq (by omega) (by omega) | rfl) (Qa rfl (hK _ ?_)))))
     refine Qi (i + 1) ?_ ?_ ?_
     ·exact Q4 (l := [1, 2, 6, 7]) (lH := [2, 500000]) (kp4 rfl rfl rfl rfl) (Qe rfl (Qe rfl Ql)) (by rw [Qkw (by omega) (by omega), List.length_set]; rfl) (by rw [Qkw (by omega) (by omega), List.map_set]; rfl) rfl
     ·exact ⟨by omega, Z8 (by omega) hI.2 (QeJ (by omega) (by omega))⟩
     ·first | omega | (simp only; omega) | (dsimp only; omega)
  ·try rw [h1]
   try simp only [qa, qb, qc, qd, qe, List.length_map] at h1
   refine Zf (QK (Qx (QD ?_)))
   refine Z6 () ?_ ?_
   ·exact le_trans (QfH (l := [2]) (lH := [2]) 500000 6 (kp1 rfl) (Qe rfl Ql) rfl rfl rfl (by first | (simp; done) | (simp; omega)) rfl rfl rfl rfl) (Q4 (l := [2, 6]) (lH := [2]) (kp2 rfl rfl) (Qe rfl Ql) (by rw [List.take_of_length_le (show l.length <= i by omega)]; rfl) rfl rfl)
   ·exact Xv (by omega) hI.2
 intro _ hJ
 try dsimp only
 refine Qf fun K hK => QH (cs := [_]) rfl rfl rfl rfl (Qa rfl (QI (QcH hw (by rw [Qfz]; omega)) rfl rfl (.inl rfl) (QQ rfl rfl (QQ rfl rfl (Qa rfl (Qa rfl ?_))))))
 refine hK _ _ (Qb (kp2 rfl rfl) ?_)
 refine Qu ?_
 rw [Qmn hJ]
 exact QS rfl rfl ⟨rfl, rfl⟩
theorem Y4 {l : List TermT} (hl : l.length <= 2000000) {u : Int} : Ok Tryz.prog 90 [ZF l, .int .i64 u] (ZF (QgG l u)) := by
 refine Ok.ofT ZT Tryz.func90 Qsv (Nat.le_of_ble_eq_true rfl) ?_
 show TW _ _ tf90.body _ _
 refine Qf fun K hK => Qa rfl ?_
 refine hK _ _ (Qb (kp2 rfl rfl) ?_)
 refine Qf fun K hK => Qa rfl ?_
 refine hK _ _ (Qb (kp3 rfl rfl rfl) ?_)
 refine QB ?_ -- 0
 refine Qf fun K hK => Qa rfl ?_
 refine hK _ _ (Qb (kp4 rfl rfl rfl rfl) ?_)
 refine Qz ?_
 refine Zi (ι := Nat) (fun i => ⟨[(0, ZF l), (1, .int .i64 u), (5, .osl 5 (QgG (l.take i) u).length), (6, .int .i64 i)], [(5, ⟨(QgG (l.take i) u).map Qdu, 2, 56, true⟩)]⟩) (fun i => i <= l.length) (fun i => l.length - i) 0 ?_ ?_ ?_
 ·exact le_trans (Yd 5 5 2 56 rfl rfl) (Q4 (l := [0, 1, 5, 6]) (lH := [5]) (kp4 rfl rfl rfl rfl) (Qe rfl Ql) rfl rfl rfl)
 ·exact Nat.zero_le _
 intro i hI
 have hlen := Qnr l u i
 try dsimp only
 refine QB ?_ -- 1
 refine Qf fun K hK => Qa rfl (Qa rfl (QO rfl rfl (Z3 rfl rfl ?_)))
 refine hK _ _ (Qb (kp5 rfl rfl rfl rfl rfl) ?_)
 refine Qw rfl (fun h1 => ?_) (fun h1 => ?_)
 ·try rw [h1]
  try simp only [qa, qb, qc, qd, qe, List.length_map] at h1
  refine Qv (Qd (kp4 rfl rfl rfl rfl) ?_)
  refine QB ?_ -- 2
  refine Qz (Qf fun K hK => Qa rfl (Qa rfl (QJ rfl rfl rfl (by omega) (QT (by omega)) rfl (Q7 rfl rfl (QA rfl rfl rfl (Qa rfl (X8 rfl rfl ?_)))))))
  refine hK _ _ (Qb (kp5 rfl rfl rfl rfl rfl) ?_)
  refine Qw rfl (fun h2 => ?_) (fun h2 => ?_)
  ·try rw [h2]
   try simp only [qa, qb, qc, qd, qe, List.length_map] at h2
   refine QL fun K hK => Qa rfl (Qa rfl (Qa rfl (QJ rfl rfl rfl (by omega) (QT (by omega)) rfl (QH (cs := [_, _]) rfl rfl rfl rfl (QC rfl rfl (Xc rfl rfl (fun _ h => YX rfl rfl rfl h) rfl (by simp) rfl rfl rfl (by simp; omega) (by simp; omega) (Qa rfl (hK _ ?_))))))))
   refine Qg (Qd (kp4 rfl rfl rfl rfl) (QL fun K hK => Qa rfl (Q1 rfl rfl (by first | exact Qq (by omega) (by omega) | rfl) (Qa rfl (hK _ ?_)))))
   refine Qi (i + 1) ?_ ?_ ?_
   ·exact Q4 (l := [0, 1, 5, 6]) (lH := [5]) (kp4 rfl rfl rfl rfl) (Qe rfl Ql) (by first | (rw [Qa7 (by omega) h2]; done) | (rw [Qa7 (by omega) h2]; rfl) | (rw [Qa7 (by omega) h2, List.length_append]; rfl) | (simp [Qa7 (by omega) h2]; done) | (simp [Qa7 (by omega) h2]; omega) | rfl) (by first | (rw [Qa7 (by omega) h2]; done) | (rw [Qa7 (by omega) h2]; rfl) | (rw [Qa7 (by omega) h2, List.map_append]; rfl) | (simp [Qa7 (by omega) h2]; done) | rfl) rfl
   ·omega
   ·first | omega | (simp only; omega) | (dsimp only; omega)
  ·try rw [h2]
   try simp only [qa, qb, qc, qd, qe, List.length_map] at h2
   refine Qv (Qg (Qd (kp4 rfl rfl rfl rfl) (QL fun K hK => Qa rfl (Q1 rfl rfl (by first | exact Qq (by omega) (by omega) | rfl) (Qa rfl (hK _ ?_))))))
   refine Qi (i + 1) ?_ ?_ ?_
   ·exact Q4 (l := [0, 1, 5, 6]) (lH := [5]) (kp4 rfl rfl rfl rfl) (Qe rfl Ql) (by first | (rw [Qdl (by omega) h2]; done) | (rw [Qdl (by omega) h2]; rfl) | (rw [Qdl (by omega) h2, List.length_append]; rfl) | (simp [Qdl (by omega) h2]; done) | (simp [Qdl (by omega) h2]; omega) | rfl) (by first | (rw [Qdl (by omega) h2]; done) | (rw [Qdl (by omega) h2]; rfl) | (rw [Qdl (by omega) h2, List.map_append]; rfl) | (simp [Qdl (by omega) h2]; done) | rfl) rfl
   ·omega
   ·first | omega | (simp only; omega) | (dsimp only; omega)
 ·try rw [h1]
  try simp only [qa, qb, qc, qd, qe, List.length_map] at h1
  refine Zf (QK (Qx (QD (Qd (kp1 rfl) (Qf fun K hK => Qa rfl (Qa rfl ?_))))))
  refine hK _ _ (Qb (kp1 rfl) ?_)
  refine Qu ?_
  exact QaA rfl rfl rfl (by simp) (by rw [List.take_of_length_le (show l.length <= i by omega)]; rfl)
theorem QbF {l : List TermT} (hl : l.length <= 3000000) : Ok Tryz.prog 91 [ZF l] (ZF (QhA l)) := by
 refine Ok.ofT ZT Tryz.func91 Qsw (Nat.le_of_ble_eq_true rfl) ?_
 show TW _ _ tf91.body _ _
 refine Qf fun K hK => Qa rfl ?_
 refine hK _ _ (Qb (kp1 rfl) ?_)
 refine Qf fun K hK => Qa rfl ?_
 refine hK _ _ (Qb (kp2 rfl rfl) ?_)
 refine QB ?_ -- 0
 refine Qf fun K hK => Qa rfl ?_
 refine hK _ _ (Qb (kp3 rfl rfl rfl) ?_)
 refine Qz ?_
 refine Zi (ι := Nat) (fun u => ⟨[(0, ZF l), (3, .osl 3 (Yl l u).length), (4, .int .i64 u)], [(3, ⟨(Yl l u).map Qdu, 2, 56, true⟩)]⟩) (fun u => u <= 48) (fun u => 48 - u) 0 ?_ ?_ ?_
 ·exact le_trans (Yd 3 3 2 56 rfl rfl) (Q4 (l := [0, 3, 4]) (lH := [3]) (kp3 rfl rfl rfl) (Qe rfl Ql) rfl rfl rfl)
 ·exact Nat.zero_le _
 intro u hU
 have hlen2 : u * l.length <= 48 * 3000000 := Nat.mul_le_mul (by omega) hl
 try dsimp only
 refine QB ?_ -- 1
 refine Qf fun K hK => Qa rfl (Z3 rfl rfl ?_)
 refine hK _ _ (Qb (kp4 rfl rfl rfl rfl) ?_)
 refine Qw rfl (fun h1 => ?_) (fun h1 => ?_)
 ·try rw [h1]
  try simp only [qa, qb, qc, qd, qe, List.length_map] at h1
  refine Qv (Qd (kp3 rfl rfl rfl) ?_)
  refine QB ?_ -- 2
  refine Qz (Qf fun K hK => Qa rfl ?_)
  refine hK _ _ (Qb (kp4 rfl rfl rfl rfl) ?_)
  refine Qz ?_
  refine Zi (ι := Nat) (fun i => ⟨[(0, ZF l), (3, .osl 3 (srt l u i).length), (4, .int .i64 u), (5, .int .i64 i)], [(3, ⟨(srt l u i).map Qdu, 2, 56, true⟩)]⟩) (fun i => i <= l.length) (fun i => l.length - i) 0 ?_ ?_ ?_
  ·exact Q4 (l := [0, 3, 4, 5]) (lH := [3]) (kp4 rfl rfl rfl rfl) (Qe rfl Ql) (by first | (rw [X4]; done) | (rw [X4]; rfl) | (rw [X4, List.length_append]; rfl) | (simp [X4]; done) | (simp [X4]; omega) | rfl) (by first | (rw [X4]; done) | (rw [X4]; rfl) | (rw [X4, List.map_append]; rfl) | (simp [X4]; done) | rfl) rfl
  ·exact Nat.zero_le _
  intro i hI
  have hlen3 := Qpy l u i
  try dsimp only
  refine QB ?_ -- 3
  refine Qf fun K hK => Qa rfl (Qa rfl (QO rfl rfl (Z3 rfl rfl ?_)))
  refine hK _ _ (Qb (kp5 rfl rfl rfl rfl rfl) ?_)
  refine Qw rfl (fun h2 => ?_) (fun h2 => ?_)
  ·try rw [h2]
   try simp only [qa, qb, qc, qd, qe, List.length_map] at h2
   refine Qv (Qd (kp4 rfl rfl rfl rfl) ?_)
   refine QB ?_ -- 4
   refine Qz (Qf fun K hK => Qa rfl (Qa rfl (QJ rfl rfl rfl (by omega) (QT (by omega)) rfl (Q7 rfl rfl (QA rfl rfl rfl (Qa rfl (ZI rfl rfl ?_)))))))
   refine hK _ _ (Qb (kp5 rfl rfl rfl rfl rfl) ?_)
   refine Qw rfl (fun h3 => ?_) (fun h3 => ?_)
   ·try rw [h3]
    try simp only [qa, qb, qc, qd, qe, List.length_map] at h3
    refine QL fun K hK => Qa rfl (Qa rfl (Qa rfl (QJ rfl rfl rfl (by omega) (QT (by omega)) rfl (QH (cs := [_, _]) rfl rfl rfl rfl (QC rfl rfl (Xc rfl rfl (fun _ h => YX rfl rfl rfl h) rfl (by simp) rfl rfl rfl (by simp; omega) (by simp; omega) (Qa rfl (hK _ ?_))))))))
    refine Qg (Qd (kp4 rfl rfl rfl rfl) (QL fun K hK => Qa rfl (Q1 rfl rfl (by first | exact Qq (by omega) (by omega) | rfl) (Qa rfl (hK _ ?_)))))
    refine Qi (i + 1) ?_ ?_ ?_
    ·exact Q4 (l := [0, 3, 4, 5]) (lH := [3]) (kp4 rfl rfl rfl rfl) (Qe rfl Ql) (by first | (rw [Qbu (by omega) h3]; done) | (rw [Qbu (by omega) h3]; rfl) | (rw [Qbu (by omega) h3, List.length_append]; rfl) | (simp [Qbu (by omega) h3]; done) | (simp [Qbu (by omega) h3]; omega) | rfl) (by first | (rw [Qbu (by omega) h3]; done) | (rw [Qbu (by omega) h3]; rfl) | (rw [Qbu (by omega) h3, List.map_append]; rfl) | (simp [Qbu (by omega) h3]; done) | rfl) rfl
    ·omega
    ·first | omega | (simp only; omega) | (dsimp only; omega)
   ·try rw [h3]
    try simp only [qa, qb, qc, qd, qe, List.length_map] at h3
    refine Qv (Qg (Qd (kp4 rfl rfl rfl rfl) (QL fun K hK => Qa rfl (Q1 rfl rfl (by first | exact Qq (by omega) (by omega) | rfl) (Qa rfl (hK _ ?_))))))
    refine Qi (i + 1) ?_ ?_ ?_
    ·exact Q4 (l := [0, 3, 4, 5]) (lH := [3]) (kp4 rfl rfl rfl rfl) (Qe rfl Ql) (by first | (rw [Qd3 (by omega) h3]; done) | (rw [Qd3 (by omega) h3]; rfl) | (rw [Qd3 (by omega) h3, List.length_append]; rfl) | (simp [Qd3 (by omega) h3]; done) | (simp [Qd3 (by omega) h3]; omega) | rfl) (by first | (rw [Qd3 (by omega) h3]; done) | (rw [Qd3 (by omega) h3]; rfl) | (rw [Qd3 (by omega) h3, List.map_append]; rfl) | (simp [Qd3 (by omega) h3]; done) | rfl) rfl
    ·omega
    ·first | omega | (simp only; omega) | (dsimp only; omega)
  ·try rw [h2]
   try simp only [qa, qb, qc, qd, qe, List.length_map] at h2
   refine Zf (QK (Qx (QD (Qg (Qd (kp3 rfl rfl rfl) (QL fun K hK => Qa rfl (Q1 rfl rfl (by first | exact Qq (by omega) (by omega) | rfl) (Qa rfl (hK _ ?_)))))))))
   refine Qi (u + 1) ?_ ?_ ?_
   ·exact Q4 (l := [0, 3, 4]) (lH := [3]) (kp3 rfl rfl rfl) (Qe rfl Ql) (by first | (rw [Qbt l u (show l.length = i by omega)]; done) | (rw [Qbt l u (show l.length = i by omega)]; rfl) | (rw [Qbt l u (show l.length = i by omega), List.length_append]; rfl) | (simp [Qbt l u (show l.length = i by omega)]; done) | (simp [Qbt l u (show l.length = i by omega)]; omega) | rfl) (by first | (rw [Qbt l u (show l.length = i by omega)]; done) | (rw [Qbt l u (show l.length = i by omega)]; rfl) | (rw [Qbt l u (show l.length = i by omega), List.map_append]; rfl) | (simp [Qbt l u (show l.length = i by omega)]; done) | rfl) rfl
   ·omega
   ·first | omega | (simp only; omega) | (dsimp only; omega)
 ·try rw [h1]
  try simp only [qa, qb, qc, qd, qe, List.length_map] at h1
  refine Zf (QK (Qx (QD (Qd (kp1 rfl) (Qf fun K hK => Qa rfl (Qa rfl ?_))))))
  refine hK _ _ (Qb (kp1 rfl) ?_)
  refine Qu ?_
  exact QaA rfl rfl rfl (by simp) (by rw [QhA, show (48 : Nat) = u by omega]; rfl)
theorem Xn {w : Qp} (hw : WSm w) {u : Int} {p : Nat} (hp : p <= 60) {l : List WantT} (hl : l.length <= 1000000) (hx : ∀ x ∈ l, Sm x.s.1 /\ Sm x.s.2) {bar : Bool} : Ok Tryz.prog 71 [ZY w, .int .i64 u, .int .i64 (p : Nat), Q9 l, .bool bar] (dOT (Yi w u p l bar)) := by
 refine Ok.ofT ZT Tryz.func71 Qsc (Nat.le_of_ble_eq_true rfl) ?_
 show TW _ _ tf71.body _ _
 refine Qf fun K hK => Zv rfl rfl rfl (Qa rfl (Qa rfl ?_))
 refine hK _ _ (Qb (kp5 rfl rfl rfl rfl rfl) ?_)
 refine Qf fun K hK => Qa rfl (QH (cs := [_]) rfl rfl rfl rfl (Qa rfl (QI (Zz hw) rfl rfl (.inr rfl) (Qa rfl (QhY rfl (Qfg (by omega) (by omega)) (QoX rfl rfl (by omega) (Qnc hp) (QeP rfl rfl (QV rfl rfl (QC rfl rfl (Qa rfl ?_))))))))))
 refine hK _ _ (Qb (kp4 rfl rfl rfl rfl) ?_)
 refine Qgo (ι := Unit) (fun _ => ⟨[(5, .ref 5 0 0), (12, ZF (clT w u p bar l))], [(5, ⟨[[.sl ((w).map Ym)]], 1, 26, true⟩)]⟩) (fun _ => True) ?_ ?_
 ·skip
  refine Qf fun K hK => Qa rfl ?_
  refine hK _ _ (Qb (kp5 rfl rfl rfl rfl rfl) ?_)
  refine Qz ?_
  refine Zi (ι := Nat) (fun i => ⟨[(3, Q9 l), (4, .bool bar), (5, .ref 5 0 0), (12, .osl 24 (clT w u p bar (l.take i)).length), (13, .int .i64 i)], [(5, ⟨[[.sl ((w).map Ym)]], 1, 26, true⟩), (24, ⟨(clT w u p bar (l.take i)).map Qdu, 2, 56, true⟩)]⟩) (fun i => i <= l.length) (fun i => l.length - i) 0 ?_ ?_ ?_
  ·exact Q4 (l := [3, 4, 5, 12, 13]) (lH := [5, 24]) (kp5 rfl rfl rfl rfl rfl) (Qe rfl (Qe rfl Ql)) rfl rfl rfl
  ·exact Nat.zero_le _
  intro i hI
  have hlen := QlJ w u p bar (l.take i)
  have hlen2 : (l.take i).length <= l.length := List.length_take_le' ..
  try dsimp only
  refine QB ?_ -- 1
  refine Qf fun K hK => Qa rfl (Qa rfl (QO rfl rfl (Z3 rfl rfl ?_)))
  refine hK _ _ (Qb (kp6 rfl rfl rfl rfl rfl rfl) ?_)
  refine Qw rfl (fun h1 => ?_) (fun h1 => ?_)
  ·try rw [h1]
   try simp only [qa, qb, qc, qd, qe, List.length_map] at h1
   refine Qv (Qd (kp5 rfl rfl rfl rfl rfl) ?_)
   refine QB ?_ -- 2
   refine Qz (Qf fun K hK => QN (ds0 := [1, 0]) (cs := [_]) rfl rfl rfl rfl rfl rfl (Qa rfl (Qa rfl (QJ rfl rfl rfl (by omega) (QT (by omega)) rfl (QN (ds0 := [1, 0]) (cs := [_, _, _]) rfl rfl rfl rfl rfl rfl (QX (ds0 := [0]) (QcY hw (hx _ (List.getElem_mem (by omega)))) rfl rfl (.inr rfl) rfl rfl (Qa rfl ?_)))))))
   refine hK _ _ (Qb (kp6 rfl rfl rfl rfl rfl rfl) ?_)
   refine QB ?_ -- 3
   refine Qf fun K hK => Qa rfl (Yk rfl ?_)
   refine hK _ _ (Qb (kp7 rfl rfl rfl rfl rfl rfl rfl) ?_)
   refine Qw rfl (fun h2 => ?_) (fun h2 => ?_)
   ·try rw [h2]
    try simp only [qa, qb, qc, qd, qe, List.length_map] at h2
    refine QL fun K hK => QN (ds0 := [3, 1, 0]) (cs := [_]) rfl rfl rfl rfl rfl rfl (Qa rfl (Qa rfl (QJ rfl rfl rfl (by omega) (QT (by omega)) rfl (Q7 rfl rfl (QU (ds0 := [3, 1, 0]) rfl rfl rfl rfl rfl (QX (ds0 := [1, 0]) (Zz hw) rfl rfl (.inr rfl) rfl rfl (Qa rfl (QaE rfl rfl (QpE w _ _) (Qa rfl (hK _ ?_))))))))))
    refine Qd (kp6 rfl rfl rfl rfl rfl rfl) (QL fun K hK => Qa rfl (Qa rfl (Qa rfl (QJ rfl rfl rfl (by omega) (QT (by omega)) rfl (Q7 rfl rfl (QA rfl rfl rfl (Qa rfl (QV rfl rfl (QC rfl rfl (Xc rfl rfl (fun _ h => YX rfl rfl rfl h) rfl (by simp) rfl rfl rfl (by simp; omega) (by simp; omega) ?_))))))))))
    refine Qa rfl (hK _ ?_)
    refine Qg (Qd (kp5 rfl rfl rfl rfl rfl) (QL fun K hK => Qa rfl (Q1 rfl rfl (by first | exact Qq (by omega) (by omega) | rfl) (Qa rfl (hK _ ?_)))))
    refine Qi (i + 1) ?_ ?_ ?_
    ·exact Q4 (l := [3, 4, 5, 12, 13]) (lH := [5, 24]) (kp5 rfl rfl rfl rfl rfl) (Qe rfl (Qe rfl Ql)) (by first | (rw [Qbb (by omega) h2]; done) | (rw [Qbb (by omega) h2]; rfl) | (rw [Qbb (by omega) h2, List.length_append]; rfl) | (simp [Qbb (by omega) h2]; done) | (simp [Qbb (by omega) h2]; omega) | rfl) (by first | (rw [Qbb (by omega) h2]; done) | (rw [Qbb (by omega) h2]; rfl) | (rw [Qbb (by omega) h2, List.map_append]; rfl) | (simp [Qbb (by omega) h2]; done) | rfl) rfl
    ·omega
    ·first | omega | (simp only; omega) | (dsimp only; omega)
   ·try rw [h2]
    try simp only [qa, qb, qc, qd, qe, List.length_map] at h2
    refine Qv (Qd (kp6 rfl rfl rfl rfl rfl rfl) (QL fun K hK => Qa rfl (Qa rfl (Qa rfl (QJ rfl rfl rfl (by omega) (QT (by omega)) rfl (Q7 rfl rfl (QA rfl rfl rfl (Qa rfl (QV rfl rfl (QC rfl rfl ?_))))))))))
    refine Xc rfl rfl (fun _ h => YX rfl rfl rfl h) rfl (by simp) rfl rfl rfl (by simp; omega) (by simp; omega) (Qa rfl (hK _ ?_))
    refine Qg (Qd (kp5 rfl rfl rfl rfl rfl) (QL fun K hK => Qa rfl (Q1 rfl rfl (by first | exact Qq (by omega) (by omega) | rfl) (Qa rfl (hK _ ?_)))))
    refine Qi (i + 1) ?_ ?_ ?_
    ·exact Q4 (l := [3, 4, 5, 12, 13]) (lH := [5, 24]) (kp5 rfl rfl rfl rfl rfl) (Qe rfl (Qe rfl Ql)) (by first | (rw [Qba (by omega) h2]; done) | (rw [Qba (by omega) h2]; rfl) | (rw [Qba (by omega) h2, List.length_append]; rfl) | (simp [Qba (by omega) h2]; done) | (simp [Qba (by omega) h2]; omega) | rfl) (by first | (rw [Qba (by omega) h2]; done) | (rw [Qba (by omega) h2]; rfl) | (rw [Qba (by omega) h2, List.map_append]; rfl) | (simp [Qba (by omega) h2]; done) | rfl) rfl
    ·omega
    ·first | omega | (simp only; omega) | (dsimp only; omega)
  ·try rw [h1]
   try simp only [qa, qb, qc, qd, qe, List.length_map] at h1
   refine Zf (QK (Qx (QD ?_)))
   refine Z6 () ?_ ?_
   ·exact le_trans (QfH (l := [5]) (lH := [5]) 24 12 (kp1 rfl) (Qe rfl Ql) rfl rfl rfl (by first | (simp; done) | (simp; omega)) rfl rfl rfl rfl) (Q4 (l := [5, 12]) (lH := [5]) (kp2 rfl rfl) (Qe rfl Ql) (by rw [List.take_of_length_le (show l.length <= i by omega)]; rfl) rfl rfl)
   ·exact trivial
 intro _ hJ
 try dsimp only
 refine Qf fun K hK => QH (cs := [_]) rfl rfl rfl rfl (Qa rfl (QI (XO hw (by rw [QlJ]; omega)) rfl rfl (.inl rfl) (QQ rfl rfl (QQ rfl rfl (Qa rfl (Qa rfl ?_))))))
 refine hK _ _ (Qb (kp2 rfl rfl) ?_)
 refine Qu ?_
 exact QS rfl rfl ⟨rfl, rfl⟩
end Go.Proofs
namespace M25
open Go Go.Abs M3
def IncOk (w : Qp) (l : List TermT) : Prop := l.Pairwise (fun a b => a.u < b.u) /\ ∀ t ∈ l, 0 <= t.u /\ t.u < w.length
theorem QgT : ∀ (l : List TermT) (a b : Int), l.Pairwise (fun x y => x.u < y.u) -> (∀ t ∈ l, a <= t.u /\ t.u < b) -> a <= b -> (l.length : Int) <= b - a
 | [], a, b, _, _, h => by simp; omega
 | t :: l, a, b, hp, hb, h => by
  rw [List.pairwise_cons] at hp
  have h1 := hb t (by simp)
  have := QgT l (t.u + 1) b hp.2 (fun s hs => ⟨by have := hp.1 s hs; omega, (hb s (by simp [hs])).2⟩) (by omega)
  simp only [List.length_cons]; omega
theorem IncOk.len {w : Qp} {l : List TermT} (h : IncOk w l) : l.length <= w.length := by
 have := QgT l 0 w.length h.1 h.2 (by omega)
 omega
theorem IncOk.nil (w : Qp) : IncOk w [] := ⟨List.Pairwise.nil, by simp⟩
theorem QiG (w : Qp) (ms : List Int) : ∀ n, (Xs w ms n).Pairwise (fun a b => a.u < b.u) /\ ∀ t ∈ Xs w ms n, 0 <= t.u /\ t.u < n
 | 0 => ⟨List.Pairwise.nil, by simp [Xs]⟩
 | n + 1 => by
  obtain ⟨h1, h2⟩ := QiG w ms n
  rw [Xs]
  split
  ·rw [List.append_nil]; exact ⟨h1, fun t ht => by have := h2 t ht; omega⟩
  ·refine ⟨List.pairwise_append.2 ⟨h1, List.pairwise_singleton _ _, fun a ha b hb => ?_⟩, fun t ht => ?_⟩
   ·simp only [List.mem_singleton] at hb; subst hb; exact (h2 a ha).2
   ·rcases List.mem_append.1 ht with ht | ht
    ·have := h2 t ht; omega
    ·simp only [List.mem_singleton] at ht; subst ht; simp only; omega
theorem QdL {w : Qp} {l t : List TermT} (h : QcV w l = some t) : IncOk w t := by
 unfold QcV at h
 split at h
 ·unfold QiB at h
  split at h
  ·cases h
   obtain ⟨h1, h2⟩ := QiG w (Xr (QaY w) l) (Xr (QaY w) l).length
   refine ⟨h1, fun t ht => ?_⟩
   have := h2 t ht
   rw [Qfz] at this
   exact this
  ·cases h
 ·cases h
theorem IncOk.ne {w : Qp} {l : List TermT} (h : IncOk w l) : l.Pairwise (fun a b => a.u ≠ b.u) := h.1.imp fun h => by omega
theorem Qf9 {l : List TermT} (hl : l.Pairwise (fun a b => a.u ≠ b.u)) : ∀ n, (Yl l n).Pairwise (fun a b => a.u < b.u) /\ ∀ t ∈ Yl l n, t ∈ l /\ 0 <= t.u /\ t.u < n
 | 0 => ⟨List.Pairwise.nil, by simp [Yl]⟩
 | n + 1 => by
  obtain ⟨h1, h2⟩ := Qf9 hl n
  rw [Yl]
  have hf : ∀ t ∈ l.filter (fun t => decide (t.u = ((n : Nat) : Int))), t ∈ l /\ t.u = n := fun t ht => by
   simpa using List.mem_filter.1 ht
  refine ⟨List.pairwise_append.2 ⟨h1, ?_, fun a ha b hb => ?_⟩, fun t ht => ?_⟩
  ·refine List.Pairwise.imp_of_mem (fun {a b} ha hb hab => ?_) (hl.filter _)
   have := (hf a ha).2
   have := (hf b hb).2
   omega
  ·rw [(hf b hb).2]; exact (h2 a ha).2.2
  ·rcases List.mem_append.1 ht with ht | ht
   ·have := h2 t ht; exact ⟨this.1, by omega, by omega⟩
   ·have := hf t ht; exact ⟨this.1, by omega, by omega⟩
theorem Qlk {w : Qp} {l : List TermT} (hl : l.Pairwise (fun a b => a.u ≠ b.u)) (hb : ∀ t ∈ l, 0 <= t.u /\ t.u < w.length) : IncOk w (QhA l) := by
 obtain ⟨h1, h2⟩ := Qf9 hl 48
 exact ⟨h1, fun t ht => hb t (h2 t ht).1⟩
theorem QnK {w : Qp} {r x : RowT} (hx : IncOk w x.t) (h0 : 0 <= r.u) (h1 : r.u < w.length) : IncOk w (QnJ w r x).t := by
 refine Qlk (List.pairwise_cons.2 ⟨fun t ht => ?_, hx.ne.filter _⟩) fun t ht => ?_
 ·have := (List.mem_filter.1 ht).2
  simp only [Bool.not_eq_true', decide_eq_false_iff_not] at this
  exact fun e => this e.symm
 ·rcases List.mem_cons.1 ht with rfl | ht
  ·exact ⟨h0, h1⟩
  ·exact hx.2 t (List.mem_filter.1 ht).1
def QaP (w : Qp) (rows : List RowT) : Prop := ∀ x ∈ rows, IncOk w x.t
theorem QjE {w : Qp} {r : RowT} (hr : IncOk w r.t) (h0 : 0 <= r.u) (h1 : r.u < w.length) : ∀ {rows : List RowT}, QaP w rows -> QaP w (Xb w r rows)
 | [], _ => fun x hx => by
  simp only [Xb, List.mem_singleton] at hx; subst hx; exact hr
 | y :: rows, h => fun x hx => by
  rw [Xb] at hx
  split at hx
  ·rcases List.mem_cons.1 hx with rfl | hx
   ·exact QnK (h y (by simp)) h0 h1
   ·exact h x (by simp [hx])
  ·rcases List.mem_cons.1 hx with rfl | hx
   ·exact h x (by simp)
   ·exact QjE hr h0 h1 (fun z hz => h z (by simp [hz])) x hx
theorem QhE (w : Qp) (r : RowT) : ∀ rows : List RowT, (Xb w r rows).length <= rows.length + 1
 | [] => by simp [Xb]
 | x :: rows => by
  have := QhE w r rows
  rw [Xb]; split <;> simp <;> omega
theorem Qjv {r x : RowT} (h : ¬ x.k = r.k \/ ¬ x.u = r.u \/ ¬ QgG x.t r.u = QgG r.t r.u) : Qju r x = false := by
 simp only [Qju, Bool.and_eq_false_iff, decide_eq_false_iff_not]
 rcases h with h | h | h
 ·exact .inl (.inl h)
 ·exact .inl (.inr h)
 ·exact .inr h
theorem Qmh {r x : RowT} (h1 : x.k = r.k) (h2 : x.u = r.u) (h3 : QgG x.t r.u = QgG r.t r.u) : Qju r x = true := by simp [Qju, h1, h2, h3]
theorem Qf1 {w : Qp} {r : RowT} {rows : List RowT} {i : Nat} (h : i < rows.length) (hn : Qju r rows[i] = false) (hi : Xb w r rows = rows.take i ++ Xb w r (rows.drop i)) : Xb w r rows = rows.take (i + 1) ++ Xb w r (rows.drop (i + 1)) := by
 rw [hi, List.drop_eq_getElem_cons h, Xb, if_neg (by rw [hn]; simp), List.take_succ_eq_append_getElem h, List.append_assoc]; rfl
theorem QkE {w : Qp} {r : RowT} {rows : List RowT} {i : Nat} (h : i < rows.length) (hn : Qju r rows[i] = true) (hi : Xb w r rows = rows.take i ++ Xb w r (rows.drop i)) : Xb w r rows = rows.set i (QnJ w r rows[i]) := by
 rw [hi, List.drop_eq_getElem_cons h, Xb, if_pos hn, List.set_eq_take_append_cons_drop, if_pos h]
theorem QkF {w : Qp} {r : RowT} {rows : List RowT} {i : Nat} (h : rows.length <= i) (hi : Xb w r rows = rows.take i ++ Xb w r (rows.drop i)) : Xb w r rows = rows ++ [r] := by
 rw [hi, List.drop_eq_nil_of_le h, List.take_of_length_le h, Xb]
theorem QkB {w : Qp} {u : Int} {p : Nat} {l : List (List WantT)} {rows : List RowT} {i : Nat} (h : i < l.length) : YN w u p (l.take (i + 1)) rows = match Yi w u p l[i] false with
  | some t => Xb w ⟨2, u, 0, 0, t⟩ (YN w u p (l.take i) rows)
  | none => YN w u p (l.take i) rows := by
 rw [List.take_succ_eq_append_getElem h, YN, List.foldl_append]; rfl
theorem QiI {w : Qp} {u : Int} {p : Nat} {l : List (List WantT)} {rows : List RowT} {i : Nat} (h : i < l.length) (ho : (Yi w u p l[i] false).isSome = true) : YN w u p (l.take (i + 1)) rows = Xb w ⟨2, u, 0, 0, (Yi w u p l[i] false).getD []⟩ (YN w u p (l.take i) rows) := by
 rw [QkB h]
 cases hc : Yi w u p l[i] false with
 | none => rw [hc] at ho; cases ho
 | some t => rfl
theorem QkA {w : Qp} {u : Int} {p : Nat} {l : List (List WantT)} {rows : List RowT} {i : Nat} (h : i < l.length) (ho : (Yi w u p l[i] false).isSome = false) : YN w u p (l.take (i + 1)) rows = YN w u p (l.take i) rows := by
 rw [QkB h]
 cases hc : Yi w u p l[i] false with
 | none => rfl
 | some t => rw [hc] at ho; cases ho
theorem QlG {w : Qp} {u : Int} {p : Nat} {l : List WantT} {rows : List RowT} {i : Nat} (h : i < l.length) : QbE w u p (l.take (i + 1)) rows = match Yi w u p [l[i]] true with
  | some t => Xb w ⟨3, u, 0, 0, t⟩ (QbE w u p (l.take i) rows)
  | none => QbE w u p (l.take i) rows := by
 rw [List.take_succ_eq_append_getElem h, QbE, List.foldl_append]; rfl
theorem Qj1 {w : Qp} {u : Int} {p : Nat} {l : List WantT} {rows : List RowT} {i : Nat} (h : i < l.length) (ho : (Yi w u p [l[i]] true).isSome = true) : QbE w u p (l.take (i + 1)) rows = Xb w ⟨3, u, 0, 0, (Yi w u p [l[i]] true).getD []⟩ (QbE w u p (l.take i) rows) := by
 rw [QlG h]
 cases hc : Yi w u p [l[i]] true with
 | none => rw [hc] at ho; cases ho
 | some t => rfl
theorem QlF {w : Qp} {u : Int} {p : Nat} {l : List WantT} {rows : List RowT} {i : Nat} (h : i < l.length) (ho : (Yi w u p [l[i]] true).isSome = false) : QbE w u p (l.take (i + 1)) rows = QbE w u p (l.take i) rows := by
 rw [QlG h]
 cases hc : Yi w u p [l[i]] true with
 | none => rfl
 | some t => rw [hc] at ho; cases ho
theorem Ql0 {w : Qp} {u : Int} {p : Nat} {l : List WantT} {b : Bool} : IncOk w ((Yi w u p l b).getD []) := by
 cases hc : Yi w u p l b with
 | none => exact IncOk.nil w
 | some t => exact QdL hc
theorem QdS {w : Qp} {u : Int} {p : Nat} (h0 : 0 <= u) (h1 : u < w.length) : ∀ {l : List (List WantT)} {rows : List RowT}, QaP w rows -> QaP w (YN w u p l rows) /\ (YN w u p l rows).length <= rows.length + l.length
 | [], rows, h => ⟨h, Nat.le_refl _⟩
 | x :: l, rows, h => by
  rw [YN, List.foldl_cons]
  cases hc : Yi w u p x false with
  | none =>
   obtain ⟨q1, q2⟩ := QdS h0 h1 (l := l) h
   exact ⟨q1, Nat.le_trans q2 (by simp)⟩
  | some t =>
   obtain ⟨q1, q2⟩ := QdS (p := p) h0 h1 (l := l) (QjE (r := ⟨2, u, 0, 0, t⟩) (QdL hc) h0 h1 h)
   have := QhE w ⟨2, u, 0, 0, t⟩ rows
   exact ⟨q1, Nat.le_trans q2 (by simp only [List.length_cons]; omega)⟩
theorem Qe0 {w : Qp} {u : Int} {p : Nat} (h0 : 0 <= u) (h1 : u < w.length) : ∀ {l : List WantT} {rows : List RowT}, QaP w rows -> QaP w (QbE w u p l rows) /\ (QbE w u p l rows).length <= rows.length + l.length
 | [], rows, h => ⟨h, Nat.le_refl _⟩
 | x :: l, rows, h => by
  rw [QbE, List.foldl_cons]
  cases hc : Yi w u p [x] true with
  | none =>
   obtain ⟨q1, q2⟩ := Qe0 h0 h1 (l := l) h
   exact ⟨q1, Nat.le_trans q2 (by simp)⟩
  | some t =>
   obtain ⟨q1, q2⟩ := Qe0 (p := p) h0 h1 (l := l) (QjE (r := ⟨3, u, 0, 0, t⟩) (QdL hc) h0 h1 h)
   have := QhE w ⟨3, u, 0, 0, t⟩ rows
   exact ⟨q1, Nat.le_trans q2 (by simp only [List.length_cons]; omega)⟩
theorem Qg8 {w : Qp} {u : Int} {cs : List CandT} {n : Nat} {rows : List RowT} (h : n < cs.length) : YF w u cs (n + 1) rows = QbE w u n cs[n].bs (YN w u n cs[n].ns (YF w u cs n rows)) := by
 rw [YF, List.getElem?_eq_getElem h]
theorem Qfs {w : Qp} {u : Int} {cs : List CandT} (h0 : 0 <= u) (h1 : u < w.length) (hc : ∀ c ∈ cs, c.ns.length <= 1000 /\ c.bs.length <= 1000) {rows : List RowT} (h : QaP w rows) : ∀ n, n <= cs.length -> QaP w (YF w u cs n rows) /\ (YF w u cs n rows).length <= rows.length + n * 2000
 | 0, _ => ⟨h, by simp [YF]⟩
 | n + 1, hn => by
  obtain ⟨q1, q2⟩ := Qfs h0 h1 hc h n (by omega)
  rw [Qg8 (by omega)]
  obtain ⟨q3, q4⟩ := QdS (p := n) h0 h1 (l := cs[n].ns) q1
  obtain ⟨q5, q6⟩ := Qe0 (p := n) h0 h1 (l := cs[n].bs) q3
  have := hc cs[n] (List.getElem_mem _)
  exact ⟨q5, by omega⟩
theorem QjI {w : Qp} {n : Nat} (h : n < w.length) : Yr w (n + 1) = YF w n w[n].cs w[n].cs.length (Yr w n) := by
 rw [Yr, List.getElem?_eq_getElem h]
theorem Qce {w : Qp} (hw : WSm w) (h0 : 0 < w.length) : ∀ n, n <= w.length -> QaP w (Yr w n) /\ (Yr w n).length <= 1 + n * 32000
 | 0, _ => ⟨fun x hx => by
   simp only [Yr, List.mem_singleton] at hx; subst hx
   exact ⟨List.pairwise_singleton _ _, fun t ht => by simp only [List.mem_singleton] at ht; subst ht; exact ⟨Int.le_refl _, by simp only; omega⟩⟩, by simp [Yr]⟩
 | n + 1, hn => by
  obtain ⟨q1, q2⟩ := Qce hw h0 n (by omega)
  rw [QjI (by omega)]
  obtain ⟨q3, q4⟩ := Qfs (u := n) (by omega) (by omega) (fun c hc => hw.ns w[n] (List.getElem_mem _) c hc) q1 w[n].cs.length (Nat.le_refl _)
  have := hw.cs w[n] (List.getElem_mem _)
  refine ⟨q3, ?_⟩
  have h5 : w[n].cs.length * 2000 <= 16 * 2000 := Nat.mul_le_mul_right _ this
  omega
theorem Qmk {w : Qp} (hw : WSm w) (h0 : 0 < w.length) : ∀ t ∈ mDB w, IncOk w t := fun t ht => by
 obtain ⟨r, hr, rfl⟩ := List.mem_map.1 ht
 exact (Qce hw h0 w.length (Nat.le_refl _)).1 r hr
theorem Qhv {w : Qp} (hw : WSm w) (h0 : 0 < w.length) : (mDB w).length <= 1600000 := by
 have := (Qce hw h0 w.length (Nat.le_refl _)).2
 have := hw.len
 rw [mDB, List.length_map, Qb2]; omega
theorem QqN {l : List TermT} : ∀ r ∈ l.map Qdu, r.length = 2 := fun r hr => by obtain ⟨x, _, rfl⟩ := List.mem_map.1 hr; rfl
theorem QqO {l : List WantT} : ∀ r ∈ l.map QeS, r.length = 3 := fun r hr => by obtain ⟨x, _, rfl⟩ := List.mem_map.1 hr; rfl
theorem Qln {l : List StepT} : ∀ r ∈ l.map Qfu, r.length = 4 := fun r hr => by obtain ⟨x, _, rfl⟩ := List.mem_map.1 hr; rfl
theorem QmY {α : Type} {f : α -> List D} {l : List α} {i : Nat} (h : i < l.length) : ((l.map f).take ((i : Int) + 1).toNat).drop ((i : Nat) : Int).toNat = [l[i]].map f := by
 rw [Qna, Int.toNat_natCast, List.drop_take, show i + 1 - i = 1 by omega, List.drop_eq_getElem_cons (by simpa using h)]
 simp
theorem WSm.nsLen {w : Qp} (hw : WSm w) {u i : Nat} (hu : u < w.length) (hi : i < w[u].cs.length) : w[u].cs[i].ns.length <= 1000 := (hw.ns _ (List.getElem_mem _) _ (List.getElem_mem _)).1
theorem WSm.bsLen {w : Qp} (hw : WSm w) {u i : Nat} (hu : u < w.length) (hi : i < w[u].cs.length) : w[u].cs[i].bs.length <= 1000 := (hw.ns _ (List.getElem_mem _) _ (List.getElem_mem _)).2
theorem WSm.csLen {w : Qp} (hw : WSm w) {u : Nat} (hu : u < w.length) : w[u].cs.length <= 16 := hw.cs _ (List.getElem_mem _)
theorem Qpk {w : Qp} (hw : WSm w) {u i : Nat} (hu : u < w.length) (hi : i <= w[u].cs.length) : QaP w (YF w u w[u].cs i (Yr w u)) /\ (YF w u w[u].cs i (Yr w u)).length <= 10000000 := by
 obtain ⟨q1, q2⟩ := Qce hw (by omega) u (by omega)
 obtain ⟨q3, q4⟩ := Qfs (u := u) (by omega) (by omega) (fun c hc => hw.ns w[u] (List.getElem_mem _) c hc) q1 i hi
 have := hw.csLen hu
 have := hw.len
 have h5 : i * 2000 <= 16 * 2000 := Nat.mul_le_mul_right _ (by omega)
 have h6 : u * 32000 <= 48 * 32000 := Nat.mul_le_mul_right _ (by omega)
 exact ⟨q3, by omega⟩
theorem Qhu {w : Qp} (hw : WSm w) {u i : Nat} (hu : u < w.length) (hi : i < w[u].cs.length) (k : Nat) : QaP w (YN w u i (w[u].cs[i].ns.take k) (YF w u w[u].cs i (Yr w u))) /\ (YN w u i (w[u].cs[i].ns.take k) (YF w u w[u].cs i (Yr w u))).length <= 20000000 := by
 obtain ⟨q1, q2⟩ := Qpk hw hu (Nat.le_of_lt hi)
 obtain ⟨q3, q4⟩ := QdS (u := u) (p := i) (by omega) (by omega) (l := w[u].cs[i].ns.take k) q1
 have := hw.nsLen hu hi
 have h2 : (w[u].cs[i].ns.take k).length <= w[u].cs[i].ns.length := List.length_take_le' ..
 exact ⟨q3, by omega⟩
theorem Qkq {w : Qp} (hw : WSm w) {u i : Nat} (hu : u < w.length) (hi : i < w[u].cs.length) (k : Nat) : QaP w (QbE w u i (w[u].cs[i].bs.take k) (YN w u i w[u].cs[i].ns (YF w u w[u].cs i (Yr w u)))) /\ (QbE w u i (w[u].cs[i].bs.take k) (YN w u i w[u].cs[i].ns (YF w u w[u].cs i (Yr w u)))).length <= 30000000 := by
 obtain ⟨q1, q2⟩ := Qhu hw hu hi w[u].cs[i].ns.length
 rw [List.take_length] at q1 q2
 obtain ⟨q3, q4⟩ := Qe0 (u := u) (p := i) (by omega) (by omega) (l := w[u].cs[i].bs.take k) q1
 have := hw.bsLen hu hi
 have h2 : (w[u].cs[i].bs.take k).length <= w[u].cs[i].bs.length := List.length_take_le' ..
 exact ⟨q3, by omega⟩
end M25
namespace Go.Proofs
open Go Go.Abs M3 M25
set_option linter.unusedVariables false
set_option linter.unusedSimpArgs false
theorem Qaa {w : Qp} (hw : WSm w) {r : RowT} {rows : List RowT} (hr : QaP w rows) (hrr : IncOk w r.t) (hl : rows.length <= 100000000) : OkH Tryz.prog 72 [ZY w, .osl 500000 rows.length, .agg (QlL r)] [(500000, ⟨(rows).map QlL, 5, 95, true⟩)] (.osl 500000 (Xb w r rows).length) [(500000, ⟨(Xb w r rows).map QlL, 5, 95, true⟩)] := by
 refine OkH.mv ZT Tryz.func72 Qsd (Nat.le_of_ble_eq_true rfl) rfl ?_
 show TW _ _ tf72.body _ _
 have hn := hw.len
 refine Qf fun K hK => Zv rfl rfl rfl (Zv rfl rfl rfl (Qa rfl ?_))
 refine hK _ _ (Qb (kp3 rfl rfl rfl) ?_)
 refine QB ?_ -- 0
 refine Qf fun K hK => Qa rfl ?_
 refine hK _ _ (Qb (kp4 rfl rfl rfl rfl) ?_)
 refine Qz ?_
 refine Zi (ι := Nat) (fun i => ⟨[(1, .osl 500000 rows.length), (3, .ref 3 0 0), (5, .ref 5 0 0), (7, .int .i64 i)], [(3, ⟨[[.sl ((w).map Ym)]], 1, 26, true⟩), (5, ⟨[[.int .i64 (r).k, .int .i64 (r).u, .int .i64 (r).a, .int .i64 (r).b, ZF (r).t]], 5, 95, true⟩), (500000, ⟨(rows).map QlL, 5, 95, true⟩)]⟩) (fun i => i <= rows.length /\ Xb w r rows = rows.take i ++ Xb w r (rows.drop i)) (fun i => rows.length - i) 0 ?_ ?_ ?_
 ·exact Q4 (l := [1, 3, 5, 7]) (lH := [3, 5, 500000]) (kp4 rfl rfl rfl rfl) (Qe rfl (Qe rfl (Qe rfl Ql))) rfl rfl rfl
 ·exact ⟨Nat.zero_le _, by simp⟩
 intro i hI
 try dsimp only
 refine QB ?_ -- 1
 refine Qf fun K hK => Qa rfl (Qa rfl (QO rfl rfl (Z3 rfl rfl ?_)))
 refine hK _ _ (Qb (kp5 rfl rfl rfl rfl rfl) ?_)
 refine Qw rfl (fun h1 => ?_) (fun h1 => ?_)
 ·try rw [h1]
  try simp only [qa, qb, qc, qd, qe, List.length_map] at h1
  refine Qv (Qd (kp4 rfl rfl rfl rfl) ?_)
  refine QB ?_ -- 2
  refine Qz (Qf fun K hK => Qa rfl (Qa rfl (Xd rfl rfl rfl (by simp) (by omega) (by omega) rfl (QH (cs := [_, _, _, _, _]) rfl (Z4 rfl (QT (by omega))) rfl rfl (ZG rfl (Q6 rfl rfl rfl rfl rfl rfl rfl rfl ?_))))))
  refine hK _ _ (Qb (kp5 rfl rfl rfl rfl rfl) ?_)
  refine Qf fun K hK => Qh rfl rfl (QU (ds0 := [20, 19, 18, 17, 16, 15, 14, 13, 12, 11, 10, 9, 8, 7, 6, 5, 4, 3, 2, 1, 0]) rfl rfl rfl rfl rfl (Qh rfl rfl (QU (ds0 := [20, 19, 18, 17, 16, 15, 14, 13, 12, 11, 10, 9, 8, 7, 6, 5, 4, 3, 2, 1, 0]) rfl rfl rfl rfl rfl ?_)))
  first | refine ZI rfl rfl ?_ | refine Qg1 rfl rfl ?_
  refine Qa rfl ?_
  refine QE (g := 25) rfl (fun h2 => ?_) (fun h2 => ?_)
  ·try rw [h2]
   try simp only [qa, qb, qc, qd, qe, List.length_map] at h2
   refine Qk rfl (Qh rfl rfl (Qk rfl (QU (ds0 := [14, 13, 12, 11, 10, 9, 8, 7, 6, 5, 4, 3, 2, 1, 0]) rfl rfl rfl rfl rfl (Qk rfl (Qh rfl rfl (Qk rfl (QU (ds0 := [14, 13, 12, 11, 10, 9, 8, 7, 6, 5, 4, 3, 2, 1, 0]) rfl rfl rfl rfl rfl (Qk rfl ?_))))))))
   first | refine ZI rfl rfl ?_ | refine Qg1 rfl rfl ?_
   refine Qo rfl rfl (Qa rfl ?_)
   refine QE (g := 32) rfl (fun h3 => ?_) (fun h3 => ?_)
   ·try rw [h3]
    try simp only [qa, qb, qc, qd, qe, List.length_map] at h3
    refine Qk rfl (Qh rfl rfl (Qk rfl (QU (ds0 := [7, 1, 0]) rfl rfl rfl rfl rfl (Qk rfl (Qh rfl rfl (Qk rfl (QU (ds0 := [7, 1, 0]) rfl rfl rfl rfl rfl (Qk rfl (QX (ds0 := [1, 0]) (Y4 (Nat.le_trans (hr _ (List.getElem_mem (by omega))).len (by omega))) rfl rfl (.inl rfl) rfl rfl (Qk rfl (Qh rfl rfl ?_)))))))))))
    refine Qk rfl (QU (ds0 := [2, 1, 0]) rfl rfl rfl rfl rfl (Qk rfl (Qh rfl rfl (Qk rfl (QU (ds0 := [2, 1, 0]) rfl rfl rfl rfl rfl (Qk rfl (QX (ds0 := [1, 0]) (Y4 (Nat.le_trans hrr.len (by omega))) rfl rfl (.inl rfl) rfl rfl (Qk rfl (QX (ds0 := [0]) (QcG (Nat.le_trans (Qfp _ _) (Nat.le_trans (hr _ (List.getElem_mem (by omega))).len (by omega)))) rfl rfl (.inr rfl) rfl rfl (Qo rfl rfl ?_))))))))))
    refine hK _ _ (Qb (kp6 rfl rfl rfl rfl rfl rfl) ?_)
    refine Qw rfl (fun h4 => ?_) (fun h4 => ?_)
    ·try rw [h4]
     try simp only [qa, qb, qc, qd, qe, List.length_map] at h4
     refine Qf fun K hK => Qh rfl rfl (QU (ds0 := [8, 7, 1, 0]) rfl rfl rfl rfl rfl (QN (ds0 := [16, 9, 8, 7, 1, 0]) (cs := [_]) rfl rfl rfl rfl rfl rfl (Qh rfl rfl (QU (ds0 := [16, 9, 8, 7, 1, 0]) rfl rfl rfl rfl rfl (Qh rfl rfl (QU (ds0 := [16, 9, 8, 7, 1, 0]) rfl rfl rfl rfl rfl (QX (ds0 := [9, 8, 7, 1, 0]) (YU hw (Nat.le_trans (hr _ (List.getElem_mem (by omega))).len (by omega))) rfl rfl (.inr rfl) rfl rfl (QN (ds0 := [10, 9, 8, 7, 1, 0]) (cs := [_]) rfl rfl rfl rfl rfl rfl (Qh rfl rfl (QU (ds0 := [10, 9, 8, 7, 1, 0]) rfl rfl rfl rfl rfl ?_))))))))))
     refine Qh rfl rfl (QU (ds0 := [10, 9, 8, 7, 1, 0]) rfl rfl rfl rfl rfl (QX (ds0 := [9, 8, 7, 1, 0]) (YU hw (Nat.le_trans hrr.len (by omega))) rfl rfl (.inr rfl) rfl rfl (Qrj rfl rfl (QV rfl rfl (QC rfl rfl (Qh rfl rfl (QU (ds0 := [2, 1, 0]) rfl rfl rfl rfl rfl (Qh rfl rfl (QU (ds0 := [2, 1, 0]) rfl rfl rfl rfl rfl (QX (ds0 := [1, 0]) (Y4 (Nat.le_trans (hr _ (List.getElem_mem (by omega))).len (by omega))) rfl rfl (.inl rfl) rfl rfl (Qa4 (ds0 := [0]) rfl rfl (by simp [D.ids, D.sid, ZF]) ⟨rfl, QqN, rfl⟩ rfl rfl (by simp) rfl rfl (by have q1 := Qfp (rows[i]'(by omega)).t r.u; have q2 := (hr _ (List.getElem_mem (show i < rows.length by omega))).len; simp; omega) (by have q1 := Qfp (rows[i]'(by omega)).t r.u; have q2 := (hr _ (List.getElem_mem (show i < rows.length by omega))).len; simp; omega) rfl rfl ?_)))))))))))
     refine Qa rfl ?_
     refine hK _ _ (Qb (kp3 rfl rfl rfl) ?_)
     refine Qoq (QfH (l := [1, 7]) (lH := [500000]) 67 9 (kp2 rfl rfl) (Qe rfl Ql) rfl rfl rfl (by first | (simp; done) | (simp; omega)) rfl rfl rfl rfl) (Qf fun K hK => Qa rfl (Qa rfl (Qa rfl (QI (QbF (l := ⟨r.u, bor (Qc9 w (rows[i]'(by omega)).t r.u) (Qc9 w r.t r.u)⟩ :: QgG (rows[i]'(by omega)).t r.u) (by have q1 := Qfp (rows[i]'(by omega)).t r.u; have q2 := (hr _ (List.getElem_mem (show i < rows.length by omega))).len; simp; omega)) rfl rfl (.inl rfl) (Xd rfl rfl rfl (by simp) (by omega) (by omega) rfl (Qh rfl rfl (Q6 rfl rfl (QT (by omega)) rfl rfl rfl rfl rfl ?_)))))))
     refine hK _ _ (Qb (kp1 rfl) ?_)
     refine Qf fun K hK => Qa rfl (Qa rfl ?_)
     refine hK _ _ (Qb (kp1 rfl) ?_)
     refine Qu (Qr (Qj (Q0 (Qr (Qj ?_)))))
     refine Yy rfl ?_ (Qcg ?_)
     ·rw [QkE (i := i) (by omega) (Qmh h2 h3 h4) hI.2]; simp [Qlt, D.fz, D.fzS, Qf7, D.can, D.canS]
     ·rw [QkE (i := i) (by omega) (Qmh h2 h3 h4) hI.2]; simp [lk, List.map_set, QlL, QnJ, setRow, D.sid, ZF]
    ·try rw [h4]
     try simp only [qa, qb, qc, qd, qe, List.length_map] at h4
     refine Qv (Qg (Qd (kp4 rfl rfl rfl rfl) (QL fun K hK => Qa rfl (Q1 rfl rfl (by first | exact Qq (by omega) (by omega) | rfl) (Qa rfl (hK _ ?_))))))
     refine Qi (i + 1) ?_ ?_ ?_
     ·exact Q4 (l := [1, 3, 5, 7]) (lH := [3, 5, 500000]) (kp4 rfl rfl rfl rfl) (Qe rfl (Qe rfl (Qe rfl Ql))) rfl rfl rfl
     ·exact ⟨by omega, Qf1 (by omega) (Qjv (by first | exact .inl h2 | exact .inr (.inl h3) | exact .inr (.inr h4))) hI.2⟩
     ·first | omega | (simp only; omega) | (dsimp only; omega)
   ·try rw [h3]
    try simp only [qa, qb, qc, qd, qe, List.length_map] at h3
    refine Qt rfl (Qt rfl (Qt rfl (Qt rfl (Qt rfl (Qt rfl (Qt rfl (Qt rfl (Qt rfl (Qt rfl (Qt rfl (Qo rfl rfl ?_)))))))))))
    refine hK _ _ (Qb (kp6 rfl rfl rfl rfl rfl rfl) ?_)
    refine ZJ rfl (Qv (Qg (Qd (kp4 rfl rfl rfl rfl) (QL fun K hK => Qa rfl (Q1 rfl rfl (by first | exact Qq (by omega) (by omega) | rfl) (Qa rfl (hK _ ?_)))))))
    refine Qi (i + 1) ?_ ?_ ?_
    ·exact Q4 (l := [1, 3, 5, 7]) (lH := [3, 5, 500000]) (kp4 rfl rfl rfl rfl) (Qe rfl (Qe rfl (Qe rfl Ql))) rfl rfl rfl
    ·exact ⟨by omega, Qf1 (by omega) (Qjv (by first | exact .inl h2 | exact .inr (.inl h3) | exact .inr (.inr h4))) hI.2⟩
    ·first | omega | (simp only; omega) | (dsimp only; omega)
  ·try rw [h2]
   try simp only [qa, qb, qc, qd, qe, List.length_map] at h2
   refine Qt rfl (Qt rfl (Qt rfl (Qt rfl (Qt rfl (Qo rfl rfl (Qa rfl (Qt rfl (Qt rfl (Qt rfl (Qt rfl (Qt rfl ?_)))))))))))
   refine Qt rfl (Qt rfl (Qt rfl (Qt rfl (Qt rfl (Qt rfl (Qo rfl rfl ?_))))))
   refine hK _ _ (Qb (kp6 rfl rfl rfl rfl rfl rfl) ?_)
   refine ZJ rfl (Qv (Qg (Qd (kp4 rfl rfl rfl rfl) (QL fun K hK => Qa rfl (Q1 rfl rfl (by first | exact Qq (by omega) (by omega) | rfl) (Qa rfl (hK _ ?_)))))))
   refine Qi (i + 1) ?_ ?_ ?_
   ·exact Q4 (l := [1, 3, 5, 7]) (lH := [3, 5, 500000]) (kp4 rfl rfl rfl rfl) (Qe rfl (Qe rfl (Qe rfl Ql))) rfl rfl rfl
   ·exact ⟨by omega, Qf1 (by omega) (Qjv (by first | exact .inl h2 | exact .inr (.inl h3) | exact .inr (.inr h4))) hI.2⟩
   ·first | omega | (simp only; omega) | (dsimp only; omega)
 ·try rw [h1]
  try simp only [qa, qb, qc, qd, qe, List.length_map] at h1
  refine Zf (QK (Qx (QD (Qd (kp2 rfl rfl) (Qf fun K hK => Qa rfl (QH (cs := [_, _, _, _, _]) rfl rfl rfl rfl (QC rfl rfl (Xc rfl rfl (fun _ h => YX rfl rfl rfl h) rfl (by simp) rfl rfl rfl (by simp; omega) (by simp; omega) (Qa rfl ?_)))))))))
  refine hK _ _ (Qb (kp1 rfl) ?_)
  refine Qu ?_
  refine Yy rfl ?_ (Qcg ?_)
  ·rw [QkF (i := i) (by omega) hI.2]; simp [Qlt, D.fz, D.fzS, Qf7, D.can, D.canS]
  ·rw [QkF (i := i) (by omega) hI.2]; simp [lk, QlL, D.sid, ZF]
theorem X9 {w : Qp} (hw : WSm w) : Ok Tryz.prog 51 [ZY w] (Qpc (Qb2 w)) := by
 refine Ok.ofT ZT Tryz.func51 QrT (Nat.le_of_ble_eq_true rfl) ?_
 show TW _ _ tf51.body _ _
 have hn := hw.len
 refine Qf fun K hK => Zv rfl rfl rfl (Qa rfl ?_)
 refine hK _ _ (Qb (kp1 rfl) ?_)
 refine Qf fun K hK => QV rfl rfl (QC rfl rfl (QV rfl rfl (QC rfl rfl (Qa rfl ?_))))
 refine hK _ _ (Qb (kp2 rfl rfl) ?_)
 refine QB ?_ -- 0
 refine Qf fun K hK => Qa rfl ?_
 refine hK _ _ (Qb (kp3 rfl rfl rfl) ?_)
 refine Qz ?_
 refine Zi (ι := Nat) (fun j => ⟨[(1, .ref 1 0 0), (3, .osl 3 (Yr w j).length), (4, .int .i64 j)], [(1, ⟨[[.sl ((w).map Ym)]], 1, 26, true⟩), (3, ⟨(Yr w j).map QlL, 5, 95, true⟩)]⟩) (fun j => j <= w.length) (fun j => w.length - j) 0 ?_ ?_ ?_
 ·exact le_trans (Qiu 14 _ (by decide)) (le_trans (QfJ (k := 16) (b := ⟨[[.int .i64 1, .int .i64 0, .int .i64 0, .int .i64 0, .sl [[.int .i64 0, .int .i64 1]]]], 5, 95, false⟩) rfl (by simp) (by simp [D.sid])) (le_trans (QfI (l := [1, 4]) (lH := [1]) 16 3 3 (kp2 rfl rfl) (Qe rfl Ql) rfl rfl rfl rfl rfl rfl rfl) (Q4 (l := [1, 3, 4]) (lH := [1, 3]) (kp3 rfl rfl rfl) (Qe rfl (Qe rfl Ql)) rfl rfl rfl)))
 ·exact Nat.zero_le _
 intro j hU
 try dsimp only
 refine QB ?_ -- 1
 refine Qf fun K hK => Qa rfl (Qh rfl rfl (QA rfl rfl rfl (QO rfl rfl (Z3 rfl rfl ?_))))
 refine hK _ _ (Qb (kp4 rfl rfl rfl rfl) ?_)
 refine Qw rfl (fun h1 => ?_) (fun h1 => ?_)
 ·try rw [h1]
  try simp only [qa, qb, qc, qd, qe, List.length_map] at h1
  refine Qv (Qd (kp3 rfl rfl rfl) ?_)
  refine QB ?_ -- 2
  refine Qz (Qf fun K hK => Qa rfl ?_)
  refine hK _ _ (Qb (kp4 rfl rfl rfl rfl) ?_)
  refine Qz ?_
  refine Zi (ι := Nat) (fun i => ⟨[(1, .ref 1 0 0), (3, .osl 3 (YF w j (w[j]'(by omega)).cs i (Yr w j)).length), (4, .int .i64 j), (5, .int .i64 i)], [(1, ⟨[[.sl ((w).map Ym)]], 1, 26, true⟩), (3, ⟨(YF w j (w[j]'(by omega)).cs i (Yr w j)).map QlL, 5, 95, true⟩)]⟩) (fun i => i <= (w[j]'(by omega)).cs.length) (fun i => (w[j]'(by omega)).cs.length - i) 0 ?_ ?_ ?_
  ·exact Q4 (l := [1, 3, 4, 5]) (lH := [1, 3]) (kp4 rfl rfl rfl rfl) (Qe rfl (Qe rfl Ql)) rfl rfl rfl
  ·exact Nat.zero_le _
  intro i hI
  have hcs := hw.csLen (u := j) (by omega)
  try dsimp only
  refine QB ?_ -- 3
  refine Qf fun K hK => Qa rfl (Qh rfl rfl (QA rfl rfl rfl (Qa rfl (QJ rfl rfl rfl (by omega) (QT (by omega)) rfl (Q7 rfl rfl (QA rfl rfl rfl (QO rfl rfl (Z3 rfl rfl ?_))))))))
  refine hK _ _ (Qb (kp5 rfl rfl rfl rfl rfl) ?_)
  refine Qw rfl (fun h2 => ?_) (fun h2 => ?_)
  ·try rw [h2]
   try simp only [qa, qb, qc, qd, qe, List.length_map] at h2
   refine Qv (Qd (kp4 rfl rfl rfl rfl) ?_)
   refine QB ?_ -- 4
   refine Qz (Qf fun K hK => Qh rfl rfl (QA rfl rfl rfl (Qa rfl (QJ rfl rfl rfl (by omega) (QT (by omega)) rfl (Q7 rfl rfl (QA rfl rfl rfl (Qa rfl (QJ rfl rfl rfl (by omega) (QT (by omega)) rfl (QH (cs := [_, _, _, _, _, _, _, _]) rfl rfl rfl rfl (ZG rfl ?_))))))))))
   refine Q6 rfl rfl rfl rfl rfl rfl rfl rfl ?_
   refine hK _ _ (Qb (kp5 rfl rfl rfl rfl rfl) ?_)
   refine QB ?_ -- 5
   refine Qf fun K hK => Qa rfl ?_
   refine hK _ _ (Qb (kp6 rfl rfl rfl rfl rfl rfl) ?_)
   refine Qz ?_
   refine Zi (ι := Nat) (fun k => ⟨[(1, .ref 1 0 0), (3, .osl 3 (YN w j i (((w[j]'(by omega)).cs[i]'(by omega)).ns.take k) (YF w j (w[j]'(by omega)).cs i (Yr w j))).length), (4, .int .i64 j), (5, .int .i64 i), (6, .ref 6 0 0), (7, .int .i64 k)], [(1, ⟨[[.sl ((w).map Ym)]], 1, 26, true⟩), (3, ⟨(YN w j i (((w[j]'(by omega)).cs[i]'(by omega)).ns.take k) (YF w j (w[j]'(by omega)).cs i (Yr w j))).map QlL, 5, 95, true⟩), (6, ⟨[Qpb ((w[j]'(by omega)).cs[i]'(by omega))], 8, 70, true⟩)]⟩) (fun k => k <= ((w[j]'(by omega)).cs[i]'(by omega)).ns.length) (fun k => ((w[j]'(by omega)).cs[i]'(by omega)).ns.length - k) 0 ?_ ?_ ?_
   ·exact Q4 (l := [1, 3, 4, 5, 6, 7]) (lH := [1, 3, 6]) (kp6 rfl rfl rfl rfl rfl rfl) (Qe rfl (Qe rfl (Qe rfl Ql))) rfl rfl rfl
   ·exact Nat.zero_le _
   intro k hK1
   have hnl := hw.nsLen (u := j) (i := i) (by omega) (by omega)
   try dsimp only
   refine QB ?_ -- 6
   refine Qf fun K hK => Qa rfl (Qh rfl rfl (QA rfl rfl rfl (QO rfl rfl (Z3 rfl rfl ?_))))
   refine hK _ _ (Qb (kp7 rfl rfl rfl rfl rfl rfl rfl) ?_)
   refine Qw rfl (fun h3 => ?_) (fun h3 => ?_)
   ·try rw [h3]
    try simp only [qa, qb, qc, qd, qe, List.length_map] at h3
    refine Qv (Qd (kp6 rfl rfl rfl rfl rfl rfl) ?_)
    refine QB ?_ -- 7
    refine Qz (Qf fun K hK => QN (ds0 := [5, 4, 3, 2, 1, 0]) (cs := [_]) rfl rfl rfl rfl rfl rfl (Qa rfl (Qa rfl (Qh rfl rfl (QU (ds0 := [7, 6, 5, 4, 3, 2, 1, 0]) rfl rfl rfl rfl rfl (Qa rfl (QJ rfl rfl rfl (by omega) (QT (by omega)) rfl (QU (ds0 := [5, 4, 3, 2, 1, 0]) rfl rfl rfl rfl rfl (QX (ds0 := [4, 3, 2, 1, 0]) (Xn hw (p := i) (by omega) (Nat.le_trans (hw.nl _ (List.getElem_mem (by omega)) _ (List.getElem_mem (by omega)) _ (List.getElem_mem (by omega))) (by omega)) (hw.nw _ (List.getElem_mem (by omega)) _ (List.getElem_mem (by omega)) _ (List.getElem_mem (by omega)))) rfl rfl (.inl rfl) rfl rfl (Qa rfl ?_))))))))))
    refine QQ rfl rfl (QQ rfl rfl (Qa rfl (Qa rfl ?_)))
    refine hK _ _ (Qb (kp8 rfl rfl rfl rfl rfl rfl rfl rfl) ?_)
    refine Qf fun K hK => Qa rfl ?_
    refine hK _ _ (Qb (kp8 rfl rfl rfl rfl rfl rfl rfl rfl) ?_)
    refine Qw rfl (fun h4 => ?_) (fun h4 => ?_)
    ·try rw [h4]
     try simp only [qa, qb, qc, qd, qe, List.length_map] at h4
     refine QL fun K hK => QH (cs := [_]) rfl rfl rfl rfl (Qa rfl (Qa rfl (Qa rfl (QV rfl rfl (QlA (Qj5 (k := 3) rfl rfl rfl (by decide) rfl (by decide) (by simp [D.ids, D.sid, ZF]) ⟨.osl 3 (YN w j i (((w[j]'(by omega)).cs[i]'(by omega)).ns.take k) (YF w j (w[j]'(by omega)).cs i (Yr w j))).length, by simp, by simp [D.ids, D.sid]⟩ rfl rfl (Qaa hw (r := ⟨2, j, 0, 0, (Yi w j i (((w[j]'(by omega)).cs[i]'(by omega)).ns[k]'(by omega)) false).getD []⟩) (Qhu hw (by omega) (by omega) _).1 Ql0 (Nat.le_trans (Qhu hw (by omega) (by omega) _).2 (by omega)))) (Qa rfl (hK _ ?_)))))))
     refine Qg (Qd (kp6 rfl rfl rfl rfl rfl rfl) (QL fun K hK => Qa rfl (Q1 rfl rfl (by first | exact Qq (by omega) (by omega) | rfl) (Qa rfl (hK _ ?_)))))
     refine Qi (k + 1) ?_ ?_ ?_
     ·exact le_trans (QfI (l := [1, 4, 5, 6, 7]) (lH := [1, 6]) 69 3 3 (kp5 rfl rfl rfl rfl rfl) (Qe rfl (Qe rfl Ql)) rfl rfl rfl rfl rfl rfl rfl) (Q4 (l := [1, 3, 4, 5, 6, 7]) (lH := [1, 3, 6]) (kp6 rfl rfl rfl rfl rfl rfl) (Qe rfl (Qe rfl (Qe rfl Ql))) (by rw [QiI (by omega) h4] <;> rfl) (by rw [QiI (by omega) h4] <;> rfl) rfl)
     ·omega
     ·first | omega | (simp only; omega) | (dsimp only; omega)
    ·try rw [h4]
     try simp only [qa, qb, qc, qd, qe, List.length_map] at h4
     refine Qv (Qg (Qd (kp6 rfl rfl rfl rfl rfl rfl) (QL fun K hK => Qa rfl (Q1 rfl rfl (by first | exact Qq (by omega) (by omega) | rfl) (Qa rfl (hK _ ?_))))))
     refine Qi (k + 1) ?_ ?_ ?_
     ·exact Q4 (l := [1, 3, 4, 5, 6, 7]) (lH := [1, 3, 6]) (kp6 rfl rfl rfl rfl rfl rfl) (Qe rfl (Qe rfl (Qe rfl Ql))) (by rw [QkA (by omega) h4] <;> rfl) (by rw [QkA (by omega) h4] <;> rfl) rfl
     ·omega
     ·first | omega | (simp only; omega) | (dsimp only; omega)
   ·try rw [h3]
    try simp only [qa, qb, qc, qd, qe, List.length_map] at h3
    refine Zf (QK (Qx (QD (Qd (kp5 rfl rfl rfl rfl rfl) (Qf fun K hK => Qa rfl ?_)))))
    refine hK _ _ (Qb (kp6 rfl rfl rfl rfl rfl rfl) ?_)
    refine Qz ?_
    refine Zi (ι := Nat) (fun m => ⟨[(1, .ref 1 0 0), (3, .osl 3 (QbE w j i (((w[j]'(by omega)).cs[i]'(by omega)).bs.take m) (YN w j i ((w[j]'(by omega)).cs[i]'(by omega)).ns (YF w j (w[j]'(by omega)).cs i (Yr w j)))).length), (4, .int .i64 j), (5, .int .i64 i), (6, .ref 6 0 0), (10, .int .i64 m)], [(1, ⟨[[.sl ((w).map Ym)]], 1, 26, true⟩), (3, ⟨(QbE w j i (((w[j]'(by omega)).cs[i]'(by omega)).bs.take m) (YN w j i ((w[j]'(by omega)).cs[i]'(by omega)).ns (YF w j (w[j]'(by omega)).cs i (Yr w j)))).map QlL, 5, 95, true⟩), (6, ⟨[Qpb ((w[j]'(by omega)).cs[i]'(by omega))], 8, 70, true⟩)]⟩) (fun m => m <= ((w[j]'(by omega)).cs[i]'(by omega)).bs.length) (fun m => ((w[j]'(by omega)).cs[i]'(by omega)).bs.length - m) 0 ?_ ?_ ?_
    ·exact Q4 (l := [1, 3, 4, 5, 6, 10]) (lH := [1, 3, 6]) (kp6 rfl rfl rfl rfl rfl rfl) (Qe rfl (Qe rfl (Qe rfl Ql))) (by rw [List.take_of_length_le (show ((w[j]'(by omega)).cs[i]'(by omega)).ns.length <= k by omega)] <;> rfl) (by rw [List.take_of_length_le (show ((w[j]'(by omega)).cs[i]'(by omega)).ns.length <= k by omega)] <;> rfl) rfl
    ·exact Nat.zero_le _
    intro m hM
    have hbl := hw.bsLen (u := j) (i := i) (by omega) (by omega)
    try dsimp only
    refine QB ?_ -- 8
    refine Qf fun K hK => Qa rfl (Qh rfl rfl (QA rfl rfl rfl (QO rfl rfl (Z3 rfl rfl ?_))))
    refine hK _ _ (Qb (kp7 rfl rfl rfl rfl rfl rfl rfl) ?_)
    refine Qw rfl (fun h5 => ?_) (fun h5 => ?_)
    ·try rw [h5]
     try simp only [qa, qb, qc, qd, qe, List.length_map] at h5
     refine Qv (Qd (kp6 rfl rfl rfl rfl rfl rfl) ?_)
     refine QB ?_ -- 9
     refine Qz (Qf fun K hK => QN (ds0 := [5, 4, 3, 2, 1, 0]) (cs := [_]) rfl rfl rfl rfl rfl rfl (Qa rfl (Qa rfl (Qh rfl rfl (QU (ds0 := [6, 5, 4, 3, 2, 1, 0]) rfl rfl rfl rfl rfl (Qa rfl (Qa rfl (Q1 rfl rfl (by first | exact Qq (by omega) (by omega) | rfl) (Qd8 rfl rfl rfl rfl (by omega) (by omega) (by simp; omega) QqO (QmY (by omega)) (QX (ds0 := [4, 3, 2, 1, 0]) (Xn hw (p := i) (l := [((w[j]'(by omega)).cs[i]'(by omega)).bs[m]'(by omega)]) (by omega) (by simp) (by intro x hx; simp only [List.mem_singleton] at hx; subst hx; exact hw.bw _ (List.getElem_mem (by omega)) _ (List.getElem_mem (by omega)) _ (List.getElem_mem (by omega)))) rfl rfl (.inl rfl) rfl rfl ?_))))))))))
     refine Qa rfl (QQ rfl rfl (QQ rfl rfl (Qa rfl (Qa rfl ?_))))
     refine hK _ _ (Qb (kp8 rfl rfl rfl rfl rfl rfl rfl rfl) ?_)
     refine Qf fun K hK => Qa rfl ?_
     refine hK _ _ (Qb (kp8 rfl rfl rfl rfl rfl rfl rfl rfl) ?_)
     refine Qw rfl (fun h6 => ?_) (fun h6 => ?_)
     ·try rw [h6]
      try simp only [qa, qb, qc, qd, qe, List.length_map] at h6
      refine QL fun K hK => QH (cs := [_]) rfl rfl rfl rfl (Qa rfl (Qa rfl (Qa rfl (QV rfl rfl (QlA (Qj5 (k := 3) rfl rfl rfl (by decide) rfl (by decide) (by simp [D.ids, D.sid, ZF]) ⟨.osl 3 (QbE w j i (((w[j]'(by omega)).cs[i]'(by omega)).bs.take m) (YN w j i ((w[j]'(by omega)).cs[i]'(by omega)).ns (YF w j (w[j]'(by omega)).cs i (Yr w j)))).length, by simp, by simp [D.ids, D.sid]⟩ rfl rfl (Qaa hw (r := ⟨3, j, 0, 0, (Yi w j i [((w[j]'(by omega)).cs[i]'(by omega)).bs[m]'(by omega)] true).getD []⟩) (Qkq hw (by omega) (by omega) _).1 Ql0 (Nat.le_trans (Qkq hw (by omega) (by omega) _).2 (by omega)))) (Qa rfl (hK _ ?_)))))))
      refine Qg (Qd (kp6 rfl rfl rfl rfl rfl rfl) (QL fun K hK => Qa rfl (Q1 rfl rfl (by first | exact Qq (by omega) (by omega) | rfl) (Qa rfl (hK _ ?_)))))
      refine Qi (m + 1) ?_ ?_ ?_
      ·exact le_trans (QfI (l := [1, 4, 5, 6, 10]) (lH := [1, 6]) 96 3 3 (kp5 rfl rfl rfl rfl rfl) (Qe rfl (Qe rfl Ql)) rfl rfl rfl rfl rfl rfl rfl) (Q4 (l := [1, 3, 4, 5, 6, 10]) (lH := [1, 3, 6]) (kp6 rfl rfl rfl rfl rfl rfl) (Qe rfl (Qe rfl (Qe rfl Ql))) (by rw [Qj1 (by omega) h6] <;> rfl) (by rw [Qj1 (by omega) h6] <;> rfl) rfl)
      ·omega
      ·first | omega | (simp only; omega) | (dsimp only; omega)
     ·try rw [h6]
      try simp only [qa, qb, qc, qd, qe, List.length_map] at h6
      refine Qv (Qg (Qd (kp6 rfl rfl rfl rfl rfl rfl) (QL fun K hK => Qa rfl (Q1 rfl rfl (by first | exact Qq (by omega) (by omega) | rfl) (Qa rfl (hK _ ?_))))))
      refine Qi (m + 1) ?_ ?_ ?_
      ·exact Q4 (l := [1, 3, 4, 5, 6, 10]) (lH := [1, 3, 6]) (kp6 rfl rfl rfl rfl rfl rfl) (Qe rfl (Qe rfl (Qe rfl Ql))) (by rw [QlF (by omega) h6] <;> rfl) (by rw [QlF (by omega) h6] <;> rfl) rfl
      ·omega
      ·first | omega | (simp only; omega) | (dsimp only; omega)
    ·try rw [h5]
     try simp only [qa, qb, qc, qd, qe, List.length_map] at h5
     refine Zf (QK (Qx (QD (Qg (Qd (kp4 rfl rfl rfl rfl) (QL fun K hK => Qa rfl (Q1 rfl rfl (by first | exact Qq (by omega) (by omega) | rfl) (Qa rfl (hK _ ?_)))))))))
     refine Qi (i + 1) ?_ ?_ ?_
     ·exact Q4 (l := [1, 3, 4, 5]) (lH := [1, 3]) (kp4 rfl rfl rfl rfl) (Qe rfl (Qe rfl Ql)) (by rw [Qg8 (by omega), List.take_of_length_le (show ((w[j]'(by omega)).cs[i]'(by omega)).bs.length <= m by omega)] <;> rfl) (by rw [Qg8 (by omega), List.take_of_length_le (show ((w[j]'(by omega)).cs[i]'(by omega)).bs.length <= m by omega)] <;> rfl) rfl
     ·omega
     ·first | omega | (simp only; omega) | (dsimp only; omega)
  ·try rw [h2]
   try simp only [qa, qb, qc, qd, qe, List.length_map] at h2
   refine Zf (QK (Qx (QD (Qg (Qd (kp3 rfl rfl rfl) (QL fun K hK => Qa rfl (Q1 rfl rfl (by first | exact Qq (by omega) (by omega) | rfl) (Qa rfl (hK _ ?_)))))))))
   refine Qi (j + 1) ?_ ?_ ?_
   ·exact Q4 (l := [1, 3, 4]) (lH := [1, 3]) (kp3 rfl rfl rfl) (Qe rfl (Qe rfl Ql)) (by rw [QjI (by omega), show (w[j]'(by omega)).cs.length = i by omega] <;> rfl) (by rw [QjI (by omega), show (w[j]'(by omega)).cs.length = i by omega] <;> rfl) rfl
   ·omega
   ·first | omega | (simp only; omega) | (dsimp only; omega)
 ·try rw [h1]
  try simp only [qa, qb, qc, qd, qe, List.length_map] at h1
  refine Zf (QK (Qx (QD (Qd (kp1 rfl) (Qf fun K hK => Qa rfl (Qa rfl ?_))))))
  refine hK _ _ (Qb (kp1 rfl) ?_)
  refine Qu ?_
  exact QaA rfl rfl rfl (by simp) (by rw [Qb2, show w.length = j by omega] <;> rfl)
end Go.Proofs
namespace M25
open Go Go.Abs M3
/-! ### Bits of numbers -/
theorem QhR (e : Int) : IntKind.i64.wrap e = (BitVec.ofInt 64 e).toInt := by
 have hb : (BitVec.ofInt 64 e).toInt = if e % 18446744073709551616 < 9223372036854775808 then e % 18446744073709551616 else e % 18446744073709551616 - 18446744073709551616 := by
  rw [BitVec.toInt_ofInt]; rfl
 rw [hb]
 unfold IntKind.wrap
 simp only [IntKind.bits, IntKind.signed, Bool.true_and]
 split
 ·rename_i h
  have := of_decide_eq_true h
  split <;> omega
 ·rename_i h
  have : ¬ (e % 2 ^ 64 >= 2 ^ (64 - 1)) := fun hh => h (decide_eq_true hh)
  split <;> omega
theorem QfZ (b : BitVec 64) : BitVec.ofInt 64 (b.toNat : Int) = b := by
 rw [BitVec.ofInt_natCast, BitVec.ofNat_toNat, BitVec.setWidth_eq]
theorem Qow (x y : Int) : BitVec.ofInt 64 (QbD x y) = BitVec.ofInt 64 x &&& BitVec.ofInt 64 y := by
 show BitVec.ofInt 64 (IntKind.i64.wrap ((BitVec.ofInt 64 x &&& BitVec.ofInt 64 y).toNat : Int)) = _
 rw [QhR, BitVec.ofInt_toInt, QfZ]
theorem Qox (x y : Int) : BitVec.ofInt 64 (Qfo x y) = BitVec.ofInt 64 x &&& ~~~ BitVec.ofInt 64 y := by
 show BitVec.ofInt 64 (IntKind.i64.wrap ((BitVec.ofInt 64 x &&& ~~~ BitVec.ofInt 64 y).toNat : Int)) = _
 rw [QhR, BitVec.ofInt_toInt, QfZ]
theorem QnF {x : Int} (h : I64 x) : IntKind.i64.wrap x = x := Qq h.1 h.2
theorem Qj2 {x : Int} (h : I64 x) : (BitVec.ofInt 64 x).toInt = x := by rw [<- QhR, QnF h]
theorem Qjr (x y : Int) : I64 (QbD x y) := Qgd _
theorem QfF (x y : Int) : I64 (Qfo x y) := Qgd _
def tb (x : Int) (i : Nat) : Bool := (BitVec.ofInt 64 x).getLsbD i
theorem Qm6 (x y : Int) (i : Nat) : tb (QbD x y) i = (tb x i && tb y i) := by rw [tb, Qow, BitVec.getLsbD_and]; rfl
theorem Qgb (x y : Int) {i : Nat} : tb (Qfo x y) i = (tb x i && !tb y i) := by
 rw [tb, Qox, BitVec.getLsbD_and, BitVec.getLsbD_not]
 by_cases h : i < 64
 ·simp [h, tb]
 ·simp [tb, BitVec.getLsbD_of_ge _ i (by omega : 64 <= i)]
theorem QpA (x : Int) {i : Nat} (h : 64 <= i) : tb x i = false := BitVec.getLsbD_of_ge _ i h
theorem Qm7 {x y : Int} (hx : I64 x) (hy : I64 y) (h : ∀ i, tb x i = tb y i) : x = y := by
 rw [<- Qj2 hx, <- Qj2 hy]
 congr 1
 exact BitVec.eq_of_getLsbD_eq fun i _ => h i
theorem QhP (i : Nat) : tb 0 i = false := by
 show (BitVec.ofInt 64 0).getLsbD i = false
 rw [show BitVec.ofInt 64 0 = 0#64 from rfl, BitVec.getLsbD_zero]
theorem Qc6 {x : Int} (hx : I64 x) : x = 0 ↔ ∀ i, tb x i = false := by
 constructor
 ·rintro rfl i; exact QhP i
 ·intro h; exact Qm7 hx ⟨by omega, by omega⟩ fun i => by rw [h i, QhP]
theorem Qm8 (n : Nat) {i : Nat} (h : i < 64) : tb (n : Int) i = n.testBit i := by
 rw [tb, BitVec.ofInt_natCast, BitVec.getLsbD_ofNat]; simp [h]
theorem QoO {k : Nat} (hk : k < 64) (i : Nat) : tb ((2 : Int) ^ k) i = decide (i = k) := by
 have e : ((2 ^ k : Nat) : Int) = (2 : Int) ^ k := by simp
 by_cases h : i < 64
 ·rw [<- e, Qm8 _ h, Nat.testBit_two_pow]
  exact decide_eq_decide.2 eq_comm
 ·rw [QpA _ (by omega)]; exact (decide_eq_false (by omega)).symm
theorem Qdf (x m : Int) : IntKind.i64.wrap (x - QbD x m) = Qfo x m := by
 have h : BitVec.ofInt 64 (x - QbD x m) = BitVec.ofInt 64 x &&& ~~~ BitVec.ofInt 64 m := by
  rw [Int.sub_eq_add_neg, BitVec.ofInt_add, BitVec.ofInt_neg, <- BitVec.sub_eq_add_neg, Qow]
  generalize BitVec.ofInt 64 x = a
  generalize BitVec.ofInt 64 m = b
  have h1 : (a &&& ~~~b) + (a &&& b) = a := by
   rw [BitVec.add_eq_or_of_and_eq_zero]
   ·ext i hi; simp; cases a[i] <;> cases b[i] <;> rfl
   ·ext i hi; simp
    cases a[i] <;> cases b[i] <;> simp
  exact (BitVec.sub_eq_iff_eq_add).2 h1.symm
 have e : Qfo x m = (BitVec.ofInt 64 (Qfo x m)).toInt := (Qj2 (QfF x m)).symm
 rw [e, QhR, h, Qox]
theorem Qa5 {x m : Int} : QbD x m = 0 ↔ ∀ i, tb x i = true -> tb m i = false := by
 rw [Qc6 (Qjr x m)]
 refine forall_congr' fun i => ?_
 rw [Qm6]; cases tb x i <;> cases tb m i <;> simp
theorem QkC {x m : Int} : Qfo x m = 0 ↔ ∀ i, tb x i = true -> tb m i = true := by
 rw [Qc6 (QfF x m)]
 refine forall_congr' fun i => ?_
 rw [Qgb]; cases tb x i <;> cases tb m i <;> simp
theorem XF {x m : Int} (hx : I64 x) : QbD x m = x ↔ ∀ i, tb x i = true -> tb m i = true := by
 constructor
 ·intro h i hi
  have := congrArg (fun z => tb z i) h
  simp only [Qm6, hi, Bool.true_and] at this
  exact this
 ·intro h
  refine Qm7 (Qjr x m) hx fun i => ?_
  rw [Qm6]
  cases hx2 : tb x i
  ·rfl
  ·rw [h i hx2]; rfl
theorem QeL {x m : Int} (hx : I64 x) : Qfo x m = x ↔ ∀ i, tb x i = true -> tb m i = false := by
 constructor
 ·intro h i hi
  have := congrArg (fun z => tb z i) h
  simp only [Qgb, hi, Bool.true_and] at this
  simpa using this
 ·intro h
  refine Qm7 (QfF x m) hx fun i => ?_
  rw [Qgb]
  cases hx2 : tb x i
  ·rfl
  ·rw [h i hx2]; rfl
def Lo (x : Int) : Prop := 0 <= x /\ x < 131072
theorem Lo.i64 {x : Int} (h : Lo x) : I64 x := ⟨by have := h.1; omega, by have := h.2; omega⟩
theorem Lo.hi {x : Int} (h : Lo x) {i : Nat} (hi : 17 <= i) : tb x i = false := by
 obtain ⟨n, rfl⟩ := Int.eq_ofNat_of_zero_le h.1
 by_cases h6 : i < 64
 ·rw [Qm8 _ h6, Nat.testBit_lt_two_pow]
  have h1 : (2 : Nat) ^ 17 <= 2 ^ i := Nat.pow_le_pow_right (by omega) hi
  have h2 : (2 : Nat) ^ 17 = 131072 := by decide
  have := h.2
  omega
 ·exact QpA _ (by omega)
theorem Lo.of {x : Int} (hx : I64 x) (h : ∀ i, 17 <= i -> tb x i = false) : Lo x := by
 have hb : (BitVec.ofInt 64 x).toNat < 2 ^ 17 := by
  refine Nat.lt_pow_two_of_testBit _ fun i hi => ?_
  exact h i hi
 have h2 : (2 : Nat) ^ 17 = 131072 := by decide
 have e := Qj2 hx
 rw [BitVec.toInt_eq_toNat_of_lt (by omega)] at e
 exact ⟨by omega, by omega⟩
theorem Qp8 {x : Int} (h : Lo x) (m : Int) : Lo (Qfo x m) := Lo.of (QfF x m) fun i hi => by rw [Qgb, h.hi hi]; rfl
theorem Qpj (w : Qp) (u : Int) : Lo (Yx w u) := ⟨(Qcn w u).1, by have := (Qcn w u).2; omega⟩
theorem Qoj {x : Int} (hx : I64 x) (m : Int) : QaK x m = ZQ x m := by
 unfold ZQ QaK
 have : (Qal .andNot .i64 x m = 0) ↔ (Qal .and .i64 x m = x) := (QkC (x := x) (m := m)).trans (XF hx).symm
 by_cases h : Qal .andNot .i64 x m = 0
 ·rw [if_pos h, if_pos (this.1 h)]
 ·rw [if_neg h, if_neg (fun e => h (this.2 e))]
theorem XW {x : Int} {k : Nat} (hk : k < 64) : QbD x (2 ^ k) = 0 ↔ tb x k = false := by
 rw [Qa5]
 constructor
 ·intro h
  cases hx : tb x k
  ·rfl
  ·have := h k hx; rw [QoO hk] at this; simp at this
 ·intro h i hi
  rw [QoO hk]
  by_cases e : i = k
  ·subst e; rw [h] at hi; cases hi
  ·exact decide_eq_false e
theorem Qfv {x y : Int} (h : ∀ i, tb x i = true -> tb y i = true) : ∀ n, n <= 64 -> (YR x n).length <= (YR y n).length
 | 0, _ => Nat.le_refl _
 | n + 1, hn => by
  have := Qfv h n (by omega)
  rw [YR, YR, List.length_append, List.length_append]
  by_cases hx : tb x n = true
  ·rw [if_neg (by rw [XW (by omega), hx]; simp), if_neg (by rw [XW (by omega), h n hx]; simp)]
   simp only [List.length_singleton]; omega
  ·rw [if_pos (by rw [XW (by omega)]; simpa using hx)]
   simp only [List.length_nil]; omega
theorem Qih {x y : Int} (h : ∀ i, tb x i = true -> tb y i = true) {k : Nat} (h1 : tb x k = false) (h2 : tb y k = true) : ∀ n, n <= 64 -> k < n -> (YR x n).length < (YR y n).length
 | 0, _, hk => by omega
 | n + 1, hn, hk => by
  rw [YR, YR, List.length_append, List.length_append]
  by_cases e : k = n
  ·subst e
   have := Qfv h k (by omega)
   rw [if_pos ((XW (by omega)).2 h1), if_neg (by rw [XW (by omega), h2]; simp)]
   simp only [List.length_nil, List.length_singleton]; omega
  ·have := Qih h h1 h2 n (by omega) (by omega)
   by_cases hx : tb x n = true
   ·rw [if_neg (by rw [XW (by omega), hx]; simp), if_neg (by rw [XW (by omega), h n hx]; simp)]
    simp only [List.length_singleton]; omega
   ·rw [if_pos (by rw [XW (by omega)]; simpa using hx)]
    simp only [List.length_nil]; omega
theorem QlT {x m : Int} (hx : Lo x) (h : QbD x m ≠ 0) : (XJ (Qfo x m)).length < (XJ x).length := by
 have : ∃ k, tb x k = true /\ tb m k = true := by
  refine Classical.byContradiction fun hn => h (Qa5.2 fun i hi => ?_)
  cases hm : tb m i
  ·rfl
  ·exact absurd ⟨i, hi, hm⟩ hn
 obtain ⟨k, h1, h2⟩ := this
 have hk : k < 17 := Classical.byContradiction fun hk => by rw [hx.hi (by omega)] at h1; cases h1
 exact Qih (fun i hi => by rw [Qgb] at hi; simp at hi; exact hi.1) (k := k) (by rw [Qgb, h1, h2]; rfl) h1 17 (by omega) hk
end M25
namespace M25
open Go Go.Abs M3
/-! ### Trails: the loops' laws -/
theorem Qag (w : Qp) (l : List StepT) (s : StepT) (u : Int) : Zg w (l ++ [s]) u = if s.u = u /\ inW w u = true then s.m else Zg w l u := by
 rw [Zg, List.foldl_append]; rfl
theorem Qd4 {α : Type} {l : List α} {i k : Nat} (hk : k + 1 = i) (h : k < l.length) : l.take i = l.take k ++ [l[k]] := by
 subst hk; rw [List.take_succ_eq_append_getElem h]
theorem QnP {w : Qp} {l : List StepT} {u : Int} {i k : Nat} (hk : k + 1 = i) (h : k < l.length) (hu : l[k].u = u) (hw : inW w u = true) : Zg w (l.take i) u = l[k].m := by
 rw [Qd4 hk h, Qag, if_pos ⟨hu, hw⟩]
theorem QfM {w : Qp} {l : List StepT} {u : Int} {i k : Nat} (hk : k + 1 = i) (h : k < l.length) (hu : ¬ l[k].u = u \/ ¬ 0 <= u \/ ¬ u < w.length) : Zg w (l.take i) u = Zg w (l.take (i - 1)) u := by
 rw [Qd4 hk h, Qag, if_neg, show i - 1 = k by omega]
 rintro ⟨h1, h2⟩
 rw [QbV] at h2
 rcases hu with hu | hu | hu
 ·exact hu h1
 ·exact hu h2.1
 ·exact hu h2.2
theorem QdG {w : Qp} {l : List StepT} {u : Int} (h : inW w u = false) : Zg w l u = 0 := by
 have hf : Yx w u = 0 := QdJ (by
  refine Classical.byContradiction fun hn => ?_
  rw [QeJ (by omega) (by omega)] at h; cases h)
 suffices hs : ∀ a, l.foldl (fun a s => if s.u = u /\ inW w u = true then s.m else a) a = a by rw [Zg, hs, hf]
 induction l with
 | nil => intro a; rfl
 | cons s l ih => intro a; rw [List.foldl_cons, if_neg (by rw [h]; simp), ih]
def Qb6 (w : Qp) (l : List StepT) (u : Int) : Int := l.foldl (fun a s => if s.u = u then s.m else a) (Yx w u)
theorem QnO {w : Qp} {l : List StepT} {u : Int} (h : inW w u = true) : Qb6 w l u = Zg w l u := by
 unfold Qb6 Zg
 simp only [h, and_true]
theorem QgC (w : Qp) (l : List StepT) (s : StepT) (u : Int) : Qb6 w (l ++ [s]) u = if s.u = u then s.m else Qb6 w l u := by
 rw [Qb6, List.foldl_append]; rfl
theorem Qmg {w : Qp} {l : List StepT} {u : Int} {i k : Nat} (hk : k + 1 = i) (h : k < l.length) (hu : l[k].u = u) : Qb6 w (l.take i) u = l[k].m := by
 rw [Qd4 hk h, QgC, if_pos hu]
theorem Qlf {w : Qp} {l : List StepT} {u : Int} {i k : Nat} (hk : k + 1 = i) (h : k < l.length) (hu : ¬ l[k].u = u) : Qb6 w (l.take i) u = Qb6 w (l.take (i - 1)) u := by
 rw [Qd4 hk h, QgC, if_neg hu, show i - 1 = k by omega]
theorem Qdz {w : Qp} {u : Int} : Yx w u = 0 ↔ inW w u = false := by
 constructor
 ·intro h
  cases hw : inW w u
  ·rfl
  ·rw [QbV] at hw
   rw [Qe8 hw.1 hw.2] at h
   have h2 : 2 <= (2 : Int) ^ (min (w[u.toNat]'(by omega)).cs.length 16 + 1) := by
    rw [Int.pow_succ]
    have := Qpq (n := min (w[u.toNat]'(by omega)).cs.length 16) (by omega)
    omega
   omega
 ·intro h
  refine QdJ (Classical.byContradiction fun hn => ?_)
  rw [QeJ (by omega) (by omega)] at h; cases h
theorem Qiw {l : List StepT} (h : (l.length : Int) = 0) : Xq l = 0 := by
 have e : l = [] := List.eq_nil_of_length_eq_zero (by omega)
 subst e; rfl
theorem Qkn {l : List StepT} {k : Nat} (hk : k + 1 = l.length) : Xq l = (l[k]'(by omega)).l := by
 rw [Xq, List.getLast?_eq_getElem?, show l.length - 1 = k by omega, List.getElem?_eq_getElem (by omega)]
theorem QnZ : ∀ {l : List Int}, ¬ (l.length : Int) = 1 -> QnY l = -1
 | [], _ => rfl
 | [x], h => by simp at h
 | x :: y :: l, _ => rfl
theorem QmA : ∀ {l : List Int} (h : (l.length : Int) = 1), QnY l = l[(0 : Int).toNat]'(by simp; omega)
 | [], h => by simp at h
 | [x], _ => rfl
 | x :: y :: l, h => by simp at h; omega
theorem Qn4 {m : Int} (h : ¬ ((XJ m).length : Int) = 1) : Qda m = -1 := QnZ h
theorem QmF {m : Int} (h : ((XJ m).length : Int) = 1) : Qda m = (XJ m)[(0 : Int).toNat]'(by simp; omega) := QmA h
def Qpo (w : Qp) (l : List StepT) (i : Nat) : Bool := match l[i]? with
 | some s => Qdb w (l.take i) s
 | none => true
theorem QdQ {w : Qp} {l : List StepT} {i : Nat} (h : i < l.length) : Qpo w l i = Qdb w (l.take i) l[i] := by
 rw [Qpo, List.getElem?_eq_getElem h]
theorem Qkt (w : Qp) (l : List StepT) : QdM w l = (List.range l.length).all (Qpo w l) := rfl
theorem Xl {w : Qp} {l : List StepT} {s : StepT} (h : s.u < 0 \/ (w.length : Int) <= s.u \/ s.c < -1) : Qdb w l s = false := by
 unfold Qdb
 rcases h with h | h | h
 ·rw [Qbi (.inl h)]; rfl
 ·rw [Qbi (.inr h)]; rfl
 ·rw [decide_eq_false (show ¬ -1 <= s.c by omega)]; simp
theorem Z7 {w : Qp} {l : List StepT} {s : StepT} (h0 : 0 <= s.u) (h1 : s.u < w.length) (h2 : -1 <= s.c) : Qdb w l s = (decide (QbD s.m (Zg w l s.u) = s.m) &&
  if s.c = -1 then decide (0 <= Qda s.m) && !QdI l s.u && decide (s.l = IntKind.i64.wrap (Xq l + 1))
  else !decide (s.m = 0) && !decide (s.m = Zg w l s.u) && decide (s.l = Xq l)) := by
 rw [Qdb, QeJ h0 h1, decide_eq_true h2]; rfl
theorem Qcj {w : Qp} {l : List StepT} {t : TermT} {c : Int} (h : c < 0 \/ t.u < 0 \/ (w.length : Int) <= t.u) : Yj w l t c = none := by
 rw [Yj, if_pos]
 rcases h with h | h
 ·exact .inl h
 ·exact .inr (Qbi h)
theorem Qbc {w : Qp} {l : List StepT} {t : TermT} {c : Int} (h : IntKind.i64.wrap (Zg w l t.u - QbD (Zg w l t.u) t.m) = 0 \/ IntKind.i64.wrap (Zg w l t.u - QbD (Zg w l t.u) t.m) = Zg w l t.u) : Yj w l t c = none := by
 rw [Yj]
 split
 ·rfl
 ·first | rfl | rw [if_pos h]
theorem Qgu {w : Qp} {l : List StepT} {t : TermT} {c : Int} (h0 : ¬ c < 0) (h1 : inW w t.u = true) (h2 : ¬ IntKind.i64.wrap (Zg w l t.u - QbD (Zg w l t.u) t.m) = 0) (h3 : ¬ IntKind.i64.wrap (Zg w l t.u - QbD (Zg w l t.u) t.m) = Zg w l t.u) :
  Yj w l t c = some (l ++ [⟨t.u, IntKind.i64.wrap (Zg w l t.u - QbD (Zg w l t.u) t.m), Xq l, c⟩]) := by
 rw [Yj, if_neg (by rw [h1]; simp [h0]), if_neg (by simp [h2, h3])]
theorem Qgt (w : Qp) (l : List StepT) (t : TermT) (c : Int) : ((Yj w l t c).getD []).length <= l.length + 1 := by
 unfold Yj
 split
 ·simp
 ·split <;> simp
def Y1 (w : Qp) (l : List StepT) : Prop := ∀ s ∈ l, Lo s.m
theorem QaI {w : Qp} {l : List StepT} (h : Y1 w l) (u : Int) : Lo (Zg w l u) := by
 suffices hs : ∀ (l : List StepT) a, (∀ s ∈ l, Lo s.m) -> Lo a -> Lo (l.foldl (fun a s => if s.u = u /\ inW w u = true then s.m else a) a) from hs l _ h (Qpj w u)
 intro l
 induction l with
 | nil => intro a _ h; exact h
 | cons s l ih =>
  intro a hl ha
  rw [List.foldl_cons]
  refine ih _ (fun t ht => hl t (by simp [ht])) ?_
  split
  ·exact hl s (by simp)
  ·exact ha
theorem QlO {w : Qp} {l : List StepT} {t : TermT} {c : Int} (hl : Y1 w l) (h : QbD (Zg w l t.u) t.m = 0) : Yj w l t c = none :=
 Qbc (.inr (by rw [Qdf, QeL (QaI hl _).i64, <- Qa5]; exact h))
theorem QlP {w : Qp} {l : List StepT} {t : TermT} {c : Int} (h : Qfo (Zg w l t.u) t.m = 0) : Yj w l t c = none :=
 Qbc (.inl (by rw [Qdf]; exact h))
theorem Qif {w : Qp} {l : List StepT} {t : TermT} {c : Int} (hl : Y1 w l) (h0 : ¬ c < 0) (h1 : ¬ QbD (Zg w l t.u) t.m = 0) (h2 : ¬ Qfo (Zg w l t.u) t.m = 0) : Yj w l t c = some (l ++ [⟨t.u, Qfo (Zg w l t.u) t.m, Xq l, c⟩]) := by
 have hin : inW w t.u = true := by
  cases hw : inW w t.u
  ·rw [QdG hw] at h1
   exact absurd (Qa5.2 fun i hi => by rw [QhP] at hi; cases hi) h1
  ·rfl
 rw [Qgu h0 hin (by rw [Qdf]; exact h2) (by rw [Qdf, QeL (QaI hl _).i64, <- Qa5]; exact h1), Qdf]
theorem Qeh {w : Qp} {l : List StepT} {u p : Int} (h : (u < 0 \/ (w.length : Int) <= u) \/ p < 0) : Xh w l u p = none := by
 unfold Xh
 split
 ·rfl
 ·rename_i x hx
  rcases h with h | h
  ·rw [QjQ h] at hx; cases hx
  ·rw [if_pos (.inl h)]
theorem Qk2 {w : Qp} {l : List StepT} {u p : Int} (h0 : 0 <= u) (h1 : u < w.length) (h : ((w[u.toNat]'(by omega)).cs.length : Int) <= p) : Xh w l u p = none := by
 rw [Xh, QkR h0 h1]
 simp only []
 rw [if_pos (.inr h)]
def Qpe (l : List StepT) (u p : Int) : StepT := ⟨u, IntKind.i64.wrap (2 * 2 ^ min p.toNat 64), IntKind.i64.wrap (Xq l + 1), -1⟩
theorem QlN {w : Qp} {l : List StepT} {u p : Int} (h : Qdb w l (Qpe l u p) = false) : Xh w l u p = none := by
 unfold Xh
 split
 ·rfl
 ·split
  ·rfl
  ·simp only [Qpe] at h
   rw [if_neg (by rw [h]; simp)]
theorem Qk5 {w : Qp} {l : List StepT} {u p : Int} (h0 : 0 <= u) (h1 : u < w.length) (h2 : ¬ p < 0) (h3 : ¬ ((w[u.toNat]'(by omega)).cs.length : Int) <= p) (h : Qdb w l (Qpe l u p) = true) : Xh w l u p = some (l ++ [Qpe l u p]) := by
 rw [Xh, QkR h0 h1]
 simp only []
 rw [if_neg (by omega)]
 simp only [Qpe] at h ⊢
 rw [if_pos h]
theorem Qbp {h : Int -> Int} {inc : List TermT} {a : Int} {i : Nat} (hi : i < inc.length) : ZN h (inc.drop i) a = if ZQ (h inc[i].u) inc[i].m = 0 then -1 else if ZQ (h inc[i].u) inc[i].m = 1 then (if 0 <= a then -1 else ZN h (inc.drop (i + 1)) inc[i].u) else ZN h (inc.drop (i + 1)) a := by
 rw [List.drop_eq_getElem_cons hi, ZN]
theorem QiJ {h : Int -> Int} {inc : List TermT} {a : Int} {i : Nat} (hi : inc.length <= i) : ZN h (inc.drop i) a = a := by
 rw [List.drop_eq_nil_of_le hi, ZN]
theorem QjK {w : Qp} {l : List StepT} {db : List (List TermT)} {i : Nat} (hi : i < db.length) : YG w l i (db.drop i) = if QfV w l db[i] = true then ((i : Int), -1) else if 0 <= QeU w l db[i] then ((i : Int), QeU w l db[i]) else YG w l (i + 1) (db.drop (i + 1)) := by
 rw [List.drop_eq_getElem_cons hi, YG]
theorem Qoc {w : Qp} {l : List StepT} {db : List (List TermT)} {i : Nat} (hi : db.length <= i) : YG w l i (db.drop i) = (-1, -1) := by
 rw [List.drop_eq_nil_of_le hi, YG]
theorem Qfe (w : Qp) (l : List StepT) : ∀ (db : List (List TermT)) (i : Nat), (YG w l i db = (-1, -1)) \/ ∃ k, i <= k /\ ∃ hk : k - i < db.length, (YG w l i db = ((k : Int), -1) /\ QfV w l db[k - i] = true) \/ (QfV w l db[k - i] = false /\ 0 <= QeU w l db[k - i] /\ YG w l i db = ((k : Int), QeU w l db[k - i]))
 | [], i => .inl rfl
 | x :: db, i => by
  rw [YG]
  by_cases h1 : QfV w l x = true
  ·rw [if_pos h1]; exact .inr ⟨i, Nat.le_refl _, by simp, .inl ⟨rfl, by simpa using h1⟩⟩
  ·rw [if_neg h1]
   by_cases h2 : 0 <= QeU w l x
   ·rw [if_pos h2]; exact .inr ⟨i, Nat.le_refl _, by simp, .inr ⟨by simpa using h1, by simpa using h2, by simp⟩⟩
   ·rw [if_neg h2]
    rcases Qfe w l db (i + 1) with h | ⟨k, hk, hlt, h⟩
    ·exact .inl h
    ·refine .inr ⟨k, by omega, by simp only [List.length_cons]; omega, ?_⟩
     have e : (x :: db)[k - i]'(by simp only [List.length_cons]; omega) = db[k - (i + 1)] := by
      obtain ⟨j, hj⟩ : ∃ j, k - i = j + 1 := ⟨k - i - 1, by omega⟩
      simp only [hj, List.getElem_cons_succ]
      congr 1; omega
     rw [e]; exact h
theorem QiS {w : Qp} {l : List StepT} {db : List (List TermT)} (h : ¬ (Zx w db l).2 < 0) : 0 <= (Zx w db l).1 /\ (Zx w db l).1 < db.length := by
 unfold Zx at h ⊢
 rcases Qfe w l db 0 with e | ⟨k, _, hk, ⟨e, _⟩ | ⟨_, _, e⟩⟩
 ·rw [e] at h; simp at h
 ·rw [e] at h; simp at h
 ·rw [e]; simp only; omega
theorem Qa2 {w : Qp} {db : List (List TermT)} {n : Nat} {out : List StepT} (h : (Zx w db out).2 < 0) (hn : 0 < n) : Qbr w db n out = (out, (Zx w db out).1) := by
 obtain ⟨m, rfl⟩ : ∃ m, n = m + 1 := ⟨n - 1, by omega⟩
 rw [Qbr, if_pos h]
theorem QkK {w : Qp} {db : List (List TermT)} {n : Nat} {out : List StepT} (h : ¬ (Zx w db out).2 < 0) (hn : 0 < n) (hd : (Zx w db out).1.toNat < db.length) : Qbr w db n out = Qbr w db (n - 1) ((Yj w out ⟨(Zx w db out).2, Qc9 w db[(Zx w db out).1.toNat] (Zx w db out).2⟩ (Zx w db out).1).getD []) := by
 obtain ⟨m, rfl⟩ : ∃ m, n = m + 1 := ⟨n - 1, by omega⟩
 rw [Qbr, if_neg h, List.getD_eq_getElem?_getD, List.getElem?_eq_getElem hd]; rfl
end M25
namespace Go.Proofs
open Go Go.Abs M3 M25
set_option linter.unusedVariables false
set_option linter.unusedSimpArgs false
theorem ZX {w : Qp} (hw : WSm w) {l : List StepT} (hl : l.length <= 10000000) {u : Int} : Ok Tryz.prog 26 [ZY w, Zu l, .int .i64 u] (.int .i64 (Zg w l u)) := by
 refine Ok.ofT ZT Tryz.func26 Qrx (Nat.le_of_ble_eq_true rfl) ?_
 show TW _ _ tf26.body _ _
 refine Qf fun K hK => Zv rfl rfl rfl (Qa rfl ?_)
 refine hK _ _ (Qb (kp3 rfl rfl rfl) ?_)
 refine QB ?_ -- 0
 refine Qf fun K hK => Qa rfl ?_
 first | refine QO rfl QR ?_ | refine QO rfl rfl ?_
 refine QaE rfl rfl (by first | exact Qq (by omega) (by omega) | rfl) (Qa rfl ?_)
 refine hK _ _ (Qb (kp4 rfl rfl rfl rfl) ?_)
 refine Qz ?_
 refine Zi (ι := Nat) (fun i => ⟨[(1, Zu l), (2, .int .i64 u), (3, .ref 3 0 0), (7, .int .i64 ((i : Int) - 1))], [(3, ⟨[[.sl ((w).map Ym)]], 1, 26, true⟩)]⟩) (fun i => i <= l.length /\ Zg w l u = Zg w (l.take i) u) (fun i => i) l.length ?_ ?_ ?_
 ·exact Q4 (l := [1, 2, 3, 7]) (lH := [3]) (kp4 rfl rfl rfl rfl) (Qe rfl Ql) rfl rfl rfl
 ·exact ⟨Nat.le_refl _, by rw [List.take_length]⟩
 intro i hI
 try dsimp only
 refine QB ?_ -- 1
 refine Qf fun K hK => Qa rfl (QeX rfl rfl ?_)
 refine hK _ _ (Qb (kp5 rfl rfl rfl rfl rfl) ?_)
 refine Qw rfl (fun h1 => ?_) (fun h1 => ?_)
 ·try rw [h1]
  try simp only [qa, qb, qc, qd, qe, List.length_map] at h1
  refine Qv (Qd (kp4 rfl rfl rfl rfl) ?_)
  refine QB ?_ -- 2
  refine Qz (Qf fun K hK => Qa rfl (Qa rfl (QJ rfl rfl rfl (by omega) (ZB (by omega) (by omega)) rfl (Q7 rfl rfl (QA rfl rfl rfl (Qa rfl (ZI rfl rfl (Qa rfl ?_))))))))
  refine QE (g := 22) rfl (fun h2 => ?_) (fun h2 => ?_)
  ·try rw [h2]
   try simp only [qa, qb, qc, qd, qe, List.length_map] at h2
   refine Qk rfl (Qa rfl (Qk rfl (QeX rfl rfl (Qo rfl rfl (Qa rfl ?_)))))
   refine QE (g := 26) rfl (fun h3 => ?_) (fun h3 => ?_)
   ·try rw [h3]
    try simp only [qa, qb, qc, qd, qe, List.length_map] at h3
    refine Qk rfl (Qa rfl (Qk rfl (Qh rfl rfl (Qk rfl (QA rfl rfl rfl (Qk rfl ?_))))))
    first | refine QO rfl QR ?_ | refine QO rfl rfl ?_
    refine Qk rfl (Z3 rfl rfl (Qo rfl rfl ?_))
    refine hK _ _ (Qb (kp5 rfl rfl rfl rfl rfl) ?_)
    refine Qw rfl (fun h4 => ?_) (fun h4 => ?_)
    ·try rw [h4]
     try simp only [qa, qb, qc, qd, qe, List.length_map] at h4
     refine Qf fun K hK => Qa rfl (Qa rfl (QJ rfl rfl rfl (by omega) (ZB (by omega) (by omega)) rfl (Q7 rfl rfl (QA rfl rfl rfl (Qa rfl ?_)))))
     refine hK _ _ (Qb (kp1 rfl) ?_)
     refine Qu (Qr (Qj (Q0 (Qr (Qj (QG rfl ?_))))))
     rw [hI.2, QnP (k := ((i : Int) - 1).toNat) (by omega) (by omega) h2 (QeJ (by omega) (by omega))]
    ·try rw [h4]
     try simp only [qa, qb, qc, qd, qe, List.length_map] at h4
     refine Qv (Qg (Qd (kp4 rfl rfl rfl rfl) (QL fun K hK => Qa rfl (QaE rfl rfl (by first | exact Qq (by omega) (by omega) | rfl) (Qa rfl (hK _ ?_))))))
     refine Qi (i - 1) ?_ ?_ ?_
     ·exact Q4 (l := [1, 2, 3, 7]) (lH := [3]) (kp4 rfl rfl rfl rfl) (Qe rfl Ql) (by simp only [List.cons.injEq, Prod.mk.injEq, D.int.injEq, and_true, true_and]; omega) rfl rfl
     ·exact ⟨by omega, by rw [hI.2, QfM (k := ((i : Int) - 1).toNat) (by omega) (by omega) (by first | exact .inl h2 | exact .inr (.inl h3) | exact .inr (.inr h4))]⟩
     ·first | omega | (simp only; omega) | (dsimp only; omega)
   ·try rw [h3]
    try simp only [qa, qb, qc, qd, qe, List.length_map] at h3
    refine Qt rfl (Qt rfl (Qt rfl (Qt rfl (Qt rfl (Qo rfl rfl ?_)))))
    refine hK _ _ (Qb (kp5 rfl rfl rfl rfl rfl) ?_)
    refine ZJ rfl (Qv (Qg (Qd (kp4 rfl rfl rfl rfl) (QL fun K hK => Qa rfl (QaE rfl rfl (by first | exact Qq (by omega) (by omega) | rfl) (Qa rfl (hK _ ?_)))))))
    refine Qi (i - 1) ?_ ?_ ?_
    ·exact Q4 (l := [1, 2, 3, 7]) (lH := [3]) (kp4 rfl rfl rfl rfl) (Qe rfl Ql) (by simp only [List.cons.injEq, Prod.mk.injEq, D.int.injEq, and_true, true_and]; omega) rfl rfl
    ·exact ⟨by omega, by rw [hI.2, QfM (k := ((i : Int) - 1).toNat) (by omega) (by omega) (by first | exact .inl h2 | exact .inr (.inl h3) | exact .inr (.inr h4))]⟩
    ·first | omega | (simp only; omega) | (dsimp only; omega)
  ·try rw [h2]
   try simp only [qa, qb, qc, qd, qe, List.length_map] at h2
   refine Qt rfl (Qt rfl (Qo rfl rfl (Qa rfl (Qt rfl (Qt rfl (Qt rfl (Qt rfl (Qt rfl (Qo rfl rfl ?_)))))))))
   refine hK _ _ (Qb (kp5 rfl rfl rfl rfl rfl) ?_)
   refine ZJ rfl (Qv (Qg (Qd (kp4 rfl rfl rfl rfl) (QL fun K hK => Qa rfl (QaE rfl rfl (by first | exact Qq (by omega) (by omega) | rfl) (Qa rfl (hK _ ?_)))))))
   refine Qi (i - 1) ?_ ?_ ?_
   ·exact Q4 (l := [1, 2, 3, 7]) (lH := [3]) (kp4 rfl rfl rfl rfl) (Qe rfl Ql) (by simp only [List.cons.injEq, Prod.mk.injEq, D.int.injEq, and_true, true_and]; omega) rfl rfl
   ·exact ⟨by omega, by rw [hI.2, QfM (k := ((i : Int) - 1).toNat) (by omega) (by omega) (by first | exact .inl h2 | exact .inr (.inl h3) | exact .inr (.inr h4))]⟩
   ·first | omega | (simp only; omega) | (dsimp only; omega)
 ·try rw [h1]
  try simp only [qa, qb, qc, qd, qe, List.length_map] at h1
  refine Zf (QK (Qx (QD (Qd (kp2 rfl rfl) (Qf fun K hK => QH (cs := [_]) rfl rfl rfl rfl (Qa rfl (QI (Zz hw) rfl rfl (.inr rfl) (Qa rfl ?_))))))))
  refine hK _ _ (Qb (kp1 rfl) ?_)
  refine Qu (QG rfl ?_)
  rw [hI.2, show i = 0 by omega]; rfl
theorem Yb {l : List StepT} (hl : l.length <= 10000000) : Ok Tryz.prog 25 [Zu l] (.int .i64 (Xq l)) := by
 refine Ok.ofT ZT Tryz.func25 Qrw (Nat.le_of_ble_eq_true rfl) ?_
 show TW _ _ tf25.body _ _
 refine Qf fun K hK => Qa rfl ?_
 refine hK _ _ (Qb (kp1 rfl) ?_)
 refine QB ?_ -- 0
 refine Qf fun K hK => Qa rfl ?_
 first | refine QO rfl QR ?_ | refine QO rfl rfl ?_
 refine ZI rfl rfl ?_
 refine hK _ _ (Qb (kp2 rfl rfl) ?_)
 refine Qw rfl (fun h1 => ?_) (fun h1 => ?_)
 ·try rw [h1]
  try simp only [qa, qb, qc, qd, qe, List.length_map] at h1
  refine Qf fun K hK => Qa rfl ?_
  refine hK _ _ (Qb (kp1 rfl) ?_)
  refine Qu (Qj (QG rfl ?_))
  rw [Qiw h1]
 ·try rw [h1]
  try simp only [qa, qb, qc, qd, qe, List.length_map] at h1
  refine Qv (Qd (kp1 rfl) (Qf fun K hK => Qa rfl (Qa rfl ?_)))
  first | refine QO rfl QR ?_ | refine QO rfl rfl ?_
  refine QaE rfl rfl (by first | exact Qq (by omega) (by omega) | rfl) (QJ rfl rfl rfl (by omega) (ZB (by omega) (by omega)) rfl (Q7 rfl rfl (QA rfl rfl rfl (Qa rfl ?_))))
  refine hK _ _ (Qb (kp1 rfl) ?_)
  refine Qu (QG rfl ?_)
  rw [Qkn (k := ((l.length : Int) - 1).toNat) (by omega)]
theorem Qa8 {l : List StepT} (hl : l.length <= 10000000) {u : Int} : Ok Tryz.prog 69 [Zu l, .int .i64 u] (.bool (QdI l u)) := by
 refine Ok.ofT ZT Tryz.func69 Qsb (Nat.le_of_ble_eq_true rfl) ?_
 show TW _ _ tf69.body _ _
 refine Qf fun K hK => Qa rfl ?_
 refine hK _ _ (Qb (kp2 rfl rfl) ?_)
 refine QB ?_ -- 0
 refine Qf fun K hK => Qa rfl ?_
 refine hK _ _ (Qb (kp3 rfl rfl rfl) ?_)
 refine Qz ?_
 refine Zi (ι := Nat) (fun i => ⟨[(0, Zu l), (1, .int .i64 u), (5, .int .i64 i)], []⟩) (fun i => i <= l.length /\ (l.take i).any (fun s => decide (s.u = u) && decide (s.c = -1)) = false) (fun i => l.length - i) 0 ?_ ?_ ?_
 ·exact Zb (kp3 rfl rfl rfl)
 ·exact ⟨Nat.zero_le _, by simp⟩
 intro i hI
 try dsimp only
 refine QB ?_ -- 1
 refine Qf fun K hK => Qa rfl (Qa rfl ?_)
 first | refine QO rfl QR ?_ | refine QO rfl rfl ?_
 refine Z3 rfl rfl ?_
 refine hK _ _ (Qb (kp4 rfl rfl rfl rfl) ?_)
 refine Qw rfl (fun h1 => ?_) (fun h1 => ?_)
 ·try rw [h1]
  try simp only [qa, qb, qc, qd, qe, List.length_map] at h1
  refine Qv (Qd (kp3 rfl rfl rfl) ?_)
  refine QB ?_ -- 2
  refine Qz (Qf fun K hK => Qa rfl (Qa rfl (QJ rfl rfl rfl (by omega) (QT (by omega)) rfl (Q7 rfl rfl (QA rfl rfl rfl (Qa rfl (ZI rfl rfl (Qa rfl ?_))))))))
  refine QE (g := 19) rfl (fun h2 => ?_) (fun h2 => ?_)
  ·try rw [h2]
   try simp only [qa, qb, qc, qd, qe, List.length_map] at h2
   refine Qk rfl (Qa rfl (Qk rfl (Qa rfl (Qk rfl (QJ rfl rfl rfl (by omega) (QT (by omega)) rfl (Qk rfl (Q7 rfl rfl (Qk rfl (QA rfl rfl rfl (Qk rfl (ZI rfl rfl ?_)))))))))))
   refine Qo rfl rfl ?_
   refine hK _ _ (Qb (kp4 rfl rfl rfl rfl) ?_)
   refine Qw rfl (fun h3 => ?_) (fun h3 => ?_)
   ·try rw [h3]
    try simp only [qa, qb, qc, qd, qe, List.length_map] at h3
    refine Qf fun K hK => Qa rfl ?_
    refine hK _ _ (Qb (kp1 rfl) ?_)
    refine Qu (Qr (Qj (Q0 (Qr (Qj (Qs rfl ?_))))))
    rw [QdI, Qjd (i := i) (by omega) (by simp [h2, h3])]
   ·try rw [h3]
    try simp only [qa, qb, qc, qd, qe, List.length_map] at h3
    refine Qv (Qg (Qd (kp3 rfl rfl rfl) (QL fun K hK => Qa rfl (Q1 rfl rfl (by first | exact Qq (by omega) (by omega) | rfl) (Qa rfl (hK _ ?_))))))
    refine Qi (i + 1) ?_ ?_ ?_
    ·exact Zb (kp3 rfl rfl rfl)
    ·exact ⟨by omega, Qh1 (by omega) hI.2 (by first | (simp [h2, h3]; done) | (simp [h2]; done))⟩
    ·first | omega | (simp only; omega) | (dsimp only; omega)
  ·try rw [h2]
   try simp only [qa, qb, qc, qd, qe, List.length_map] at h2
   refine Qt rfl (Qt rfl (Qt rfl (Qt rfl (Qt rfl (Qt rfl (Qo rfl rfl ?_))))))
   refine hK _ _ (Qb (kp4 rfl rfl rfl rfl) ?_)
   refine ZJ rfl (Qv (Qg (Qd (kp3 rfl rfl rfl) (QL fun K hK => Qa rfl (Q1 rfl rfl (by first | exact Qq (by omega) (by omega) | rfl) (Qa rfl (hK _ ?_)))))))
   refine Qi (i + 1) ?_ ?_ ?_
   ·exact Zb (kp3 rfl rfl rfl)
   ·exact ⟨by omega, Qh1 (by omega) hI.2 (by first | (simp [h2, h3]; done) | (simp [h2]; done))⟩
   ·first | omega | (simp only; omega) | (dsimp only; omega)
 ·try rw [h1]
  try simp only [qa, qb, qc, qd, qe, List.length_map] at h1
  refine Zf (QK (Qx (QD (Qd (Q5) (Qf fun K hK => Qa rfl ?_)))))
  refine hK _ _ (Qb (kp1 rfl) ?_)
  refine Qu (Qs rfl ?_)
  rw [QdI, QlE (i := i) (by omega) hI.2]
theorem QbP {m : Int} : Ok Tryz.prog 68 [.int .i64 m] (.int .i64 (Qda m)) := by
 refine Ok.ofT ZT Tryz.func68 Qsa (Nat.le_of_ble_eq_true rfl) ?_
 show TW _ _ tf68.body _ _
 refine Qf fun K hK => Qa rfl ?_
 refine hK _ _ (Qb (kp1 rfl) ?_)
 refine Qf fun K hK => Qa rfl (QI (XN) rfl rfl (.inl rfl) (Qa rfl ?_))
 refine hK _ _ (Qb (kp1 rfl) ?_)
 refine QB ?_ -- 0
 refine Qf fun K hK => Qa rfl ?_
 first | refine QO rfl QR ?_ | refine QO rfl rfl ?_
 refine X8 rfl rfl ?_
 refine hK _ _ (Qb (kp2 rfl rfl) ?_)
 refine Qw rfl (fun h1 => ?_) (fun h1 => ?_)
 ·try rw [h1]
  try simp only [qa, qb, qc, qd, qe, List.length_map] at h1
  refine Qf fun K hK => Qa rfl ?_
  refine hK _ _ (Qb (kp1 rfl) ?_)
  refine Qu (Qj (QG rfl ?_))
  rw [Qn4 h1]
 ·try rw [h1]
  try simp only [qa, qb, qc, qd, qe, List.length_map] at h1
  refine Qv (Qd (kp1 rfl) (Qf fun K hK => Qa rfl (QJ rfl rfl rfl (by omega) (ZB (by omega) (by omega)) rfl (QA rfl rfl rfl (Qa rfl ?_)))))
  refine hK _ _ (Qb (kp1 rfl) ?_)
  refine Qu (QG rfl ?_)
  rw [QmF h1]
theorem QcL {w : Qp} (hw : WSm w) {l : List StepT} (hl : l.length <= 10000000) {s : StepT} : Ok Tryz.prog 47 [ZY w, Zu l, .agg (Qfu s)] (.bool (Qdb w l s)) := by
 refine Ok.ofT ZT Tryz.func47 QrR (Nat.le_of_ble_eq_true rfl) ?_
 show TW _ _ tf47.body _ _
 refine Qf fun K hK => Zv rfl rfl rfl (Zv rfl rfl rfl (Qa rfl ?_))
 refine hK _ _ (Qb (kp3 rfl rfl rfl) ?_)
 refine QB ?_ -- 0
 refine Qf fun K hK => Qh rfl rfl (QA rfl rfl rfl (Z3 rfl rfl (Qa rfl ?_)))
 refine QE (g := 11) rfl (fun h1 => ?_) (fun h1 => ?_)
 ·try rw [h1]
  try simp only [qa, qb, qc, qd, qe, List.length_map] at h1
  refine Qt rfl (Qt rfl (Qt rfl (Qt rfl (Qt rfl (Qt rfl (Qo rfl rfl (Qa rfl (Qt rfl (Qt rfl (Qt rfl (Qo rfl rfl ?_)))))))))))
  refine hK _ _ (Qb (kp4 rfl rfl rfl rfl) ?_)
  refine Zs rfl (Qf fun K hK => Qa rfl ?_)
  refine hK _ _ (Qb (kp1 rfl) ?_)
  refine Qu (Qj (Qs rfl ?_))
  first | (rw [Xl (by omega)]; done) | (rw [Z7 (by omega) (by omega) (by omega)]; simp_all; done) | (rw [Z7 (by omega) (by omega) (by omega)]; simp_all; omega)
 ·try rw [h1]
  try simp only [qa, qb, qc, qd, qe, List.length_map] at h1
  refine Qk rfl (Qh rfl rfl (Qk rfl (QA rfl rfl rfl (Qk rfl (Qh rfl rfl (Qk rfl (QA rfl rfl rfl (Qk rfl ?_))))))))
  first | refine QO rfl QR ?_ | refine QO rfl rfl ?_
  refine Qk rfl (QeX rfl rfl (Qo rfl rfl (Qa rfl ?_)))
  refine QE (g := 19) rfl (fun h2 => ?_) (fun h2 => ?_)
  ·try rw [h2]
   try simp only [qa, qb, qc, qd, qe, List.length_map] at h2
   refine Qt rfl (Qt rfl (Qt rfl (Qo rfl rfl ?_)))
   refine hK _ _ (Qb (kp4 rfl rfl rfl rfl) ?_)
   refine Zs rfl (Qf fun K hK => Qa rfl ?_)
   refine hK _ _ (Qb (kp1 rfl) ?_)
   refine Qu (Qj (Qs rfl ?_))
   first | (rw [Xl (by omega)]; done) | (rw [Z7 (by omega) (by omega) (by omega)]; simp_all; done) | (rw [Z7 (by omega) (by omega) (by omega)]; simp_all; omega)
  ·try rw [h2]
   try simp only [qa, qb, qc, qd, qe, List.length_map] at h2
   refine Qk rfl (Qh rfl rfl (Qk rfl (QA rfl rfl rfl (Qk rfl (Z3 rfl rfl (Qo rfl rfl ?_))))))
   refine hK _ _ (Qb (kp4 rfl rfl rfl rfl) ?_)
   refine Qw rfl (fun h3 => ?_) (fun h3 => ?_)
   ·try rw [h3]
    try simp only [qa, qb, qc, qd, qe, List.length_map] at h3
    refine Qf fun K hK => Qa rfl ?_
    refine hK _ _ (Qb (kp1 rfl) ?_)
    refine Qu (Qj (Qs rfl ?_))
    first | (rw [Xl (by omega)]; done) | (rw [Z7 (by omega) (by omega) (by omega)]; simp_all; done) | (rw [Z7 (by omega) (by omega) (by omega)]; simp_all; omega)
   ·try rw [h3]
    try simp only [qa, qb, qc, qd, qe, List.length_map] at h3
    refine Qv (Qd (kp3 rfl rfl rfl) (Qf fun K hK => QH (cs := [_]) rfl rfl rfl rfl (Qa rfl (Qh rfl rfl (QA rfl rfl rfl (QI (ZX hw hl) rfl rfl (.inr rfl) (Qa rfl ?_)))))))
    refine hK _ _ (Qb (kp3 rfl rfl rfl) ?_)
    refine QB ?_ -- 1
    refine Qf fun K hK => Qh rfl rfl (QA rfl rfl rfl (ZI rfl rfl ?_))
    refine hK _ _ (Qb (kp4 rfl rfl rfl rfl) ?_)
    refine Qw rfl (fun h4 => ?_) (fun h4 => ?_)
    ·try rw [h4]
     try simp only [qa, qb, qc, qd, qe, List.length_map] at h4
     refine Qf fun K hK => Qh rfl rfl (QU (ds0 := [26, 25, 24, 23, 22, 21, 20, 19, 18, 17, 16, 15, 14, 13, 12, 11, 10, 9, 8, 7, 6, 5, 4, 3, 2, 1, 0]) rfl rfl rfl rfl rfl (QX (ds0 := [25, 24, 23, 22, 21, 20, 19, 18, 17, 16, 15, 14, 13, 12, 11, 10, 9, 8, 7, 6, 5, 4, 3, 2, 1, 0]) (QbP) rfl rfl (.inr rfl) rfl rfl (QeX rfl rfl (Qa rfl ?_))))
     refine QE (g := 36) rfl (fun h5 => ?_) (fun h5 => ?_)
     ·try rw [h5]
      try simp only [qa, qb, qc, qd, qe, List.length_map] at h5
      refine Qk rfl (Qh rfl rfl (Qk rfl (QU (ds0 := [20, 17, 16, 15, 14, 13, 12, 11, 10, 9, 8, 7, 6, 5, 4, 3, 2, 1, 0]) rfl rfl rfl rfl rfl (Qk rfl (Qa rfl (Qk rfl (QeP rfl rfl (Qk rfl (Qh rfl rfl (Qk rfl (QU (ds0 := [17, 16, 15, 14, 13, 12, 11, 10, 9, 8, 7, 6, 5, 4, 3, 2, 1, 0]) rfl rfl rfl rfl rfl ?_)))))))))))
      refine Qk rfl (ZI rfl rfl (Qo rfl rfl (Qa rfl ?_)))
      refine QE (g := 45) rfl (fun h6 => ?_) (fun h6 => ?_)
      ·try rw [h6]
       try simp only [qa, qb, qc, qd, qe, List.length_map] at h6
       refine Qk rfl (Qa rfl (Qk rfl (Qh rfl rfl (Qk rfl (QU (ds0 := [11, 10, 9, 8, 7, 6, 5, 4, 3, 2, 1, 0]) rfl rfl rfl rfl rfl (Qk rfl (QX (ds0 := [10, 9, 8, 7, 6, 5, 4, 3, 2, 1, 0]) (Qa8 hl) rfl rfl (.inr rfl) rfl rfl (Qk rfl (Yk rfl (Qo rfl rfl (Qa rfl ?_)))))))))))
       refine QE (g := 52) rfl (fun h7 => ?_) (fun h7 => ?_)
       ·try rw [h7]
        try simp only [qa, qb, qc, qd, qe, List.length_map] at h7
        refine Qk rfl (Qh rfl rfl (Qk rfl (QU (ds0 := [2, 1, 0]) rfl rfl rfl rfl rfl (Qk rfl (Qa rfl (Qk rfl (QX (ds0 := [3, 2, 1, 0]) (Yb hl) rfl rfl (.inr rfl) rfl rfl (Qk rfl (Q1 rfl rfl rfl (Qk rfl (ZI rfl rfl ?_)))))))))))
        refine Qo rfl rfl (Qa rfl ?_)
        refine hK _ _ (Qb (kp1 rfl) ?_)
        refine Qu (Qj (Qs rfl ?_))
        first | (rw [Xl (by omega)]; done) | (rw [Z7 (by omega) (by omega) (by omega)]; simp_all; done) | (rw [Z7 (by omega) (by omega) (by omega)]; simp_all; omega)
       ·try rw [h7]
        try simp only [qa, qb, qc, qd, qe, List.length_map] at h7
        refine Qt rfl (Qt rfl (Qt rfl (Qt rfl (Qt rfl (Qt rfl (Qo rfl rfl (Qa rfl ?_)))))))
        refine hK _ _ (Qb (kp1 rfl) ?_)
        refine Qu (Qj (Qs rfl ?_))
        first | (rw [Xl (by omega)]; done) | (rw [Z7 (by omega) (by omega) (by omega)]; simp_all; done) | (rw [Z7 (by omega) (by omega) (by omega)]; simp_all; omega)
      ·try rw [h6]
       try simp only [qa, qb, qc, qd, qe, List.length_map] at h6
       refine Qt rfl (Qt rfl (Qt rfl (Qt rfl (Qt rfl (Qo rfl rfl (Qa rfl (Qt rfl (Qt rfl (Qt rfl (Qt rfl (Qt rfl ?_)))))))))))
       refine Qt rfl (Qo rfl rfl (Qa rfl ?_))
       refine hK _ _ (Qb (kp1 rfl) ?_)
       refine Qu (Qj (Qs rfl ?_))
       first | (rw [Xl (by omega)]; done) | (rw [Z7 (by omega) (by omega) (by omega)]; simp_all; done) | (rw [Z7 (by omega) (by omega) (by omega)]; simp_all; omega)
     ·try rw [h5]
      try simp only [qa, qb, qc, qd, qe, List.length_map] at h5
      refine Qt rfl (Qt rfl (Qt rfl (Qt rfl (Qt rfl (Qt rfl (Qt rfl (Qo rfl rfl (Qa rfl (Qt rfl (Qt rfl (Qt rfl ?_)))))))))))
      refine Qt rfl (Qt rfl (Qo rfl rfl (Qa rfl (Qt rfl (Qt rfl (Qt rfl (Qt rfl (Qt rfl (Qt rfl (Qo rfl rfl (Qa rfl ?_)))))))))))
      refine hK _ _ (Qb (kp1 rfl) ?_)
      refine Qu (Qj (Qs rfl ?_))
      first | (rw [Xl (by omega)]; done) | (rw [Z7 (by omega) (by omega) (by omega)]; simp_all; done) | (rw [Z7 (by omega) (by omega) (by omega)]; simp_all; omega)
    ·try rw [h4]
     try simp only [qa, qb, qc, qd, qe, List.length_map] at h4
     refine Qv (Qd (kp3 rfl rfl rfl) (Qf fun K hK => Qh rfl rfl (QU (ds0 := [23, 22, 21, 20, 19, 18, 17, 16, 15, 14, 13, 12, 11, 10, 9, 8, 7, 6, 5, 4, 3, 2, 1, 0]) rfl rfl rfl rfl rfl (X8 rfl rfl (Qa rfl ?_)))))
     refine QE (g := 63) rfl (fun h8 => ?_) (fun h8 => ?_)
     ·try rw [h8]
      try simp only [qa, qb, qc, qd, qe, List.length_map] at h8
      refine Qk rfl (Qh rfl rfl (Qk rfl (QU (ds0 := [18, 15, 14, 13, 12, 11, 10, 9, 8, 7, 6, 5, 4, 3, 2, 1, 0]) rfl rfl rfl rfl rfl (Qk rfl (Qa rfl (Qk rfl (QeP rfl rfl (Qk rfl (Qh rfl rfl (Qk rfl (QU (ds0 := [15, 14, 13, 12, 11, 10, 9, 8, 7, 6, 5, 4, 3, 2, 1, 0]) rfl rfl rfl rfl rfl ?_)))))))))))
      refine Qk rfl (ZI rfl rfl (Qo rfl rfl (Qa rfl ?_)))
      refine QE (g := 72) rfl (fun h9 => ?_) (fun h9 => ?_)
      ·try rw [h9]
       try simp only [qa, qb, qc, qd, qe, List.length_map] at h9
       refine Qk rfl (Qh rfl rfl (Qk rfl (QU (ds0 := [9, 8, 7, 6, 5, 4, 3, 2, 1, 0]) rfl rfl rfl rfl rfl (Qk rfl (Qa rfl (Qk rfl (X8 rfl rfl (Qo rfl rfl (Qa rfl ?_)))))))))
       refine QE (g := 78) rfl (fun h10 => ?_) (fun h10 => ?_)
       ·try rw [h10]
        try simp only [qa, qb, qc, qd, qe, List.length_map] at h10
        refine Qk rfl (Qh rfl rfl (Qk rfl (QU (ds0 := [2, 1, 0]) rfl rfl rfl rfl rfl (Qk rfl (Qa rfl (Qk rfl (QX (ds0 := [2, 1, 0]) (Yb hl) rfl rfl (.inr rfl) rfl rfl (Qk rfl (ZI rfl rfl (Qo rfl rfl (Qa rfl ?_)))))))))))
        refine hK _ _ (Qb (kp1 rfl) ?_)
        refine Qu (Qs rfl ?_)
        first | (rw [Xl (by omega)]; done) | (rw [Z7 (by omega) (by omega) (by omega)]; simp_all; done) | (rw [Z7 (by omega) (by omega) (by omega)]; simp_all; omega)
       ·try rw [h10]
        try simp only [qa, qb, qc, qd, qe, List.length_map] at h10
        refine Qt rfl (Qt rfl (Qt rfl (Qt rfl (Qt rfl (Qo rfl rfl (Qa rfl ?_))))))
        refine hK _ _ (Qb (kp1 rfl) ?_)
        refine Qu (Qs rfl ?_)
        first | (rw [Xl (by omega)]; done) | (rw [Z7 (by omega) (by omega) (by omega)]; simp_all; done) | (rw [Z7 (by omega) (by omega) (by omega)]; simp_all; omega)
      ·try rw [h9]
       try simp only [qa, qb, qc, qd, qe, List.length_map] at h9
       refine Qt rfl (Qt rfl (Qt rfl (Qt rfl (Qo rfl rfl (Qa rfl (Qt rfl (Qt rfl (Qt rfl (Qt rfl (Qt rfl (Qo rfl rfl ?_)))))))))))
       refine Qa rfl ?_
       refine hK _ _ (Qb (kp1 rfl) ?_)
       refine Qu (Qs rfl ?_)
       first | (rw [Xl (by omega)]; done) | (rw [Z7 (by omega) (by omega) (by omega)]; simp_all; done) | (rw [Z7 (by omega) (by omega) (by omega)]; simp_all; omega)
     ·try rw [h8]
      try simp only [qa, qb, qc, qd, qe, List.length_map] at h8
      refine Qt rfl (Qt rfl (Qt rfl (Qt rfl (Qt rfl (Qt rfl (Qt rfl (Qo rfl rfl (Qa rfl (Qt rfl (Qt rfl (Qt rfl ?_)))))))))))
      refine Qt rfl (Qo rfl rfl (Qa rfl (Qt rfl (Qt rfl (Qt rfl (Qt rfl (Qt rfl (Qo rfl rfl (Qa rfl ?_)))))))))
      refine hK _ _ (Qb (kp1 rfl) ?_)
      refine Qu (Qs rfl ?_)
      first | (rw [Xl (by omega)]; done) | (rw [Z7 (by omega) (by omega) (by omega)]; simp_all; done) | (rw [Z7 (by omega) (by omega) (by omega)]; simp_all; omega)
theorem QbH {w : Qp} (hw : WSm w) {l : List StepT} (hl : l.length <= 10000000) {t : TermT} {c : Int} : Ok Tryz.prog 44 [ZY w, Zu l, .agg (Qdu t), .int .i64 c] (dOS (Yj w l t c)) := by
 refine Ok.ofT ZT Tryz.func44 QrO (Nat.le_of_ble_eq_true rfl) ?_
 show TW _ _ tf44.body _ _
 refine Qf fun K hK => Zv rfl rfl rfl (Zv rfl rfl rfl (Qa rfl (Qa rfl ?_)))
 refine hK _ _ (Qb (kp4 rfl rfl rfl rfl) ?_)
 refine QB ?_ -- 0
 refine Qf fun K hK => Qa rfl (Z3 rfl rfl (Qa rfl ?_))
 refine QE (g := 14) rfl (fun h1 => ?_) (fun h1 => ?_)
 ·try rw [h1]
  try simp only [qa, qb, qc, qd, qe, List.length_map] at h1
  refine Qt rfl (Qt rfl (Qt rfl (Qo rfl rfl (Qa rfl (Qt rfl (Qt rfl (Qt rfl (Qt rfl (Qt rfl (Qt rfl (Qo rfl rfl ?_)))))))))))
  refine hK _ _ (Qb (kp5 rfl rfl rfl rfl rfl) ?_)
  refine Zs rfl (Qf fun K hK => Qa rfl (Qa rfl ?_))
  refine hK _ _ (Qb (kp2 rfl rfl) ?_)
  refine Qu (Qj ?_)
  rw [Qcj (by omega)]
  exact QS rfl rfl ⟨rfl, rfl⟩
 ·try rw [h1]
  try simp only [qa, qb, qc, qd, qe, List.length_map] at h1
  refine Qk rfl (Qh rfl rfl (Qk rfl (QA rfl rfl rfl (Qk rfl (Z3 rfl rfl (Qo rfl rfl (Qa rfl ?_)))))))
  refine QE (g := 19) rfl (fun h2 => ?_) (fun h2 => ?_)
  ·try rw [h2]
   try simp only [qa, qb, qc, qd, qe, List.length_map] at h2
   refine Qt rfl (Qt rfl (Qt rfl (Qt rfl (Qt rfl (Qt rfl (Qo rfl rfl ?_))))))
   refine hK _ _ (Qb (kp5 rfl rfl rfl rfl rfl) ?_)
   refine Zs rfl (Qf fun K hK => Qa rfl (Qa rfl ?_))
   refine hK _ _ (Qb (kp2 rfl rfl) ?_)
   refine Qu (Qj ?_)
   rw [Qcj (by omega)]
   exact QS rfl rfl ⟨rfl, rfl⟩
  ·try rw [h2]
   try simp only [qa, qb, qc, qd, qe, List.length_map] at h2
   refine Qk rfl (Qh rfl rfl (Qk rfl (QA rfl rfl rfl (Qk rfl (Qh rfl rfl (Qk rfl (QA rfl rfl rfl (Qk rfl ?_))))))))
   first | refine QO rfl QR ?_ | refine QO rfl rfl ?_
   refine Qk rfl (QeX rfl rfl (Qo rfl rfl ?_))
   refine hK _ _ (Qb (kp5 rfl rfl rfl rfl rfl) ?_)
   refine Qw rfl (fun h3 => ?_) (fun h3 => ?_)
   ·try rw [h3]
    try simp only [qa, qb, qc, qd, qe, List.length_map] at h3
    refine Qf fun K hK => Qa rfl (Qa rfl ?_)
    refine hK _ _ (Qb (kp2 rfl rfl) ?_)
    refine Qu (Qj ?_)
    rw [Qcj (by omega)]
    exact QS rfl rfl ⟨rfl, rfl⟩
   ·try rw [h3]
    try simp only [qa, qb, qc, qd, qe, List.length_map] at h3
    refine Qv (Qd (kp4 rfl rfl rfl rfl) (Qf fun K hK => QH (cs := [_]) rfl rfl rfl rfl (Qa rfl (Qh rfl rfl (QA rfl rfl rfl (QI (ZX hw hl) rfl rfl (.inr rfl) (Qa rfl ?_)))))))
    refine hK _ _ (Qb (kp4 rfl rfl rfl rfl) ?_)
    refine Qf fun K hK => Qh rfl rfl (QU (ds0 := [2, 0]) rfl rfl rfl rfl rfl (Qa rfl (Qa rfl (Qh rfl rfl (QU (ds0 := [7, 6, 2, 0]) rfl rfl rfl rfl rfl (QeP rfl rfl (QaE rfl rfl rfl (Qa rfl (QX (ds0 := [2, 0]) (Yb hl) rfl rfl (.inr rfl) rfl rfl (Qa rfl ?_))))))))))
    refine QV rfl rfl (ZG rfl (YY (ds0 := []) rfl rfl rfl rfl rfl rfl rfl rfl rfl rfl ?_))
    refine hK _ _ (Qb (kp3 rfl rfl rfl) ?_)
    refine QB ?_ -- 1
    refine Qf fun K hK => Qh rfl rfl (QA rfl rfl rfl (ZI rfl rfl (Qa rfl ?_)))
    refine QE (g := 47) rfl (fun h4 => ?_) (fun h4 => ?_)
    ·try rw [h4]
     try simp only [qa, qb, qc, qd, qe, List.length_map] at h4
     refine Qt rfl (Qt rfl (Qt rfl (Qt rfl (Qo rfl rfl ?_))))
     refine hK _ _ (Qb (kp3 rfl rfl rfl) ?_)
     refine Zs rfl (Qf fun K hK => Qa rfl (Qa rfl ?_))
     refine hK _ _ (Qb (kp2 rfl rfl) ?_)
     refine Qu (Qj ?_)
     rw [Qbc (by first | exact .inl h4 | exact .inr h5)]
     exact QS rfl rfl ⟨rfl, rfl⟩
    ·try rw [h4]
     try simp only [qa, qb, qc, qd, qe, List.length_map] at h4
     refine Qk rfl (Qh rfl rfl (Qk rfl (QA rfl rfl rfl (Qk rfl (Qa rfl (Qk rfl (ZI rfl rfl (Qo rfl rfl ?_))))))))
     refine hK _ _ (Qb (kp3 rfl rfl rfl) ?_)
     refine Qw rfl (fun h5 => ?_) (fun h5 => ?_)
     ·try rw [h5]
      try simp only [qa, qb, qc, qd, qe, List.length_map] at h5
      refine Qf fun K hK => Qa rfl (Qa rfl ?_)
      refine hK _ _ (Qb (kp2 rfl rfl) ?_)
      refine Qu (Qj ?_)
      rw [Qbc (by first | exact .inl h4 | exact .inr h5)]
      exact QS rfl rfl ⟨rfl, rfl⟩
     ·try rw [h5]
      try simp only [qa, qb, qc, qd, qe, List.length_map] at h5
      refine Qv (Qd (kp2 rfl rfl) (Qf fun K hK => Qa rfl (Qd7 (ds0 := [2, 1]) rfl rfl (fun _ h => ⟨Qln, h⟩) rfl (.inl rfl) (by simp) (by simp; omega) (by simp; omega) rfl rfl (QN (ds0 := [3, 2, 1]) (cs := [_, _, _, _]) rfl rfl rfl rfl rfl rfl (QC rfl rfl (Qa4 (ds0 := [1]) rfl rfl (by simp [D.ids, D.sid]) ⟨_, rfl, rfl, rfl, rfl, rfl⟩ rfl rfl (by simp) rfl rfl (by simp; omega) (by simp; omega) rfl rfl (Qa rfl (Qa rfl ?_))))))))
      refine hK _ _ (Qb (kp2 rfl rfl) ?_)
      refine Qu ?_
      rw [Qgu (by omega) (QeJ (by omega) (by omega)) h4 h5]
      exact Qf0 rfl rfl rfl (by simp) (by simp [Zu, Qfu]) rfl rfl
theorem QbG {w : Qp} (hw : WSm w) {l : List StepT} (hl : l.length <= 10000000) {u p : Int} : Ok Tryz.prog 40 [ZY w, Zu l, .int .i64 u, .int .i64 p] (dOS (Xh w l u p)) := by
 refine Ok.ofT ZT Tryz.func40 QrK (Nat.le_of_ble_eq_true rfl) ?_
 show TW _ _ tf40.body _ _
 refine Qf fun K hK => Zv rfl rfl rfl (Qa rfl (Qa rfl ?_))
 refine hK _ _ (Qb (kp4 rfl rfl rfl rfl) ?_)
 refine QB ?_ -- 0
 refine Qf fun K hK => Qa rfl (Z3 rfl rfl (Qa rfl ?_))
 refine QE (g := 13) rfl (fun h1 => ?_) (fun h1 => ?_)
 ·try rw [h1]
  try simp only [qa, qb, qc, qd, qe, List.length_map] at h1
  refine Qt rfl (Qt rfl (Qt rfl (Qt rfl (Qt rfl (Qo rfl rfl (Qa rfl (Qt rfl (Qt rfl (Qo rfl rfl (Qa rfl (Qt rfl ?_)))))))))))
  refine Qt rfl (Qt rfl (Qt rfl (Qt rfl (Qt rfl (Qt rfl (Qt rfl (Qt rfl (Qo rfl rfl ?_))))))))
  refine hK _ _ (Qb (kp5 rfl rfl rfl rfl rfl) ?_)
  refine Zs rfl (Qf fun K hK => Qa rfl (Qa rfl ?_))
  refine hK _ _ (Qb (kp2 rfl rfl) ?_)
  refine Qu (Qj ?_)
  rw [Qeh (by omega)]
  exact QS rfl rfl ⟨rfl, rfl⟩
 ·try rw [h1]
  try simp only [qa, qb, qc, qd, qe, List.length_map] at h1
  refine Qk rfl (Qa rfl (Qk rfl (Qh rfl rfl (Qk rfl (QA rfl rfl rfl (Qk rfl ?_))))))
  first | refine QO rfl QR ?_ | refine QO rfl rfl ?_
  refine Qk rfl (QeX rfl rfl (Qo rfl rfl (Qa rfl ?_)))
  refine QE (g := 20) rfl (fun h2 => ?_) (fun h2 => ?_)
  ·try rw [h2]
   try simp only [qa, qb, qc, qd, qe, List.length_map] at h2
   refine Qt rfl (Qt rfl (Qo rfl rfl (Qa rfl (Qt rfl (Qt rfl (Qt rfl (Qt rfl (Qt rfl (Qt rfl (Qt rfl (Qt rfl ?_)))))))))))
   refine Qt rfl (Qo rfl rfl ?_)
   refine hK _ _ (Qb (kp5 rfl rfl rfl rfl rfl) ?_)
   refine Zs rfl (Qf fun K hK => Qa rfl (Qa rfl ?_))
   refine hK _ _ (Qb (kp2 rfl rfl) ?_)
   refine Qu (Qj ?_)
   rw [Qeh (by omega)]
   exact QS rfl rfl ⟨rfl, rfl⟩
  ·try rw [h2]
   try simp only [qa, qb, qc, qd, qe, List.length_map] at h2
   refine Qk rfl (Qa rfl (Qk rfl (Z3 rfl rfl (Qo rfl rfl (Qa rfl ?_)))))
   refine QE (g := 24) rfl (fun h3 => ?_) (fun h3 => ?_)
   ·try rw [h3]
    try simp only [qa, qb, qc, qd, qe, List.length_map] at h3
    refine Qt rfl (Qt rfl (Qt rfl (Qt rfl (Qt rfl (Qt rfl (Qt rfl (Qt rfl (Qt rfl (Qo rfl rfl ?_)))))))))
    refine hK _ _ (Qb (kp5 rfl rfl rfl rfl rfl) ?_)
    refine Zs rfl (Qf fun K hK => Qa rfl (Qa rfl ?_))
    refine hK _ _ (Qb (kp2 rfl rfl) ?_)
    refine Qu (Qj ?_)
    rw [Qeh (by omega)]
    exact QS rfl rfl ⟨rfl, rfl⟩
   ·try rw [h3]
    try simp only [qa, qb, qc, qd, qe, List.length_map] at h3
    refine Qk rfl (Qa rfl (Qk rfl (Qh rfl rfl (Qk rfl (QA rfl rfl rfl (Qk rfl (Qa rfl (Qk rfl (QJ rfl rfl rfl (by omega) (ZB (by omega) (by omega)) rfl (Qk rfl (Q7 rfl rfl ?_)))))))))))
    refine Qk rfl (QA rfl rfl rfl (Qk rfl ?_))
    first | refine QO rfl QR ?_ | refine QO rfl rfl ?_
    refine Qk rfl (QeX rfl rfl (Qo rfl rfl ?_))
    refine hK _ _ (Qb (kp5 rfl rfl rfl rfl rfl) ?_)
    refine Qw rfl (fun h4 => ?_) (fun h4 => ?_)
    ·try rw [h4]
     try simp only [qa, qb, qc, qd, qe, List.length_map] at h4
     refine Qf fun K hK => Qa rfl (Qa rfl ?_)
     refine hK _ _ (Qb (kp2 rfl rfl) ?_)
     refine Qu (Qj ?_)
     rw [Qk2 (by omega) (by omega) (by omega)]
     exact QS rfl rfl ⟨rfl, rfl⟩
    ·try rw [h4]
     try simp only [qa, qb, qc, qd, qe, List.length_map] at h4
     refine Qv (Qd (kp4 rfl rfl rfl rfl) (Qf fun K hK => Qa rfl (Qa rfl (QhY rfl (Qfg (by omega) (by have := hw.cs _ (List.getElem_mem (show u.toNat < w.length by omega)); omega)) (QoX rfl rfl (by omega) rfl (Qa rfl (QI (Yb hl) rfl rfl (.inr rfl) (Q1 rfl rfl rfl (QV rfl rfl (ZG rfl ?_))))))))))
     refine Q6 rfl rfl rfl rfl rfl rfl rfl rfl ?_
     refine hK _ _ (Qb (kp3 rfl rfl rfl) ?_)
     refine QB ?_ -- 1
     refine Qf fun K hK => QH (cs := [_]) rfl rfl rfl rfl (Qa rfl (QH (cs := [_, _, _, _]) rfl rfl rfl rfl (QI (QcL (s := Qpe l u p) hw hl) rfl rfl (.inr rfl) (Yk rfl ?_))))
     refine hK _ _ (Qb (kp3 rfl rfl rfl) ?_)
     refine Qw rfl (fun h5 => ?_) (fun h5 => ?_)
     ·try rw [h5]
      try simp only [qa, qb, qc, qd, qe, List.length_map] at h5
      refine Qf fun K hK => Qa rfl (Qa rfl ?_)
      refine hK _ _ (Qb (kp2 rfl rfl) ?_)
      refine Qu (Qj ?_)
      rw [QlN h5]
      exact QS rfl rfl ⟨rfl, rfl⟩
     ·try rw [h5]
      try simp only [qa, qb, qc, qd, qe, List.length_map] at h5
      refine Qv (Qd (kp2 rfl rfl) (Qf fun K hK => Qa rfl (Qd7 (ds0 := [2, 1]) rfl rfl (fun _ h => ⟨Qln, h⟩) rfl (.inl rfl) (by simp) (by simp; omega) (by simp; omega) rfl rfl (QN (ds0 := [3, 2, 1]) (cs := [_, _, _, _]) rfl rfl rfl rfl rfl rfl (QC rfl rfl (Qa4 (ds0 := [1]) rfl rfl (by simp [D.ids, D.sid]) ⟨_, rfl, rfl, rfl, rfl, rfl⟩ rfl rfl (by simp) rfl rfl (by simp; omega) (by simp; omega) rfl rfl (Qa rfl (Qa rfl ?_))))))))
      refine hK _ _ (Qb (kp2 rfl rfl) ?_)
      refine Qu ?_
      rw [Qk5 (by omega) (by omega) (by omega) (by omega) h5]
      exact Qf0 rfl rfl rfl (by simp) (by simp [Zu, Qfu, Qpe]; rfl) rfl rfl
theorem QcJ {w : Qp} (hw : WSm w) {l : List StepT} (hl : l.length <= 10000000) {inc : List TermT} (hi : inc.length <= 1000000) : Ok Tryz.prog 45 [ZY w, Zu l, ZF inc] (.bool (QfV w l inc)) := by
 refine Ok.ofT ZT Tryz.func45 QrP (Nat.le_of_ble_eq_true rfl) ?_
 show TW _ _ tf45.body _ _
 refine Qf fun K hK => Zv rfl rfl rfl (Qa rfl ?_)
 refine hK _ _ (Qb (kp3 rfl rfl rfl) ?_)
 refine QB ?_ -- 0
 refine Qf fun K hK => Qa rfl ?_
 refine hK _ _ (Qb (kp4 rfl rfl rfl rfl) ?_)
 refine Qz ?_
 refine Zi (ι := Nat) (fun i => ⟨[(1, Zu l), (2, ZF inc), (3, .ref 3 0 0), (7, .int .i64 i)], [(3, ⟨[[.sl ((w).map Ym)]], 1, 26, true⟩)]⟩) (fun i => i <= inc.length /\ (inc.take i).all (fun t => decide (ZQ (Zg w l t.u) t.m = 2)) = true) (fun i => inc.length - i) 0 ?_ ?_ ?_
 ·exact Q4 (l := [1, 2, 3, 7]) (lH := [3]) (kp4 rfl rfl rfl rfl) (Qe rfl Ql) rfl rfl rfl
 ·exact ⟨Nat.zero_le _, by simp⟩
 intro i hI
 try dsimp only
 refine QB ?_ -- 1
 refine Qf fun K hK => Qa rfl (Qa rfl ?_)
 first | refine QO rfl QR ?_ | refine QO rfl rfl ?_
 refine Z3 rfl rfl ?_
 refine hK _ _ (Qb (kp5 rfl rfl rfl rfl rfl) ?_)
 refine Qw rfl (fun h1 => ?_) (fun h1 => ?_)
 ·try rw [h1]
  try simp only [qa, qb, qc, qd, qe, List.length_map] at h1
  refine Qv (Qd (kp4 rfl rfl rfl rfl) ?_)
  refine QB ?_ -- 2
  refine Qz (Qf fun K hK => QN (ds0 := [7, 1, 0]) (cs := [_]) rfl rfl rfl rfl rfl rfl (Qa rfl (Qa rfl (Qa rfl (QJ rfl rfl rfl (by omega) (QT (by omega)) rfl (Q7 rfl rfl (QU (ds0 := [7, 1, 0]) rfl rfl rfl rfl rfl (QX (ds0 := [1, 0]) (ZX hw hl) rfl rfl (.inr rfl) rfl rfl (Qa rfl (Qa rfl ?_))))))))))
  refine QJ rfl rfl rfl (by omega) (QT (by omega)) rfl (Q7 rfl rfl (QU (ds0 := [1, 0]) rfl rfl rfl rfl rfl (QX (ds0 := [0]) (XH) rfl rfl (.inr rfl) rfl rfl (X8 rfl rfl ?_))))
  refine hK _ _ (Qb (kp5 rfl rfl rfl rfl rfl) ?_)
  refine Qw rfl (fun h2 => ?_) (fun h2 => ?_)
  ·try rw [h2]
   try simp only [qa, qb, qc, qd, qe, List.length_map] at h2
   refine Qf fun K hK => Qa rfl ?_
   refine hK _ _ (Qb (kp1 rfl) ?_)
   refine Qu (Qr (Qj (Q0 (Qr (Qj (Qs rfl ?_))))))
   rw [QfV, XE (i := i) (by omega) (by simpa using h2)]
  ·try rw [h2]
   try simp only [qa, qb, qc, qd, qe, List.length_map] at h2
   refine Qv (Qg (Qd (kp4 rfl rfl rfl rfl) (QL fun K hK => Qa rfl (Q1 rfl rfl (by first | exact Qq (by omega) (by omega) | rfl) (Qa rfl (hK _ ?_))))))
   refine Qi (i + 1) ?_ ?_ ?_
   ·exact Q4 (l := [1, 2, 3, 7]) (lH := [3]) (kp4 rfl rfl rfl rfl) (Qe rfl Ql) rfl rfl rfl
   ·exact ⟨by omega, Z8 (by omega) hI.2 (by simpa using h2)⟩
   ·first | omega | (simp only; omega) | (dsimp only; omega)
 ·try rw [h1]
  try simp only [qa, qb, qc, qd, qe, List.length_map] at h1
  refine Zf (QK (Qx (QD (Qd (Q5) (Qf fun K hK => Qa rfl ?_)))))
  refine hK _ _ (Qb (kp1 rfl) ?_)
  refine Qu (Qs rfl ?_)
  rw [QfV, Xv (i := i) (by omega) hI.2]
theorem QcK {w : Qp} (hw : WSm w) {l : List StepT} (hl : l.length <= 10000000) {inc : List TermT} (hi : inc.length <= 1000000) : Ok Tryz.prog 46 [ZY w, Zu l, ZF inc] (.int .i64 (QeU w l inc)) := by
 refine Ok.ofT ZT Tryz.func46 QrQ (Nat.le_of_ble_eq_true rfl) ?_
 show TW _ _ tf46.body _ _
 refine Qf fun K hK => Zv rfl rfl rfl (Qa rfl ?_)
 refine hK _ _ (Qb (kp3 rfl rfl rfl) ?_)
 refine Qf fun K hK => Qa rfl ?_
 refine hK _ _ (Qb (kp4 rfl rfl rfl rfl) ?_)
 refine QB ?_ -- 0
 refine Qf fun K hK => Qa rfl ?_
 refine hK _ _ (Qb (kp5 rfl rfl rfl rfl rfl) ?_)
 refine Qz ?_
 refine Zi (ι := Nat × Int) (fun ⟨i, a⟩ => ⟨[(1, Zu l), (2, ZF inc), (3, .ref 3 0 0), (7, .int .i64 a), (8, .int .i64 i)], [(3, ⟨[[.sl ((w).map Ym)]], 1, 26, true⟩)]⟩) (fun ⟨i, a⟩ => i <= inc.length /\ ZN (Zg w l) inc (-1) = ZN (Zg w l) (inc.drop i) a) (fun ⟨i, a⟩ => inc.length - i) (0, -1) ?_ ?_ ?_
 ·exact Q4 (l := [1, 2, 3, 7, 8]) (lH := [3]) (kp5 rfl rfl rfl rfl rfl) (Qe rfl Ql) rfl rfl rfl
 ·exact ⟨Nat.zero_le _, by simp⟩
 intro ⟨i, a⟩ hI
 dsimp only at hI
 try dsimp only
 refine QB ?_ -- 1
 refine Qf fun K hK => Qa rfl (Qa rfl ?_)
 first | refine QO rfl QR ?_ | refine QO rfl rfl ?_
 refine Z3 rfl rfl ?_
 refine hK _ _ (Qb (kp6 rfl rfl rfl rfl rfl rfl) ?_)
 refine Qw rfl (fun h1 => ?_) (fun h1 => ?_)
 ·try rw [h1]
  try simp only [qa, qb, qc, qd, qe, List.length_map] at h1
  refine Qv (Qd (kp5 rfl rfl rfl rfl rfl) ?_)
  refine QB ?_ -- 2
  refine Qz (Qf fun K hK => QN (ds0 := [6, 0]) (cs := [_]) rfl rfl rfl rfl rfl rfl (Qa rfl (Qa rfl (Qa rfl (QJ rfl rfl rfl (by omega) (QT (by omega)) rfl (Q7 rfl rfl (QU (ds0 := [6, 0]) rfl rfl rfl rfl rfl (QX (ds0 := [0]) (ZX hw hl) rfl rfl (.inr rfl) rfl rfl (Qa rfl (Qa rfl ?_))))))))))
  refine QJ rfl rfl rfl (by omega) (QT (by omega)) rfl (Q7 rfl rfl (QU (ds0 := [0]) rfl rfl rfl rfl rfl (QX (ds0 := []) (XH) rfl rfl (.inr rfl) rfl rfl ?_)))
  refine hK _ _ (Qb (kp6 rfl rfl rfl rfl rfl rfl) ?_)
  refine Qz (Qf fun K hK => ZI rfl rfl (Qa rfl ?_))
  refine hK _ _ (Qb (kp7 rfl rfl rfl rfl rfl rfl rfl) ?_)
  refine Qw rfl (fun h2 => ?_) (fun h2 => ?_)
  ·try rw [h2]
   try simp only [qa, qb, qc, qd, qe, List.length_map] at h2
   refine Qf fun K hK => Qa rfl ?_
   refine hK _ _ (Qb (kp1 rfl) ?_)
   refine Qu (Qr (Qr (Qj (Q0 (Qr (Qj (QG rfl ?_)))))))
   rw [QeU, hI.2, Qbp (by omega), if_pos h2]
  ·try rw [h2]
   try simp only [qa, qb, qc, qd, qe, List.length_map] at h2
   refine Qf fun K hK => ZI rfl rfl (Qa rfl ?_)
   refine hK _ _ (Qb (kp6 rfl rfl rfl rfl rfl rfl) ?_)
   refine Qw rfl (fun h3 => ?_) (fun h3 => ?_)
   ·try rw [h3]
    try simp only [qa, qb, qc, qd, qe, List.length_map] at h3
    refine QB ?_ -- 3
    refine Qf fun K hK => Qa rfl (QeX rfl rfl ?_)
    refine hK _ _ (Qb (kp5 rfl rfl rfl rfl rfl) ?_)
    refine Qw rfl (fun h4 => ?_) (fun h4 => ?_)
    ·try rw [h4]
     try simp only [qa, qb, qc, qd, qe, List.length_map] at h4
     refine Qf fun K hK => Qa rfl ?_
     refine hK _ _ (Qb (kp1 rfl) ?_)
     refine Qu (Qj (Qr (Qr (Qj (Q0 (Qr (Qj (QG rfl ?_))))))))
     rw [QeU, hI.2, Qbp (by omega), if_neg h2, if_pos h3, if_pos h4]
    ·try rw [h4]
     try simp only [qa, qb, qc, qd, qe, List.length_map] at h4
     refine Qv (Qd (kp4 rfl rfl rfl rfl) (QL fun K hK => Qa rfl (Qa rfl (QJ rfl rfl rfl (by omega) (QT (by omega)) rfl (Q7 rfl rfl (QA rfl rfl rfl (Qa rfl (hK _ ?_))))))))
     refine Qg (Qg (Qd (kp5 rfl rfl rfl rfl rfl) (QL fun K hK => Qa rfl (Q1 rfl rfl (by first | exact Qq (by omega) (by omega) | rfl) (Qa rfl (hK _ ?_))))))
     refine Qi (i + 1, (inc[i]'(by omega)).u) ?_ ?_ ?_
     ·exact Q4 (l := [1, 2, 3, 7, 8]) (lH := [3]) (kp5 rfl rfl rfl rfl rfl) (Qe rfl Ql) rfl rfl rfl
     ·exact ⟨by omega, by rw [hI.2, Qbp (by omega), if_neg h2, if_pos h3, if_neg h4]⟩
     ·show inc.length - (i + 1) < inc.length - i; omega
   ·try rw [h3]
    try simp only [qa, qb, qc, qd, qe, List.length_map] at h3
    refine Qv (Qg (Qg (Qd (kp5 rfl rfl rfl rfl rfl) (QL fun K hK => Qa rfl (Q1 rfl rfl (by first | exact Qq (by omega) (by omega) | rfl) (Qa rfl (hK _ ?_)))))))
    refine Qi (i + 1, a) ?_ ?_ ?_
    ·exact Q4 (l := [1, 2, 3, 7, 8]) (lH := [3]) (kp5 rfl rfl rfl rfl rfl) (Qe rfl Ql) rfl rfl rfl
    ·exact ⟨by omega, by rw [hI.2, Qbp (by omega), if_neg h2, if_neg h3]⟩
    ·show inc.length - (i + 1) < inc.length - i; omega
 ·try rw [h1]
  try simp only [qa, qb, qc, qd, qe, List.length_map] at h1
  refine Zf (QK (Qx (QD (Qd (kp1 rfl) (Qf fun K hK => Qa rfl (Qa rfl ?_))))))
  refine hK _ _ (Qb (kp1 rfl) ?_)
  refine Qu (QG rfl ?_)
  rw [QeU, hI.2, QiJ (by omega)]
theorem QcI {w : Qp} (hw : WSm w) {db : List (List TermT)} (hd : db.length <= 100000000) (hi : ∀ x ∈ db, x.length <= 1000000) {l : List StepT} (hl : l.length <= 10000000) : Ok Tryz.prog 17 [ZY w, dDb db, Zu l] (.tup [.int .i64 (Zx w db l).1, .int .i64 (Zx w db l).2]) := by
 refine Ok.ofT ZT Tryz.func17 Qrt (Nat.le_of_ble_eq_true rfl) ?_
 show TW _ _ tf17.body _ _
 refine Qf fun K hK => Zv rfl rfl rfl (Qa rfl (Qa rfl ?_))
 refine hK _ _ (Qb (kp3 rfl rfl rfl) ?_)
 refine QB ?_ -- 0
 refine Qf fun K hK => Qa rfl ?_
 refine hK _ _ (Qb (kp4 rfl rfl rfl rfl) ?_)
 refine Qz ?_
 refine Zi (ι := Nat) (fun i => ⟨[(1, dDb db), (2, Zu l), (3, .ref 3 0 0), (8, .int .i64 i)], [(3, ⟨[[.sl ((w).map Ym)]], 1, 26, true⟩)]⟩) (fun i => i <= db.length /\ Zx w db l = YG w l i (db.drop i)) (fun i => db.length - i) 0 ?_ ?_ ?_
 ·exact Q4 (l := [1, 2, 3, 8]) (lH := [3]) (kp4 rfl rfl rfl rfl) (Qe rfl Ql) rfl rfl rfl
 ·exact ⟨Nat.zero_le _, rfl⟩
 intro i hI
 try dsimp only
 refine QB ?_ -- 1
 refine Qf fun K hK => Qa rfl (Qa rfl ?_)
 first | refine QO rfl QR ?_ | refine QO rfl rfl ?_
 refine Z3 rfl rfl ?_
 refine hK _ _ (Qb (kp5 rfl rfl rfl rfl rfl) ?_)
 refine Qw rfl (fun h1 => ?_) (fun h1 => ?_)
 ·try rw [h1]
  try simp only [qa, qb, qc, qd, qe, List.length_map] at h1
  refine Qv (Qd (kp4 rfl rfl rfl rfl) ?_)
  refine QB ?_ -- 2
  refine Qz ?_
  refine QB ?_ -- 3
  refine Qf fun K hK => QN (ds0 := [0]) (cs := [_]) rfl rfl rfl rfl rfl rfl (Qa rfl (Qa rfl (Qa rfl (QJ rfl rfl rfl (by omega) (QT (by omega)) rfl (QU (ds0 := [0]) rfl rfl rfl rfl rfl (QX (ds0 := []) (QcJ hw hl (hi _ (List.getElem_mem (by omega)))) rfl rfl (.inr rfl) rfl rfl ?_))))))
  refine hK _ _ (Qb (kp5 rfl rfl rfl rfl rfl) ?_)
  refine Qw rfl (fun h2 => ?_) (fun h2 => ?_)
  ·try rw [h2]
   try simp only [qa, qb, qc, qd, qe, List.length_map] at h2
   refine Qf fun K hK => Qa rfl (Qa rfl (Qa rfl ?_))
   refine hK _ _ (Qb (kp2 rfl rfl) ?_)
   refine Qu (Qj (Qr (Qj (Q0 (Qr (Qj ?_))))))
   rw [hI.2, QjK (by omega), if_pos h2]
   exact QS rfl rfl ⟨rfl, rfl⟩
  ·try rw [h2]
   try simp only [qa, qb, qc, qd, qe, List.length_map] at h2
   refine Qv (Qd (kp4 rfl rfl rfl rfl) (Qf fun K hK => QN (ds0 := [1, 0]) (cs := [_]) rfl rfl rfl rfl rfl rfl (Qa rfl (Qa rfl (Qa rfl (QJ rfl rfl rfl (by omega) (QT (by omega)) rfl (QU (ds0 := [1, 0]) rfl rfl rfl rfl rfl (QX (ds0 := [0]) (QcK hw hl (hi _ (List.getElem_mem (by omega)))) rfl rfl (.inr rfl) rfl rfl (Qa rfl ?_)))))))))
   refine hK _ _ (Qb (kp5 rfl rfl rfl rfl rfl) ?_)
   refine Qf fun K hK => Qa rfl (QeX rfl rfl ?_)
   refine hK _ _ (Qb (kp6 rfl rfl rfl rfl rfl rfl) ?_)
   refine Qw rfl (fun h3 => ?_) (fun h3 => ?_)
   ·try rw [h3]
    try simp only [qa, qb, qc, qd, qe, List.length_map] at h3
    refine Qf fun K hK => Qa rfl (Qa rfl (Qa rfl (Qa rfl ?_)))
    refine hK _ _ (Qb (kp2 rfl rfl) ?_)
    refine Qu (Qr (Qj (Q0 (Qr (Qj ?_)))))
    rw [hI.2, QjK (by omega), if_neg (by rw [h2]; simp), if_pos h3]
    exact QS rfl rfl ⟨rfl, rfl⟩
   ·try rw [h3]
    try simp only [qa, qb, qc, qd, qe, List.length_map] at h3
    refine Qv (Qg (Qd (kp4 rfl rfl rfl rfl) (QL fun K hK => Qa rfl (Q1 rfl rfl (by first | exact Qq (by omega) (by omega) | rfl) (Qa rfl (hK _ ?_))))))
    refine Qi (i + 1) ?_ ?_ ?_
    ·exact Q4 (l := [1, 2, 3, 8]) (lH := [3]) (kp4 rfl rfl rfl rfl) (Qe rfl Ql) rfl rfl rfl
    ·exact ⟨by omega, by rw [hI.2, QjK (by omega), if_neg (by rw [h2]; simp), if_neg h3]⟩
    ·first | omega | (simp only; omega) | (dsimp only; omega)
 ·try rw [h1]
  try simp only [qa, qb, qc, qd, qe, List.length_map] at h1
  refine Zf (QK (Qx (QD (Qd (Q5) (Qf fun K hK => Qa rfl (Qa rfl ?_))))))
  refine hK _ _ (Qb (kp2 rfl rfl) ?_)
  refine Qu ?_
  rw [hI.2, Qoc (by omega)]
  exact QS rfl rfl ⟨rfl, rfl⟩
end Go.Proofs
namespace M25
open Go Go.Abs M3
def QlM (w : Qp) (i : Nat) : List (List TermT) := ((Qb2 w).take i).map RowT.t
theorem QbI {w : Qp} {i : Nat} (h : i < (Qb2 w).length) : QlM w (i + 1) = QlM w i ++ [(Qb2 w)[i].t] := by
 rw [QlM, List.take_succ_eq_append_getElem h, List.map_append]; rfl
theorem Qj9 {w : Qp} {i : Nat} (h : (Qb2 w).length <= i) : QlM w i = mDB w := by rw [QlM, List.take_of_length_le h]; rfl
theorem Qj8 (w : Qp) (i : Nat) : (QlM w i).length <= (Qb2 w).length := by rw [QlM, List.length_map]; exact List.length_take_le' ..
theorem QjY {w : Qp} (hw : WSm w) (h0 : 0 < w.length) : (Qb2 w).length <= 1600000 := by
 have := (Qce hw h0 w.length (Nat.le_refl _)).2
 have := hw.len
 rw [Qb2]; omega
def Qpf (w : Qp) (l : List Int) (j : Nat) : TermT := ⟨mPl (l.getD (2 * j) 0) w.length, 1 + mPl (l.getD (2 * j + 1) 0) (Yx w (mPl (l.getD (2 * j) 0) w.length))⟩
def Qgj (w : Qp) (l : List Int) : Nat -> List TermT
 | 0 => []
 | j + 1 => Qgj w l j ++ [Qpf w l j]
theorem QbW (w : Qp) (l : List Int) : ∀ j, (Qgj w l j).length = j
 | 0 => rfl
 | j + 1 => by rw [Qgj, List.length_append, QbW w l j]; rfl
theorem Qp5 (w : Qp) (l : List Int) (j : Nat) : Qgj w l (j + 1) = Qgj w l j ++ [Qpf w l j] := rfl
def QnT (w : Qp) (l : List Int) : List TermT := (QcV w (Qgj w l (min 4 (l.length / 2)))).getD []
theorem Qpl (w : Qp) (l : List Int) : IncOk w (QnT w l) := by
 unfold QnT
 cases h : QcV w (Qgj w l (min 4 (l.length / 2))) with
 | none => exact IncOk.nil w
 | some t => exact QdL h
theorem QlZ {l : List Int} {k : Int} {j : Nat} (e : k.toNat = j) (h : j < l.length) : l[k.toNat]'(by omega) = l.getD j 0 := by
 subst e; rw [List.getD_eq_getElem?_getD, List.getElem?_eq_getElem h]; rfl
theorem QnH {w : Qp} {l : List Int} {j : Nat} (h : 2 * j + 1 < l.length) : Qpf w l j = ⟨mPl (l[(2 * (j : Int)).toNat]'(by omega)) w.length, 1 + mPl (l[(2 * (j : Int) + 1).toNat]'(by omega)) (Yx w (mPl (l[(2 * (j : Int)).toNat]'(by omega)) w.length))⟩ := by
 rw [QlZ (j := 2 * j) (by omega) (by omega), QlZ (j := 2 * j + 1) (by omega) (by omega)]; rfl
theorem Qom (v : Int) {n : Int} (h : n <= 131071) : IntKind.i64.wrap (1 + mPl v n) = 1 + mPl v n := by
 have h0 := QiE (v := v) (n := n)
 by_cases h1 : 1 <= n
 ·have := QiD (v := v) h1; exact Qq (by omega) (by omega)
 ·have : mPl v n = 0 := by rw [mPl, if_pos (by omega)]
  rw [this]; rfl
theorem QmP {w : Qp} {db : List (List TermT)} : ∀ (n : Nat) (out : List StepT), (Qbr w db n out).1.length <= out.length + n
 | 0, out => Nat.le_refl _
 | n + 1, out => by
  rw [Qbr]
  split
  ·simp
  ·refine Nat.le_trans (QmP n _) ?_
   have := Qgt w out ⟨(Zx w db out).2, Qc9 w (db.getD (Zx w db out).1.toNat []) (Zx w db out).2⟩ (Zx w db out).1
   omega
theorem Qnb {v : Int} (h : (v + 1).toNat <= 61) : IntKind.i64.wrap ((1 : Int) * 2 ^ min (v + 1).toNat IntKind.i64.bits) = 2 ^ (v + 1).toNat := by
 rw [show min (v + 1).toNat IntKind.i64.bits = (v + 1).toNat from by simp only [IntKind.bits]; omega, Int.one_mul]
 have := QhD (i := (v + 1).toNat) (by omega)
 exact Qq (by omega) (by omega)
theorem QmX {α : Type} {f : α -> List D} {l : List α} {k : Int} (h : k = (l.length : Int)) : ((l.map f).take k.toNat).drop (((0 : Nat) : Int)).toNat = l.map f := by
 subst h; rw [Int.toNat_natCast, List.take_of_length_le (by simp)]; rfl
end M25
namespace Go.Proofs
open Go Go.Abs M3 M25
set_option linter.unusedVariables false
set_option linter.unusedSimpArgs false
theorem QcZ {w : Qp} (hw : WSm w) {db : List (List TermT)} (hd : db.length <= 100000000) (hi : ∀ x ∈ db, x.length <= 1000000) {l : List StepT} (hl : l.length <= 1000000) : Ok Tryz.prog 15 [ZY w, dDb db, Zu l] (.tup [Zu (XU w db l).1, .int .i64 (XU w db l).2]) := by
 refine Ok.ofT ZT Tryz.func15 Qrr (Nat.le_of_ble_eq_true rfl) ?_
 show TW _ _ tf15.body _ _
 have hn := hw.len
 refine Qf fun K hK => Zv rfl rfl rfl (Qa rfl (Qa rfl ?_))
 refine hK _ _ (Qb (kp3 rfl rfl rfl) ?_)
 refine Qf fun K hK => Qa rfl (Qlz rfl rfl (fun _ h => QkP Qln h) rfl (.inl rfl) (by simp) (by simp; omega) (by simp; omega) (Qa rfl ?_))
 refine hK _ _ (Qb (kp3 rfl rfl rfl) ?_)
 refine QB ?_ -- 0
 refine Qf fun K hK => Qa rfl ?_
 refine hK _ _ (Qb (kp4 rfl rfl rfl rfl) ?_)
 refine Qz ?_
 refine Zi (ι := Nat × List StepT) (fun ⟨n, out⟩ => ⟨[(1, dDb db), (3, .ref 3 0 0), (8, Zu out), (9, .int .i64 n)], [(3, ⟨[[.sl ((w).map Ym)]], 1, 26, true⟩)]⟩) (fun ⟨n, out⟩ => n <= w.length * 18 + 1 /\ out.length <= l.length + n /\ XU w db l = Qbr w db (w.length * 18 + 1 - n) out) (fun ⟨n, out⟩ => w.length * 18 + 1 - n) (0, l) ?_ ?_ ?_
 ·exact le_trans (QfH (l := [1, 3, 9]) (lH := [3]) 13 8 (kp3 rfl rfl rfl) (Qe rfl Ql) rfl rfl rfl (by simp) rfl rfl rfl rfl) (Q4 (l := [1, 3, 8, 9]) (lH := [3]) (kp4 rfl rfl rfl rfl) (Qe rfl Ql) rfl rfl rfl)
 ·exact ⟨Nat.zero_le _, Nat.le_refl _, rfl⟩
 intro ⟨n, out⟩ hI
 obtain ⟨hI1, hI2, hI3⟩ := hI
 try dsimp only at hI1 hI2 hI3
 try dsimp only
 refine QB ?_ -- 1
 refine Qf fun K hK => Qa rfl (Qh rfl rfl (QA rfl rfl rfl ?_))
 first | refine QO rfl QR ?_ | refine QO rfl rfl ?_
 refine QoW rfl rfl (by first | exact Qq (by omega) (by omega) | rfl) (Qni rfl rfl ?_)
 refine hK _ _ (Qb (kp5 rfl rfl rfl rfl rfl) ?_)
 refine Qw rfl (fun h1 => ?_) (fun h1 => ?_)
 ·try rw [h1]
  try simp only [qa, qb, qc, qd, qe, List.length_map] at h1
  refine Qv (Qd (kp4 rfl rfl rfl rfl) ?_)
  refine QB ?_ -- 2
  refine Qz (Qf fun K hK => QH (cs := [_]) rfl rfl rfl rfl (Qa rfl (Qa rfl (QI (QcI hw hd hi (by omega)) rfl rfl (.inl rfl) (Qa rfl (QQ rfl rfl (QQ rfl rfl (Qa rfl (Qa rfl ?_)))))))))
  refine hK _ _ (Qb (kp6 rfl rfl rfl rfl rfl rfl) ?_)
  refine QB ?_ -- 3
  refine Qf fun K hK => Qa rfl (Z3 rfl rfl ?_)
  refine hK _ _ (Qb (kp7 rfl rfl rfl rfl rfl rfl rfl) ?_)
  refine Qw rfl (fun h2 => ?_) (fun h2 => ?_)
  ·try rw [h2]
   try simp only [qa, qb, qc, qd, qe, List.length_map] at h2
   try have hu := QiS h2
   refine Qf fun K hK => Qa rfl (Qa rfl (Qa rfl (Qa rfl ?_)))
   refine hK _ _ (Qb (kp2 rfl rfl) ?_)
   refine Qu (Qj (Qr (Qj (Q0 (Qr (Qj ?_))))))
   rw [hI3, Qa2 h2 (by omega)]
   exact QS rfl rfl ⟨rfl, rfl⟩
  ·try rw [h2]
   try simp only [qa, qb, qc, qd, qe, List.length_map] at h2
   try have hu := QiS h2
   refine Qv (Qd (kp6 rfl rfl rfl rfl rfl rfl) (QL fun K hK => QN (ds0 := [4, 3, 2, 1, 0]) (cs := [_]) rfl rfl rfl rfl rfl rfl (Qa rfl (Qa rfl (QN (ds0 := [7, 6, 4, 3, 2, 1, 0]) (cs := [_]) rfl rfl rfl rfl rfl rfl (Qa rfl (Qa rfl (QJ rfl rfl rfl (by omega) (ZB (by omega) (by omega)) rfl (QU (ds0 := [7, 6, 4, 3, 2, 1, 0]) rfl rfl rfl rfl rfl (Qa rfl ?_))))))))))
   refine QX (ds0 := [6, 4, 3, 2, 1, 0]) (YU hw (hi _ (List.getElem_mem (by omega)))) rfl rfl (.inr rfl) rfl rfl (QV rfl rfl (Qa rfl (QX (ds0 := [3, 2, 1, 0]) (QbH (t := ⟨(Zx w db out).2, Qc9 w (db[(Zx w db out).1.toNat]'(by omega)) (Zx w db out).2⟩) hw (by omega)) rfl rfl (.inl rfl) rfl rfl (Qa rfl (QQ rfl rfl (QQ rfl rfl (Qa rfl (hK _ ?_))))))))
   refine Qg (Qd (kp4 rfl rfl rfl rfl) (QL fun K hK => Qa rfl (Q1 rfl rfl (by first | exact Qq (by omega) (by omega) | rfl) (Qa rfl (hK _ ?_)))))
   refine Qi (n + 1, (Yj w out ⟨(Zx w db out).2, Qc9 w (db[(Zx w db out).1.toNat]'(by omega)) (Zx w db out).2⟩ (Zx w db out).1).getD []) ?_ ?_ ?_
   ·exact Q4 (l := [1, 3, 8, 9]) (lH := [3]) (kp4 rfl rfl rfl rfl) (Qe rfl Ql) rfl rfl rfl
   ·exact ⟨by omega, by have := Qgt w out ⟨(Zx w db out).2, Qc9 w (db[(Zx w db out).1.toNat]'(by omega)) (Zx w db out).2⟩ (Zx w db out).1; simp only; omega, by rw [hI3, QkK h2 (by omega) (by omega), show w.length * 18 + 1 - (n + 1) = w.length * 18 + 1 - n - 1 by omega]⟩
   ·show w.length * 18 + 1 - (n + 1) < w.length * 18 + 1 - n; omega
 ·try rw [h1]
  try simp only [qa, qb, qc, qd, qe, List.length_map] at h1
  refine Zf (QK (Qx (QD (Qd (kp1 rfl) (Qf fun K hK => Qa rfl (Qa rfl (Qa rfl ?_)))))))
  refine hK _ _ (Qb (kp2 rfl rfl) ?_)
  refine Qu ?_
  rw [hI3, show w.length * 18 + 1 - n = 0 by omega]
  exact QS rfl rfl ⟨rfl, rfl⟩
theorem QaR {a b : List StepT} (ha : a.length <= 10000000) : Ok Tryz.prog 18 [Zu a, Zu b] (.bool (decide (a = b))) := by
 refine Ok.ofT ZT Tryz.func18 Qru (Nat.le_of_ble_eq_true rfl) ?_
 show TW _ _ tf18.body _ _
 refine Qf fun K hK => Qa rfl ?_
 refine hK _ _ (Qb (kp2 rfl rfl) ?_)
 refine QB ?_ -- 0
 refine Qf fun K hK => Qa rfl ?_
 first | refine QO rfl QR ?_ | refine QO rfl rfl ?_
 refine Qa rfl ?_
 first | refine QO rfl QR ?_ | refine QO rfl rfl ?_
 refine X8 rfl rfl ?_
 refine hK _ _ (Qb (kp3 rfl rfl rfl) ?_)
 refine Qw rfl (fun h1 => ?_) (fun h1 => ?_)
 ·try rw [h1]
  try simp only [qa, qb, qc, qd, qe, List.length_map] at h1
  refine Qf fun K hK => Qa rfl ?_
  refine hK _ _ (Qb (kp1 rfl) ?_)
  refine Qu (Qj (Qs rfl ?_))
  rw [decide_eq_false fun e => h1 (by rw [e])]
 ·try rw [h1]
  try simp only [qa, qb, qc, qd, qe, List.length_map] at h1
  refine Qv (Qd (kp2 rfl rfl) ?_)
  refine QB ?_ -- 1
  refine Qf fun K hK => Qa rfl ?_
  refine hK _ _ (Qb (kp3 rfl rfl rfl) ?_)
  refine Qz ?_
  refine Zi (ι := Nat) (fun i => ⟨[(0, Zu a), (1, Zu b), (5, .int .i64 i)], []⟩) (fun i => i <= a.length /\ a.take i = b.take i) (fun i => a.length - i) 0 ?_ ?_ ?_
  ·exact Zb (kp3 rfl rfl rfl)
  ·exact ⟨Nat.zero_le _, by simp⟩
  intro i hI
  try dsimp only
  refine QB ?_ -- 2
  refine Qf fun K hK => Qa rfl (Qa rfl ?_)
  first | refine QO rfl QR ?_ | refine QO rfl rfl ?_
  refine Z3 rfl rfl ?_
  refine hK _ _ (Qb (kp4 rfl rfl rfl rfl) ?_)
  refine Qw rfl (fun h2 => ?_) (fun h2 => ?_)
  ·try rw [h2]
   try simp only [qa, qb, qc, qd, qe, List.length_map] at h2
   refine Qv (Qd (kp3 rfl rfl rfl) ?_)
   refine QB ?_ -- 3
   refine Qz (Qf fun K hK => Qa rfl (Qa rfl (QJ rfl rfl rfl (by omega) (QT (by omega)) rfl (QN (ds0 := [0]) (cs := [_, _, _, _]) rfl rfl rfl rfl rfl rfl (Qa rfl (Qa rfl (QJ rfl rfl rfl (by omega) (QT (by omega)) rfl (QN (ds0 := [0]) (cs := [_, _, _, _]) rfl rfl rfl rfl rfl rfl (Qop rfl rfl Qm3 ?_)))))))))
   refine hK _ _ (Qb (kp4 rfl rfl rfl rfl) ?_)
   refine Qw rfl (fun h3 => ?_) (fun h3 => ?_)
   ·try rw [h3]
    try simp only [qa, qb, qc, qd, qe, List.length_map] at h3
    refine Qf fun K hK => Qa rfl ?_
    refine hK _ _ (Qb (kp1 rfl) ?_)
    refine Qu (Qr (Qj (Q0 (Qr (Qj (Qs rfl ?_))))))
    rw [QmR (i := i) (by omega) (by omega) h3]
   ·try rw [h3]
    try simp only [qa, qb, qc, qd, qe, List.length_map] at h3
    refine Qv (Qg (Qd (kp3 rfl rfl rfl) (QL fun K hK => Qa rfl (Q1 rfl rfl (by first | exact Qq (by omega) (by omega) | rfl) (Qa rfl (hK _ ?_))))))
    refine Qi (i + 1) ?_ ?_ ?_
    ·exact Zb (kp3 rfl rfl rfl)
    ·exact ⟨by omega, Qi3 (by omega) (by omega) hI.2 h3⟩
    ·first | omega | (simp only; omega) | (dsimp only; omega)
  ·try rw [h2]
   try simp only [qa, qb, qc, qd, qe, List.length_map] at h2
   refine Zf (QK (Qx (QD (Qd (Q5) (Qf fun K hK => Qa rfl ?_)))))
   refine hK _ _ (Qb (kp1 rfl) ?_)
   refine Qu (Qs rfl ?_)
   rw [List.take_of_length_le (by omega), List.take_of_length_le (by omega)] at hI; exact (decide_eq_true hI.2).symm
theorem Qdm {w : Qp} (hw : WSm w) {l : List Int} (hL : ∀ x ∈ l, I64 x) (hl : l.length <= 1000000) : Ok Tryz.prog 38 [ZY w, Zn l] (ZF (QnT w l)) := by
 refine Ok.ofT ZT Tryz.func38 QrI (Nat.le_of_ble_eq_true rfl) ?_
 show TW _ _ tf38.body _ _
 have hn := hw.len
 refine Qf fun K hK => Zv rfl rfl rfl (Qa rfl ?_)
 refine hK _ _ (Qb (kp2 rfl rfl) ?_)
 refine Qf fun K hK => Qa rfl ?_
 refine hK _ _ (Qb (kp3 rfl rfl rfl) ?_)
 refine Qgo (ι := Unit) (fun _ => ⟨[(2, .ref 2 0 0), (5, ZF (Qgj w l (min 4 (l.length / 2))))], [(2, ⟨[[.sl ((w).map Ym)]], 1, 26, true⟩)]⟩) (fun _ => True) ?_ ?_
 ·skip
  refine Qf fun K hK => Qa rfl ?_
  refine hK _ _ (Qb (kp4 rfl rfl rfl rfl) ?_)
  refine Qz ?_
  refine Zi (ι := Nat) (fun j => ⟨[(1, Zn l), (2, .ref 2 0 0), (5, .osl 5 (Qgj w l j).length), (6, .int .i64 (2 * (j : Int)))], [(2, ⟨[[.sl ((w).map Ym)]], 1, 26, true⟩), (5, ⟨(Qgj w l j).map Qdu, 2, 56, true⟩)]⟩) (fun j => j <= min 4 (l.length / 2)) (fun j => min 4 (l.length / 2) - j) 0 ?_ ?_ ?_
  ·exact le_trans (Yd 5 5 2 56 rfl rfl) (Q4 (l := [1, 2, 5, 6]) (lH := [2, 5]) (kp4 rfl rfl rfl rfl) (Qe rfl (Qe rfl Ql)) rfl rfl rfl)
  ·exact Nat.zero_le _
  intro j hI
  have hlen := QbW w l j
  try dsimp only
  refine QB ?_ -- 1
  refine Qf fun K hK => Qa rfl (Q1 rfl rfl (by first | exact Qq (by omega) (by omega) | rfl) (Qa rfl ?_))
  first | refine QO rfl QR ?_ | refine QO rfl rfl ?_
  refine Z3 rfl rfl (Qa rfl ?_)
  refine QE (g := 15) rfl (fun h1 => ?_) (fun h1 => ?_)
  ·try rw [h1]
   try simp only [qa, qb, qc, qd, qe, List.length_map] at h1
   refine Qk rfl (Qa rfl (Qk rfl (Z3 rfl rfl (Qo rfl rfl ?_))))
   refine hK _ _ (Qb (kp5 rfl rfl rfl rfl rfl) ?_)
   refine Qw rfl (fun h2 => ?_) (fun h2 => ?_)
   ·try rw [h2]
    try simp only [qa, qb, qc, qd, qe, List.length_map] at h2
    refine Qv (Qd (kp4 rfl rfl rfl rfl) ?_)
    refine QB ?_ -- 2
    refine Qz (Qf fun K hK => Qa rfl (Qa rfl (QJ rfl rfl rfl (by omega) (ZB (by omega) (by omega)) rfl (QU (ds0 := [1, 0]) rfl rfl rfl rfl rfl (Qh rfl rfl (QU (ds0 := [2, 1, 0]) rfl rfl rfl rfl rfl ?_))))))
    first | refine QO rfl QR ?_ | refine QO rfl rfl ?_
    refine QX (ds0 := [0]) (ZW (by omega) (hL _ (List.getElem_mem (by omega)))) rfl rfl (.inr rfl) rfl rfl (Qa rfl ?_)
    refine hK _ _ (Qb (kp5 rfl rfl rfl rfl rfl) ?_)
    refine QL fun K hK => Qa rfl (Qa rfl (Qa rfl (Qa rfl (Q1 rfl rfl (by first | exact Qq (by omega) (by omega) | rfl) (QJ rfl rfl rfl (by omega) (ZB (by omega) (by omega)) rfl (QU (ds0 := [5, 4, 3, 2, 1, 0]) rfl rfl rfl rfl rfl (QN (ds0 := [6, 5, 4, 3, 2, 1, 0]) (cs := [_]) rfl rfl rfl rfl rfl rfl (Qa rfl (QX (ds0 := [5, 4, 3, 2, 1, 0]) (Zz hw) rfl rfl (.inr rfl) rfl rfl (QX (ds0 := [4, 3, 2, 1, 0]) (ZW (by have := Qcn w (mPl (l[(2 * (j : Int)).toNat]'(by omega)) w.length); omega) (hL _ (List.getElem_mem (by omega)))) rfl rfl (.inr rfl) rfl rfl ?_))))))))))
    refine Q1 rfl rfl (Qom _ (Qcn _ _).2) (QV rfl rfl (QC rfl rfl (Qa4 (ds0 := [0]) rfl rfl (by simp [D.ids, D.sid]) ⟨_, rfl, rfl, rfl, rfl, rfl⟩ rfl rfl (by simp) rfl rfl (by simp; omega) (by simp; omega) rfl rfl (Qa rfl (hK _ ?_)))))
    refine Qg (Qd (kp4 rfl rfl rfl rfl) (QL fun K hK => Qa rfl (Q1 rfl rfl (by first | exact Qq (by omega) (by omega) | rfl) (Qa rfl (hK _ ?_)))))
    refine Qi (j + 1) ?_ ?_ ?_
    ·exact le_trans (QfI (l := [1, 2, 6]) (lH := [2]) 43 5 5 (kp3 rfl rfl rfl) (Qe rfl Ql) rfl rfl rfl rfl rfl rfl rfl) (Q4 (l := [1, 2, 5, 6]) (lH := [2, 5]) (kp4 rfl rfl rfl rfl) (Qe rfl (Qe rfl Ql)) (by simp only [List.cons.injEq, Prod.mk.injEq, D.int.injEq, D.osl.injEq, true_and, and_true, QbW]; first | omega | (constructor <;> first | omega | rfl | (simp [QbW]; done))) (by rw [Qp5, List.map_append, QnH (by omega)]; rfl) rfl)
    ·show j + 1 <= _; omega
    ·show min 4 (l.length / 2) - (j + 1) < min 4 (l.length / 2) - j; omega
   ·try rw [h2]
    try simp only [qa, qb, qc, qd, qe, List.length_map] at h2
    refine Zf (QK (Qx (QD ?_)))
    refine Z6 () ?_ ?_
    ·exact le_trans (QfH (l := [2]) (lH := [2]) 5 5 (kp1 rfl) (Qe rfl Ql) rfl rfl rfl (by first | (simp; done) | (simp; omega)) rfl rfl rfl rfl) (Q4 (l := [2, 5]) (lH := [2]) (kp2 rfl rfl) (Qe rfl Ql) (by rw [show min 4 (l.length / 2) = j by omega]; rfl) rfl rfl)
    ·exact trivial
  ·try rw [h1]
   try simp only [qa, qb, qc, qd, qe, List.length_map] at h1
   refine Qt rfl (Qt rfl (Qo rfl rfl ?_))
   refine hK _ _ (Qb (kp5 rfl rfl rfl rfl rfl) ?_)
   refine ZJ rfl (Zf (QK (Qx (QD ?_))))
   refine Z6 () ?_ ?_
   ·exact le_trans (QfH (l := [2]) (lH := [2]) 5 5 (kp1 rfl) (Qe rfl Ql) rfl rfl rfl (by first | (simp; done) | (simp; omega)) rfl rfl rfl rfl) (Q4 (l := [2, 5]) (lH := [2]) (kp2 rfl rfl) (Qe rfl Ql) (by rw [show min 4 (l.length / 2) = j by omega]; rfl) rfl rfl)
   ·exact trivial
 intro _ hJ
 try dsimp only
 refine Qf fun K hK => QH (cs := [_]) rfl rfl rfl rfl (Qa rfl (QI (XO hw (by rw [QbW]; omega)) rfl rfl (.inl rfl) (Qa rfl (QQ rfl rfl (QQ rfl rfl (Qa rfl (Qa rfl ?_)))))))
 refine hK _ _ (Qb (kp1 rfl) ?_)
 refine Qf fun K hK => Qa rfl (Qa rfl ?_)
 refine hK _ _ (Qb (kp1 rfl) ?_)
 refine Qu (Ye rfl ?_)
 rfl
theorem QaQ {w : Qp} (hw : WSm w) (h0 : 0 < w.length) : Ok Tryz.prog 30 [ZY w, Zn []] (dDb (mDB w)) := by
 refine Ok.ofT ZT Tryz.func30 Qrh (Nat.le_of_ble_eq_true rfl) ?_
 show TW _ _ tf30.body _ _
 have hn := QjY hw h0
 refine Qf fun K hK => Zv rfl rfl rfl (Qa rfl ?_)
 refine hK _ _ (Qb (kp2 rfl rfl) ?_)
 refine Qf fun K hK => QH (cs := [_]) rfl rfl rfl rfl (QI (X9 hw) rfl rfl (.inl rfl) (Qa rfl ?_))
 refine hK _ _ (Qb (kp3 rfl rfl rfl) ?_)
 refine Qf fun K hK => Qa rfl ?_
 refine hK _ _ (Qb (kp4 rfl rfl rfl rfl) ?_)
 refine QB ?_ -- 0
 refine Qf fun K hK => Qa rfl ?_
 refine hK _ _ (Qb (kp5 rfl rfl rfl rfl rfl) ?_)
 refine Qz ?_
 refine Zi (ι := Nat) (fun i => ⟨[(1, Zn []), (2, .ref 2 0 0), (5, Qpc (Qb2 w)), (6, .osl 6 (QlM w i).length), (7, .int .i64 i)], [(2, ⟨[[.sl ((w).map Ym)]], 1, 26, true⟩), (6, ⟨(QlM w i).map (fun t => [ZF t]), 1, 39, true⟩)]⟩) (fun i => i <= (Qb2 w).length) (fun i => (Qb2 w).length - i) 0 ?_ ?_ ?_
 ·exact le_trans (Yd 6 6 1 39 rfl rfl) (Q4 (l := [1, 2, 5, 6, 7]) (lH := [2, 6]) (kp5 rfl rfl rfl rfl rfl) (Qe rfl (Qe rfl Ql)) rfl rfl rfl)
 ·exact Nat.zero_le _
 intro i hI
 have hlen := Qj8 w i
 try dsimp only
 refine QB ?_ -- 1
 refine Qf fun K hK => Qa rfl (Qa rfl ?_)
 first | refine QO rfl QR ?_ | refine QO rfl rfl ?_
 refine Z3 rfl rfl ?_
 refine hK _ _ (Qb (kp6 rfl rfl rfl rfl rfl rfl) ?_)
 refine Qw rfl (fun h1 => ?_) (fun h1 => ?_)
 ·try rw [h1]
  try simp only [qa, qb, qc, qd, qe, List.length_map, List.length_nil] at h1
  refine Qv (Qd (kp5 rfl rfl rfl rfl rfl) ?_)
  refine QB ?_ -- 2
  refine Qz (QL fun K hK => Qa rfl (Qa rfl (Qa rfl (QJ rfl rfl rfl (by omega) (QT (by omega)) rfl (Q7 rfl rfl (QA rfl rfl rfl (QC rfl rfl (Xc rfl rfl (fun _ h => YX rfl rfl rfl h) rfl (by simp) rfl rfl rfl (by simp; omega) (by simp; omega) (Qa rfl (hK _ ?_))))))))))
  refine Qg (Qd (kp5 rfl rfl rfl rfl rfl) (QL fun K hK => Qa rfl (Q1 rfl rfl (by first | exact Qq (by omega) (by omega) | rfl) (Qa rfl (hK _ ?_)))))
  refine Qi (i + 1) ?_ ?_ ?_
  ·exact Q4 (l := [1, 2, 5, 6, 7]) (lH := [2, 6]) (kp5 rfl rfl rfl rfl rfl) (Qe rfl (Qe rfl Ql)) (by first | (rw [QbI (by omega)]; done) | (rw [QbI (by omega)]; rfl) | (rw [QbI (by omega), List.length_append]; rfl) | (simp [QbI (by omega)]; done) | (simp [QbI (by omega)]; omega) | rfl) (by first | (rw [QbI (by omega)]; done) | (rw [QbI (by omega)]; rfl) | (rw [QbI (by omega), List.map_append]; rfl) | (simp [QbI (by omega)]; done) | rfl) rfl
  ·omega
  ·first | omega | (simp only; omega) | (dsimp only; omega)
 ·try rw [h1]
  try simp only [qa, qb, qc, qd, qe, List.length_map, List.length_nil] at h1
  refine Zf (QK (Qx (QD (Qd (kp3 rfl rfl rfl) ?_))))
  refine QB ?_ -- 3
  refine Qf fun K hK => Qa rfl ?_
  refine hK _ _ (Qb (kp4 rfl rfl rfl rfl) ?_)
  refine Qz ?_
  refine Zi (ι := Unit) (fun _ => ⟨[(1, Zn []), (2, .ref 2 0 0), (6, .osl 6 (mDB w).length), (8, .int .i64 0)], [(2, ⟨[[.sl ((w).map Ym)]], 1, 26, true⟩), (6, ⟨(mDB w).map (fun t => [ZF t]), 1, 39, true⟩)]⟩) (fun _ => True) (fun _ => 0) () ?_ ?_ ?_
  ·exact Q4 (l := [1, 2, 6, 8]) (lH := [2, 6]) (kp4 rfl rfl rfl rfl) (Qe rfl (Qe rfl Ql)) (by rw [Qj9 (by omega)]) (by rw [Qj9 (by omega)]) rfl
  ·trivial
  intro _ hJ
  try dsimp only
  refine QB ?_ -- 4
  refine Qf fun K hK => Qa rfl (Qa rfl ?_)
  first | refine QO rfl QR ?_ | refine QO rfl rfl ?_
  refine Z3 rfl rfl (Qa rfl ?_)
  refine QE (g := 31) rfl (fun h2 => ?_) (fun h2 => ?_)
  ·try rw [h2]
   try simp only [qa, qb, qc, qd, qe, List.length_map, List.length_nil] at h2
   exact absurd h2 (by decide)
  ·try rw [h2]
   try simp only [qa, qb, qc, qd, qe, List.length_map, List.length_nil] at h2
   refine Qt rfl (Qt rfl (Qt rfl (Qt rfl (Qt rfl (Qo rfl rfl ?_)))))
   refine hK _ _ (Qb (kp5 rfl rfl rfl rfl rfl) ?_)
   refine ZJ rfl (Zf (QK (Qx (QD (Qd (kp1 rfl) (Qf fun K hK => Qa rfl (Qa rfl ?_)))))))
   refine hK _ _ (Qb (kp1 rfl) ?_)
   refine Qu ?_
   exact QaA rfl rfl rfl (by simp) (by rfl)
theorem QkZ {v : Int} (h0 : -1 <= v) (h1v : v <= 60) : Ok Tryz.prog 86 [.int .i64 v] (.int .i64 (2 ^ (v + 1).toNat)) := by
 refine Ok.ofT ZT Tryz.func86 Qsr (Nat.le_of_ble_eq_true rfl) ?_
 show TW _ _ tf86.body _ _
 refine Qf fun K hK => Qa rfl ?_
 refine hK _ _ (Qb (kp1 rfl) ?_)
 refine Qf fun K hK => Qa rfl (Q1 rfl rfl (by first | exact Qq (by omega) (by omega) | rfl) (QoX rfl rfl (by omega) (Qnb (by omega)) (Qa rfl ?_)))
 refine hK _ _ (Qb (kp1 rfl) ?_)
 refine Qu (QG rfl ?_)
 rfl
theorem Qk0 {w : Qp} (hw : WSm w) {u : Int} : Ok Tryz.prog 85 [ZY w, .int .i64 u] (.bool (inW w u)) := by
 refine Ok.ofT ZT Tryz.func85 Qsq (Nat.le_of_ble_eq_true rfl) ?_
 show TW _ _ tf85.body _ _
 refine Qf fun K hK => Zv rfl rfl rfl (Qa rfl ?_)
 refine hK _ _ (Qb (kp2 rfl rfl) ?_)
 refine Qf fun K hK => Qa rfl (QeX rfl rfl (Qa rfl ?_))
 refine QE (g := 7) rfl (fun h1 => ?_) (fun h1 => ?_)
 ·try rw [h1]
  try simp only [qa, qb, qc, qd, qe, List.length_map] at h1
  refine Qk rfl (Qa rfl (Qk rfl (Qh rfl rfl (Qk rfl (QA rfl rfl rfl (Qk rfl ?_))))))
  first | refine QO rfl QR ?_ | refine QO rfl rfl ?_
  refine Qk rfl (Z3 rfl rfl (Qo rfl rfl (Qa rfl ?_)))
  refine hK _ _ (Qb (kp1 rfl) ?_)
  refine Qu (Qs rfl ?_)
  first | rfl | (rw [Qbi (by omega)]; done) | (rw [inW, decide_eq_true h1, Bool.true_and])
 ·try rw [h1]
  try simp only [qa, qb, qc, qd, qe, List.length_map] at h1
  refine Qt rfl (Qt rfl (Qt rfl (Qt rfl (Qt rfl (Qo rfl rfl (Qa rfl ?_))))))
  refine hK _ _ (Qb (kp1 rfl) ?_)
  refine Qu (Qs rfl ?_)
  first | rfl | (rw [Qbi (by omega)]; done) | (rw [inW, decide_eq_true h1, Bool.true_and])
theorem Qc4 {w : Qp} (hw : WSm w) {u : Int} : Ok Tryz.prog 63 [ZY w, .int .i64 u] (.int .i64 (Yx w u)) := by
 refine Ok.ofT ZT Tryz.func63 Qr5 (Nat.le_of_ble_eq_true rfl) ?_
 show TW _ _ tf63.body _ _
 refine Qf fun K hK => Zv rfl rfl rfl (Qa rfl ?_)
 refine hK _ _ (Qb (kp2 rfl rfl) ?_)
 refine QB ?_ -- 0
 refine Qf fun K hK => QH (cs := [_]) rfl rfl rfl rfl (Qa rfl (QI (Qk0 hw) rfl rfl (.inr rfl) (Yk rfl ?_)))
 refine hK _ _ (Qb (kp3 rfl rfl rfl) ?_)
 refine Qw rfl (fun h1 => ?_) (fun h1 => ?_)
 ·try rw [h1]
  try simp only [qa, qb, qc, qd, qe, List.length_map] at h1
  try have h1b := QbV.1 h1
  refine Qf fun K hK => Qa rfl ?_
  refine hK _ _ (Qb (kp1 rfl) ?_)
  refine Qu (Qj (QG rfl ?_))
  rw [Qdz.2 h1]
 ·try rw [h1]
  try simp only [qa, qb, qc, qd, qe, List.length_map] at h1
  try have h1b := QbV.1 h1
  refine Qv (Qd (kp2 rfl rfl) (Qf fun K hK => Qh rfl rfl (QA rfl rfl rfl (Qa rfl (QJ rfl rfl rfl (by omega) (ZB (by omega) (by omega)) rfl (Q7 rfl rfl (QA rfl rfl rfl ?_)))))))
  first | refine QO rfl QR ?_ | refine QO rfl rfl ?_
  refine QI (QkZ (by omega) (by have := hw.cs _ (List.getElem_mem (show u.toNat < w.length by omega)); omega)) rfl rfl (.inr rfl) (QaE rfl rfl (Qi6 (by have := hw.cs _ (List.getElem_mem (show u.toNat < w.length by omega)); omega)) (Qa rfl ?_))
  refine hK _ _ (Qb (kp1 rfl) ?_)
  refine Qu (QG rfl ?_)
  rw [Qe8 h1b.1 h1b.2, show min (w[u.toNat]'(by omega)).cs.length 16 = (w[u.toNat]'(by omega)).cs.length from Nat.min_eq_left (hw.cs _ (List.getElem_mem _)), Qna]
theorem Qh8 {w : Qp} (hw : WSm w) {l : List StepT} (hl : l.length <= 10000000) {u : Int} : Ok Tryz.prog 88 [ZY w, Zu l, .int .i64 u] (.int .i64 (Qb6 w l u)) := by
 refine Ok.ofT ZT Tryz.func88 Qst (Nat.le_of_ble_eq_true rfl) ?_
 show TW _ _ tf88.body _ _
 refine Qf fun K hK => Zv rfl rfl rfl (Qa rfl ?_)
 refine hK _ _ (Qb (kp3 rfl rfl rfl) ?_)
 refine QB ?_ -- 0
 refine Qf fun K hK => Qa rfl ?_
 first | refine QO rfl QR ?_ | refine QO rfl rfl ?_
 refine QaE rfl rfl (by first | exact Qq (by omega) (by omega) | rfl) (Qa rfl ?_)
 refine hK _ _ (Qb (kp4 rfl rfl rfl rfl) ?_)
 refine Qz ?_
 refine Zi (ι := Nat) (fun i => ⟨[(1, Zu l), (2, .int .i64 u), (3, .ref 3 0 0), (7, .int .i64 ((i : Int) - 1))], [(3, ⟨[[.sl ((w).map Ym)]], 1, 26, true⟩)]⟩) (fun i => i <= l.length /\ Qb6 w l u = Qb6 w (l.take i) u) (fun i => i) l.length ?_ ?_ ?_
 ·exact Q4 (l := [1, 2, 3, 7]) (lH := [3]) (kp4 rfl rfl rfl rfl) (Qe rfl Ql) rfl rfl rfl
 ·exact ⟨Nat.le_refl _, by rw [List.take_length]⟩
 intro i hI
 try dsimp only
 refine QB ?_ -- 1
 refine Qf fun K hK => Qa rfl (QeX rfl rfl ?_)
 refine hK _ _ (Qb (kp5 rfl rfl rfl rfl rfl) ?_)
 refine Qw rfl (fun h1 => ?_) (fun h1 => ?_)
 ·try rw [h1]
  try simp only [qa, qb, qc, qd, qe, List.length_map] at h1
  refine Qv (Qd (kp4 rfl rfl rfl rfl) ?_)
  refine QB ?_ -- 2
  refine Qz (Qf fun K hK => Qa rfl (Qa rfl (QJ rfl rfl rfl (by omega) (ZB (by omega) (by omega)) rfl (Q7 rfl rfl (QA rfl rfl rfl (Qa rfl (ZI rfl rfl ?_)))))))
  refine hK _ _ (Qb (kp5 rfl rfl rfl rfl rfl) ?_)
  refine Qw rfl (fun h2 => ?_) (fun h2 => ?_)
  ·try rw [h2]
   try simp only [qa, qb, qc, qd, qe, List.length_map] at h2
   refine Qf fun K hK => Qa rfl (Qa rfl (QJ rfl rfl rfl (by omega) (ZB (by omega) (by omega)) rfl (Q7 rfl rfl (QA rfl rfl rfl (Qa rfl ?_)))))
   refine hK _ _ (Qb (kp1 rfl) ?_)
   refine Qu (Qr (Qj (Q0 (Qr (Qj (QG rfl ?_))))))
   rw [hI.2, Qmg (k := ((i : Int) - 1).toNat) (by omega) (by omega) h2]
  ·try rw [h2]
   try simp only [qa, qb, qc, qd, qe, List.length_map] at h2
   refine Qv (Qg (Qd (kp4 rfl rfl rfl rfl) (QL fun K hK => Qa rfl (QaE rfl rfl (by first | exact Qq (by omega) (by omega) | rfl) (Qa rfl (hK _ ?_))))))
   refine Qi (i - 1) ?_ ?_ ?_
   ·exact Q4 (l := [1, 2, 3, 7]) (lH := [3]) (kp4 rfl rfl rfl rfl) (Qe rfl Ql) (by simp only [List.cons.injEq, Prod.mk.injEq, D.int.injEq, and_true, true_and]; omega) rfl rfl
   ·exact ⟨by omega, by rw [hI.2, Qlf (k := ((i : Int) - 1).toNat) (by omega) (by omega) h2]⟩
   ·first | omega | (simp only; omega) | (dsimp only; omega)
 ·try rw [h1]
  try simp only [qa, qb, qc, qd, qe, List.length_map] at h1
  refine Zf (QK (Qx (QD (Qd (kp2 rfl rfl) (Qf fun K hK => QH (cs := [_]) rfl rfl rfl rfl (Qa rfl (QI (Qc4 hw) rfl rfl (.inr rfl) (Qa rfl ?_))))))))
  refine hK _ _ (Qb (kp1 rfl) ?_)
  refine Qu (QG rfl ?_)
  rw [hI.2, show i = 0 by omega]; rfl
theorem Qh7 {w : Qp} (hw : WSm w) {l : List StepT} (hl : l.length <= 10000000) {u : Int} : Ok Tryz.prog 65 [ZY w, Zu l, .int .i64 u] (.int .i64 (Zg w l u)) := by
 refine Ok.ofT ZT Tryz.func65 Qr7 (Nat.le_of_ble_eq_true rfl) ?_
 show TW _ _ tf65.body _ _
 refine Qf fun K hK => Zv rfl rfl rfl (Qa rfl ?_)
 refine hK _ _ (Qb (kp3 rfl rfl rfl) ?_)
 refine QB ?_ -- 0
 refine Qf fun K hK => QH (cs := [_]) rfl rfl rfl rfl (Qa rfl (QI (Qc4 hw) rfl rfl (.inr rfl) (ZI rfl rfl ?_)))
 refine hK _ _ (Qb (kp4 rfl rfl rfl rfl) ?_)
 refine Qw rfl (fun h1 => ?_) (fun h1 => ?_)
 ·try rw [h1]
  try simp only [qa, qb, qc, qd, qe, List.length_map] at h1
  refine Qf fun K hK => Qa rfl ?_
  refine hK _ _ (Qb (kp1 rfl) ?_)
  refine Qu (Qj (QG rfl ?_))
  rw [QdG (Qdz.1 h1)]
 ·try rw [h1]
  try simp only [qa, qb, qc, qd, qe, List.length_map] at h1
  refine Qv (Qd (kp3 rfl rfl rfl) (Qf fun K hK => QH (cs := [_]) rfl rfl rfl rfl (Qa rfl (Qa rfl (QI (Qh8 hw hl) rfl rfl (.inr rfl) (Qa rfl ?_))))))
  refine hK _ _ (Qb (kp1 rfl) ?_)
  refine Qu (QG rfl ?_)
  rw [QnO (by simpa using fun e => h1 (Qdz.2 e))]
theorem Qg6 {l : List StepT} (hl : l.length <= 10000000) : Ok Tryz.prog 67 [Zu l] (.int .i64 (Xq l)) := by
 refine Ok.ofT ZT Tryz.func67 Qr9 (Nat.le_of_ble_eq_true rfl) ?_
 show TW _ _ tf67.body _ _
 refine Qf fun K hK => Qa rfl ?_
 refine hK _ _ (Qb (kp1 rfl) ?_)
 refine QB ?_ -- 0
 refine Qf fun K hK => Qa rfl ?_
 first | refine QO rfl QR ?_ | refine QO rfl rfl ?_
 refine ZI rfl rfl ?_
 refine hK _ _ (Qb (kp2 rfl rfl) ?_)
 refine Qw rfl (fun h1 => ?_) (fun h1 => ?_)
 ·try rw [h1]
  try simp only [qa, qb, qc, qd, qe, List.length_map] at h1
  refine Qf fun K hK => Qa rfl ?_
  refine hK _ _ (Qb (kp1 rfl) ?_)
  refine Qu (Qj (QG rfl ?_))
  rw [Qiw h1]
 ·try rw [h1]
  try simp only [qa, qb, qc, qd, qe, List.length_map] at h1
  refine Qv (Qd (kp1 rfl) (Qf fun K hK => Qa rfl (Qa rfl ?_)))
  first | refine QO rfl QR ?_ | refine QO rfl rfl ?_
  refine QaE rfl rfl (by first | exact Qq (by omega) (by omega) | rfl) (QJ rfl rfl rfl (by omega) (ZB (by omega) (by omega)) rfl (Q7 rfl rfl (QA rfl rfl rfl (Qa rfl ?_))))
  refine hK _ _ (Qb (kp1 rfl) ?_)
  refine Qu (QG rfl ?_)
  rw [Qkn (k := ((l.length : Int) - 1).toNat) (by omega)]
theorem Qk1 {l : List StepT} (hl : l.length <= 10000000) {s : StepT} : Ok Tryz.prog 66 [Zu l, .agg (Qfu s)] (Zu (l ++ [s])) := by
 refine Ok.ofT ZT Tryz.func66 Qr8 (Nat.le_of_ble_eq_true rfl) ?_
 show TW _ _ tf66.body _ _
 refine Qf fun K hK => Zv rfl rfl rfl (Qa rfl ?_)
 refine hK _ _ (Qb (kp2 rfl rfl) ?_)
 refine Qf fun K hK => Qa rfl (Qa rfl ?_)
 first | refine QO rfl QR ?_ | refine QO rfl rfl ?_
 refine Qa rfl ?_
 first | refine QO rfl QR ?_ | refine QO rfl rfl ?_
 refine Qnl rfl rfl rfl rfl rfl (by omega) (by omega) (by simp) Qln (QmX rfl) (QN (ds0 := [2, 1, 0]) (cs := [_, _, _, _]) rfl rfl rfl rfl rfl rfl (QC rfl rfl (Qd7 (ds0 := [0]) rfl rfl (fun _ h => YX rfl rfl rfl h) rfl (.inr (by simp)) Qln (by simp; omega) (by simp; omega) rfl rfl (Qa rfl ?_))))
 refine hK _ _ (Qb (kp1 rfl) ?_)
 refine Qu ?_
 exact QaA rfl rfl rfl (by simp) (by simp [Zu, Qfu])
theorem Qgg {w : Qp} (hw : WSm w) {l : List StepT} (hl : l.length <= 10000000) (hp : Y1 w l) {t : TermT} {c : Int} : Ok Tryz.prog 43 [ZY w, Zu l, .agg (Qdu t), .int .i64 c] (dOS (Yj w l t c)) := by
 refine Ok.ofT ZT Tryz.func43 QrN (Nat.le_of_ble_eq_true rfl) ?_
 show TW _ _ tf43.body _ _
 refine Qf fun K hK => Zv rfl rfl rfl (Zv rfl rfl rfl (Qa rfl (Qa rfl ?_)))
 refine hK _ _ (Qb (kp4 rfl rfl rfl rfl) ?_)
 refine Qf fun K hK => QH (cs := [_]) rfl rfl rfl rfl (Qa rfl (Qh rfl rfl (QA rfl rfl rfl (QI (Qh7 hw hl) rfl rfl (.inr rfl) (Qa rfl ?_)))))
 refine hK _ _ (Qb (kp4 rfl rfl rfl rfl) ?_)
 refine QB ?_ -- 0
 refine Qf fun K hK => Qa rfl (Z3 rfl rfl (Qa rfl ?_))
 refine QE (g := 18) rfl (fun h1 => ?_) (fun h1 => ?_)
 ·try rw [h1]
  try simp only [qa, qb, qc, qd, qe, List.length_map] at h1
  refine Qt rfl (Qt rfl (Qt rfl (Qt rfl (Qt rfl (Qo rfl rfl (Qa rfl (Qt rfl (Qt rfl (Qt rfl (Qt rfl (Qt rfl ?_)))))))))))
  refine Qo rfl rfl ?_
  refine hK _ _ (Qb (kp5 rfl rfl rfl rfl rfl) ?_)
  refine Zs rfl (Qf fun K hK => Qa rfl (Qa rfl ?_))
  refine hK _ _ (Qb (kp2 rfl rfl) ?_)
  refine Qu (Qj ?_)
  rw [Qcj (.inl h1)]
  exact QS rfl rfl ⟨rfl, rfl⟩
 ·try rw [h1]
  try simp only [qa, qb, qc, qd, qe, List.length_map] at h1
  refine Qk rfl (Qa rfl (Qk rfl (Qh rfl rfl (Qk rfl (QA rfl rfl rfl (Qk rfl (QeP rfl rfl (Qk rfl (ZI rfl rfl (Qo rfl rfl (Qa rfl ?_)))))))))))
  refine QE (g := 25) rfl (fun h2 => ?_) (fun h2 => ?_)
  ·try rw [h2]
   try simp only [qa, qb, qc, qd, qe, List.length_map] at h2
   refine Qt rfl (Qt rfl (Qt rfl (Qt rfl (Qt rfl (Qo rfl rfl ?_)))))
   refine hK _ _ (Qb (kp5 rfl rfl rfl rfl rfl) ?_)
   refine Zs rfl (Qf fun K hK => Qa rfl (Qa rfl ?_))
   refine hK _ _ (Qb (kp2 rfl rfl) ?_)
   refine Qu (Qj ?_)
   rw [QlO hp h2]
   exact QS rfl rfl ⟨rfl, rfl⟩
  ·try rw [h2]
   try simp only [qa, qb, qc, qd, qe, List.length_map] at h2
   refine Qk rfl (Qa rfl (Qk rfl (Qh rfl rfl (Qk rfl (QA rfl rfl rfl (Qk rfl (QeW rfl rfl (Qk rfl (ZI rfl rfl (Qo rfl rfl ?_))))))))))
   refine hK _ _ (Qb (kp5 rfl rfl rfl rfl rfl) ?_)
   refine Qw rfl (fun h3 => ?_) (fun h3 => ?_)
   ·try rw [h3]
    try simp only [qa, qb, qc, qd, qe, List.length_map] at h3
    refine Qf fun K hK => Qa rfl (Qa rfl ?_)
    refine hK _ _ (Qb (kp2 rfl rfl) ?_)
    refine Qu (Qj ?_)
    rw [QlP h3]
    exact QS rfl rfl ⟨rfl, rfl⟩
   ·try rw [h3]
    try simp only [qa, qb, qc, qd, qe, List.length_map] at h3
    refine Qv (Qd (kp4 rfl rfl rfl rfl) (Qf fun K hK => Qa rfl (Qh rfl rfl (QU (ds0 := [3, 2, 1]) rfl rfl rfl rfl rfl (Qa rfl (Qh rfl rfl (QU (ds0 := [7, 3, 2, 1]) rfl rfl rfl rfl rfl (QeW rfl rfl (Qa rfl (QX (ds0 := [3, 2, 1]) (Qg6 hl) rfl rfl (.inr rfl) rfl rfl ?_))))))))))
    refine Qa rfl (QV rfl rfl (QX (ds0 := [1]) (Qk1 (s := ⟨t.u, Qfo (Zg w l t.u) t.m, Xq l, c⟩) hl) rfl rfl (.inl rfl) rfl rfl (Qa rfl (Qa rfl ?_))))
    refine hK _ _ (Qb (kp2 rfl rfl) ?_)
    refine Qu ?_
    rw [Qif hp (by omega) h2 h3]
    exact QS rfl rfl ⟨rfl, rfl⟩
end Go.Proofs
namespace M25
open Go Go.Abs M3
/-! ### prop: what is left of each unit, scans -/
def ZM (w : Qp) (l : List StepT) : List Int := (List.range w.length).map fun k => Zg w l ((k : Nat) : Int)
theorem QaX (w : Qp) (l : List StepT) : (ZM w l).length = w.length := by simp [ZM]
def Qc8 (w : Qp) (i : Nat) : List Int := (List.range w.length).map fun k => if k < i then Yx w ((k : Nat) : Int) else 0
theorem Qis (w : Qp) (i : Nat) : (Qc8 w i).length = w.length := by simp [Qc8]
theorem Qle (w : Qp) : Qc8 w 0 = List.replicate w.length 0 := by
  refine List.ext_getElem (by simp [Qc8]) fun i h1 h2 => ?_
  simp [Qc8]
theorem Qkj {w : Qp} {i : Nat} : Qc8 w (i + 1) = (Qc8 w i).set i (Yx w ((i : Nat) : Int)) := by
  refine List.ext_getElem (by simp [Qc8]) fun k h1 h2 => ?_
  rw [List.getElem_set]
  simp only [Qc8, List.getElem_map, List.getElem_range]
  by_cases e : i = k
  · subst e; simp
  · rw [if_neg e]
    by_cases h : k < i
    · rw [if_pos h, if_pos (by omega)]
    · rw [if_neg h, if_neg (by omega)]
theorem Qir (w : Qp) {i : Nat} (h : w.length <= i) : Qc8 w i = ZM w [] := by
  refine List.ext_getElem (by simp [Qc8, ZM]) fun k h1 h2 => ?_
  simp only [Qc8, ZM, List.getElem_map, List.getElem_range]
  rw [Qis] at h1
  rw [if_pos (by omega)]; rfl
theorem Qkl {w : Qp} {l : List StepT} {k : Nat} (h : k < (ZM w l).length) : (ZM w l)[k] = Zg w l ((k : Nat) : Int) := by simp [ZM]
theorem QgD {w : Qp} {l : List StepT} {s : StepT} (h0 : 0 <= s.u) (h1 : s.u < w.length) : ZM w (l ++ [s]) = (ZM w l).set s.u.toNat s.m := by
  refine List.ext_getElem (by simp [ZM]) fun k q1 q2 => ?_
  rw [List.getElem_set]
  simp only [ZM, List.getElem_map, List.getElem_range]
  rw [QaX] at q1
  rw [Qag]
  by_cases e : s.u.toNat = k
  · rw [if_pos e, if_pos ⟨by omega, QeJ (by omega) (by omega)⟩]
  · rw [if_neg e, if_neg (by intro h; exact e (by omega))]
theorem Qlg {w : Qp} {l : List StepT} {s : StepT} (h : ¬ 0 <= s.u \/ ¬ s.u < w.length) : ZM w (l ++ [s]) = ZM w l := by
  refine List.ext_getElem (by simp [ZM]) fun k q1 q2 => ?_
  simp only [ZM, List.getElem_map, List.getElem_range]
  rw [QaX] at q1
  rw [Qag, if_neg]
  rintro ⟨h1, _⟩
  omega
theorem Qkm {w : Qp} {l : List StepT} {i : Nat} (h : i < l.length) (h0 : 0 <= l[i].u) (h1 : l[i].u < w.length) : ZM w (l.take (i + 1)) = (ZM w (l.take i)).set l[i].u.toNat l[i].m := by
  rw [List.take_succ_eq_append_getElem h, QgD h0 h1]
theorem Qe5 {w : Qp} {l : List StepT} {i : Nat} (h : i < l.length) (hn : ¬ 0 <= l[i].u \/ ¬ l[i].u < w.length) : ZM w (l.take (i + 1)) = ZM w (l.take i) := by
  rw [List.take_succ_eq_append_getElem h, Qlg hn]
def hAt (hv : List Int) (u : Int) : Int := if 0 <= u /\ u < hv.length then hv.getD u.toNat 0 else 0
theorem Qoz {hv : List Int} {u : Int} (h0 : 0 <= u) (h1 : u < hv.length) : hAt hv u = hv[u.toNat]'(by omega) := by
  rw [hAt, if_pos ⟨h0, h1⟩, List.getD_eq_getElem?_getD, List.getElem?_eq_getElem (by omega)]; rfl
theorem Qjq {hv : List Int} {u : Int} (h : ¬ 0 <= u \/ ¬ u < hv.length) : hAt hv u = 0 := by
  rw [hAt, if_neg]; omega
theorem Ql8 (w : Qp) (l : List StepT) : hAt (ZM w l) = Zg w l := by
  funext u
  by_cases h : 0 <= u /\ u < w.length
  · rw [Qoz h.1 (by rw [QaX]; exact h.2), Qkl, Int.toNat_of_nonneg h.1]
  · rw [Qjq (by rw [QaX]; omega), QdG]
    exact Qbi (by omega)
def X1 (h : Int -> Int) : List TermT -> Int -> Option Int
  | [], a => some a
  | t :: r, a => if QaK (h t.u) t.m = 0 then none else if QaK (h t.u) t.m = 1 then (if 0 <= a then none else X1 h r t.u) else X1 h r a
theorem Qfc {h : Int -> Int} {inc : List TermT} {a : Int} {i : Nat} (hi : i < inc.length) : X1 h (inc.drop i) a = if QaK (h inc[i].u) inc[i].m = 0 then none else if QaK (h inc[i].u) inc[i].m = 1 then (if 0 <= a then none else X1 h (inc.drop (i + 1)) inc[i].u) else X1 h (inc.drop (i + 1)) a := by
  rw [List.drop_eq_getElem_cons hi, X1]
theorem QmB {h : Int -> Int} {inc : List TermT} {a : Int} {i : Nat} (hi : inc.length <= i) : X1 h (inc.drop i) a = some a := by
  rw [List.drop_eq_nil_of_le hi, X1]
def Qde (h : Int -> Int) : Nat -> List (List TermT) -> Int × Int
  | _, [] => (-1, -1)
  | i, x :: r => match X1 h x (-1) with
    | some u => ((i : Int), u)
    | none => Qde h (i + 1) r
theorem QmU {h : Int -> Int} {db : List (List TermT)} {i : Nat} (hi : i < db.length) (ho : (X1 h db[i] (-1)).isSome = true) : Qde h i (db.drop i) = ((i : Int), (X1 h db[i] (-1)).getD 0) := by
  rw [List.drop_eq_getElem_cons hi, Qde]
  cases hc : X1 h db[i] (-1) with
  | none => rw [hc] at ho; cases ho
  | some u => rfl
theorem Qob {h : Int -> Int} {db : List (List TermT)} {i : Nat} (hi : i < db.length) (ho : (X1 h db[i] (-1)).isSome = false) : Qde h i (db.drop i) = Qde h (i + 1) (db.drop (i + 1)) := by
  rw [List.drop_eq_getElem_cons hi, Qde]
  cases hc : X1 h db[i] (-1) with
  | none => rfl
  | some u => rw [hc] at ho; cases ho
theorem QmT {h : Int -> Int} {db : List (List TermT)} {i : Nat} (hi : db.length <= i) : Qde h i (db.drop i) = (-1, -1) := by rw [List.drop_eq_nil_of_le hi, Qde]
theorem QeD (m : Int) : ZQ 0 m = 2 := by
  rw [ZQ, if_pos]
  exact Qa5.2 fun i hi => by rw [QhP] at hi; cases hi
theorem Qgc (x m : Int) : ZQ x m = 0 \/ ZQ x m = 1 \/ ZQ x m = 2 := by
  unfold ZQ
  split
  · exact .inr (.inr rfl)
  · split
    · exact .inl rfl
    · exact .inr (.inl rfl)
theorem Qew {h : Int -> Int} (hI : ∀ u, I64 (h u)) (hneg : ∀ u, u < 0 -> h u = 0) : ∀ (l : List TermT) (a : Int), (a = -1 \/ 0 <= a) ->
    (∀ b, X1 h l a = some b -> ZN h l a = b /\ (b = a \/ (a = -1 /\ 0 <= b)) /\ (b = a -> ∀ t ∈ l, ZQ (h t.u) t.m = 2)) /\ (X1 h l a = none -> ZN h l a = -1 /\ ∃ t ∈ l, ZQ (h t.u) t.m ≠ 2)
  | [], a, ha => ⟨fun b hb => by simp only [X1, Option.some.injEq] at hb; subst hb; exact ⟨rfl, .inl rfl, by simp⟩, fun hb => by simp [X1] at hb⟩
  | t :: r, a, ha => by
    rw [X1, ZN, Qoj (hI t.u)]
    rcases Qgc (h t.u) t.m with e | e | e
    · simp only [show (ZQ (h t.u) t.m = 0) = True from by rw [e]; simp, if_true]
      exact ⟨(fun b hb => by cases hb), fun _ => ⟨by first | rfl | trivial, t, by simp, by rw [e]; decide⟩⟩
    · simp only [show (ZQ (h t.u) t.m = 0) = False from by rw [e]; simp, show (ZQ (h t.u) t.m = 1) = True from by rw [e]; simp, if_true, if_false]
      have hu : 0 <= t.u := Classical.byContradiction fun hn => by
        rw [hneg t.u (by omega), QeD] at e; cases e
      by_cases h0 : 0 <= a
      · rw [if_pos h0, if_pos h0]
        exact ⟨(fun b hb => by cases hb), fun _ => ⟨rfl, t, by simp, by rw [e]; decide⟩⟩
      · rw [if_neg h0, if_neg h0]
        obtain ⟨q1, q2⟩ := Qew hI hneg r t.u (.inr hu)
        refine ⟨fun b hb => ?_, fun hb => ?_⟩
        · obtain ⟨p1, p2, _⟩ := q1 b hb
          rcases p2 with rfl | ⟨p2, _⟩
          · exact ⟨p1, .inr ⟨by omega, hu⟩, fun e2 => by omega⟩
          · omega
        · exact ⟨(q2 hb).1, t, by simp, by rw [e]; decide⟩
    · simp only [show (ZQ (h t.u) t.m = 0) = False from by rw [e]; simp, show (ZQ (h t.u) t.m = 1) = False from by rw [e]; simp, if_false]
      obtain ⟨q1, q2⟩ := Qew hI hneg r a ha
      refine ⟨fun b hb => ?_, fun hb => ?_⟩
      · obtain ⟨p1, p2, p3⟩ := q1 b hb
        refine ⟨p1, p2, fun e2 s hs => ?_⟩
        rcases List.mem_cons.1 hs with rfl | hs
        · exact e
        · exact p3 e2 s hs
      · obtain ⟨p1, s, hs, p2⟩ := q2 hb
        exact ⟨p1, s, by simp [hs], p2⟩
theorem Qkk {w : Qp} {l : List StepT} {u : Int} (h : u < 0) : Zg w l u = 0 := QdG (Qbi (.inl h))
theorem QhO {w : Qp} {l : List StepT} {inc : List TermT} : QfV w l inc = true ↔ ∀ t ∈ inc, ZQ (Zg w l t.u) t.m = 2 := by simp [QfV]
theorem QkM {w : Qp} {l : List StepT} (hp : Y1 w l) : ∀ (db : List (List TermT)) (i : Nat), Qde (Zg w l) i db = YG w l i db
  | [], _ => rfl
  | x :: db, i => by
    rw [Qde, YG]
    obtain ⟨q1, q2⟩ := Qew (h := Zg w l) (fun u => (QaI hp u).i64) (fun u => Qkk) x (-1) (.inl rfl)
    cases hc : X1 (Zg w l) x (-1) with
    | none =>
      obtain ⟨p1, t, ht, p2⟩ := q2 hc
      rw [if_neg (fun hs => p2 (QhO.1 hs t ht)), if_neg (by show ¬ 0 <= ZN _ _ _; rw [p1]; omega)]
      exact QkM hp db (i + 1)
    | some b =>
      obtain ⟨p1, p2, p3⟩ := q1 b hc
      by_cases hs : QfV w l x = true
      · rw [if_pos hs]
        simp only
        rcases p2 with rfl | ⟨_, p2⟩
        · rfl
        · exfalso
          have := QhO.1 hs
          have key : ∀ (r : List TermT), (∀ t ∈ r, ZQ (Zg w l t.u) t.m = 2) -> ZN (Zg w l) r (-1) = -1 := by
            intro r
            induction r with
            | nil => intro _; rfl
            | cons t r ih =>
              intro h
              rw [ZN, if_neg (by rw [h t (by simp)]; decide), if_neg (by rw [h t (by simp)]; decide)]
              exact ih fun s hs => h s (by simp [hs])
          rw [key x this] at p1
          omega
      · rw [if_neg hs]
        have hb : b ≠ -1 := fun e => hs (QhO.2 (p3 e))
        have h0 : 0 <= b := by
          rcases p2 with e | ⟨_, e⟩
          · exact absurd e hb
          · exact e
        have hm : QeU w l x = b := p1
        rw [hm, if_pos h0]
theorem QmS {w : Qp} {db : List (List TermT)} {l : List StepT} (hp : Y1 w l) : Qde (hAt (ZM w l)) 0 db = Zx w db l := by rw [Ql8, QkM hp]; rfl
theorem QjB {h : Int -> Int} (hneg : ∀ u, u < 0 -> h u = 0) : ∀ (l : List TermT) (a : Int), 0 <= ZN h l a -> (a = ZN h l a /\ ∀ t ∈ l, ZQ (h t.u) t.m = 2) \/ (¬ 0 <= a /\ ∃ k, ∃ hk : k < l.length, l[k].u = ZN h l a /\ ZQ (h l[k].u) l[k].m = 1 /\ ∀ j, ∀ hj : j < l.length, j ≠ k -> ZQ (h l[j].u) l[j].m = 2)
  | [], a, _ => .inl ⟨rfl, by simp⟩
  | t :: r, a, h0 => by
    rw [ZN] at h0 ⊢
    rcases Qgc (h t.u) t.m with e | e | e
    · rw [if_pos e] at h0; omega
    · rw [if_neg (by rw [e]; decide), if_pos e] at h0 ⊢
      by_cases ha : 0 <= a
      · rw [if_pos ha] at h0; omega
      · rw [if_neg ha] at h0 ⊢
        rcases QjB hneg r t.u h0 with ⟨q1, q2⟩ | ⟨q1, k, hk, q2, q3, q4⟩
        · refine .inr ⟨ha, 0, by simp, by simpa using q1, by simpa using e, fun j hj hn => ?_⟩
          obtain ⟨i, rfl⟩ : ∃ i, j = i + 1 := ⟨j - 1, by omega⟩
          simp only [List.getElem_cons_succ]
          exact q2 _ (List.getElem_mem _)
        · rw [hneg t.u (by omega), QeD] at e; cases e
    · rw [if_neg (by rw [e]; decide), if_neg (by rw [e]; decide)] at h0 ⊢
      rcases QjB hneg r a h0 with ⟨q1, q2⟩ | ⟨q1, k, hk, q2, q3, q4⟩
      · exact .inl ⟨q1, fun s hs => by
          rcases List.mem_cons.1 hs with rfl | hs
          · exact e
          · exact q2 s hs⟩
      · refine .inr ⟨q1, k + 1, by simpa using hk, by simpa using q2, by simpa using q3, fun j hj hn => ?_⟩
        cases j with
        | zero => simpa using e
        | succ j => simp only [List.getElem_cons_succ]; exact q4 j (by simpa using hj) (by omega)
structure OpenAt (w : Qp) (db : List (List TermT)) (l : List StepT) (a : Nat) (k : Nat) : Prop where
  ha : a < db.length
  hk : k < db[a].length
  eq : Zx w db l = ((a : Int), db[a][k].u)
  one : ZQ (Zg w l db[a][k].u) db[a][k].m = 1
  two : ∀ j, ∀ hj : j < db[a].length, j ≠ k -> ZQ (Zg w l db[a][j].u) db[a][j].m = 2
theorem Qd0 {w : Qp} {db : List (List TermT)} {l : List StepT} (h : ¬ (Zx w db l).2 < 0) : ∃ a k, OpenAt w db l a k := by
  have h' := h
  unfold Zx at h
  rcases Qfe w l db 0 with e | ⟨a, _, ha, ⟨e, _⟩ | ⟨_, h0, e⟩⟩
  · rw [e] at h; simp at h
  · rw [e] at h; simp at h
  · simp only [Nat.sub_zero] at ha h0 e
    rcases QjB (fun u hu => Qkk hu) db[a] (-1) h0 with ⟨q1, _⟩ | ⟨_, k, hk, q2, q3, q4⟩
    · have : (0 : Int) <= -1 := by rw [q1]; exact h0
      omega
    · exact ⟨a, k, ha, hk, by rw [Zx, e, q2]; rfl, q3, q4⟩
theorem Qod {w : Qp} {db : List (List TermT)} {l : List StepT} (h : (Zx w db l).1 < 0) : (Zx w db l).2 < 0 := by
  refine Classical.byContradiction fun hn => ?_
  obtain ⟨a, k, ho⟩ := Qd0 hn
  rw [ho.eq] at h; simp only at h; omega
theorem Qi4 {x m : Int} (h : ZQ x m = 1) : QbD x m ≠ 0 /\ ¬ QbD x m = x := by
  unfold ZQ at h
  split at h
  · cases h
  · rename_i h1
    split at h
    · cases h
    · rename_i h2; exact ⟨h2, h1⟩
theorem QoH {w : Qp} {l : List StepT} {u m : Int} (h : ZQ (Zg w l u) m = 1) : inW w u = true := by
  cases hw : inW w u
  · rw [QdG hw, QeD] at h; cases h
  · rfl
theorem QfX {f u : Int} : ∀ {l : List TermT} {k : Nat} (hk : k < l.length), l[k].u = u -> (∀ j, ∀ hj : j < k, (l[j]'(by omega)).u ≠ u) -> QbA f u l = l[k].m
  | t :: l, 0, _, h, _ => by rw [QbA, if_pos (by simpa using h)]; rfl
  | t :: l, k + 1, hk, h, hn => by
    have h0 := hn 0 (by omega)
    simp only [List.getElem_cons_zero] at h0
    rw [QbA, if_neg h0, List.getElem_cons_succ]
    exact QfX (by simpa using hk) (by simpa using h) fun j hj => by
      have := hn (j + 1) (by omega)
      simpa using this
theorem IncOk.uniq {w : Qp} {l : List TermT} (h : IncOk w l) {i j : Nat} (hi : i < l.length) (hj : j < l.length) (e : l[i].u = l[j].u) : i = j := by
  have hp := List.pairwise_iff_getElem.1 h.1
  rcases Nat.lt_trichotomy i j with h1 | h1 | h1
  · have := hp i j hi hj h1; omega
  · exact h1
  · have := hp j i hj hi h1; omega
theorem OpenAt.mask {w : Qp} {db : List (List TermT)} {l : List StepT} {a k : Nat} (h : OpenAt w db l a k) (hi : ∀ x ∈ db, IncOk w x) : Qc9 w (db[a]'h.ha) ((db[a]'h.ha)[k]'h.hk).u = ((db[a]'h.ha)[k]'h.hk).m :=
  QfX h.hk rfl fun j hj e => by
    have := (hi _ (List.getElem_mem h.ha)).uniq (by have := h.hk; omega) h.hk e
    omega
theorem OpenAt.step {w : Qp} {db : List (List TermT)} {l : List StepT} {a k : Nat} (h : OpenAt w db l a k) (hp : Y1 w l) : Yj w l ((db[a]'h.ha)[k]'h.hk) a = some (l ++ [⟨((db[a]'h.ha)[k]'h.hk).u, Qfo (Zg w l ((db[a]'h.ha)[k]'h.hk).u) ((db[a]'h.ha)[k]'h.hk).m, Xq l, a⟩]) := by
  obtain ⟨h1, h2⟩ := Qi4 h.one
  refine Qif hp (by omega) h1 fun e => h2 ?_
  rw [XF (QaI hp _).i64, <- QkC]; exact e
theorem Qex {w : Qp} {l : List StepT} {s : StepT} (hp : Y1 w l) (hs : Lo s.m) : Y1 w (l ++ [s]) := fun t ht => by
  rcases List.mem_append.1 ht with ht | ht
  · exact hp t ht
  · simp only [List.mem_singleton] at ht; subst ht; exact hs
def QcQ (w : Qp) (l : List StepT) : Nat -> Nat
  | 0 => 0
  | k + 1 => QcQ w l k + (XJ (Zg w l ((k : Nat) : Int))).length
def tot (w : Qp) (l : List StepT) : Nat := QcQ w l w.length
theorem tot_le (w : Qp) (l : List StepT) : ∀ n, QcQ w l n <= 17 * n
  | 0 => Nat.le_refl _
  | n + 1 => by
    have := tot_le w l n
    have h2 : (XJ (Zg w l ((n : Nat) : Int))).length <= 17 := QaV _ 17
    rw [QcQ]; omega
theorem QkQ {w : Qp} {l : List StepT} {u m lv c : Int} (hp : Y1 w l) (hu : inW w u = true) (hm : QbD (Zg w l u) m ≠ 0) : ∀ n, QcQ w (l ++ [⟨u, Qfo (Zg w l u) m, lv, c⟩]) n <= QcQ w l n /\ (u < n -> QcQ w (l ++ [⟨u, Qfo (Zg w l u) m, lv, c⟩]) n < QcQ w l n)
  | 0 => ⟨Nat.le_refl _, fun h => by rw [QbV] at hu; omega⟩
  | n + 1 => by
    obtain ⟨h1, h2⟩ := QkQ (lv := lv) (c := c) hp hu hm n
    rw [QcQ, QcQ, Qag]
    by_cases e : u = n
    · rw [if_pos ⟨e, by rw [<- e]; exact hu⟩]
      subst e
      have := QlT (QaI hp _) hm
      exact ⟨by simp only; omega, fun _ => by simp only; omega⟩
    · rw [if_neg (fun h => e h.1)]
      exact ⟨by omega, fun h => by have := h2 (by omega); omega⟩
theorem Qqk {w : Qp} {l : List StepT} {u m lv c : Int} (hp : Y1 w l) (hu : inW w u = true) (hm : QbD (Zg w l u) m ≠ 0) : tot w (l ++ [⟨u, Qfo (Zg w l u) m, lv, c⟩]) < tot w l :=
  (QkQ hp hu hm w.length).2 (by rw [QbV] at hu; omega)
def Qns (w : Qp) (l : List StepT) (t : TermT) (c : Int) : StepT := ⟨t.u, Qfo (Zg w l t.u) t.m, Xq l, c⟩
theorem OpenAt.step' {w : Qp} {db : List (List TermT)} {l : List StepT} {a k : Nat} (h : OpenAt w db l a k) (hp : Y1 w l) : Yj w l ((db[a]'h.ha)[k]'h.hk) a = some (l ++ [Qns w l ((db[a]'h.ha)[k]'h.hk) a]) := h.step hp
theorem OpenAt.inW {w : Qp} {db : List (List TermT)} {l : List StepT} {a k : Nat} (h : OpenAt w db l a k) : 0 <= ((db[a]'h.ha)[k]'h.hk).u /\ ((db[a]'h.ha)[k]'h.hk).u < w.length := QbV.1 (QoH h.one)
theorem OpenAt.go {w : Qp} {db : List (List TermT)} {l : List StepT} {a k : Nat} (h : OpenAt w db l a k) (hp : Y1 w l) (hi : ∀ x ∈ db, IncOk w x) {n : Nat} (hn : 0 < n) : Qbr w db n l = Qbr w db (n - 1) (l ++ [Qns w l ((db[a]'h.ha)[k]'h.hk) a]) := by
  have h2 : ¬ (Zx w db l).2 < 0 := by rw [h.eq]; have := h.inW.1; simp only; omega
  have hd : (Zx w db l).1.toNat < db.length := by rw [h.eq]; simpa using h.ha
  rw [QkK h2 hn hd]
  have e1 : db[(Zx w db l).1.toNat]'hd = db[a]'h.ha := by
    congr 1; rw [h.eq]; simp
  rw [e1, h.eq]
  simp only
  rw [h.mask hi, h.step' hp]; rfl
theorem OpenAt.plain {w : Qp} {db : List (List TermT)} {l : List StepT} {a k : Nat} (h : OpenAt w db l a k) (hp : Y1 w l) : Y1 w (l ++ [Qns w l ((db[a]'h.ha)[k]'h.hk) a]) := Qex hp (Qp8 (QaI hp _) _)
theorem OpenAt.tot {w : Qp} {db : List (List TermT)} {l : List StepT} {a k : Nat} (h : OpenAt w db l a k) (hp : Y1 w l) : M25.tot w (l ++ [Qns w l ((db[a]'h.ha)[k]'h.hk) a]) < M25.tot w l := Qqk hp (QoH h.one) (Qi4 h.one).1
theorem Qiv {w : Qp} {l : List StepT} {t : TermT} {c : Int} (h0 : 0 <= t.u) (h1 : t.u < w.length) (h2 : t.u.toNat < (ZM w l).length) : ZM w (l ++ [Qns w l t c]) = (ZM w l).set t.u.toNat (Qfo ((ZM w l)[t.u.toNat]) t.m) := by
  rw [QgD h0 h1, Qkl, Int.toNat_of_nonneg h0]; rfl
end M25
