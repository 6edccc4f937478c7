/- Part 4 of the means of the proof: a verified abstract evaluator, the prepared functions, and contracts of functions. It states nothing of the claim by itself. -/
import Derived.Test.YtnkkhniiddjibaaB3
set_option linter.unusedSimpArgs false
set_option linter.unusedVariables false
namespace Go.Proofs
open Go Go.Abs M3 M25
set_option linter.unusedVariables false
set_option linter.unusedSimpArgs false
theorem XT {e a b c : Int} {p q : List UInt8} {f : Bool} : Ok Try.prog 87 [.agg [.int .i64 e, .int .i64 a, .int .i64 b, .int .i64 c, .str p, .str q, .bool f]] (.bool (QgC e a b c p q f)) := by
 refine Ok.ofT Z2 Try.func87 Qsc (Nat.le_of_ble_eq_true rfl) ?_
 show TW _ _ tf87.body _ _
 refine Qe fun K hK => Zy rfl rfl rfl (Qa rfl ?_)
 refine hK _ _ (Qb (kp1 rfl) ?_)
 refine Qe fun K hK => Qh rfl rfl (Qz rfl rfl rfl (X6 rfl rfl (Qa rfl ?_)))
 refine QF (g := 6) rfl (fun h1 => ?_) (fun h1 => ?_)
 ·try rw [h1]
  try simp only [qa, qb, qc, qd, qe] at h1
  refine Qt rfl (Qt rfl (Qt rfl (Qt rfl (Zu rfl (Zu rfl (Zu rfl (Zu rfl (Qt rfl (Qt rfl (Zu rfl (Zu rfl ?_)))))))))))
  refine Zu rfl (Zu rfl (Qt rfl (Qn rfl rfl (Qa rfl ?_))))
  refine hK _ _ (Qb (kp1 rfl) ?_)
  refine Qu (Qs rfl ?_)
  simp_all [QgC]
 ·try rw [h1]
  try simp only [qa, qb, qc, qd, qe] at h1
  refine Qk rfl (Qh rfl rfl (Qk rfl (Qz rfl rfl rfl (Qk rfl (Yi rfl (Qk rfl (Qa rfl ?_)))))))
  refine QF (g := 10) rfl (fun h2 => ?_) (fun h2 => ?_)
  ·try rw [h2]
   try simp only [qa, qb, qc, qd, qe] at h2
   refine Qk rfl (Qh rfl rfl (Qk rfl (Qh rfl rfl (Qk rfl (Qz rfl rfl rfl (Qk rfl (QgU rfl rfl (Qk rfl (Qn rfl rfl (Qk rfl (Qa rfl ?_)))))))))))
   refine QF (g := 16) rfl (fun h3 => ?_) (fun h3 => ?_)
   ·try rw [h3]
    try simp only [qa, qb, qc, qd, qe] at h3
    refine Qk rfl (Qh rfl rfl (Qk rfl (QH (cs := [_, _, _, _, _]) rfl rfl rfl rfl (Qk rfl (QG (XS) rfl rfl (.inr rfl) (Qk rfl (Yi rfl (Qk rfl (Qn rfl rfl (Qn rfl rfl (Qa rfl ?_)))))))))))
    refine hK _ _ (Qb (kp1 rfl) ?_)
    refine Qu (Qs rfl ?_)
    simp_all [QgC]
   ·try rw [h3]
    try simp only [qa, qb, qc, qd, qe] at h3
    refine Qt rfl (Qt rfl (Qt rfl (Qt rfl (Qk rfl (Qn rfl rfl (Qn rfl rfl (Qa rfl ?_)))))))
    refine hK _ _ (Qb (kp1 rfl) ?_)
    refine Qu (Qs rfl ?_)
    simp_all [QgC]
  ·try rw [h2]
   try simp only [qa, qb, qc, qd, qe] at h2
   refine Qt rfl (Qt rfl (Qt rfl (Qt rfl (Qk rfl (Qn rfl rfl (Qk rfl (Qa rfl (Qt rfl (Qt rfl (Qt rfl (Qt rfl ?_)))))))))))
   refine Qk rfl (Qn rfl rfl (Qn rfl rfl (Qa rfl ?_)))
   refine hK _ _ (Qb (kp1 rfl) ?_)
   refine Qu (Qs rfl ?_)
   simp_all [QgC]
theorem QcI {a b c : Int} {p q : List UInt8} : Ok Try.prog 39 [.agg [.int .i64 a, .int .i64 b, .int .i64 c, .str p, .str q]] (.agg (dCu (QfH a b c))) := by
 refine Ok.ofT Z2 Try.func39 Qrq (Nat.le_of_ble_eq_true rfl) ?_
 show TW _ _ tf39.body _ _
 refine Qe fun K hK => Zy rfl rfl rfl (ZD rfl ?_)
 refine hK _ _ (Qb (kp2 rfl rfl) ?_)
 refine QC ?_ -- 0
 refine Qe fun K hK => QH (cs := [_, _, _, _, _]) rfl rfl rfl rfl (QG (XS) rfl rfl (.inr rfl) ?_)
 refine hK _ _ (Qb (kp3 rfl rfl rfl) ?_)
 refine Qw rfl (fun h1 => ?_) (fun h1 => ?_)
 ·try rw [h1]
  try simp only [qa, qb, qc, qd, qe] at h1
  refine Qe fun K hK => QG (YX) rfl rfl (.inl rfl) (Q5 rfl rfl rfl rfl rfl rfl rfl rfl ?_)
  refine hK _ _ (Qb (kp1 rfl) ?_)
  refine Qu (Qi (Post.eq (ZB (ds := [.int .i64 _, .int .i64 _, .int .i64 _, .int .i64 _, .str _, .str _, .bool _]) (cs := [_, _, _, _, _, _, _]) rfl rfl rfl rfl rfl) ?_))
  simp [QfH, dCu, Qbv, h1]
 ·try rw [h1]
  try simp only [qa, qb, qc, qd, qe] at h1
  refine Qv (Qd (kp2 rfl rfl) (Qe fun K hK => Qh rfl rfl (Qz rfl rfl rfl (Qh rfl rfl (Qz rfl rfl rfl (Qh rfl rfl (Qz rfl rfl rfl (QT rfl rfl (QG (YJ) rfl rfl (.inl rfl) (Q5 rfl rfl rfl rfl rfl rfl rfl rfl ?_))))))))))
  refine hK _ _ (Qb (kp1 rfl) ?_)
  refine Qu (Post.eq (ZB (ds := [.int .i64 _, .int .i64 _, .int .i64 _, .int .i64 _, .str _, .str _, .bool _]) (cs := [_, _, _, _, _, _, _]) rfl rfl rfl rfl rfl) ?_)
  simp [QfH, dCu, Qbv, h1]
theorem QbN {a b c : Int} {p q : List UInt8} : Ok Try.prog 40 [.agg [.int .i64 a, .int .i64 b, .int .i64 c, .str p, .str q]] (.agg (dCu (QdA a b c))) := by
 refine Ok.ofT Z2 Try.func40 Qrr (Nat.le_of_ble_eq_true rfl) ?_
 show TW _ _ tf40.body _ _
 refine Qe fun K hK => Zy rfl rfl rfl (ZD rfl ?_)
 refine hK _ _ (Qb (kp2 rfl rfl) ?_)
 refine Qe fun K hK => Qh rfl rfl (Qz rfl rfl rfl (Qh rfl rfl (Qz rfl rfl rfl (Qh rfl rfl (Qz rfl rfl rfl (QT rfl rfl (QG (QcV (by simp) (by simp)) rfl rfl (.inl rfl) (Qa rfl (QP rfl rfl (QP rfl rfl ?_))))))))))
 refine ZD rfl (Q5 rfl rfl rfl rfl rfl rfl rfl rfl (Qa rfl ?_))
 refine hK _ _ (Qb (kp3 rfl rfl rfl) ?_)
 refine QC ?_ -- 0
 refine Qe fun K hK => Qa rfl (Yi rfl ?_)
 refine hK _ _ (Qb (kp3 rfl rfl rfl) ?_)
 refine Qw rfl (fun h1 => ?_) (fun h1 => ?_)
 ·try rw [h1]
  try simp only [qa, qb, qc, qd, qe] at h1
  refine Qe fun K hK => QG (Y8) rfl rfl (.inl rfl) (Q5 rfl rfl rfl rfl rfl rfl rfl rfl ?_)
  refine hK _ _ (Qb (kp1 rfl) ?_)
  refine Qu (Qi (Post.eq (ZB (ds := [.int .i64 _, .int .i64 _, .int .i64 _, .int .i64 _, .str _, .str _, .bool _]) (cs := [_, _, _, _, _, _, _]) rfl rfl rfl rfl rfl) ?_))
  cases hn : Qiv a b c [] [] <;> simp [QdA, dCu, QeL, hn] at *
 ·try rw [h1]
  try simp only [qa, qb, qc, qd, qe] at h1
  refine Qv (Qd (kp2 rfl rfl) (Qe fun K hK => QH (cs := [_, _, _, _, _]) rfl rfl rfl rfl (QG (YJ) rfl rfl (.inl rfl) (Q5 rfl rfl rfl rfl rfl rfl rfl rfl ?_))))
  refine hK _ _ (Qb (kp1 rfl) ?_)
  refine Qu (Post.eq (ZB (ds := [.int .i64 _, .int .i64 _, .int .i64 _, .int .i64 _, .str _, .str _, .bool _]) (cs := [_, _, _, _, _, _, _]) rfl rfl rfl rfl rfl) ?_)
  cases hn : Qiv a b c [] [] <;> simp [QdA, dCu, QeL, hn] at *
theorem XU  : Ok Try.prog 56 [] (ZC [(Qbv, QeL)]) := by
 refine Ok.ofT Z2 Try.func56 QrH (Nat.le_of_ble_eq_true rfl) ?_
 show TW _ _ tf56.body _ _
 refine Qe fun K hK => Qa rfl ?_
 refine hK _ _ (Qb (Q4) ?_)
 refine Qe fun K hK => QG (YX) rfl rfl (.inl rfl) (QG (Y8) rfl rfl (.inl rfl) (QT rfl rfl (QB rfl rfl (Qa rfl ?_))))
 refine hK _ _ (Qb (kp1 rfl) ?_)
 refine Qu (Yp rfl ?_)
 rfl
theorem Z5  : Ok Try.prog 36 [] (Qg2 ([], [])) := by
 refine Ok.ofT Z2 Try.func36 Qrn (Nat.le_of_ble_eq_true rfl) ?_
 show TW _ _ tf36.body _ _
 refine Qe fun K hK => ZD rfl ?_
 refine hK _ _ (Qb (kp1 rfl) ?_)
 refine Qe fun K hK => QT rfl rfl (Q5 rfl rfl rfl rfl rfl rfl rfl rfl ?_)
 refine hK _ _ (Qb (kp1 rfl) ?_)
 refine Qu (Post.eq (ZB (ds := [.sl _, .sl _]) (cs := [_, _]) rfl rfl rfl rfl rfl) ?_)
 rfl
theorem Qas  : Ok Try.prog 34 [] (Qg2 ([(Qbv, QeL)], [(Qbv, QeL)])) := by
 refine Ok.ofT Z2 Try.func34 Qrl (Nat.le_of_ble_eq_true rfl) ?_
 show TW _ _ tf34.body _ _
 refine Qe fun K hK => ZD rfl ?_
 refine hK _ _ (Qb (kp1 rfl) ?_)
 refine Qe fun K hK => QG (XU) rfl rfl (.inl rfl) (QG (XU) rfl rfl (.inl rfl) (QT rfl rfl (Q5 rfl rfl rfl rfl rfl rfl rfl rfl ?_)))
 refine hK _ _ (Qb (kp1 rfl) ?_)
 refine Qu (Post.eq (ZB (ds := [.sl _, .sl _]) (cs := [_, _]) rfl rfl rfl rfl rfl) ?_)
 rfl
theorem XR {a b c : Int} {p q : List UInt8} (hp : p.length <= 1000000) (hq : q.length <= 1000000) : Ok Try.prog 17 [.agg [.int .i64 a, .int .i64 b, .int .i64 c, .str p, .str q]] (Qg2 (Xc a b c p q)) := by
 refine Ok.ofT Z2 Try.func17 Qq4 (Nat.le_of_ble_eq_true rfl) ?_
 show TW _ _ tf17.body _ _
 refine Qe fun K hK => Zy rfl rfl rfl (ZD rfl ?_)
 refine hK _ _ (Qb (kp2 rfl rfl) ?_)
 refine QC ?_ -- 0
 refine Qe fun K hK => QH (cs := [_, _, _, _, _]) rfl rfl rfl rfl (QG (Zf (by omega) (by omega)) rfl rfl (.inr rfl) (Yi rfl ?_))
 refine hK _ _ (Qb (kp3 rfl rfl rfl) ?_)
 refine Qw rfl (fun h1 => ?_) (fun h1 => ?_)
 ·try rw [h1]
  try simp only [qa, qb, qc, qd, qe] at h1
  refine Qe fun K hK => QG (Z5) rfl rfl (.inl rfl) (Q5 rfl rfl rfl rfl rfl rfl rfl rfl ?_)
  refine hK _ _ (Qb (kp1 rfl) ?_)
  refine Qu (Qi (Post.eq (ZB (ds := [.sl _, .sl _]) (cs := [_, _]) rfl rfl rfl rfl rfl) ?_))
  simp [Xc, Qg2, ZC, QeJ, dCu, h1]
 ·try rw [h1]
  try simp only [qa, qb, qc, qd, qe] at h1
  refine Qv (Qd (kp2 rfl rfl) ?_)
  refine QC ?_ -- 1
  refine Qe fun K hK => Qh rfl rfl (Qz rfl rfl rfl (Qna rfl rfl ?_))
  refine hK _ _ (Qb (kp3 rfl rfl rfl) ?_)
  refine Qw rfl (fun h2 => ?_) (fun h2 => ?_)
  ·try rw [h2]
   try simp only [qa, qb, qc, qd, qe] at h2
   refine Qe fun K hK => QL (ds0 := [6, 3, 2, 1, 0]) (cs := [_, _, _, _, _]) rfl rfl rfl rfl rfl rfl (QV (ds0 := [3, 2, 1, 0]) (YJ) rfl rfl (.inl rfl) rfl rfl (QL (ds0 := [4, 3, 2, 1, 0]) (cs := [_, _, _, _, _]) rfl rfl rfl rfl rfl rfl (QV (ds0 := [3, 2, 1, 0]) (QbM) rfl rfl (.inl rfl) rfl rfl (QT rfl rfl (QB rfl rfl (QT rfl rfl (Y2 (ds0 := []) rfl rfl rfl rfl rfl rfl rfl rfl rfl rfl ?_)))))))
   refine hK _ _ (Qb (kp1 rfl) ?_)
   refine Qu (Qi (Post.eq (ZB (ds := [.sl _, .sl _]) (cs := [_, _]) rfl rfl rfl rfl rfl) ?_))
   simp [Xc, Qg2, ZC, QeJ, dCu, h1, h2]
  ·try rw [h2]
   try simp only [qa, qb, qc, qd, qe] at h2
   refine Qv (Qd (kp2 rfl rfl) (Qe fun K hK => QL (ds0 := [6, 3, 2, 1, 0]) (cs := [_, _, _, _, _]) rfl rfl rfl rfl rfl rfl (QV (ds0 := [3, 2, 1, 0]) (QcI) rfl rfl (.inl rfl) rfl rfl (QL (ds0 := [4, 3, 2, 1, 0]) (cs := [_, _, _, _, _]) rfl rfl rfl rfl rfl rfl (QV (ds0 := [3, 2, 1, 0]) (QbN) rfl rfl (.inl rfl) rfl rfl (QT rfl rfl (QB rfl rfl (QT rfl rfl (Y2 (ds0 := []) rfl rfl rfl rfl rfl rfl rfl rfl rfl rfl ?_)))))))))
   refine hK _ _ (Qb (kp1 rfl) ?_)
   refine Qu (Post.eq (ZB (ds := [.sl _, .sl _]) (cs := [_, _]) rfl rfl rfl rfl rfl) ?_)
   subst h2
   simp [Xc, Qg2, ZC, QeJ, dCu, h1]
end Go.Proofs
namespace Go.Proofs
open Go Go.Abs M3 M25
set_option linter.unusedVariables false
set_option linter.unusedSimpArgs false
theorem ZT {l : List (Cu × Cu)} (hl : Sm l) : Ok Try.prog 86 [ZC l] (.bool (Qee l)) := by
 refine Ok.ofT Z2 Try.func86 Qsb (Nat.le_of_ble_eq_true rfl) ?_
 show TW _ _ tf86.body _ _
 have hn := hl.1
 refine Qe fun K hK => Qa rfl ?_
 refine hK _ _ (Qb (kp1 rfl) ?_)
 refine QC ?_ -- 0
 refine Qe fun K hK => Qa rfl ?_
 refine hK _ _ (Qb (kp2 rfl rfl) ?_)
 refine QA ?_
 refine Zq (ι := Nat) (fun i => ⟨[(0, ZC l), (3, .int .i64 i)], []⟩) (fun i => i <= l.length /\ (List.range i).all (QpB l) = true) (fun i => l.length - i) 0 ?_ ?_ ?_
 ·exact Zc (kp2 rfl rfl)
 ·exact ⟨Nat.zero_le _, rfl⟩
 intro i hI
 try dsimp only
 refine QC ?_ -- 1
 refine Qe fun K hK => Qa rfl (Qa rfl (QR rfl rfl (Yb rfl rfl ?_)))
 refine hK _ _ (Qb (kp3 rfl rfl rfl) ?_)
 refine Qw rfl (fun h1 => ?_) (fun h1 => ?_)
 ·try rw [h1]
  try simp only [qa, qb, qc, qd, qe, List.length_map] at h1
  refine Qv (Qd (kp2 rfl rfl) ?_)
  refine QC ?_ -- 2
  refine QA (Qe fun K hK => Qa rfl (Qa rfl (QJ rfl rfl rfl (by omega) (QS (by omega)) rfl (QL (ds0 := [20, 19, 18, 17, 16, 15, 14, 13, 12, 11, 10, 9, 8, 7, 6, 5, 4, 3, 2, 1, 0]) (cs := [_, _, _, _, _, _, _, _, _, _, _, _, _, _]) rfl rfl rfl rfl rfl rfl (QV (ds0 := [19, 18, 17, 16, 15, 14, 13, 12, 11, 10, 9, 8, 7, 6, 5, 4, 3, 2, 1, 0]) (YE (hl.at (i := i) (by omega)).1.1 (hl.at (i := i) (by omega)).1.2 (hl.at (i := i) (by omega)).2.1 (hl.at (i := i) (by omega)).2.2) rfl rfl (.inr rfl) rfl rfl (Yi rfl (Qa rfl ?_)))))))
  refine QF (g := 16) rfl (fun h2 => ?_) (fun h2 => ?_)
  ·try rw [h2]
   try simp only [qa, qb, qc, qd, qe, List.length_map] at h2
   refine Qt rfl (Qt rfl (Qt rfl (Zu rfl (Zu rfl (Zu rfl (Zu rfl (Zu rfl (Zu rfl (Zu rfl (Zu rfl (Zu rfl ?_)))))))))))
   refine Zu rfl (Zu rfl (Zu rfl (Zu rfl (Qt rfl (Qn rfl rfl ?_)))))
   refine hK _ _ (Qb (kp3 rfl rfl rfl) ?_)
   refine Zv rfl (Qe fun K hK => Qa rfl ?_)
   refine hK _ _ (Qb (kp1 rfl) ?_)
   refine Qu (Qr (Qi (QZ (Qr (Qi (Qs rfl ?_))))))
   first
    | exact (Qhz hI.2 (by omega)).symm
    | exact (Qcp (i := i) (by omega) (QgH (by omega) (.inl h2))).symm
    | (simp only [QdK] at *; exact (Qcp (i := i) (by omega) (QgH (by omega) (.inr ⟨by omega, h4⟩))).symm)
  ·try rw [h2]
   try simp only [qa, qb, qc, qd, qe, List.length_map] at h2
   refine Qk rfl (Qa rfl (Qk rfl (Qi1 rfl rfl (Qk rfl (Qa rfl ?_)))))
   refine QF (g := 19) rfl (fun h3 => ?_) (fun h3 => ?_)
   ·try rw [h3]
    try simp only [qa, qb, qc, qd, qe, List.length_map] at h3
    refine Qk rfl (Qa rfl (Qk rfl (Qa rfl (Qk rfl (QaA rfl rfl (by first | exact Qp (by omega) (by omega) | rfl) (Qk rfl (QJ rfl rfl rfl (by omega) (ZF (by omega) (by omega)) rfl (Qk rfl (Q9 rfl rfl (Qk rfl (QL (ds0 := [3, 2, 1, 0]) (cs := [_, _, _, _, _, _, _]) rfl rfl rfl rfl rfl rfl ?_)))))))))))
    refine Qk rfl (Qa rfl (Qk rfl (Qa rfl (Qk rfl (QJ rfl rfl rfl (by omega) (QS (by omega)) rfl (Qk rfl (Q9 rfl rfl (Qk rfl (QL (ds0 := [3, 2, 1, 0]) (cs := [_, _, _, _, _, _, _]) rfl rfl rfl rfl rfl rfl (Qk rfl (QV (ds0 := [2, 1, 0]) (Zr (hl.at (i := ((i : Int) - 1).toNat) (by omega)).2.1 (hl.at (i := ((i : Int) - 1).toNat) (by omega)).2.2 (hl.at (i := i) (by omega)).1.1 (hl.at (i := i) (by omega)).1.2) rfl rfl (.inr rfl) rfl rfl ?_)))))))))))
    refine Qk rfl (Qew rfl rfl (Qk rfl (Qn rfl rfl (Qn rfl rfl ?_))))
    refine hK _ _ (Qb (kp3 rfl rfl rfl) ?_)
    refine Qw rfl (fun h4 => ?_) (fun h4 => ?_)
    ·try rw [h4]
     try simp only [qa, qb, qc, qd, qe, List.length_map] at h4
     refine Qe fun K hK => Qa rfl ?_
     refine hK _ _ (Qb (kp1 rfl) ?_)
     refine Qu (Qr (Qi (QZ (Qr (Qi (Qs rfl ?_))))))
     first
      | exact (Qhz hI.2 (by omega)).symm
      | exact (Qcp (i := i) (by omega) (QgH (by omega) (.inl h2))).symm
      | (simp only [QdK] at *; exact (Qcp (i := i) (by omega) (QgH (by omega) (.inr ⟨by omega, h4⟩))).symm)
    ·try rw [h4]
     try simp only [qa, qb, qc, qd, qe, List.length_map] at h4
     refine Qv (Qg (Qd (kp2 rfl rfl) (QN fun K hK => Qa rfl (Q3 rfl rfl (by first | exact Qp (by omega) (by omega) | rfl) (Qa rfl (hK _ ?_))))))
     refine Qj (i + 1) ?_ ?_ ?_
     ·exact Zc (kp2 rfl rfl)
     ·exact ⟨by omega, Qku hI.2 (Qox (by omega) h2 (by first | exact .inl (by omega) | (simp only [QdK] at *; exact .inr (Int.not_le.1 h4))))⟩
     ·first | omega | (simp only; omega) | (dsimp only; omega)
   ·try rw [h3]
    try simp only [qa, qb, qc, qd, qe, List.length_map] at h3
    refine Qt rfl (Qt rfl (Qt rfl (Qt rfl (Qt rfl (Qt rfl (Qt rfl (Qt rfl (Qt rfl (Qt rfl (Qt rfl (Qt rfl ?_)))))))))))
    refine Qt rfl (Qk rfl (Qn rfl rfl (Qn rfl rfl ?_)))
    refine hK _ _ (Qb (kp3 rfl rfl rfl) ?_)
    refine ZP rfl (Qv (Qg (Qd (kp2 rfl rfl) (QN fun K hK => Qa rfl (Q3 rfl rfl (by first | exact Qp (by omega) (by omega) | rfl) (Qa rfl (hK _ ?_)))))))
    refine Qj (i + 1) ?_ ?_ ?_
    ·exact Zc (kp2 rfl rfl)
    ·exact ⟨by omega, Qku hI.2 (Qox (by omega) h2 (by first | exact .inl (by omega) | (simp only [QdK] at *; exact .inr (Int.not_le.1 h4))))⟩
    ·first | omega | (simp only; omega) | (dsimp only; omega)
 ·try rw [h1]
  try simp only [qa, qb, qc, qd, qe, List.length_map] at h1
  refine Zi (QM (Qy (QI (Qd (Q4) (Qe fun K hK => Qa rfl ?_)))))
  refine hK _ _ (Qb (kp1 rfl) ?_)
  refine Qu (Qs rfl ?_)
  first
   | exact (Qhz hI.2 (by omega)).symm
   | exact (Qcp (i := i) (by omega) (QgH (by omega) (.inl h2))).symm
   | (simp only [QdK] at *; exact (Qcp (i := i) (by omega) (QgH (by omega) (.inr ⟨by omega, h4⟩))).symm)
theorem QaP {l : List (Cu × Cu)} (hl : Sm l) {x y : Cu} (hx : Cu.sm x) (hy : Cu.sm y) : Ok Try.prog 90 [ZC l, .agg (dCu x), .agg (dCu y)] (.bool (mIn l x y)) := by
 refine Ok.ofT Z2 Try.func90 Qsf (Nat.le_of_ble_eq_true rfl) ?_
 show TW _ _ tf90.body _ _
 have hn := hl.1
 refine Qe fun K hK => Zy rfl rfl rfl (Zy rfl rfl rfl (Qa rfl ?_))
 refine hK _ _ (Qb (kp3 rfl rfl rfl) ?_)
 refine QC ?_ -- 0
 refine Qe fun K hK => Qa rfl ?_
 refine hK _ _ (Qb (kp4 rfl rfl rfl rfl) ?_)
 refine QA ?_
 refine Zq (ι := Nat) (fun i => ⟨[(0, ZC l), (4, .ref 4 0 0), (5, .ref 5 0 0), (7, .int .i64 i)], [(4, ⟨[dCu x], 7, 92, true⟩), (5, ⟨[dCu y], 7, 92, true⟩)]⟩) (fun i => i <= l.length /\ (l.take i).any (inC x y) = false) (fun i => l.length - i) 0 ?_ ?_ ?_
 ·exact Q7 (l := [0, 4, 5, 7]) (lH := [4, 5]) (kp4 rfl rfl rfl rfl) (Qf rfl (Qf rfl Qo)) rfl rfl rfl
 ·exact ⟨Nat.zero_le _, by simp⟩
 intro i hI
 try dsimp only
 refine QC ?_ -- 1
 refine Qe fun K hK => Qa rfl (Qa rfl (QR rfl rfl (Yb rfl rfl ?_)))
 refine hK _ _ (Qb (kp5 rfl rfl rfl rfl rfl) ?_)
 refine Qw rfl (fun h1 => ?_) (fun h1 => ?_)
 ·try rw [h1]
  try simp only [qa, qb, qc, qd, qe, List.length_map] at h1
  refine Qv (Qd (kp4 rfl rfl rfl rfl) ?_)
  refine QC ?_ -- 2
  refine QA (Qe fun K hK => Qa rfl (Qa rfl (QJ rfl rfl rfl (by omega) (QS (by omega)) rfl (Q9 rfl rfl (QL (ds0 := [11, 10, 9, 8, 7, 6, 5, 4, 3, 2, 1, 0]) (cs := [_, _, _, _, _, _, _]) rfl rfl rfl rfl rfl rfl (QL (ds0 := [11, 10, 9, 8, 7, 6, 5, 4, 3, 2, 1, 0]) (cs := [_, _, _, _, _, _, _]) rfl rfl rfl rfl rfl rfl (QV (ds0 := [10, 9, 8, 7, 6, 5, 4, 3, 2, 1, 0]) (Zr (hl.at (i := i) (by omega)).1.1 (hl.at (i := i) (by omega)).1.2 hx.1 hx.2) rfl rfl (.inr rfl) rfl rfl (QoO rfl rfl (Qa rfl ?_)))))))))
  refine QF (g := 22) rfl (fun h2 => ?_) (fun h2 => ?_)
  ·try rw [h2]
   try simp only [qa, qb, qc, qd, qe, List.length_map] at h2
   refine Qk rfl (QL (ds0 := [2, 1, 0]) (cs := [_, _, _, _, _, _, _]) rfl rfl rfl rfl rfl rfl (Qk rfl (Qa rfl (Qk rfl (Qa rfl (Qk rfl (QJ rfl rfl rfl (by omega) (QS (by omega)) rfl (Qk rfl (Q9 rfl rfl (Qk rfl (QL (ds0 := [2, 1, 0]) (cs := [_, _, _, _, _, _, _]) rfl rfl rfl rfl rfl rfl ?_)))))))))))
   refine Qk rfl (QV (ds0 := [1, 0]) (Zr hy.1 hy.2 (hl.at (i := i) (by omega)).2.1 (hl.at (i := i) (by omega)).2.2) rfl rfl (.inr rfl) rfl rfl (Qk rfl (QoO rfl rfl (Qn rfl rfl ?_))))
   refine hK _ _ (Qb (kp5 rfl rfl rfl rfl rfl) ?_)
   refine Qw rfl (fun h3 => ?_) (fun h3 => ?_)
   ·try rw [h3]
    try simp only [qa, qb, qc, qd, qe, List.length_map] at h3
    refine Qe fun K hK => Qa rfl ?_
    refine hK _ _ (Qb (kp1 rfl) ?_)
    refine Qu (Qr (Qi (QZ (Qr (Qi (Qs rfl ?_))))))
    first
     | exact (Qlu (i := i) (by omega) hI.2).symm
     | exact (Qi7 (i := i) (by omega) (QpW h2 h3)).symm
   ·try rw [h3]
    try simp only [qa, qb, qc, qd, qe, List.length_map] at h3
    refine Qv (Qg (Qd (kp4 rfl rfl rfl rfl) (QN fun K hK => Qa rfl (Q3 rfl rfl (by first | exact Qp (by omega) (by omega) | rfl) (Qa rfl (hK _ ?_))))))
    refine Qj (i + 1) ?_ ?_ ?_
    ·exact Q7 (l := [0, 4, 5, 7]) (lH := [4, 5]) (kp4 rfl rfl rfl rfl) (Qf rfl (Qf rfl Qo)) rfl rfl rfl
    ·exact ⟨by omega, QhV (by omega) hI.2 (QpV (by first | exact .inl h2 | exact .inr h3))⟩
    ·first | omega | (simp only; omega) | (dsimp only; omega)
  ·try rw [h2]
   try simp only [qa, qb, qc, qd, qe, List.length_map] at h2
   refine Qt rfl (Qt rfl (Qt rfl (Qt rfl (Qt rfl (Qt rfl (Qt rfl (Qt rfl (Qn rfl rfl ?_))))))))
   refine hK _ _ (Qb (kp5 rfl rfl rfl rfl rfl) ?_)
   refine ZP rfl (Qv (Qg (Qd (kp4 rfl rfl rfl rfl) (QN fun K hK => Qa rfl (Q3 rfl rfl (by first | exact Qp (by omega) (by omega) | rfl) (Qa rfl (hK _ ?_)))))))
   refine Qj (i + 1) ?_ ?_ ?_
   ·exact Q7 (l := [0, 4, 5, 7]) (lH := [4, 5]) (kp4 rfl rfl rfl rfl) (Qf rfl (Qf rfl Qo)) rfl rfl rfl
   ·exact ⟨by omega, QhV (by omega) hI.2 (QpV (by first | exact .inl h2 | exact .inr h3))⟩
   ·first | omega | (simp only; omega) | (dsimp only; omega)
 ·try rw [h1]
  try simp only [qa, qb, qc, qd, qe, List.length_map] at h1
  refine Zi (QM (Qy (QI (Qd (Q4) (Qe fun K hK => Qa rfl ?_)))))
  refine hK _ _ (Qb (kp1 rfl) ?_)
  refine Qu (Qs rfl ?_)
  first
   | exact (Qlu (i := i) (by omega) hI.2).symm
   | exact (Qi7 (i := i) (by omega) (QpW h2 h3)).symm
end Go.Proofs
namespace Go.Proofs
open Go Go.Abs M3 M25
set_option linter.unusedVariables false
set_option linter.unusedSimpArgs false
theorem Qap {l : List (Cu × Cu)} (hl : Sm l) {a b c : Int} {p q : List UInt8} (hp : p.length <= 1000000) (hq : q.length <= 1000000) : Ok Try.prog 92 [ZC l, .agg [.int .i64 a, .int .i64 b, .int .i64 c, .str p, .str q]] (.bool (Qhq l a b c p q)) := by
 refine Ok.ofT Z2 Try.func92 Qsh (Nat.le_of_ble_eq_true rfl) ?_
 show TW _ _ tf92.body _ _
 have hn := hl.1
 refine Qe fun K hK => Zy rfl rfl rfl (Qa rfl ?_)
 refine hK _ _ (Qb (kp2 rfl rfl) ?_)
 refine QC ?_ -- 0
 refine Qe fun K hK => Qa rfl ?_
 refine hK _ _ (Qb (kp3 rfl rfl rfl) ?_)
 refine QA ?_
 refine Zq (ι := Nat) (fun i => ⟨[(0, ZC l), (3, .ref 3 0 0), (5, .int .i64 i)], [(3, ⟨[[.int .i64 a, .int .i64 b, .int .i64 c, .str p, .str q]], 5, 50, true⟩)]⟩) (fun i => i <= l.length /\ (l.take i).any (fun s => Qhr s a b c p q) = false) (fun i => l.length - i) 0 ?_ ?_ ?_
 ·exact Q7 (l := [0, 3, 5]) (lH := [3]) (kp3 rfl rfl rfl) (Qf rfl Qo) rfl rfl rfl
 ·exact ⟨Nat.zero_le _, by simp⟩
 intro i hI
 try dsimp only
 refine QC ?_ -- 1
 refine Qe fun K hK => Qa rfl (Qa rfl (QR rfl rfl (Yb rfl rfl (Qa rfl ?_))))
 refine QF (g := 10) rfl (fun h1 => ?_) (fun h1 => ?_)
 ·try rw [h1]
  try simp only [qa, qb, qc, qd, qe, List.length_map] at h1
  refine Qk rfl (Qa rfl (Qk rfl (QG (ZT hl) rfl rfl (.inr rfl) (Qn rfl rfl ?_))))
  refine hK _ _ (Qb (kp4 rfl rfl rfl rfl) ?_)
  refine Qw rfl (fun h2 => ?_) (fun h2 => ?_)
  ·try rw [h2]
   try simp only [qa, qb, qc, qd, qe, List.length_map] at h2
   refine Qv (Qd (kp3 rfl rfl rfl) ?_)
   refine QC ?_ -- 2
   refine QA (Qe fun K hK => Qa rfl (Qa rfl (QJ rfl rfl rfl (by omega) (QS (by omega)) rfl (QL (ds0 := [0]) (cs := [_, _, _, _, _, _, _, _, _, _, _, _, _, _]) rfl rfl rfl rfl rfl rfl (QL (ds0 := [0]) (cs := [_, _, _, _, _]) rfl rfl rfl rfl rfl rfl (QV (ds0 := []) (QcH (hl.at (i := i) (by omega)).1.1 (hl.at (i := i) (by omega)).1.2 (hl.at (i := i) (by omega)).2.1 (hl.at (i := i) (by omega)).2.2 hp hq) rfl rfl (.inr rfl) rfl rfl ?_))))))
   refine hK _ _ (Qb (kp4 rfl rfl rfl rfl) ?_)
   refine Qw rfl (fun h3 => ?_) (fun h3 => ?_)
   ·try rw [h3]
    try simp only [qa, qb, qc, qd, qe, List.length_map] at h3
    refine Qe fun K hK => Qa rfl ?_
    refine hK _ _ (Qb (kp1 rfl) ?_)
    refine Qu (Qr (Qi (QZ (Qr (Qi (Qs rfl ?_))))))
    first
     | exact (Qhd (i := i) (by omega) hI.2).symm
     | exact (Qhe h2).symm
     | exact (Qhf h2 (i := i) (by omega) h3).symm
   ·try rw [h3]
    try simp only [qa, qb, qc, qd, qe, List.length_map] at h3
    refine Qv (Qg (Qd (kp3 rfl rfl rfl) (QN fun K hK => Qa rfl (Q3 rfl rfl (by first | exact Qp (by omega) (by omega) | rfl) (Qa rfl (hK _ ?_))))))
    refine Qj (i + 1) ?_ ?_ ?_
    ·exact Q7 (l := [0, 3, 5]) (lH := [3]) (kp3 rfl rfl rfl) (Qf rfl Qo) rfl rfl rfl
    ·exact ⟨by omega, QhV (by omega) hI.2 h3⟩
    ·first | omega | (simp only; omega) | (dsimp only; omega)
  ·try rw [h2]
   try simp only [qa, qb, qc, qd, qe, List.length_map] at h2
   refine Zi (QM (Qy (QI (Qd (Q4) (Qe fun K hK => Qa rfl ?_)))))
   refine hK _ _ (Qb (kp1 rfl) ?_)
   refine Qu (Qs rfl ?_)
   first
    | exact (Qhd (i := i) (by omega) hI.2).symm
    | exact (Qhe h2).symm
    | exact (Qhf h2 (i := i) (by omega) h3).symm
 ·try rw [h1]
  try simp only [qa, qb, qc, qd, qe, List.length_map] at h1
  refine Qt rfl (Qt rfl (Qn rfl rfl ?_))
  refine hK _ _ (Qb (kp4 rfl rfl rfl rfl) ?_)
  refine ZP rfl (Zi (QM (Qy (QI (Qd (Q4) (Qe fun K hK => Qa rfl ?_))))))
  refine hK _ _ (Qb (kp1 rfl) ?_)
  refine Qu (Qs rfl ?_)
  first
   | exact (Qhd (i := i) (by omega) hI.2).symm
   | exact (Qhe h2).symm
   | exact (Qhf h2 (i := i) (by omega) h3).symm
theorem YF {s : List (Cu × Cu) × List (Cu × Cu)} (h1s : Sm s.1) (h2s : Sm s.2) : Ok Try.prog 81 [Qg2 s] (.bool (QfJ s)) := by
 refine Ok.ofT Z2 Try.func81 Qr6 (Nat.le_of_ble_eq_true rfl) ?_
 show TW _ _ tf81.body _ _
 have hn := h1s.1
 refine Qe fun K hK => Zy rfl rfl rfl (Qa rfl ?_)
 refine hK _ _ (Qb (kp1 rfl) ?_)
 refine QC ?_ -- 0
 refine Qe fun K hK => Qh rfl rfl (Qz rfl rfl rfl (QG (ZT h1s) rfl rfl (.inr rfl) (Yi rfl (Qa rfl ?_))))
 refine QF (g := 8) rfl (fun h1 => ?_) (fun h1 => ?_)
 ·try rw [h1]
  try simp only [qa, qb, qc, qd, qe, List.length_map] at h1
  refine Qt rfl (Qt rfl (Qt rfl (Qt rfl (Qn rfl rfl ?_))))
  refine hK _ _ (Qb (kp2 rfl rfl) ?_)
  refine Zv rfl (Qe fun K hK => Qa rfl ?_)
  refine hK _ _ (Qb (kp1 rfl) ?_)
  refine Qu (Qi (Qs rfl ?_))
  first
   | exact (QdH (i := i) h1 h2 (by omega) hI.2).symm
   | exact (QaF (i := i) (by omega) (.inl h4)).symm
   | exact (QaF (i := i) (by omega) (.inr h5)).symm
   | exact (QaG (.inl h1)).symm
   | exact (QaG (.inr h2)).symm
 ·try rw [h1]
  try simp only [qa, qb, qc, qd, qe, List.length_map] at h1
  refine Qk rfl (Qh rfl rfl (Qk rfl (Qz rfl rfl rfl (Qk rfl (QG (ZT h2s) rfl rfl (.inr rfl) (Qk rfl (Yi rfl (Qn rfl rfl ?_))))))))
  refine hK _ _ (Qb (kp2 rfl rfl) ?_)
  refine Qw rfl (fun h2 => ?_) (fun h2 => ?_)
  ·try rw [h2]
   try simp only [qa, qb, qc, qd, qe, List.length_map] at h2
   refine Qe fun K hK => Qa rfl ?_
   refine hK _ _ (Qb (kp1 rfl) ?_)
   refine Qu (Qi (Qs rfl ?_))
   first
    | exact (QdH (i := i) h1 h2 (by omega) hI.2).symm
    | exact (QaF (i := i) (by omega) (.inl h4)).symm
    | exact (QaF (i := i) (by omega) (.inr h5)).symm
    | exact (QaG (.inl h1)).symm
    | exact (QaG (.inr h2)).symm
  ·try rw [h2]
   try simp only [qa, qb, qc, qd, qe, List.length_map] at h2
   refine Qv (Qd (kp1 rfl) ?_)
   refine QC ?_ -- 1
   refine Qe fun K hK => Qa rfl ?_
   refine hK _ _ (Qb (kp2 rfl rfl) ?_)
   refine QA ?_
   refine Zq (ι := Nat) (fun i => ⟨[(1, .ref 1 0 0), (3, .int .i64 i)], [(1, ⟨[[ZC s.1, ZC s.2]], 2, 60, true⟩)]⟩) (fun i => i <= s.1.length /\ (s.1.take i).all (fun x => Qbx x.1 && Qbx x.2) = true) (fun i => s.1.length - i) 0 ?_ ?_ ?_
   ·exact Q7 (l := [1, 3]) (lH := [1]) (kp2 rfl rfl) (Qf rfl Qo) rfl rfl rfl
   ·exact ⟨Nat.zero_le _, by simp⟩
   intro i hI
   try dsimp only
   refine QC ?_ -- 2
   refine Qe fun K hK => Qa rfl (Qh rfl rfl (Qz rfl rfl rfl (QR rfl rfl (Yb rfl rfl ?_))))
   refine hK _ _ (Qb (kp3 rfl rfl rfl) ?_)
   refine Qw rfl (fun h3 => ?_) (fun h3 => ?_)
   ·try rw [h3]
    try simp only [qa, qb, qc, qd, qe, List.length_map] at h3
    refine Qv (Qd (kp2 rfl rfl) ?_)
    refine QC ?_ -- 3
    refine QA (Qe fun K hK => Qh rfl rfl (Qz rfl rfl rfl (Qa rfl (QJ rfl rfl rfl (by omega) (QS (by omega)) rfl (Q9 rfl rfl (QH (cs := [_, _, _, _, _, _, _]) rfl rfl rfl rfl (QG (XT) rfl rfl (.inr rfl) (Yi rfl (Qa rfl ?_)))))))))
    refine QF (g := 29) rfl (fun h4 => ?_) (fun h4 => ?_)
    ·try rw [h4]
     try simp only [qa, qb, qc, qd, qe, List.length_map] at h4
     refine Qt rfl (Qt rfl (Qt rfl (Qt rfl (Qt rfl (Qt rfl (Qt rfl (Qt rfl (Qn rfl rfl ?_))))))))
     refine hK _ _ (Qb (kp3 rfl rfl rfl) ?_)
     refine Zv rfl (Qe fun K hK => Qa rfl ?_)
     refine hK _ _ (Qb (kp1 rfl) ?_)
     refine Qu (Qr (Qi (QZ (Qr (Qi (Qs rfl ?_))))))
     first
      | exact (QdH (i := i) h1 h2 (by omega) hI.2).symm
      | exact (QaF (i := i) (by omega) (.inl h4)).symm
      | exact (QaF (i := i) (by omega) (.inr h5)).symm
      | exact (QaG (.inl h1)).symm
      | exact (QaG (.inr h2)).symm
    ·try rw [h4]
     try simp only [qa, qb, qc, qd, qe, List.length_map] at h4
     refine Qk rfl (Qh rfl rfl (Qk rfl (Qz rfl rfl rfl (Qk rfl (Qa rfl (Qk rfl (QJ rfl rfl rfl (by omega) (QS (by omega)) rfl (Qk rfl (Q9 rfl rfl (Qk rfl (QH (cs := [_, _, _, _, _, _, _]) rfl rfl rfl rfl ?_)))))))))))
     refine Qk rfl (QG (XT) rfl rfl (.inr rfl) (Qk rfl (Yi rfl (Qn rfl rfl ?_))))
     refine hK _ _ (Qb (kp3 rfl rfl rfl) ?_)
     refine Qw rfl (fun h5 => ?_) (fun h5 => ?_)
     ·try rw [h5]
      try simp only [qa, qb, qc, qd, qe, List.length_map] at h5
      refine Qe fun K hK => Qa rfl ?_
      refine hK _ _ (Qb (kp1 rfl) ?_)
      refine Qu (Qr (Qi (QZ (Qr (Qi (Qs rfl ?_))))))
      first
       | exact (QdH (i := i) h1 h2 (by omega) hI.2).symm
       | exact (QaF (i := i) (by omega) (.inl h4)).symm
       | exact (QaF (i := i) (by omega) (.inr h5)).symm
       | exact (QaG (.inl h1)).symm
       | exact (QaG (.inr h2)).symm
     ·try rw [h5]
      try simp only [qa, qb, qc, qd, qe, List.length_map] at h5
      refine Qv (Qg (Qd (kp2 rfl rfl) (QN fun K hK => Qa rfl (Q3 rfl rfl (by first | exact Qp (by omega) (by omega) | rfl) (Qa rfl (hK _ ?_))))))
      refine Qj (i + 1) ?_ ?_ ?_
      ·exact Q7 (l := [1, 3]) (lH := [1]) (kp2 rfl rfl) (Qf rfl Qo) rfl rfl rfl
      ·exact ⟨by omega, Z7 (by omega) hI.2 (by rw [show Qbx s.1[i].1 = true from h4, show Qbx s.1[i].2 = true from h5]; rfl)⟩
      ·first | omega | (simp only; omega) | (dsimp only; omega)
   ·try rw [h3]
    try simp only [qa, qb, qc, qd, qe, List.length_map] at h3
    refine Zi (QM (Qy (QI (Qd (Q4) (Qe fun K hK => Qa rfl ?_)))))
    refine hK _ _ (Qb (kp1 rfl) ?_)
    refine Qu (Qs rfl ?_)
    first
     | exact (QdH (i := i) h1 h2 (by omega) hI.2).symm
     | exact (QaF (i := i) (by omega) (.inl h4)).symm
     | exact (QaF (i := i) (by omega) (.inr h5)).symm
     | exact (QaG (.inl h1)).symm
     | exact (QaG (.inr h2)).symm
theorem Qdk {s : List (Cu × Cu) × List (Cu × Cu)} (h1s : Sm s.1) (h2s : Sm s.2) {a b c : Int} {p q : List UInt8} (hp : p.length <= 1000000) (hq : q.length <= 1000000) : Ok Try.prog 84 [Qg2 s, .agg [.int .i64 a, .int .i64 b, .int .i64 c, .str p, .str q]] (.bool (Qk7 s a b c p q)) := by
 refine Ok.ofT Z2 Try.func84 Qr9 (Nat.le_of_ble_eq_true rfl) ?_
 show TW _ _ tf84.body _ _
 refine Qe fun K hK => Zy rfl rfl rfl (Zy rfl rfl rfl (Qa rfl ?_))
 refine hK _ _ (Qb (kp2 rfl rfl) ?_)
 refine QC ?_ -- 0
 refine Qe fun K hK => QH (cs := [_, _]) rfl rfl rfl rfl (QG (YF h1s h2s) rfl rfl (.inr rfl) (Yi rfl (Qa rfl ?_)))
 refine QF (g := 8) rfl (fun h1 => ?_) (fun h1 => ?_)
 ·try rw [h1]
  try simp only [qa, qb, qc, qd, qe] at h1
  refine Qt rfl (Qt rfl (Qt rfl (Qn rfl rfl ?_)))
  refine hK _ _ (Qb (kp3 rfl rfl rfl) ?_)
  refine Zv rfl (Qe fun K hK => Qa rfl ?_)
  refine hK _ _ (Qb (kp1 rfl) ?_)
  refine Qu (Qi (Qs rfl ?_))
  simp_all [Qk7]
 ·try rw [h1]
  try simp only [qa, qb, qc, qd, qe] at h1
  refine Qk rfl (QH (cs := [_, _, _, _, _]) rfl rfl rfl rfl (Qk rfl (QG (Zf hp hq) rfl rfl (.inr rfl) (Qk rfl (Yi rfl (Qn rfl rfl ?_))))))
  refine hK _ _ (Qb (kp3 rfl rfl rfl) ?_)
  refine Qw rfl (fun h2 => ?_) (fun h2 => ?_)
  ·try rw [h2]
   try simp only [qa, qb, qc, qd, qe] at h2
   refine Qe fun K hK => Qa rfl ?_
   refine hK _ _ (Qb (kp1 rfl) ?_)
   refine Qu (Qi (Qs rfl ?_))
   simp_all [Qk7]
  ·try rw [h2]
   try simp only [qa, qb, qc, qd, qe] at h2
   refine Qv (Qd (kp2 rfl rfl) ?_)
   refine QC ?_ -- 1
   refine Qe fun K hK => Qh rfl rfl (Qz rfl rfl rfl (QgU rfl rfl ?_))
   refine hK _ _ (Qb (kp3 rfl rfl rfl) ?_)
   refine Qw rfl (fun h3 => ?_) (fun h3 => ?_)
   ·try rw [h3]
    try simp only [qa, qb, qc, qd, qe] at h3
    refine Qe fun K hK => Qh rfl rfl (Qz rfl rfl rfl (QH (cs := [_, _, _, _, _]) rfl rfl rfl rfl (QG (Qap h1s hp hq) rfl rfl (.inr rfl) (Qa rfl ?_))))
    refine hK _ _ (Qb (kp1 rfl) ?_)
    refine Qu (Qi (Qs rfl ?_))
    simp_all [Qk7]
   ·try rw [h3]
    try simp only [qa, qb, qc, qd, qe] at h3
    refine Qv (Qd (kp2 rfl rfl) (Qe fun K hK => Qh rfl rfl (Qz rfl rfl rfl (QH (cs := [_, _, _, _, _]) rfl rfl rfl rfl (QG (Qap h2s hp hq) rfl rfl (.inr rfl) (Qa rfl ?_))))))
    refine hK _ _ (Qb (kp1 rfl) ?_)
    refine Qu (Qs rfl ?_)
    simp_all [Qk7]
end Go.Proofs
namespace Go.Proofs
open Go Go.Abs M3 M25
set_option linter.unusedVariables false
set_option linter.unusedSimpArgs false
theorem Qar {l : List Cu} {c : Cu} (hl : l.length <= 3000000) (hs : ∀ x ∈ l, Cu.sm x) (hc : Cu.sm c) : Ok Try.prog 95 [Qg1 l, .agg (dCu c)] (Qg1 (Qb4 l c)) := by
 refine Ok.ofT Z2 Try.func95 Qsk (Nat.le_of_ble_eq_true rfl) ?_
 show TW _ _ tf95.body _ _
 refine Qe fun K hK => Zy rfl rfl rfl (Qa rfl ?_)
 refine hK _ _ (Qb (kp2 rfl rfl) ?_)
 refine Qe fun K hK => Qa rfl ?_
 refine hK _ _ (Qb (kp3 rfl rfl rfl) ?_)
 refine QC ?_ -- 0
 refine QA ?_
 refine Zq (ι := Nat) (fun k => ⟨[(0, Qg1 l), (3, .ref 3 0 0), (5, .int .i64 k)], [(3, ⟨[dCu c], 7, 92, true⟩)]⟩) (fun k => k <= l.length /\ Qb4 l c = l.take k ++ Qb4 (l.drop k) c) (fun k => l.length - k) 0 ?_ ?_ ?_
 ·exact Q7 (l := [0, 3, 5]) (lH := [3]) (kp3 rfl rfl rfl) (Qf rfl Qo) rfl rfl rfl
 ·exact ⟨Nat.zero_le _, by simp⟩
 intro k hI
 try dsimp only
 refine QC ?_ -- 1
 refine Qe fun K hK => Qa rfl (Qa rfl (QR rfl rfl (Yb rfl rfl (Qa rfl ?_))))
 refine QF (g := 10) rfl (fun h1 => ?_) (fun h1 => ?_)
 ·try rw [h1]
  try simp only [qa, qb, qc, qd, qe, List.length_map] at h1
  refine Qk rfl (Qa rfl (Qk rfl (Qa rfl (Qk rfl (QJ rfl rfl rfl (by omega) (QS (by omega)) rfl (Qk rfl (QL (ds0 := [2, 1, 0]) (cs := [_, _, _, _, _, _, _]) rfl rfl rfl rfl rfl rfl (Qk rfl (QL (ds0 := [2, 1, 0]) (cs := [_, _, _, _, _, _, _]) rfl rfl rfl rfl rfl rfl (Qk rfl (QV (ds0 := [1, 0]) (Zr (hs _ (List.getElem_mem (by omega))).1 (hs _ (List.getElem_mem (by omega))).2 hc.1 hc.2) rfl rfl (.inr rfl) rfl rfl ?_)))))))))))
  refine Qk rfl (Yb rfl rfl (Qn rfl rfl ?_))
  refine hK _ _ (Qb (kp4 rfl rfl rfl rfl) ?_)
  refine Qw rfl (fun h2 => ?_) (fun h2 => ?_)
  ·try rw [h2]
   try simp only [qa, qb, qc, qd, qe, List.length_map] at h2
   refine Qv (Qd (kp3 rfl rfl rfl) (QA (QN fun K hK => Qa rfl (Q3 rfl rfl (by first | exact Qp (by omega) (by omega) | rfl) (Qa rfl (hK _ ?_))))))
   refine Qg ?_
   refine Qj (k + 1) ?_ ?_ ?_
   ·exact Q7 (l := [0, 3, 5]) (lH := [3]) (kp3 rfl rfl rfl) (Qf rfl Qo) rfl rfl rfl
   ·exact ⟨by omega, Qme (by omega) h2 hI.2⟩
   ·first | omega | (simp only; omega) | (dsimp only; omega)
  ·try rw [h2]
   try simp only [qa, qb, qc, qd, qe, List.length_map] at h2
   refine Zi (QM (Qy (QI (Qd (kp3 rfl rfl rfl) ?_))))
   refine QC ?_ -- 2
   refine Qe fun K hK => Qa rfl (Qa rfl (QR rfl rfl (Yb rfl rfl (Qa rfl ?_))))
   refine QF (g := 25) rfl (fun h3 => ?_) (fun h3 => ?_)
   ·try rw [h3]
    try simp only [qa, qb, qc, qd, qe, List.length_map] at h3
    refine Qk rfl (Qa rfl (Qk rfl (Qa rfl (Qk rfl (QJ rfl rfl rfl (by omega) (QS (by omega)) rfl (Qk rfl (QL (ds0 := [2, 1, 0]) (cs := [_, _, _, _, _, _, _]) rfl rfl rfl rfl rfl rfl (Qk rfl (QL (ds0 := [2, 1, 0]) (cs := [_, _, _, _, _, _, _]) rfl rfl rfl rfl rfl rfl (Qk rfl (QV (ds0 := [1, 0]) (Zr (hs _ (List.getElem_mem (by omega))).1 (hs _ (List.getElem_mem (by omega))).2 hc.1 hc.2) rfl rfl (.inr rfl) rfl rfl ?_)))))))))))
    refine Qk rfl (ZH rfl rfl (Qn rfl rfl ?_))
    refine hK _ _ (Qb (kp4 rfl rfl rfl rfl) ?_)
    refine Qw rfl (fun h4 => ?_) (fun h4 => ?_)
    ·try rw [h4]
     try simp only [qa, qb, qc, qd, qe, List.length_map] at h4
     refine Qe fun K hK => Qa rfl (Qa rfl ?_)
     refine hK _ _ (Qb (kp1 rfl) ?_)
     refine Qu (Qi (Yp rfl ?_))
     rw [Qmd (k := k) (by omega) (by assumption) hI.2]; rfl
    ·try rw [h4]
     try simp only [qa, qb, qc, qd, qe, List.length_map] at h4
     refine Qv (Qd (kp3 rfl rfl rfl) (Qe fun K hK => Qa rfl (Qa rfl (QcP rfl rfl rfl rfl (by omega) (by omega) (by simp; omega) QiK rfl (QcO (ds0 := [5, 1, 0]) rfl rfl (fun _ h => ⟨QnW, h⟩) rfl (.inl rfl) (by simp) (by simp; omega) (by simp; omega) rfl rfl (QL (ds0 := [6, 5, 1, 0]) (cs := [_, _, _, _, _, _, _]) rfl rfl rfl rfl rfl rfl (QB rfl rfl (Qaz (ds0 := [1, 0]) rfl rfl (by simp [D.ids, D.sid]) ⟨_, rfl, rfl, rfl, rfl, rfl⟩ rfl rfl (by simp) rfl rfl (by simp; omega) (by simp; omega) rfl rfl (Qa rfl (Qa rfl ?_))))))))))
     refine QcP rfl rfl rfl rfl (by omega) (by simp; omega) (by simp) QiK rfl (Qaz (ds0 := [0]) rfl rfl (by simp [D.ids, D.sid]) ⟨rfl, QnW, rfl⟩ rfl rfl (by simp) rfl rfl (by simp; omega) (by simp; omega) rfl rfl (Qa rfl ?_))
     refine hK _ _ (Qb (kp1 rfl) ?_)
     refine Qu (Yp rfl ?_)
     rw [Qkk (k := k) (by first | exact .inl (by omega) | exact .inr ⟨by omega, by assumption, by assumption⟩) hI.2]; simp [QbI, D.fz, D.fzS, QcQ, lk, D.can, D.canS, Qg1, D.sid, (show ∀ a b : Nat, a + 1 + b = a + (b + 1) from fun a b => by omega), List.take_of_length_le (show (l.map dCu).length <= l.length by simp)] <;> rfl
   ·try rw [h3]
    try simp only [qa, qb, qc, qd, qe, List.length_map] at h3
    exact absurd h1 h3
 ·try rw [h1]
  try simp only [qa, qb, qc, qd, qe, List.length_map] at h1
  refine Qt rfl (Qt rfl (Qt rfl (Qt rfl (Qt rfl (Qt rfl (Qt rfl (Qn rfl rfl ?_)))))))
  refine hK _ _ (Qb (kp4 rfl rfl rfl rfl) ?_)
  refine ZP rfl (Zi (QM (Qy (QI (Qd (kp3 rfl rfl rfl) ?_)))))
  refine QC ?_ -- 2
  refine Qe fun K hK => Qa rfl (Qa rfl (QR rfl rfl (Yb rfl rfl (Qa rfl ?_))))
  refine QF (g := 25) rfl (fun h5 => ?_) (fun h5 => ?_)
  ·try rw [h5]
   try simp only [qa, qb, qc, qd, qe, List.length_map] at h5
   exact absurd h5 h1
  ·try rw [h5]
   try simp only [qa, qb, qc, qd, qe, List.length_map] at h5
   refine Qt rfl (Qt rfl (Qt rfl (Qt rfl (Qt rfl (Qt rfl (Qt rfl (Qn rfl rfl ?_)))))))
   refine hK _ _ (Qb (kp4 rfl rfl rfl rfl) ?_)
   refine ZP rfl (Qv (Qd (kp3 rfl rfl rfl) (Qe fun K hK => Qa rfl (Qa rfl (QcP rfl rfl rfl rfl (by omega) (by omega) (by simp; omega) QiK rfl (QcO (ds0 := [5, 1, 0]) rfl rfl (fun _ h => ⟨QnW, h⟩) rfl (.inl rfl) (by simp) (by simp; omega) (by simp; omega) rfl rfl (QL (ds0 := [6, 5, 1, 0]) (cs := [_, _, _, _, _, _, _]) rfl rfl rfl rfl rfl rfl (QB rfl rfl (Qaz (ds0 := [1, 0]) rfl rfl (by simp [D.ids, D.sid]) ⟨_, rfl, rfl, rfl, rfl, rfl⟩ rfl rfl (by simp) rfl rfl (by simp; omega) (by simp; omega) rfl rfl (Qa rfl ?_))))))))))
   refine Qa rfl (QcP rfl rfl rfl rfl (by omega) (by simp; omega) (by simp) QiK rfl (Qaz (ds0 := [0]) rfl rfl (by simp [D.ids, D.sid]) ⟨rfl, QnW, rfl⟩ rfl rfl (by simp) rfl rfl (by simp; omega) (by simp; omega) rfl rfl (Qa rfl ?_)))
   refine hK _ _ (Qb (kp1 rfl) ?_)
   refine Qu (Yp rfl ?_)
   rw [Qkk (k := k) (by first | exact .inl (by omega) | exact .inr ⟨by omega, by assumption, by assumption⟩) hI.2]; simp [QbI, D.fz, D.fzS, QcQ, lk, D.can, D.canS, Qg1, D.sid, (show ∀ a b : Nat, a + 1 + b = a + (b + 1) from fun a b => by omega), List.take_of_length_le (show (l.map dCu).length <= l.length by simp)] <;> rfl
theorem Qab {l : List (Cu × Cu)} (hl : Sm l) : Ok Try.prog 89 [ZC l] (Qg1 (YS l)) := by
 refine Ok.ofT Z2 Try.func89 Qse (Nat.le_of_ble_eq_true rfl) ?_
 show TW _ _ tf89.body _ _
 have hn := hl.1
 refine Qe fun K hK => Qa rfl ?_
 refine hK _ _ (Qb (kp1 rfl) ?_)
 refine Qe fun K hK => QG (YX) rfl rfl (.inl rfl) (QG (Y8) rfl rfl (.inl rfl) (QB rfl rfl (Qa rfl ?_)))
 refine hK _ _ (Qb (kp2 rfl rfl) ?_)
 refine QC ?_ -- 0
 refine Qe fun K hK => Qa rfl ?_
 refine hK _ _ (Qb (kp3 rfl rfl rfl) ?_)
 refine QA ?_
 refine Zq (ι := Nat) (fun i => ⟨[(0, ZC l), (3, Qg1 (YS (l.take i))), (4, .int .i64 i)], []⟩) (fun i => i <= l.length) (fun i => l.length - i) 0 ?_ ?_ ?_
 ·exact le_trans (Qin 7 _ (by decide)) (Q7 (l := [0, 3, 4]) (lH := []) (kp3 rfl rfl rfl) Qo rfl rfl rfl)
 ·exact Nat.zero_le _
 intro i hI
 try dsimp only
 refine QC ?_ -- 1
 refine Qe fun K hK => Qa rfl (Qa rfl (QR rfl rfl (Yb rfl rfl ?_)))
 refine hK _ _ (Qb (kp4 rfl rfl rfl rfl) ?_)
 refine Qw rfl (fun h1 => ?_) (fun h1 => ?_)
 ·try rw [h1]
  try simp only [qa, qb, qc, qd, qe, List.length_map] at h1
  refine Qv (Qd (kp3 rfl rfl rfl) ?_)
  refine QC ?_ -- 2
  refine QA (QN fun K hK => Qa rfl (Qa rfl (Qa rfl (QJ rfl rfl rfl (by omega) (QS (by omega)) rfl (Q9 rfl rfl (QL (ds0 := [7, 1, 0]) (cs := [_, _, _, _, _, _, _]) rfl rfl rfl rfl rfl rfl (QV (ds0 := [1, 0]) (Qar (Nat.le_trans (QeY hl i).1 (by omega)) (QeY hl i).2 (hl.2 _ (List.getElem_mem (by omega))).1) rfl rfl (.inl rfl) rfl rfl (Qa rfl (Qa rfl (QJ rfl rfl rfl (by omega) (QS (by omega)) rfl ?_))))))))))
  refine Q9 rfl rfl (QL (ds0 := [1, 0]) (cs := [_, _, _, _, _, _, _]) rfl rfl rfl rfl rfl rfl (QV (ds0 := [0]) (Qar (Nat.le_trans (QeZ _ _) (by have := (QeY hl i).1; omega)) (Qht (QeY hl i).2 (hl.2 _ (List.getElem_mem (by omega))).1) (hl.2 _ (List.getElem_mem (by omega))).2) rfl rfl (.inl rfl) rfl rfl (Qa rfl (hK _ ?_))))
  refine Qg (Qd (kp3 rfl rfl rfl) (QN fun K hK => Qa rfl (Q3 rfl rfl (by first | exact Qp (by omega) (by omega) | rfl) (Qa rfl (hK _ ?_)))))
  refine Qj (i + 1) ?_ ?_ ?_
  ·exact Q7 (l := [0, 3, 4]) (lH := []) (kp3 rfl rfl rfl) Qo (by rw [QnJ (by omega)]; rfl) rfl rfl
  ·omega
  ·first | omega | (simp only; omega) | (dsimp only; omega)
 ·try rw [h1]
  try simp only [qa, qb, qc, qd, qe, List.length_map] at h1
  refine Zi (QM (Qy (QI (Qd (kp1 rfl) (Qe fun K hK => Qa rfl (Qa rfl ?_))))))
  refine hK _ _ (Qb (kp1 rfl) ?_)
  refine Qu (Yp rfl ?_)
  rw [List.take_of_length_le (show l.length <= i by omega)]; rfl
end Go.Proofs
namespace Go.Proofs
open Go Go.Abs M3 M25
set_option linter.unusedVariables false
set_option linter.unusedSimpArgs false
theorem Qac {l : List (Cu × Cu)} {x y : Cu} (hn : l.length <= 3000000) (hl : ∀ s ∈ l, Cu.sm s.1 /\ Cu.sm s.2) (hx : Cu.sm x) (hy : Cu.sm y) : OkH Try.prog 91 [.osl 500000 l.length, .agg (dCu x), .agg (dCu y)] [(500000, ⟨l.map QeJ, 14, 95, true⟩)] (.osl 500000 (Qb2 l x y).length) [(500000, ⟨(Qb2 l x y).map QeJ, 14, 95, true⟩)] := by
 refine OkH.mv Z2 Try.func91 Qsg (Nat.le_of_ble_eq_true rfl) rfl ?_
 show TW _ _ tf91.body _ _
 refine Qe fun K hK => Zy rfl rfl rfl (Zy rfl rfl rfl (Qa rfl ?_))
 refine hK _ _ (Qb (kp3 rfl rfl rfl) ?_)
 refine QC ?_ -- 0
 refine Qe fun K hK => Qa rfl (QR rfl rfl (QaA rfl rfl (by first | exact Qp (by omega) (by omega) | rfl) (Qa rfl ?_)))
 refine hK _ _ (Qb (kp4 rfl rfl rfl rfl) ?_)
 refine Qe fun K hK => Qa rfl (Qew rfl rfl (Qa rfl ?_))
 refine QF (g := 13) rfl (fun h1 => ?_) (fun h1 => ?_)
 ·try rw [h1]
  try simp only [qa, qb, qc, qd, qe, List.length_map] at h1
  refine Qk rfl (Qa rfl (Qk rfl (Qa rfl (Qk rfl (XI (ds0 := [5, 4, 2, 1, 0]) rfl rfl rfl (by simp) (by omega) (by omega) rfl rfl rfl (Qk rfl (Qh rfl rfl (Qk rfl (QL (ds0 := [2, 1, 0]) (cs := [_, _, _, _, _, _, _]) rfl (Z4 rfl (ZF (by omega) (by omega))) rfl rfl rfl rfl (Qk rfl (QL (ds0 := [2, 1, 0]) (cs := [_, _, _, _, _, _, _]) rfl rfl rfl rfl rfl rfl ?_)))))))))))
  refine Qk rfl (QV (ds0 := [1, 0]) (Zr (hl _ (List.getElem_mem (by omega))).2.1 (hl _ (List.getElem_mem (by omega))).2.2 hx.1 hx.2) rfl rfl (.inr rfl) rfl rfl (Qk rfl (ZH rfl rfl (Qn rfl rfl ?_))))
  refine hK _ _ (Qb (kp5 rfl rfl rfl rfl rfl) ?_)
  refine Qw rfl (fun h2 => ?_) (fun h2 => ?_)
  ·try rw [h2]
   try simp only [qa, qb, qc, qd, qe, List.length_map] at h2
   refine Qe fun K hK => Qa rfl (Qa rfl (QH (cs := [_, _, _, _, _, _, _]) rfl rfl rfl rfl (Xg rfl rfl rfl (by simp) (by omega) (by omega) rfl (Qh rfl rfl (Q5 rfl rfl (ZF (by omega) (by omega)) rfl rfl rfl rfl rfl ?_)))))
   refine hK _ _ (Qb (kp1 rfl) ?_)
   refine Qe fun K hK => Qa rfl (Qa rfl ?_)
   refine hK _ _ (Qb (kp1 rfl) ?_)
   refine Qu (Qi ?_)
   refine YO rfl ?_ (Qda ?_)
   ·rw [Qis (i := ((l.length : Int) - 1).toNat) (by omega) h2]; simp [Qlj, D.fz, D.fzS, QfY, D.can, D.canS]
   ·rw [Qis (i := ((l.length : Int) - 1).toNat) (by omega) h2]; simp [lk, List.map_set, QeJ, dCu, setRow, D.sid]
  ·try rw [h2]
   try simp only [qa, qb, qc, qd, qe, List.length_map] at h2
   refine Qv (Qd (kp3 rfl rfl rfl) (Qe fun K hK => Qa rfl (QH (cs := [_, _, _, _, _, _, _]) rfl rfl rfl rfl (QH (cs := [_, _, _, _, _, _, _]) rfl rfl rfl rfl (QT rfl rfl (QB rfl rfl (XH rfl rfl (fun _ h => Xo rfl rfl rfl h) rfl (by simp) rfl rfl rfl (by simp; omega) (by simp; omega) (Qa rfl ?_))))))))
   refine hK _ _ (Qb (kp1 rfl) ?_)
   refine Qu ?_
   refine YO rfl ?_ (Qda ?_)
   ·rw [QdD (.inr ⟨((l.length : Int) - 1).toNat, by omega, h2⟩)]; simp [Qlj, D.fz, D.fzS, QfY, D.can, D.canS]
   ·rw [QdD (.inr ⟨((l.length : Int) - 1).toNat, by omega, h2⟩)]; simp [lk, QeJ, dCu, D.sid]
 ·try rw [h1]
  try simp only [qa, qb, qc, qd, qe, List.length_map] at h1
  refine Qt rfl (Qt rfl (Qt rfl (Qt rfl (Qt rfl (Qt rfl (Qt rfl (Qt rfl (Qn rfl rfl ?_))))))))
  refine hK _ _ (Qb (kp5 rfl rfl rfl rfl rfl) ?_)
  refine ZP rfl (Qv (Qd (kp3 rfl rfl rfl) (Qe fun K hK => Qa rfl (QH (cs := [_, _, _, _, _, _, _]) rfl rfl rfl rfl (QH (cs := [_, _, _, _, _, _, _]) rfl rfl rfl rfl (QT rfl rfl (QB rfl rfl (XH rfl rfl (fun _ h => Xo rfl rfl rfl h) rfl (by simp) rfl rfl rfl (by simp; omega) (by simp; omega) (Qa rfl ?_)))))))))
  refine hK _ _ (Qb (kp1 rfl) ?_)
  refine Qu ?_
  have h0 : l = [] := List.eq_nil_of_length_eq_zero (by omega)
  refine YO rfl ?_ (Qda ?_)
  ·rw [QdD (.inl h0)]; simp [Qlj, D.fz, D.fzS, QfY, D.can, D.canS]
  ·rw [QdD (.inl h0)]; simp [lk, QeJ, dCu, D.sid]
end Go.Proofs
namespace Go.Proofs
open Go Go.Abs M3 M25
set_option linter.unusedVariables false
set_option linter.unusedSimpArgs false
theorem QcX {l : List (Cu × Cu)} (hl : Sm l) : Ok Try.prog 88 [ZC l] (.tup [ZC (Qjs l), .bool (l.all QdE)]) := by
  refine Ok.ofT Z2 Try.func88 Qsd (Nat.le_of_ble_eq_true rfl) ?_
  show TW _ _ tf88.body _ _
  have hn := hl.1
  have hc1 := Qb0 l
  refine Qe fun K hK => Qa rfl (Qa rfl ?_)
  refine hK _ _ (Qb (kp1 rfl) ?_)
  refine QC ?_ -- 0
  refine Qe fun K hK => Qa rfl ?_
  refine hK _ _ (Qb (kp2 rfl rfl) ?_)
  refine QA ?_
  refine Zq (ι := Nat) (fun i => ⟨[(0, ZC l), (4, .int .i64 i)], []⟩) (fun i => i <= l.length /\ (l.take i).all QdE = true) (fun i => l.length - i) 0 ?_ ?_ ?_
  · exact Zc (kp2 rfl rfl)
  · exact ⟨Nat.zero_le _, by simp⟩
  intro i hI
  try dsimp only
  refine QC ?_ -- 1
  refine Qe fun K hK => Qa rfl (Qa rfl (QR rfl rfl (Yb rfl rfl ?_)))
  refine hK _ _ (Qb (kp3 rfl rfl rfl) ?_)
  refine Qw rfl (fun h1 => ?_) (fun h1 => ?_)
  · try rw [h1]
    try simp only [qa, qb, qc, qd, qe, List.length_map] at h1
    refine Qv (Qd (kp2 rfl rfl) ?_)
    refine QC ?_ -- 2
    refine QA (Qe fun K hK => Qa rfl (Qa rfl (QJ rfl rfl rfl (by omega) (QS (by omega)) rfl (QH (cs := [_, _, _, _, _, _, _, _, _, _, _, _, _, _]) rfl rfl rfl rfl (QG (YE (hl.at (i := i) (by omega)).1.1 (hl.at (i := i) (by omega)).1.2 (hl.at (i := i) (by omega)).2.1 (hl.at (i := i) (by omega)).2.2) rfl rfl (.inr rfl) (Yi rfl ?_))))))
    refine hK _ _ (Qb (kp3 rfl rfl rfl) ?_)
    refine Qw rfl (fun h2 => ?_) (fun h2 => ?_)
    · try rw [h2]
      try simp only [qa, qb, qc, qd, qe, List.length_map] at h2
      refine Qe fun K hK => Qa rfl (Qa rfl ?_)
      refine hK _ _ (Qb (kp2 rfl rfl) ?_)
      refine Qu (Qr (Qi (QZ (Qr (Qi ?_)))))
      first
        | exact QQ rfl rfl ⟨by rw [Qjs, if_neg (by rw [XJ (i := i) (by omega) (by assumption)]; simp)]; rfl, by rw [XJ (i := i) (by omega) (by assumption)]; rfl⟩
        | (have ha : l.all QdE = true := Xy (by omega) hI.2
           exact QQ rfl rfl ⟨by rw [Qjs, if_pos ha, hI2.done (by omega)]; simp [QbI, D.fz, D.fzS, QcQ, lk, D.can, D.canS, ZC], by rw [ha]; rfl⟩)
    · try rw [h2]
      try simp only [qa, qb, qc, qd, qe, List.length_map] at h2
      refine Qv (Qg (Qd (kp2 rfl rfl) (QN fun K hK => Qa rfl (Q3 rfl rfl (by first | exact Qp (by omega) (by omega) | rfl) (Qa rfl (hK _ ?_))))))
      refine Qj (i + 1) ?_ ?_ ?_
      · exact Zc (kp2 rfl rfl)
      · exact ⟨by omega, Z7 (by omega) hI.2 (by assumption)⟩
      · first | omega | (simp only; omega) | (dsimp only; omega)
  · try rw [h1]
    try simp only [qa, qb, qc, qd, qe, List.length_map] at h1
    refine Zi (QM (Qy (QI (Qd (kp1 rfl) (Qe fun K hK => Qa rfl ?_)))))
    refine hK _ _ (Qb (kp2 rfl rfl) ?_)
    refine Qe fun K hK => Qa rfl (QG (Qab hl) rfl rfl (.inl rfl) (Qa rfl ?_))
    refine hK _ _ (Qb (kp3 rfl rfl rfl) ?_)
    refine QC ?_ -- 3
    refine Qe fun K hK => Qa rfl ?_
    refine hK _ _ (Qb (kp4 rfl rfl rfl rfl) ?_)
    refine QA ?_
    refine Zq (ι := Nat × List (Cu × Cu)) (fun ⟨i, out⟩ => ⟨[(0, ZC l), (5, .osl 5 out.length), (6, Qg1 (YS l)), (7, .int .i64 i)], [(5, ⟨out.map QeJ, 14, 95, true⟩)]⟩) (fun ⟨i, out⟩ => i <= (YS l).length /\ FillI (mIn l) (YS l) i out) (fun ⟨i, out⟩ => (YS l).length - i) (0, []) ?_ ?_ ?_
    · exact le_trans (Yx 5 5 14 95 rfl rfl) (Q7 (l := [0, 5, 6, 7]) (lH := [5]) (kp4 rfl rfl rfl rfl) (Qf rfl Qo) rfl rfl rfl)
    · exact ⟨Nat.zero_le _, FillI.zero⟩
    intro ⟨i, out⟩ hI
    obtain ⟨hI1, hI2⟩ := hI
    have hI3 := hI2.1
    try dsimp only
    refine QC ?_ -- 4
    refine Qe fun K hK => Qa rfl (Q3 rfl rfl (by first | exact Qp (by omega) (by omega) | rfl) (Qa rfl (QR rfl rfl (Yb rfl rfl ?_))))
    refine hK _ _ (Qb (kp5 rfl rfl rfl rfl rfl) ?_)
    refine Qw rfl (fun h3 => ?_) (fun h3 => ?_)
    · try rw [h3]
      try simp only [qa, qb, qc, qd, qe, List.length_map] at h3
      refine Qv (Qd (kp4 rfl rfl rfl rfl) ?_)
      refine QC ?_ -- 5
      refine QA (Qe fun K hK => Qa rfl (Qa rfl (Qa rfl (QJ rfl rfl rfl (by omega) (QS (by omega)) rfl (QL (ds0 := [0]) (cs := [_, _, _, _, _, _, _]) rfl rfl rfl rfl rfl rfl (Qa rfl (Qa rfl (Q3 rfl rfl (by first | exact Qp (by omega) (by omega) | rfl) (QJ rfl rfl rfl (by omega) (Qj6 (by omega)) rfl (QL (ds0 := [0]) (cs := [_, _, _, _, _, _, _]) rfl rfl rfl rfl rfl rfl ?_))))))))))
      refine QV (ds0 := []) (QaP hl (Yy hl _ (List.getElem_mem (by omega))) (Yy hl _ (List.getElem_mem (by omega)))) rfl rfl (.inr rfl) rfl rfl ?_
      refine hK _ _ (Qb (kp5 rfl rfl rfl rfl rfl) ?_)
      refine Qw rfl (fun h4 => ?_) (fun h4 => ?_)
      · try rw [h4]
        try simp only [qa, qb, qc, qd, qe, List.length_map] at h4
        refine QN fun K hK => Qa rfl (Qa rfl (Qa rfl (QJ rfl rfl rfl (by omega) (QS (by omega)) rfl (QL (ds0 := [1, 0]) (cs := [_, _, _, _, _, _, _]) rfl rfl rfl rfl rfl rfl (Qa rfl (Qa rfl (Q3 rfl rfl (by first | exact Qp (by omega) (by omega) | rfl) (QJ rfl rfl rfl (by omega) (Qj6 (by omega)) rfl (QL (ds0 := [1, 0]) (cs := [_, _, _, _, _, _, _]) rfl rfl rfl rfl rfl rfl (QjQ (ds0 := [0]) (QjW (k := 5) rfl rfl rfl (by decide) rfl (by decide) (by simp [D.ids, D.sid, dCu]) ⟨.osl 5 out.length, by simp, by simp [D.ids, D.sid]⟩ rfl rfl (Qac (by omega) hI2.2.1 (Yy hl _ (List.getElem_mem (by omega))) (Yy hl _ (List.getElem_mem (by omega))))) (fun _ h => by cases h) rfl rfl ?_))))))))))
        refine Qa rfl (hK _ ?_)
        refine Qg (Qd (kp4 rfl rfl rfl rfl) (QN fun K hK => Qa rfl (Q3 rfl rfl (by first | exact Qp (by omega) (by omega) | rfl) (Qa rfl (hK _ ?_)))))
        refine Qj (i + 1, Qb2 out (YS l)[i] (YS l)[i + 1]) ?_ ?_ ?_
        · exact le_trans (QlZ (l := [0, 6, 7]) (t := 50) (u := 5) 5 (kp3 rfl rfl rfl) rfl rfl rfl rfl) (Q7 (l := [0, 5, 6, 7]) (lH := [5]) (kp4 rfl rfl rfl rfl) (Qf rfl Qo) rfl rfl rfl)
        · exact ⟨by omega, hI2.take (Yy hl) (by omega) (by assumption)⟩
        · show (YS l).length - (i + 1) < (YS l).length - i; omega
      · try rw [h4]
        try simp only [qa, qb, qc, qd, qe, List.length_map] at h4
        refine Qv (Qg (Qd (kp4 rfl rfl rfl rfl) (QN fun K hK => Qa rfl (Q3 rfl rfl (by first | exact Qp (by omega) (by omega) | rfl) (Qa rfl (hK _ ?_))))))
        refine Qj (i + 1, out) ?_ ?_ ?_
        · exact Q7 (l := [0, 5, 6, 7]) (lH := [5]) (kp4 rfl rfl rfl rfl) (Qf rfl Qo) rfl rfl rfl
        · exact ⟨by omega, hI2.skip (by omega) (by assumption)⟩
        · show (YS l).length - (i + 1) < (YS l).length - i; omega
    · try rw [h3]
      try simp only [qa, qb, qc, qd, qe, List.length_map] at h3
      refine Zi (QM (Qy (QI (Qd (kp1 rfl) (Qe fun K hK => Qa rfl (Qa rfl (Qa rfl ?_)))))))
      refine hK _ _ (Qb (kp2 rfl rfl) ?_)
      refine Qu ?_
      first
        | exact QQ rfl rfl ⟨by rw [Qjs, if_neg (by rw [XJ (i := i) (by omega) (by assumption)]; simp)]; rfl, by rw [XJ (i := i) (by omega) (by assumption)]; rfl⟩
        | (have ha : l.all QdE = true := Xy (by omega) hI.2
           exact QQ rfl rfl ⟨by rw [Qjs, if_pos ha, hI2.done (by omega)]; simp [QbI, D.fz, D.fzS, QcQ, lk, D.can, D.canS, ZC], by rw [ha]; rfl⟩)
end Go.Proofs
namespace Go.Proofs
open Go Go.Abs M3 M25
set_option linter.unusedVariables false
set_option linter.unusedSimpArgs false
theorem QaO {a b : List (Cu × Cu)} (ha : Sm a) (hb : Sm b) (hab : a.length + b.length <= 1000000) : Ok Try.prog 82 [ZC a, ZC b] (ZC (Qov a b)) := by
 refine Ok.ofT Z2 Try.func82 Qr7 (Nat.le_of_ble_eq_true rfl) ?_
 show TW _ _ tf82.body _ _
 refine Qe fun K hK => Qa rfl ?_
 refine hK _ _ (Qb (kp2 rfl rfl) ?_)
 refine QC ?_ -- 0
 refine Qe fun K hK => Qa rfl (QG (ZT ha) rfl rfl (.inr rfl) (Yi rfl (Qa rfl ?_)))
 refine QF (g := 10) rfl (fun h1 => ?_) (fun h1 => ?_)
 ·try rw [h1]
  try simp only [qa, qb, qc, qd, qe] at h1
  refine Qt rfl (Qt rfl (Qt rfl (Qn rfl rfl ?_)))
  refine hK _ _ (Qb (kp3 rfl rfl rfl) ?_)
  refine Zv rfl (Qe fun K hK => Qa rfl ?_)
  refine hK _ _ (Qb (kp1 rfl) ?_)
  refine Qu (Qi (Yp rfl ?_))
  rw [Qov, if_neg (by simp [h1])]; rfl
 ·try rw [h1]
  try simp only [qa, qb, qc, qd, qe] at h1
  refine Qk rfl (Qa rfl (Qk rfl (QG (ZT hb) rfl rfl (.inr rfl) (Qk rfl (Yi rfl (Qn rfl rfl ?_))))))
  refine hK _ _ (Qb (kp3 rfl rfl rfl) ?_)
  refine Qw rfl (fun h2 => ?_) (fun h2 => ?_)
  ·try rw [h2]
   try simp only [qa, qb, qc, qd, qe] at h2
   refine Qe fun K hK => Qa rfl ?_
   refine hK _ _ (Qb (kp1 rfl) ?_)
   refine Qu (Qi (Yp rfl ?_))
   rw [Qov, if_neg (by simp [h1, h2])]; rfl
  ·try rw [h2]
   try simp only [qa, qb, qc, qd, qe] at h2
   refine Qv (Qd (kp2 rfl rfl) (Qe fun K hK => Qa rfl (Qlp rfl rfl (fun _ h => QiT QoA h) rfl (.inl rfl) (by simp) (by simp; omega) (by simp; omega) (Qa rfl (XH rfl rfl (fun _ h => QiT QoA h) rfl (by simp) rfl rfl rfl (by simp; omega) (by simp; omega) ?_)))))
   apply QoM [17] (by simp)
   ·simp [St.freezeL, St.freeze, rem, D.fz, D.fzS, Box.fz, lk, D.scrub]; exact ⟨rfl, rfl⟩
   ·exact QcX (ha.app hb hab)
   ·rfl
   ·simp [QbI, D.fz, D.fzS, QcQ, D.can, D.canS, ZC]
   ·exact .inl rfl
   refine Qa rfl (QP rfl rfl (QP rfl rfl (Qa rfl (Qa rfl ?_))))
   refine hK _ _ (Qb (kp1 rfl) ?_)
   refine Qe fun K hK => Qa rfl (Qa rfl ?_)
   refine hK _ _ (Qb (kp1 rfl) ?_)
   refine Qu (Yp rfl ?_)
   rw [Qov, if_pos ⟨h1, h2⟩]; rfl
theorem Qaq {a : List (Cu × Cu)} (ha : Sm a) : Ok Try.prog 83 [ZC a] (ZC (Qjt a)) := by
 refine Ok.ofT Z2 Try.func83 Qr8 (Nat.le_of_ble_eq_true rfl) ?_
 show TW _ _ tf83.body _ _
 have hn := ha.1
 have hc1 := Qb0 a
 refine Qe fun K hK => Qa rfl ?_
 refine hK _ _ (Qb (kp1 rfl) ?_)
 refine QC ?_ -- 0
 refine Qe fun K hK => Qa rfl (QG (ZT ha) rfl rfl (.inr rfl) (Yi rfl ?_))
 refine hK _ _ (Qb (kp2 rfl rfl) ?_)
 refine Qw rfl (fun h1 => ?_) (fun h1 => ?_)
 ·try rw [h1]
  try simp only [qa, qb, qc, qd, qe, List.length_map] at h1
  refine Qe fun K hK => Qa rfl ?_
  refine hK _ _ (Qb (kp1 rfl) ?_)
  refine Qu (Qi (Yp rfl ?_))
  rw [Qjt, if_neg (by simp [h1])]; rfl
 ·try rw [h1]
  try simp only [qa, qb, qc, qd, qe, List.length_map] at h1
  refine Qv (Qd (kp1 rfl) (Qe fun K hK => Qa rfl ?_))
  refine hK _ _ (Qb (kp2 rfl rfl) ?_)
  refine Qe fun K hK => Qa rfl (QG (Qab ha) rfl rfl (.inl rfl) (Qa rfl ?_))
  refine hK _ _ (Qb (kp3 rfl rfl rfl) ?_)
  refine QC ?_ -- 1
  refine Qe fun K hK => Qa rfl ?_
  refine hK _ _ (Qb (kp4 rfl rfl rfl rfl) ?_)
  refine QA ?_
  refine Zq (ι := Nat × List (Cu × Cu)) (fun ⟨i, out⟩ => ⟨[(0, ZC a), (3, .osl 3 out.length), (4, Qg1 (YS a)), (5, .int .i64 i)], [(3, ⟨out.map QeJ, 14, 95, true⟩)]⟩) (fun ⟨i, out⟩ => i <= (YS a).length /\ FillI (fun x y => !mIn a x y) (YS a) i out) (fun ⟨i, out⟩ => (YS a).length - i) (0, []) ?_ ?_ ?_
  ·exact le_trans (Yx 3 3 14 95 rfl rfl) (Q7 (l := [0, 3, 4, 5]) (lH := [3]) (kp4 rfl rfl rfl rfl) (Qf rfl Qo) rfl rfl rfl)
  ·exact ⟨Nat.zero_le _, FillI.zero⟩
  intro ⟨i, out⟩ hI
  obtain ⟨hI1, hI2⟩ := hI
  have hI3 := hI2.1
  try dsimp only
  refine QC ?_ -- 2
  refine Qe fun K hK => Qa rfl (Q3 rfl rfl (by first | exact Qp (by omega) (by omega) | rfl) (Qa rfl (QR rfl rfl (Yb rfl rfl ?_))))
  refine hK _ _ (Qb (kp5 rfl rfl rfl rfl rfl) ?_)
  refine Qw rfl (fun h2 => ?_) (fun h2 => ?_)
  ·try rw [h2]
   try simp only [qa, qb, qc, qd, qe, List.length_map] at h2
   refine Qv (Qd (kp4 rfl rfl rfl rfl) ?_)
   refine QC ?_ -- 3
   refine QA (Qe fun K hK => Qa rfl (Qa rfl (Qa rfl (QJ rfl rfl rfl (by omega) (QS (by omega)) rfl (QL (ds0 := [1, 0]) (cs := [_, _, _, _, _, _, _]) rfl rfl rfl rfl rfl rfl (Qa rfl (Qa rfl (Q3 rfl rfl (by first | exact Qp (by omega) (by omega) | rfl) (QJ rfl rfl rfl (by omega) (Qj6 (by omega)) rfl (QL (ds0 := [1, 0]) (cs := [_, _, _, _, _, _, _]) rfl rfl rfl rfl rfl rfl ?_))))))))))
   refine QV (ds0 := [0]) (QaP ha (Yy ha _ (List.getElem_mem (by omega))) (Yy ha _ (List.getElem_mem (by omega)))) rfl rfl (.inr rfl) rfl rfl (Yi rfl ?_)
   refine hK _ _ (Qb (kp5 rfl rfl rfl rfl rfl) ?_)
   refine Qw rfl (fun h3 => ?_) (fun h3 => ?_)
   ·try rw [h3]
    try simp only [qa, qb, qc, qd, qe, List.length_map] at h3
    refine QN fun K hK => Qa rfl (Qa rfl (Qa rfl (QJ rfl rfl rfl (by omega) (QS (by omega)) rfl (QL (ds0 := [1, 0]) (cs := [_, _, _, _, _, _, _]) rfl rfl rfl rfl rfl rfl (Qa rfl (Qa rfl (Q3 rfl rfl (by first | exact Qp (by omega) (by omega) | rfl) (QJ rfl rfl rfl (by omega) (Qj6 (by omega)) rfl (QL (ds0 := [1, 0]) (cs := [_, _, _, _, _, _, _]) rfl rfl rfl rfl rfl rfl (QjQ (ds0 := [0]) (QjW (k := 3) rfl rfl rfl (by decide) rfl (by decide) (by simp [D.ids, D.sid, dCu]) ⟨.osl 3 out.length, by simp, by simp [D.ids, D.sid]⟩ rfl rfl (Qac (by omega) hI2.2.1 (Yy ha _ (List.getElem_mem (by omega))) (Yy ha _ (List.getElem_mem (by omega))))) (fun _ h => by cases h) rfl rfl ?_))))))))))
    refine Qa rfl (hK _ ?_)
    refine Qg (Qd (kp4 rfl rfl rfl rfl) (QN fun K hK => Qa rfl (Q3 rfl rfl (by first | exact Qp (by omega) (by omega) | rfl) (Qa rfl (hK _ ?_)))))
    refine Qj (i + 1, Qb2 out (YS a)[i] (YS a)[i + 1]) ?_ ?_ ?_
    ·exact le_trans (QlZ (l := [0, 4, 5]) (t := 40) (u := 3) 3 (kp3 rfl rfl rfl) rfl rfl rfl rfl) (Q7 (l := [0, 3, 4, 5]) (lH := [3]) (kp4 rfl rfl rfl rfl) (Qf rfl Qo) rfl rfl rfl)
    ·exact ⟨by omega, hI2.take (Yy ha) (by omega) (by simp; assumption)⟩
    ·show (YS a).length - (i + 1) < (YS a).length - i; omega
   ·try rw [h3]
    try simp only [qa, qb, qc, qd, qe, List.length_map] at h3
    refine Qv (Qg (Qd (kp4 rfl rfl rfl rfl) (QN fun K hK => Qa rfl (Q3 rfl rfl (by first | exact Qp (by omega) (by omega) | rfl) (Qa rfl (hK _ ?_))))))
    refine Qj (i + 1, out) ?_ ?_ ?_
    ·exact Q7 (l := [0, 3, 4, 5]) (lH := [3]) (kp4 rfl rfl rfl rfl) (Qf rfl Qo) rfl rfl rfl
    ·exact ⟨by omega, hI2.skip (by omega) (by simp; assumption)⟩
    ·show (YS a).length - (i + 1) < (YS a).length - i; omega
  ·try rw [h2]
   try simp only [qa, qb, qc, qd, qe, List.length_map] at h2
   refine Zi (QM (Qy (QI (Qd (kp1 rfl) (Qe fun K hK => Qa rfl (Qa rfl ?_))))))
   refine hK _ _ (Qb (kp1 rfl) ?_)
   refine Qu (Yp rfl ?_)
   rw [Qjt, if_pos h1, hI2.done (by omega)]; simp [QbI, D.fz, D.fzS, QcQ, lk, D.can, D.canS, ZC]
end Go.Proofs
namespace Go.Proofs
open Go Go.Abs M3 M25
set_option linter.unusedVariables false
set_option linter.unusedSimpArgs false
theorem Qd1 {a b : QeP} (h1a : Sm a.1) (h2a : Sm a.2) (h1b : Sm b.1) (h2b : Sm b.2) (hl1 : a.1.length + b.1.length <= 1000000) (hl2 : a.2.length + b.2.length <= 1000000) : Ok Try.prog 64 [Qg2 a, Qg2 b] (Qg2 (Qow a b)) := by
 refine Ok.ofT Z2 Try.func64 QrP (Nat.le_of_ble_eq_true rfl) ?_
 show TW _ _ tf64.body _ _
 refine Qe fun K hK => Zy rfl rfl rfl (Zy rfl rfl rfl (ZD rfl ?_))
 refine hK _ _ (Qb (kp3 rfl rfl rfl) ?_)
 refine QC ?_ -- 0
 refine Qe fun K hK => QH (cs := [_, _]) rfl rfl rfl rfl (QG (YF h1a h2a) rfl rfl (.inr rfl) (Yi rfl (Qa rfl ?_)))
 refine QF (g := 8) rfl (fun h1 => ?_) (fun h1 => ?_)
 ·try rw [h1]
  try simp only [qa, qb, qc, qd, qe] at h1
  refine Qt rfl (Qt rfl (Qt rfl (Qn rfl rfl ?_)))
  refine hK _ _ (Qb (kp4 rfl rfl rfl rfl) ?_)
  refine Zv rfl (Qe fun K hK => QG (Z5) rfl rfl (.inl rfl) (Q5 rfl rfl rfl rfl rfl rfl rfl rfl ?_))
  refine hK _ _ (Qb (kp1 rfl) ?_)
  refine Qu (Qi (Post.eq (ZB (ds := [.sl _, .sl _]) (cs := [_, _]) rfl rfl rfl rfl rfl) ?_))
  rw [Qow, if_neg (by simp [h1])]; rfl
 ·try rw [h1]
  try simp only [qa, qb, qc, qd, qe] at h1
  refine Qk rfl (QH (cs := [_, _]) rfl rfl rfl rfl (Qk rfl (QG (YF h1b h2b) rfl rfl (.inr rfl) (Qk rfl (Yi rfl (Qn rfl rfl ?_))))))
  refine hK _ _ (Qb (kp4 rfl rfl rfl rfl) ?_)
  refine Qw rfl (fun h2 => ?_) (fun h2 => ?_)
  ·try rw [h2]
   try simp only [qa, qb, qc, qd, qe] at h2
   refine Qe fun K hK => QG (Z5) rfl rfl (.inl rfl) (Q5 rfl rfl rfl rfl rfl rfl rfl rfl ?_)
   refine hK _ _ (Qb (kp1 rfl) ?_)
   refine Qu (Qi (Post.eq (ZB (ds := [.sl _, .sl _]) (cs := [_, _]) rfl rfl rfl rfl rfl) ?_))
   rw [Qow, if_neg (by simp [h1, h2])]; rfl
  ·try rw [h2]
   try simp only [qa, qb, qc, qd, qe] at h2
   refine Qv (Qd (kp3 rfl rfl rfl) (Qe fun K hK => Qh rfl rfl (QW (ds0 := [7, 1, 0]) rfl rfl rfl rfl rfl (Qh rfl rfl (QW (ds0 := [7, 1, 0]) rfl rfl rfl rfl rfl (QV (ds0 := [1, 0]) (QaO h1a h1b hl1) rfl rfl (.inl rfl) rfl rfl (Qh rfl rfl (QW (ds0 := [2, 1, 0]) rfl rfl rfl rfl rfl (Qh rfl rfl (QW (ds0 := [2, 1, 0]) rfl rfl rfl rfl rfl ?_))))))))))
   refine QV (ds0 := [1, 0]) (QaO h2a h2b hl2) rfl rfl (.inl rfl) rfl rfl (QT rfl rfl (Y2 (ds0 := []) rfl rfl rfl rfl rfl rfl rfl rfl rfl rfl ?_))
   refine hK _ _ (Qb (kp1 rfl) ?_)
   refine Qu (Post.eq (ZB (ds := [.sl _, .sl _]) (cs := [_, _]) rfl rfl rfl rfl rfl) ?_)
   rw [Qow, if_pos ⟨h1, h2⟩]; rfl
theorem Qdl {a : QeP} (h1a : Sm a.1) (h2a : Sm a.2) : Ok Try.prog 65 [Qg2 a] (Qg2 (Qhs a)) := by
 refine Ok.ofT Z2 Try.func65 QrQ (Nat.le_of_ble_eq_true rfl) ?_
 show TW _ _ tf65.body _ _
 refine Qe fun K hK => Zy rfl rfl rfl (ZD rfl ?_)
 refine hK _ _ (Qb (kp2 rfl rfl) ?_)
 refine QC ?_ -- 0
 refine Qe fun K hK => QH (cs := [_, _]) rfl rfl rfl rfl (QG (YF h1a h2a) rfl rfl (.inr rfl) (Yi rfl ?_))
 refine hK _ _ (Qb (kp3 rfl rfl rfl) ?_)
 refine Qw rfl (fun h1 => ?_) (fun h1 => ?_)
 ·try rw [h1]
  try simp only [qa, qb, qc, qd, qe] at h1
  refine Qe fun K hK => QG (Z5) rfl rfl (.inl rfl) (Q5 rfl rfl rfl rfl rfl rfl rfl rfl ?_)
  refine hK _ _ (Qb (kp1 rfl) ?_)
  refine Qu (Qi (Post.eq (ZB (ds := [.sl _, .sl _]) (cs := [_, _]) rfl rfl rfl rfl rfl) ?_))
  rw [Qhs, if_neg (by simp [h1])]; rfl
 ·try rw [h1]
  try simp only [qa, qb, qc, qd, qe] at h1
  refine Qv (Qd (kp2 rfl rfl) (Qe fun K hK => Qh rfl rfl (QW (ds0 := [5, 1, 0]) rfl rfl rfl rfl rfl (QV (ds0 := [1, 0]) (Qaq h1a) rfl rfl (.inl rfl) rfl rfl (Qh rfl rfl (QW (ds0 := [2, 1, 0]) rfl rfl rfl rfl rfl (QV (ds0 := [1, 0]) (Qaq h2a) rfl rfl (.inl rfl) rfl rfl (QT rfl rfl (Y2 (ds0 := []) rfl rfl rfl rfl rfl rfl rfl rfl rfl rfl ?_)))))))))
  refine hK _ _ (Qb (kp1 rfl) ?_)
  refine Qu (Post.eq (ZB (ds := [.sl _, .sl _]) (cs := [_, _]) rfl rfl rfl rfl rfl) ?_)
  rw [Qhs, if_pos h1]; rfl
end Go.Proofs
namespace Go.Proofs
open Go Go.Abs M3 M25
set_option linter.unusedVariables false
set_option linter.unusedSimpArgs false
theorem Yj {v n : Int} (hn : n <= 9223372036854775807) (hv : I64 v) : Ok Try.prog 10 [.int .i64 v, .int .i64 n] (.int .i64 (mPl v n)) := by
 refine Ok.ofT Z2 Try.func10 QqX (Nat.le_of_ble_eq_true rfl) ?_
 show TW _ _ tf10.body _ _
 refine Qe fun K hK => Qa rfl ?_
 refine hK _ _ (Qb (kp2 rfl rfl) ?_)
 refine QC ?_ -- 0
 refine Qe fun K hK => Qa rfl (Yb rfl rfl ?_)
 refine hK _ _ (Qb (kp3 rfl rfl rfl) ?_)
 refine Qw rfl (fun h1 => ?_) (fun h1 => ?_)
 ·try rw [h1]
  try simp only [qa, qb, qc, qd, qe] at h1
  refine Qe fun K hK => Qa rfl ?_
  refine hK _ _ (Qb (kp1 rfl) ?_)
  refine Qu (Qi (QE rfl ?_))
  rw [mPl, if_pos h1]
 ·try rw [h1]
  try simp only [qa, qb, qc, qd, qe] at h1
  refine Qv (Qd (kp2 rfl rfl) (Qe fun K hK => Qa rfl (Qa rfl (Qnb rfl rfl (by omega) (Qa rfl ?_)))))
  refine hK _ _ (Qb (kp2 rfl rfl) ?_)
  refine QC ?_ -- 1
  refine Qe fun K hK => Qa rfl (Yb rfl rfl ?_)
  refine hK _ _ (Qb (kp3 rfl rfl rfl) ?_)
  refine Qw rfl (fun h2 => ?_) (fun h2 => ?_)
  ·try rw [h2]
   try simp only [qa, qb, qc, qd, qe] at h2
   refine Qe fun K hK => Qa rfl (Qa rfl (Q3 rfl rfl (Qp (by have := Int.lt_tmod_of_pos v (show 0 < n by omega); omega) (by have := Int.tmod_lt_of_pos v (show 0 < n by omega); omega)) (Qa rfl ?_)))
   refine hK _ _ (Qb (kp1 rfl) ?_)
   refine Qu (Qi (QE rfl ?_))
   rw [mPl, if_neg h1, QfK, if_pos h2]
  ·try rw [h2]
   try simp only [qa, qb, qc, qd, qe] at h2
   refine Qv (Qd (kp1 rfl) (Qe fun K hK => Qa rfl (Qa rfl ?_)))
   refine hK _ _ (Qb (kp1 rfl) ?_)
   refine Qu (QE rfl ?_)
   rw [mPl, if_neg h1, QfK, if_neg h2]
theorem Qd0 {l : List Int} {i : Int} : Ok Try.prog 41 [Zt l, .int .i64 i] (.int .i64 (Qm5 l i)) := by
 refine Ok.ofT Z2 Try.func41 Qrs (Nat.le_of_ble_eq_true rfl) ?_
 show TW _ _ tf41.body _ _
 refine Qe fun K hK => Qa rfl ?_
 refine hK _ _ (Qb (kp2 rfl rfl) ?_)
 refine QC ?_ -- 0
 refine Qe fun K hK => Qa rfl (Yb rfl rfl (Qa rfl ?_))
 refine QF (g := 7) rfl (fun h1 => ?_) (fun h1 => ?_)
 ·try rw [h1]
  try simp only [qa, qb, qc, qd, qe, List.length_map] at h1
  refine Qt rfl (Qt rfl (Qt rfl (Qt rfl (Qn rfl rfl ?_))))
  refine hK _ _ (Qb (kp3 rfl rfl rfl) ?_)
  refine Zv rfl (Qe fun K hK => Qa rfl (Qnb rfl rfl (by omega) (Qa rfl ?_)))
  refine hK _ _ (Qb (kp1 rfl) ?_)
  refine Qu (Qi (QE rfl ?_))
  rw [Qm5, if_pos (by omega)]
 ·try rw [h1]
  try simp only [qa, qb, qc, qd, qe, List.length_map] at h1
  refine Qk rfl (Qa rfl (Qk rfl (Qa rfl (Qk rfl (QR rfl rfl (Qk rfl (Qew rfl rfl (Qn rfl rfl ?_))))))))
  refine hK _ _ (Qb (kp3 rfl rfl rfl) ?_)
  refine Qw rfl (fun h2 => ?_) (fun h2 => ?_)
  ·try rw [h2]
   try simp only [qa, qb, qc, qd, qe, List.length_map] at h2
   refine Qe fun K hK => Qa rfl (Qnb rfl rfl (by omega) (Qa rfl ?_))
   refine hK _ _ (Qb (kp1 rfl) ?_)
   refine Qu (Qi (QE rfl ?_))
   rw [Qm5, if_pos (by omega)]
  ·try rw [h2]
   try simp only [qa, qb, qc, qd, qe, List.length_map] at h2
   refine Qv (Qd (kp2 rfl rfl) (Qe fun K hK => Qa rfl (Qa rfl (QJ rfl rfl rfl (by omega) (ZF (by omega) (by omega)) rfl (Qz rfl rfl rfl (Qa rfl ?_))))))
   refine hK _ _ (Qb (kp1 rfl) ?_)
   refine Qu (QE rfl ?_)
   exact (Ql6 (by omega) (by omega)).symm
theorem XK {k : Nat} {L : List Int} {I n : Int} (hk : 1000000 <= k) (hL : ∀ x ∈ L, I64 x) (hn : n <= 9223372036854775807) (et : Nat) : OkH Try.prog 18 [.ref k 0 0, .int .i64 n] [(k, gB L I et)] (.int .i64 (nx L I n)) ((k, gB L (nxI I) et) :: [(k, gB L I et)]) := by
 refine OkH.lent hk Z2 Try.func18 Qq5 (Nat.le_of_ble_eq_true rfl) rfl ?_
 show TW _ _ tf18.body _ _
 refine Qe fun K hK => Qa rfl ?_
 refine hK _ _ (Qb (kp2 rfl rfl) ?_)
 refine Qe fun K hK => Qa rfl (Ya rfl rfl (Qh rfl QeX (Qz rfl (Z4 Qec rfl) rfl (Q3 rfl rfl rfl (Ya rfl rfl (Qh rfl QeX (Q5 rfl Qec rfl rfl rfl rfl rfl rfl ?_)))))))
 refine hK _ _ (Qb (kp2 rfl rfl) ?_)
 refine Qe fun K hK => Qa rfl (Ya rfl rfl (Qh rfl QeX (QW (ds0 := [3, 1, 0]) rfl (Z4 Qec rfl) rfl rfl rfl (Qa rfl (Ya rfl rfl (Qh rfl QeX (QW (ds0 := [4, 3, 1, 0]) rfl (Z4 Qec rfl) rfl rfl rfl (QaA rfl rfl rfl (QV (ds0 := [1, 0]) (Qd0) rfl rfl (.inr rfl) rfl rfl (Qa rfl ?_))))))))))
 refine QV (ds0 := [0]) (Yj hn (QnI hL (Qf4 _))) rfl rfl (.inr rfl) rfl rfl (Qa rfl ?_)
 refine hK _ _ (Qb (kp1 rfl) ?_)
 refine Qu ?_
 exact YO rfl rfl (Qpr Qec)
end Go.Proofs
namespace Go.Proofs
open Go Go.Abs M3 M25
set_option linter.unusedVariables false
set_option linter.unusedSimpArgs false
theorem Y6 {v : Int} (h0 : 0 <= v) (h1v : v <= 61) : Ok Try.prog 43 [.int .i64 v] (.int .i64 (2 ^ v.toNat)) := by
 refine Ok.ofT Z2 Try.func43 Qru (Nat.le_of_ble_eq_true rfl) ?_
 show TW _ _ tf43.body _ _
 refine Qe fun K hK => Qa rfl ?_
 refine hK _ _ (Qb (kp1 rfl) ?_)
 refine Qe fun K hK => Qa rfl ?_
 refine hK _ _ (Qb (kp2 rfl rfl) ?_)
 refine QC ?_ -- 0
 refine Qe fun K hK => Qa rfl ?_
 refine hK _ _ (Qb (kp3 rfl rfl rfl) ?_)
 refine QA ?_
 refine Zq (ι := Nat) (fun i => ⟨[(0, .int .i64 v), (3, .int .i64 (2 ^ i)), (4, .int .i64 i)], []⟩) (fun i => (i : Int) <= v) (fun i => v.toNat - i) 0 ?_ ?_ ?_
 ·exact Zc (kp3 rfl rfl rfl)
 ·exact h0
 intro i hI
 have hp := Qhx (i := i + 1) (by omega)
 rw [Int.pow_succ] at hp
 try dsimp only
 refine QC ?_ -- 1
 refine Qe fun K hK => Qa rfl (Qa rfl (Yb rfl rfl ?_))
 refine hK _ _ (Qb (kp4 rfl rfl rfl rfl) ?_)
 refine Qw rfl (fun h1 => ?_) (fun h1 => ?_)
 ·try rw [h1]
  try simp only [qa, qb, qc, qd, qe] at h1
  refine Qv (Qd (kp3 rfl rfl rfl) ?_)
  refine QC ?_ -- 2
  refine QA (QN fun K hK => Qa rfl (QoP rfl rfl (Qp (by obtain ⟨p1, p2⟩ := hp; generalize (2 : Int) ^ i = z at *; omega) (by obtain ⟨p1, p2⟩ := hp; generalize (2 : Int) ^ i = z at *; omega)) (Qa rfl (hK _ ?_))))
  refine Qg (Qd (kp3 rfl rfl rfl) (QN fun K hK => Qa rfl (Q3 rfl rfl (Qp (by omega) (by omega)) (Qa rfl (hK _ ?_)))))
  refine Qj (i + 1) ?_ ?_ ?_
  ·exact Q7 (l := [0, 3, 4]) (lH := []) (kp3 rfl rfl rfl) Qo (by rw [Int.pow_succ]; rfl) rfl rfl
  ·show ((i + 1 : Nat) : Int) <= v; omega
  ·first | omega | (simp only; omega) | (dsimp only; omega)
 ·try rw [h1]
  try simp only [qa, qb, qc, qd, qe] at h1
  refine Zi (QM (Qy (QI (Qd (kp1 rfl) (Qe fun K hK => Qa rfl (Qa rfl ?_))))))
  refine hK _ _ (Qb (kp1 rfl) ?_)
  refine Qu (QE rfl ?_)
  rw [show v.toNat = i by omega]
theorem XL {h m : Int} : Ok Try.prog 50 [.int .i64 h, .int .i64 m] (.int .i64 (ZS h m)) := by
 refine Ok.ofT Z2 Try.func50 QrB (Nat.le_of_ble_eq_true rfl) ?_
 show TW _ _ tf50.body _ _
 refine Qe fun K hK => Qa rfl ?_
 refine hK _ _ (Qb (kp2 rfl rfl) ?_)
 refine QC ?_ -- 0
 refine QA (Qe fun K hK => Qa rfl (Qa rfl (QeH rfl rfl (Qa rfl (ZH rfl rfl (Qa rfl ?_))))))
 refine hK _ _ (Qb (kp3 rfl rfl rfl) ?_)
 refine Qw rfl (fun h1 => ?_) (fun h1 => ?_)
 ·try rw [h1]
  try simp only [qa, qb, qc, qd, qe] at h1
  refine Qe fun K hK => Qa rfl ?_
  refine hK _ _ (Qb (kp1 rfl) ?_)
  refine Qu (Qr (Qi (QE rfl ?_)))
  rw [ZS, if_pos h1]
 ·try rw [h1]
  try simp only [qa, qb, qc, qd, qe] at h1
  refine Qe fun K hK => Qa rfl (Qa rfl (QeH rfl rfl (ZH rfl rfl (Qa rfl ?_))))
  refine hK _ _ (Qb (kp1 rfl) ?_)
  refine Qw rfl (fun h2 => ?_) (fun h2 => ?_)
  ·try rw [h2]
   try simp only [qa, qb, qc, qd, qe] at h2
   refine Qe fun K hK => Qa rfl ?_
   refine hK _ _ (Qb (kp1 rfl) ?_)
   refine Qu (Qr (Qi (QE rfl ?_)))
   rw [ZS, if_neg h1, if_pos h2]
  ·try rw [h2]
   try simp only [qa, qb, qc, qd, qe] at h2
   refine Qv (Qg (Qd (Q4) (Qe fun K hK => Qa rfl ?_)))
   refine hK _ _ (Qb (kp1 rfl) ?_)
   refine Qu (QE rfl ?_)
   rw [ZS, if_neg h1, if_neg h2]
theorem Qh0 {h m : Int} : Ok Try.prog 72 [.int .i64 h, .int .i64 m] (.int .i64 (QaE h m)) := by
 refine Ok.ofT Z2 Try.func72 QrX (Nat.le_of_ble_eq_true rfl) ?_
 show TW _ _ tf72.body _ _
 refine Qe fun K hK => Qa rfl ?_
 refine hK _ _ (Qb (kp2 rfl rfl) ?_)
 refine QC ?_ -- 0
 refine QA (Qe fun K hK => Qa rfl (Qa rfl (QeO rfl rfl (ZH rfl rfl (Qa rfl ?_)))))
 refine hK _ _ (Qb (kp3 rfl rfl rfl) ?_)
 refine Qw rfl (fun h1 => ?_) (fun h1 => ?_)
 ·try rw [h1]
  try simp only [qa, qb, qc, qd, qe] at h1
  refine Qe fun K hK => Qa rfl ?_
  refine hK _ _ (Qb (kp1 rfl) ?_)
  refine Qu (Qr (Qi (QE rfl ?_)))
  rw [QaE, if_pos h1]
 ·try rw [h1]
  try simp only [qa, qb, qc, qd, qe] at h1
  refine Qe fun K hK => Qa rfl (Qa rfl (QeH rfl rfl (ZH rfl rfl (Qa rfl ?_))))
  refine hK _ _ (Qb (kp1 rfl) ?_)
  refine Qw rfl (fun h2 => ?_) (fun h2 => ?_)
  ·try rw [h2]
   try simp only [qa, qb, qc, qd, qe] at h2
   refine Qe fun K hK => Qa rfl ?_
   refine hK _ _ (Qb (kp1 rfl) ?_)
   refine Qu (Qr (Qi (QE rfl ?_)))
   rw [QaE, if_neg h1, if_pos h2]
  ·try rw [h2]
   try simp only [qa, qb, qc, qd, qe] at h2
   refine Qv (Qg (Qd (Q4) (Qe fun K hK => Qa rfl ?_)))
   refine hK _ _ (Qb (kp1 rfl) ?_)
   refine Qu (QE rfl ?_)
   rw [QaE, if_neg h1, if_neg h2]
end Go.Proofs
namespace Go.Proofs
open Go Go.Abs M3 M25
set_option linter.unusedVariables false
set_option linter.unusedSimpArgs false
theorem Xi  : Ok Try.prog 33 [] (.sl (versions.map dVr)) := by
 refine Ok.ofT Z2 Try.func33 Qrk (Nat.le_of_ble_eq_true rfl) ?_
 show TW _ _ tf33.body _ _
 refine Qe fun K hK => Qa rfl ?_
 refine hK _ _ (Qb (Q4) ?_)
 refine Qe fun K hK => QT rfl rfl (QT rfl rfl (QT rfl rfl (QT rfl rfl (QB rfl rfl (Qa rfl ?_)))))
 refine hK _ _ (Qb (kp1 rfl) ?_)
 refine Qu (Yp rfl ?_)
 rfl
end Go.Proofs
namespace M25
open Go Go.Abs M3
structure WantT where
 u : Int
 s : QeP
structure CandT where
 v : Vr
 sh : Int
 ns : List (List WantT)
 bs : List WantT
structure Qnd where
 n : List UInt8
 f : List UInt8
 cs : List CandT
abbrev Qq := List Qnd
def QeK (x : WantT) : List D := [.int .i64 x.u, ZC x.s.1, ZC x.s.2]
def Q8 (l : List WantT) : D := .sl (l.map QeK)
def QU (l : List (List WantT)) : D := .sl (l.map fun r => [Q8 r])
def Qo4 (c : CandT) : List D := [.int .i64 c.v.a, .int .i64 c.v.b, .int .i64 c.v.c, .str c.v.p, .str c.v.q, .int .i64 c.sh, QU c.ns, Q8 c.bs]
def QjX (l : List CandT) : D := .sl (l.map Qo4)
def YK (u : Qnd) : List D := [.str u.n, .str u.f, QjX u.cs]
def Z9 (w : Qq) : D := .agg [.sl (w.map YK)]
structure TermT where
 u : Int
 m : Int
 deriving DecidableEq
structure StepT where
 u : Int
 m : Int
 l : Int
 c : Int
 deriving DecidableEq
structure RowT where
 k : Int
 u : Int
 a : Int
 b : Int
 t : List TermT
def Qd6 (t : TermT) : List D := [.int .i64 t.u, .int .i64 t.m]
def ZE (l : List TermT) : D := .sl (l.map Qd6)
def Qfi (s : StepT) : List D := [.int .i64 s.u, .int .i64 s.m, .int .i64 s.l, .int .i64 s.c]
def Zw (l : List StepT) : D := .sl (l.map Qfi)
def QlC (r : RowT) : List D := [.int .i64 r.k, .int .i64 r.u, .int .i64 r.a, .int .i64 r.b, ZE r.t]
def QpS (l : List RowT) : D := .sl (l.map QlC)
def dDb (l : List (List TermT)) : D := .sl (l.map fun t => [ZE t])
abbrev QbE (a b : Int) : Int := Qai .and .i64 a b
abbrev bor (a b : Int) : Int := Qai .or .i64 a b
abbrev Qf6 (a b : Int) : Int := Qai .andNot .i64 a b
def uAt (w : Qq) (u : Int) : Option Qnd := if u < 0 then none else w[u.toNat]?
theorem QkF {w : Qq} {u : Int} (h0 : 0 <= u) (h : u < w.length) : uAt w u = some (w[u.toNat]'(by omega)) := by
 rw [uAt, if_neg (by omega), List.getElem?_eq_getElem (by omega)]
theorem QjJ {w : Qq} {u : Int} (h : u < 0 \/ (w.length : Int) <= u) : uAt w u = none := by
 unfold uAt
 split
 ·rfl
 ·rw [List.getElem?_eq_none]; omega
def YZ (w : Qq) (u : Int) : Int := match uAt w u with
 | none => 0
 | some x => 2 ^ (min x.cs.length 16 + 1) - 1
theorem Qhp {w : Qq} {u : Int} (h0 : 0 <= u) (h : u < w.length) : YZ w u = 2 ^ (min (w[u.toNat]'(by omega)).cs.length 16 + 1) - 1 := by
 rw [YZ, QkF h0 h]
theorem QdC {w : Qq} {u : Int} (h : u < 0 \/ (w.length : Int) <= u) : YZ w u = 0 := by rw [YZ, QjJ h]
theorem Qho (w : Qq) (u : Int) : 0 <= YZ w u /\ YZ w u <= 131071 := by
 unfold YZ
 split
 ·omega
 ·rename_i x _
  have h1 : (2 : Nat) ^ (min x.cs.length 16 + 1) <= 2 ^ 17 := Nat.pow_le_pow_right (by omega) (by omega)
  have h2 : 1 <= (2 : Nat) ^ (min x.cs.length 16 + 1) := Nat.one_le_two_pow
  have h3 : ((2 ^ (min x.cs.length 16 + 1) : Nat) : Int) = (2 : Int) ^ (min x.cs.length 16 + 1) := by simp
  rw [<- h3]
  have h4 : (2 : Nat) ^ 17 = 131072 := by decide
  omega
def Qgf (v : Vr) : Prop := v.p.length <= 1000000 /\ v.q.length <= 1000000
structure WSm (w : Qq) : Prop where
 len : w.length <= 48
 cs : ∀ u ∈ w, u.cs.length <= 16
 vs : ∀ u ∈ w, ∀ c ∈ u.cs, Qgf c.v
 ns : ∀ u ∈ w, ∀ c ∈ u.cs, c.ns.length <= 1000 /\ c.bs.length <= 1000
 nl : ∀ u ∈ w, ∀ c ∈ u.cs, ∀ r ∈ c.ns, r.length <= 1000
 nw : ∀ u ∈ w, ∀ c ∈ u.cs, ∀ r ∈ c.ns, ∀ x ∈ r, Sm x.s.1 /\ Sm x.s.2
 bw : ∀ u ∈ w, ∀ c ∈ u.cs, ∀ x ∈ c.bs, Sm x.s.1 /\ Sm x.s.2
def QqB (s : QeP) (v : Vr) : Bool := Qk7 s v.a v.b v.c v.p v.q
def QbD (s : QeP) (l : List CandT) : Nat -> Int
 | 0 => 0
 | n + 1 => QbD s l n + match l[n]? with
  | some c => if QqB s c.v = true then 2 ^ (n + 1) else 0
  | none => 0
theorem Qkn (s : QeP) (l : List CandT) : ∀ n, 0 <= QbD s l n /\ QbD s l n <= 2 ^ (n + 1) - 2
 | 0 => by simp [QbD]
 | n + 1 => by
  obtain ⟨h1, h2⟩ := Qkn s l n
  have h3 : (2 : Int) ^ (n + 1 + 1) = 2 ^ (n + 1) * 2 := Int.pow_succ ..
  have h4 : (0 : Int) < 2 ^ (n + 1) := Int.pow_pos (by omega)
  rw [QbD, h3]
  generalize (2 : Int) ^ (n + 1) = z at *
  split
  ·split <;> omega
  ·omega
theorem Qmi {s : QeP} {l : List CandT} {i : Nat} (h : i < l.length) (hp : QqB s l[i].v = true) : QbD s l (i + 1) = QbD s l i + 2 ^ (i + 1) := by
 rw [QbD, List.getElem?_eq_getElem h]; simp only [hp, if_true]
theorem QnM {s : QeP} {l : List CandT} {i : Nat} (h : i < l.length) (hp : QqB s l[i].v = false) : QbD s l (i + 1) = QbD s l i := by
 rw [QbD, List.getElem?_eq_getElem h]; simp only [hp, Bool.false_eq_true, if_false, Int.add_zero]
def Qi2 (w : Qq) (x : WantT) : Int := match uAt w x.u with
 | none => 0
 | some un => QbD x.s un.cs (min un.cs.length 16)
theorem Qmc {w : Qq} {x : WantT} (h0 : 0 <= x.u) (h : x.u < w.length) : Qi2 w x = QbD x.s (w[x.u.toNat]'(by omega)).cs (min (w[x.u.toNat]'(by omega)).cs.length 16) := by
 rw [Qi2, QkF h0 h]
theorem Qkj {w : Qq} {x : WantT} (h : x.u < 0 \/ (w.length : Int) <= x.u) : Qi2 w x = 0 := by rw [Qi2, QjJ h]
theorem Qpj {n : Nat} (h : n <= 17) : 1 <= (2 : Int) ^ n /\ (2 : Int) ^ n <= 131072 := by
 have h1 : (2 : Nat) ^ n <= 2 ^ 17 := Nat.pow_le_pow_right (by omega) h
 have h2 : 1 <= (2 : Nat) ^ n := Nat.one_le_two_pow
 have h3 : ((2 ^ n : Nat) : Int) = (2 : Int) ^ n := by simp
 rw [<- h3]
 have h4 : (2 : Nat) ^ 17 = 131072 := by decide
 omega
theorem Qkm (s : QeP) (l : List CandT) {n : Nat} (h : n <= 16) : 0 <= QbD s l n /\ QbD s l n <= 131070 := by
 obtain ⟨h1, h2⟩ := Qkn s l n
 have := Qpj (n := n + 1) (by omega)
 omega
theorem Qpd (w : Qq) (x : WantT) : 0 <= Qi2 w x /\ Qi2 w x <= 131070 := by
 unfold Qi2
 split
 ·omega
 ·exact Qkm _ _ (by omega)
def Xb (m : Int) : Nat -> List Int
 | 0 => []
 | n + 1 => Xb m n ++ if QbE m (2 ^ n) = 0 then [] else [(n : Int) - 1]
def Qbi (m : Int) : List Int := Xb m 17
theorem Qcf (m : Int) : ∀ n, (Xb m n).length <= n
 | 0 => Nat.le_refl _
 | n + 1 => by
  have := Qcf m n
  rw [Xb, List.length_append]
  split <;> simp <;> omega
def Qbw (f : Int) (u : Int) : List TermT -> Int
 | [] => f
 | t :: r => if t.u = u then t.m else Qbw f u r
def Qc2 (w : Qq) (l : List TermT) (u : Int) : Int := Qbw (YZ w u) u l
theorem Qlb {f u : Int} {l : List TermT} {i : Nat} (h : i < l.length) (hn : ¬ l[i].u = u) : Qbw f u (l.drop i) = Qbw f u (l.drop (i + 1)) := by
 rw [List.drop_eq_getElem_cons h, Qbw, if_neg hn]
theorem Qmh {f u : Int} {l : List TermT} {i : Nat} (h : i < l.length) (hn : l[i].u = u) : Qbw f u (l.drop i) = l[i].m := by
 rw [List.drop_eq_getElem_cons h, Qbw, if_pos hn]
def QbQ (w : Qq) : Nat -> List Int
 | 0 => []
 | n + 1 => QbQ w n ++ [YZ w n]
theorem Qc0 (w : Qq) : ∀ n, (QbQ w n).length = n
 | 0 => rfl
 | n + 1 => by rw [QbQ, List.length_append, Qc0 w n]; rfl
def QaU (w : Qq) : List Int := QbQ w w.length
def Xw (w : Qq) (ms : List Int) : Nat -> List TermT
 | 0 => []
 | n + 1 => Xw w ms n ++ if ms.getD n 0 = YZ w n then [] else [⟨n, ms.getD n 0⟩]
theorem QgD (w : Qq) (ms : List Int) : ∀ n, (Xw w ms n).length <= n
 | 0 => Nat.le_refl _
 | n + 1 => by
  have := QgD w ms n
  rw [Xw, List.length_append]
  split <;> simp <;> omega
def Qiu (w : Qq) (ms : List Int) : Option (List TermT) := if ms.all (fun m => !decide (m = 0)) = true then some (Xw w ms ms.length) else none
def dOT (o : Option (List TermT)) : D := .tup [ZE (o.getD []), .bool o.isSome]
def Xv (ms : List Int) (l : List TermT) : List Int := l.foldl (fun ms t => ms.set t.u.toNat (QbE (ms.getD t.u.toNat 0) t.m)) ms
def inW (w : Qq) (u : Int) : Bool := decide (0 <= u) && decide (u < w.length)
def QeB (w : Qq) (l : List TermT) : Option (List TermT) := if l.all (fun t => inW w t.u) = true then Qiu w (Xv (QaU w) l) else none
def Qgx (l : List TermT) (u : Int) : List TermT := l.filter fun t => !decide (t.u = u)
def Yk (l : List TermT) : Nat -> List TermT
 | 0 => []
 | n + 1 => Yk l n ++ l.filter fun t => decide (t.u = ((n : Nat) : Int))
def Qhu (l : List TermT) : List TermT := Yk l 48
def Yg (w : Qq) (u : Int) (p : Nat) (l : List WantT) (bar : Bool) : Option (List TermT) :=
 QeB w (⟨u, QbE (YZ w u) (2 * 2 ^ p)⟩ :: l.map fun x => ⟨x.u, if bar = true then Qi2 w x else YZ w x.u - Qi2 w x⟩)
def Qjo (r x : RowT) : Bool := decide (x.k = r.k) && decide (x.u = r.u) && decide (Qgx x.t r.u = Qgx r.t r.u)
def QnB (w : Qq) (r x : RowT) : RowT := { x with t := Qhu (⟨r.u, bor (Qc2 w x.t r.u) (Qc2 w r.t r.u)⟩ :: Qgx x.t r.u) }
def Xe (w : Qq) (r : RowT) : List RowT -> List RowT
 | [] => [r]
 | x :: l => if Qjo r x = true then QnB w r x :: l else x :: Xe w r l
def YN (w : Qq) (u : Int) (p : Nat) (l : List (List WantT)) (rows : List RowT) : List RowT := l.foldl (fun rows n => match Yg w u p n false with
 | some t => Xe w ⟨2, u, 0, 0, t⟩ rows
 | none => rows) rows
def Qbz (w : Qq) (u : Int) (p : Nat) (l : List WantT) (rows : List RowT) : List RowT := l.foldl (fun rows n => match Yg w u p [n] true with
 | some t => Xe w ⟨3, u, 0, 0, t⟩ rows
 | none => rows) rows
def YG (w : Qq) (u : Int) (cs : List CandT) : Nat -> List RowT -> List RowT
 | 0, rows => rows
 | n + 1, rows => match cs[n]? with
  | some c => Qbz w u n c.bs (YN w u n c.ns (YG w u cs n rows))
  | none => YG w u cs n rows
def Yr (w : Qq) : Nat -> List RowT
 | 0 => [⟨1, 0, 0, 0, [⟨0, 1⟩]⟩]
 | n + 1 => match w[n]? with
  | some u => YG w n u.cs u.cs.length (Yr w n)
  | none => Yr w n
def Qdz (w : Qq) : List RowT := Yr w w.length
def mDB (w : Qq) : List (List TermT) := (Qdz w).map RowT.t
/-! ### Trails -/
def Zh (w : Qq) (l : List StepT) (u : Int) : Int := l.foldl (fun a s => if s.u = u /\ inW w u = true then s.m else a) (YZ w u)
def Xu (l : List StepT) : Int := match l.getLast? with
 | none => 0
 | some s => s.l
def QdB (l : List StepT) (u : Int) : Bool := l.any fun s => decide (s.u = u) && decide (s.c = -1)
def Qpg : List Int -> Int
 | [x] => x
 | _ => -1
def QfL (m : Int) : Int := Qpg (Qbi m)
def QdF (w : Qq) (l : List StepT) (s : StepT) : Bool :=
 inW w s.u && decide (-1 <= s.c) && decide (QbE s.m (Zh w l s.u) = s.m) &&
  if s.c = -1 then decide (0 <= QfL s.m) && !QdB l s.u && decide (s.l = IntKind.i64.wrap (Xu l + 1))
  else !decide (s.m = 0) && !decide (s.m = Zh w l s.u) && decide (s.l = Xu l)
def Qef (w : Qq) (l : List StepT) : Bool := (List.range l.length).all fun i => match l[i]? with
 | some s => QdF w (l.take i) s
 | none => true
def Qc4 (w : Qq) (l : List StepT) (inc : List TermT) : Bool := inc.all fun t => decide (ZS (Zh w l t.u) t.m = 2)
def ZN (have_ : Int -> Int) : List TermT -> Int -> Int
 | [], at_ => at_
 | t :: r, at_ => if ZS (have_ t.u) t.m = 0 then -1 else if ZS (have_ t.u) t.m = 1 then (if 0 <= at_ then -1 else ZN have_ r t.u) else ZN have_ r at_
def Qc3 (w : Qq) (l : List StepT) (inc : List TermT) : Int := ZN (Zh w l) inc (-1)
def ZW (w : Qq) (l : List StepT) : Nat -> List (List TermT) -> Int × Int
 | _, [] => (-1, -1)
 | i, x :: r => if Qc4 w l x = true then (i, -1) else if 0 <= Qc3 w l x then (i, Qc3 w l x) else ZW w l (i + 1) r
def Zx (w : Qq) (db : List (List TermT)) (l : List StepT) : Int × Int := ZW w l 0 db
def Yh (w : Qq) (l : List StepT) (t : TermT) (c : Int) : Option (List StepT) :=
 if c < 0 \/ inW w t.u = false then none
 else if IntKind.i64.wrap (Zh w l t.u - QbE (Zh w l t.u) t.m) = 0 \/ IntKind.i64.wrap (Zh w l t.u - QbE (Zh w l t.u) t.m) = Zh w l t.u then none
 else some (l ++ [⟨t.u, IntKind.i64.wrap (Zh w l t.u - QbE (Zh w l t.u) t.m), Xu l, c⟩])
def Xk (w : Qq) (l : List StepT) (u p : Int) : Option (List StepT) := match uAt w u with
 | none => none
 | some x => if p < 0 \/ (x.cs.length : Int) <= p then none
  else if QdF w l ⟨u, IntKind.i64.wrap (2 * 2 ^ min p.toNat 64), IntKind.i64.wrap (Xu l + 1), -1⟩ = true then some (l ++ [⟨u, IntKind.i64.wrap (2 * 2 ^ min p.toNat 64), IntKind.i64.wrap (Xu l + 1), -1⟩]) else none
def dOS (o : Option (List StepT)) : D := .tup [Zw (o.getD []), .bool o.isSome]
def Qbm (w : Qq) (db : List (List TermT)) : Nat -> List StepT -> List StepT × Int
 | 0, out => (out, -1)
 | n + 1, out => if (Zx w db out).2 < 0 then (out, (Zx w db out).1)
  else Qbm w db n ((Yh w out ⟨(Zx w db out).2, Qc2 w (db.getD (Zx w db out).1.toNat []) (Zx w db out).2⟩ (Zx w db out).1).getD [])
def QbF (w : Qq) (db : List (List TermT)) (l : List StepT) : List StepT × Int := Qbm w db (w.length * 18 + 1) l
end M25
namespace M25
open Go Go.Abs M3
section
variable {fr : List (Nat × D)} {H : List (Nat × Box)} {t u : Nat}
theorem QjR {k n : Nat} {b : Box} {d : D} (hb : lk H k = some b) (hp : b.pr = true) (hn : n = b.rows.length) (hd : .sl b.rows = d) : QbI ⟨fr, H⟩ (.osl k n) = d := by
 unfold QbI; rw [QqA (S := QcQ) rfl hb hp hn]; exact hd
theorem Qco {e : YB} {k n : Nat} {b : Box} {d : D} (h : lk fr t = some (.osl k n)) (hb : lk H k = some b) (hp : b.pr = true) (hn : n = b.rows.length) (hd : .sl b.rows = d) (he : e = .ret \/ e = .normal := by first | exact .inl rfl | exact .inr rfl) : Post [.tmp t] d e ⟨fr, H⟩ :=
 Yp h (QjR hb hp hn hd) he
theorem QfR {e : YB} {k n : Nat} {b : Box} {q d d' : D} (h : lk fr t = some (.osl k n)) (hb : lk H k = some b) (hp : b.pr = true) (hn : n = b.rows.length) (hd : .sl b.rows = d) (h2 : lk fr u = some q) (hd2 : QbI ⟨fr, H⟩ q = d') (he : e = .ret \/ e = .normal := by first | exact .inl rfl | exact .inr rfl) : Post [.tmp t, .tmp u] (.tup [d, d']) e ⟨fr, H⟩ :=
 QQ h h2 ⟨QjR hb hp hn hd, hd2⟩ he
end
theorem QqC (n : Nat) : (min (n : Int) 16 + 1).toNat = min n 16 + 1 := by omega
theorem QiZ {n : Nat} (h : n <= 62) : IntKind.i64.wrap ((2 : Int) ^ n - 1) = 2 ^ n - 1 := by
 have := Qhx h; exact Qp (by omega) (by omega)
theorem Qp4 (i : Nat) : (2 : Int) ^ ((i : Int) + 1).toNat = 2 ^ (i + 1) := by rw [Qm1]
theorem Qoc (s : QeP) (l : List CandT) {i : Nat} (h : i < 16) : IntKind.i64.wrap (QbD s l i + (2 : Int) ^ ((i : Int) + 1).toNat) = QbD s l i + 2 ^ (i + 1) := by
 rw [Qp4]
 have h1 := Qkm s l (n := i) (by omega)
 have h2 := Qpj (n := i + 1) (by omega)
 exact Qp (by omega) (by omega)
theorem XW {m : Int} {n : Nat} (h : ¬ QbE m (2 ^ n) = 0) : Xb m (n + 1) = Xb m n ++ [(n : Int) - 1] := by rw [Xb, if_neg h]
theorem Qa7 {m : Int} {n : Nat} (h : QbE m (2 ^ n) = 0) : Xb m (n + 1) = Xb m n := by rw [Xb, if_pos h, List.append_nil]
theorem Qoj {l : List TermT} {u : Int} {i : Nat} (h : i < l.length) : Qgx (l.take (i + 1)) u = Qgx (l.take i) u ++ if l[i].u = u then [] else [l[i]] := by
 rw [List.take_succ_eq_append_getElem h, Qgx, List.filter_append]
 congr 1
 simp only [List.filter_cons, List.filter_nil]
 by_cases hu : l[i].u = u <;> simp [hu]
theorem Qa1 {l : List TermT} {u : Int} {i : Nat} (h : i < l.length) (hn : ¬ l[i].u = u) : Qgx (l.take (i + 1)) u = Qgx (l.take i) u ++ [l[i]] := by rw [Qoj h, if_neg hn]
theorem Qdg {l : List TermT} {u : Int} {i : Nat} (h : i < l.length) (hn : l[i].u = u) : Qgx (l.take (i + 1)) u = Qgx (l.take i) u := by rw [Qoj h, if_pos hn, List.append_nil]
theorem Qfd (l : List TermT) (u : Int) : (Qgx l u).length <= l.length := List.length_filter_le ..
theorem Qnj (l : List TermT) (u : Int) (i : Nat) : (Qgx (l.take i) u).length <= l.length := Nat.le_trans (Qfd ..) (List.length_take_le' ..)
def Qer (l : List TermT) (u : Nat) (i : Nat) : List TermT := (l.take i).filter fun t => decide (t.u = ((u : Nat) : Int))
theorem Qpp {l : List TermT} {u i : Nat} (h : i < l.length) (hn : l[i].u = ((u : Nat) : Int)) : Qer l u (i + 1) = Qer l u i ++ [l[i]] := by
 rw [Qer, List.take_succ_eq_append_getElem h, List.filter_append]; simp [hn, Qer]
theorem Qp5 {l : List TermT} {u i : Nat} (h : i < l.length) (hn : ¬ l[i].u = ((u : Nat) : Int)) : Qer l u (i + 1) = Qer l u i := by
 rw [Qer, List.take_succ_eq_append_getElem h, List.filter_append]; simp [hn, Qer]
theorem QmL (l : List TermT) (u i : Nat) : (Qer l u i).length <= l.length := Nat.le_trans (List.length_filter_le ..) (List.length_take_le' ..)
theorem QiS (l : List TermT) (u : Nat) : Yk l (u + 1) = Yk l u ++ Qer l u l.length := by rw [Yk, Qer, List.take_length]
theorem QgP (l : List TermT) : ∀ n, (Yk l n).length <= n * l.length
 | 0 => by simp [Yk]
 | n + 1 => by
  have := QgP l n
  rw [QiS, List.length_append, Nat.succ_mul]
  have := QmL l n l.length
  omega
theorem XX (w : Qq) (n : Nat) : QbQ w (n + 1) = QbQ w n ++ [YZ w n] := rfl
theorem XZ {w : Qq} {ms : List Int} {n : Nat} (h : n < ms.length) (hn : ¬ ms[n] = YZ w n) : Xw w ms (n + 1) = Xw w ms n ++ [⟨n, ms[n]⟩] := by
 rw [Xw, List.getD_eq_getElem?_getD, List.getElem?_eq_getElem h]; simp [hn]
theorem Qbj {w : Qq} {ms : List Int} {n : Nat} (h : n < ms.length) (hn : ms[n] = YZ w n) : Xw w ms (n + 1) = Xw w ms n := by
 rw [Xw, List.getD_eq_getElem?_getD, List.getElem?_eq_getElem h]; simp [hn]
theorem Qk8 {w : Qq} {ms : List Int} {i : Nat} (h : i < ms.length) (hz : ms[i] = 0) : Qiu w ms = none := by
 rw [Qiu, if_neg]
 rw [XJ h (by simp [hz])]; simp
theorem Qma {w : Qq} {ms : List Int} {i : Nat} (hi : ms.length <= i) (h : (ms.take i).all (fun m => !decide (m = 0)) = true) : Qiu w ms = some (Xw w ms ms.length) := by
 rw [List.take_of_length_le hi] at h; rw [Qiu, if_pos h]
theorem Qfx {w : Qq} {u : Int} (h0 : 0 <= u) (h : u < w.length) : inW w u = true := by simp [inW, h0, h]
theorem Qbc {w : Qq} {u : Int} (h : u < 0 \/ (w.length : Int) <= u) : inW w u = false := by
 simp only [inW, Bool.and_eq_false_iff, decide_eq_false_iff_not]; omega
theorem QbR {w : Qq} {u : Int} : inW w u = true ↔ 0 <= u /\ u < w.length := by simp [inW]
theorem Qk9 (l : List TermT) : ∀ ms : List Int, (Xv ms l).length = ms.length := by
 induction l with
 | nil => intro ms; rfl
 | cons t l ih => intro ms; rw [Xv, List.foldl_cons]; exact (ih _).trans (List.length_set ..)
theorem QnK {ms : List Int} {l : List TermT} {i : Nat} (h : i < l.length) : Xv ms (l.take (i + 1)) = (Xv ms (l.take i)).set l[i].u.toNat (QbE ((Xv ms (l.take i)).getD l[i].u.toNat 0) l[i].m) := by
 rw [List.take_succ_eq_append_getElem h, Xv, List.foldl_append]; rfl
theorem Qkl {ms : List Int} {l : List TermT} {i : Nat} (h : i < l.length) (hu : l[i].u.toNat < (Xv ms (l.take i)).length) : Xv ms (l.take (i + 1)) = (Xv ms (l.take i)).set l[i].u.toNat (QbE ((Xv ms (l.take i))[l[i].u.toNat]) l[i].m) := by
 rw [QnK h, List.getD_eq_getElem?_getD, List.getElem?_eq_getElem hu]; rfl
theorem QmZ {x y : TermT} : Qau [0, 0] (Qd6 x) (Qd6 y) = some (decide (x = y)) := by
 obtain ⟨a, b⟩ := x
 obtain ⟨c, d⟩ := y
 simp only [Qd6, Qau, if_true, Option.map_some, Bool.and_true, Option.some.injEq]
 rw [Bool.eq_iff_iff]
 simp only [Bool.and_eq_true, decide_eq_true_eq, TermT.mk.injEq]
theorem QmU {x y : StepT} : Qau [0, 0, 0, 0] (Qfi x) (Qfi y) = some (decide (x = y)) := by
 obtain ⟨a, b, e, f⟩ := x
 obtain ⟨c, d, g, h⟩ := y
 simp only [Qfi, Qau, if_true, Option.map_some, Bool.and_true, Option.some.injEq]
 rw [Bool.eq_iff_iff]
 simp only [Bool.and_eq_true, decide_eq_true_eq, StepT.mk.injEq]
theorem QiW {α : Type} {a b : List α} {i : Nat} (ha : i < a.length) (hb : i < b.length) (h : a.take i = b.take i) (he : a[i] = b[i]) : a.take (i + 1) = b.take (i + 1) := by
 rw [List.take_succ_eq_append_getElem ha, List.take_succ_eq_append_getElem hb, h, he]
theorem QmG {α : Type} [DecidableEq α] {a b : List α} {i : Nat} (ha : i < a.length) (hb : i < b.length) (he : ¬ a[i] = b[i]) : decide (a = b) = false := decide_eq_false fun e => he (by subst e; rfl)
theorem Qe5 {e : Int} (h1 : 0 <= e) (h2 : e <= 18446744073709551615) : IntKind.u64.wrap e = e := by
 unfold IntKind.wrap
 simp only [IntKind.bits, IntKind.signed, Bool.false_and, Bool.false_eq_true, if_false]
 omega
theorem Qm3 {p : Nat} (h : p <= 60) : IntKind.i64.wrap ((2 : Int) * 2 ^ min ((p : Nat) : Int).toNat IntKind.i64.bits) = 2 * 2 ^ p := by
 rw [show min ((p : Nat) : Int).toNat IntKind.i64.bits = p from by simp only [IntKind.bits, Int.toNat_natCast]; omega]
 have := Qhx (i := p + 1) (by omega)
 rw [Int.pow_succ] at this
 exact Qp (by omega) (by omega)
theorem Qpv (w : Qq) (u : Int) (x : WantT) : IntKind.i64.wrap (YZ w u - Qi2 w x) = YZ w u - Qi2 w x := by
 have h1 := Qho w u
 have h2 := Qpd w x
 exact Qp (by omega) (by omega)
def clF (w : Qq) (bar : Bool) (x : WantT) : TermT := ⟨x.u, if bar = true then Qi2 w x else YZ w x.u - Qi2 w x⟩
def clT (w : Qq) (u : Int) (p : Nat) (bar : Bool) (l : List WantT) : List TermT := ⟨u, QbE (YZ w u) (2 * 2 ^ p)⟩ :: l.map (clF w bar)
theorem Qa5 {w : Qq} {u : Int} {p : Nat} {bar : Bool} {l : List WantT} {i : Nat} (h : i < l.length) (hb : bar = false) : clT w u p bar (l.take (i + 1)) = clT w u p bar (l.take i) ++ [⟨l[i].u, YZ w l[i].u - Qi2 w l[i]⟩] := by
 rw [clT, List.take_succ_eq_append_getElem h, List.map_append, <- List.cons_append]; simp [clT, clF, hb]
theorem Qa4 {w : Qq} {u : Int} {p : Nat} {bar : Bool} {l : List WantT} {i : Nat} (h : i < l.length) (hb : bar = true) : clT w u p bar (l.take (i + 1)) = clT w u p bar (l.take i) ++ [⟨l[i].u, Qi2 w l[i]⟩] := by
 rw [clT, List.take_succ_eq_append_getElem h, List.map_append, <- List.cons_append]; simp [clT, clF, hb]
theorem QlA (w : Qq) (u : Int) (p : Nat) (bar : Bool) (l : List WantT) : (clT w u p bar l).length = l.length + 1 := by simp [clT]
theorem QgB {w : Qq} {l : List TermT} {i : Nat} (h : i < l.length) (hu : inW w l[i].u = false) : QeB w l = none := by
 rw [QeB, XJ h hu]; rfl
theorem Qmb {w : Qq} {l : List TermT} (h : l.all (fun t => inW w t.u) = true) : QeB w l = Qiu w (Xv (QaU w) l) := by
 rw [QeB, if_pos h]
theorem Qfp (w : Qq) (l : List TermT) : (Xv (QaU w) l).length = w.length := by rw [Qk9, QaU, Qc0]
def srt (l : List TermT) (u i : Nat) : List TermT := Yk l u ++ Qer l u i
theorem Qbp {l : List TermT} {u i : Nat} (h : i < l.length) (hn : l[i].u = ((u : Nat) : Int)) : srt l u (i + 1) = srt l u i ++ [l[i]] := by rw [srt, Qpp h hn, <- List.append_assoc]; rfl
theorem QdV {l : List TermT} {u i : Nat} (h : i < l.length) (hn : ¬ l[i].u = ((u : Nat) : Int)) : srt l u (i + 1) = srt l u i := by rw [srt, Qp5 h hn]; rfl
theorem X2 (l : List TermT) (u : Nat) : srt l u 0 = Yk l u := by simp [srt, Qer]
theorem Qbo (l : List TermT) (u : Nat) {i : Nat} (h : l.length = i) : Yk l (u + 1) = srt l u i := by rw [QiS, h]; rfl
theorem Qpq (l : List TermT) (u i : Nat) : (srt l u i).length <= u * l.length + l.length := by
 have h1 := QgP l u
 have h2 := QmL l u i
 rw [srt, List.length_append]; omega
end M25
namespace Go.Proofs
open Go Go.Abs M3 M25
set_option linter.unusedVariables false
set_option linter.unusedSimpArgs false
theorem ZJ {w : Qq} (hw : WSm w) {u : Int} : Ok Try.prog 25 [Z9 w, .int .i64 u] (.int .i64 (YZ w u)) := by
 refine Ok.ofT Z2 Try.func25 Qrc (Nat.le_of_ble_eq_true rfl) ?_
 show TW _ _ tf25.body _ _
 refine Qe fun K hK => Zy rfl rfl rfl (Qa rfl ?_)
 refine hK _ _ (Qb (kp2 rfl rfl) ?_)
 refine QC ?_ -- 0
 refine Qe fun K hK => Qa rfl (Yb rfl rfl (Qa rfl ?_))
 refine QF (g := 7) rfl (fun h1 => ?_) (fun h1 => ?_)
 ·try rw [h1]
  try simp only [qa, qb, qc, qd, qe, List.length_map] at h1
  refine Qt rfl (Qt rfl (Qt rfl (Qt rfl (Qt rfl (Qn rfl rfl ?_)))))
  refine hK _ _ (Qb (kp3 rfl rfl rfl) ?_)
  refine Zv rfl (Qe fun K hK => Qa rfl ?_)
  refine hK _ _ (Qb (kp1 rfl) ?_)
  refine Qu (Qi (QE rfl ?_))
  rw [QdC (by omega)]
 ·try rw [h1]
  try simp only [qa, qb, qc, qd, qe, List.length_map] at h1
  refine Qk rfl (Qa rfl (Qk rfl (Qh rfl rfl (Qk rfl (Qz rfl rfl rfl (Qk rfl (QR rfl rfl (Qk rfl (Qew rfl rfl (Qn rfl rfl ?_))))))))))
  refine hK _ _ (Qb (kp3 rfl rfl rfl) ?_)
  refine Qw rfl (fun h2 => ?_) (fun h2 => ?_)
  ·try rw [h2]
   try simp only [qa, qb, qc, qd, qe, List.length_map] at h2
   refine Qe fun K hK => Qa rfl ?_
   refine hK _ _ (Qb (kp1 rfl) ?_)
   refine Qu (Qi (QE rfl ?_))
   rw [QdC (by omega)]
  ·try rw [h2]
   try simp only [qa, qb, qc, qd, qe, List.length_map] at h2
   refine Qv (Qd (kp2 rfl rfl) (Qe fun K hK => Qh rfl rfl (Qz rfl rfl rfl (Qa rfl (QJ rfl rfl rfl (by omega) (ZF (by omega) (by omega)) rfl (Q9 rfl rfl (Qz rfl rfl rfl (QR rfl rfl (Qqs rfl rfl (Q3 rfl rfl (by first | exact Qp (by omega) (by omega) | rfl) ?_))))))))))
   refine QG (Y6 (by omega) (by omega)) rfl rfl (.inr rfl) (QaA rfl rfl (QiZ (by omega)) (Qa rfl ?_))
   refine hK _ _ (Qb (kp1 rfl) ?_)
   refine Qu (QE rfl ?_)
   rw [Qhp (by omega) (by omega), List.length_map, QqC]
theorem YW {w : Qq} (hw : WSm w) {l : List TermT} (hl : l.length <= 1000000) {u : Int} : Ok Try.prog 27 [Z9 w, ZE l, .int .i64 u] (.int .i64 (Qc2 w l u)) := by
 refine Ok.ofT Z2 Try.func27 Qre (Nat.le_of_ble_eq_true rfl) ?_
 show TW _ _ tf27.body _ _
 refine Qe fun K hK => Zy rfl rfl rfl (Qa rfl ?_)
 refine hK _ _ (Qb (kp3 rfl rfl rfl) ?_)
 refine QC ?_ -- 0
 refine Qe fun K hK => Qa rfl ?_
 refine hK _ _ (Qb (kp4 rfl rfl rfl rfl) ?_)
 refine QA ?_
 refine Zq (ι := Nat) (fun i => ⟨[(1, ZE l), (2, .int .i64 u), (3, .ref 3 0 0), (7, .int .i64 i)], [(3, ⟨[[.sl ((w).map YK)]], 1, 26, true⟩)]⟩) (fun i => i <= l.length /\ Qbw (YZ w u) u l = Qbw (YZ w u) u (l.drop i)) (fun i => l.length - i) 0 ?_ ?_ ?_
 ·exact Q7 (l := [1, 2, 3, 7]) (lH := [3]) (kp4 rfl rfl rfl rfl) (Qf rfl Qo) rfl rfl rfl
 ·exact ⟨Nat.zero_le _, by simp⟩
 intro i hI
 try dsimp only
 refine QC ?_ -- 1
 refine Qe fun K hK => Qa rfl (Qa rfl (QR rfl rfl (Yb rfl rfl ?_)))
 refine hK _ _ (Qb (kp5 rfl rfl rfl rfl rfl) ?_)
 refine Qw rfl (fun h1 => ?_) (fun h1 => ?_)
 ·try rw [h1]
  try simp only [qa, qb, qc, qd, qe, List.length_map] at h1
  refine Qv (Qd (kp4 rfl rfl rfl rfl) ?_)
  refine QC ?_ -- 2
  refine QA (Qe fun K hK => Qa rfl (Qa rfl (QJ rfl rfl rfl (by omega) (QS (by omega)) rfl (Q9 rfl rfl (Qz rfl rfl rfl (Qa rfl (ZH rfl rfl ?_)))))))
  refine hK _ _ (Qb (kp5 rfl rfl rfl rfl rfl) ?_)
  refine Qw rfl (fun h2 => ?_) (fun h2 => ?_)
  ·try rw [h2]
   try simp only [qa, qb, qc, qd, qe, List.length_map] at h2
   refine Qe fun K hK => Qa rfl (Qa rfl (QJ rfl rfl rfl (by omega) (QS (by omega)) rfl (Q9 rfl rfl (Qz rfl rfl rfl (Qa rfl ?_)))))
   refine hK _ _ (Qb (kp1 rfl) ?_)
   refine Qu (Qr (Qi (QZ (Qr (Qi (QE rfl ?_))))))
   rw [Qc2, hI.2, Qmh (by omega) h2]
  ·try rw [h2]
   try simp only [qa, qb, qc, qd, qe, List.length_map] at h2
   refine Qv (Qg (Qd (kp4 rfl rfl rfl rfl) (QN fun K hK => Qa rfl (Q3 rfl rfl (by first | exact Qp (by omega) (by omega) | rfl) (Qa rfl (hK _ ?_))))))
   refine Qj (i + 1) ?_ ?_ ?_
   ·exact Q7 (l := [1, 2, 3, 7]) (lH := [3]) (kp4 rfl rfl rfl rfl) (Qf rfl Qo) rfl rfl rfl
   ·exact ⟨by omega, by rw [hI.2, Qlb (by omega) (by assumption)]⟩
   ·first | omega | (simp only; omega) | (dsimp only; omega)
 ·try rw [h1]
  try simp only [qa, qb, qc, qd, qe, List.length_map] at h1
  refine Zi (QM (Qy (QI (Qd (kp2 rfl rfl) (Qe fun K hK => QH (cs := [_]) rfl rfl rfl rfl (Qa rfl (QG (ZJ hw) rfl rfl (.inr rfl) (Qa rfl ?_))))))))
  refine hK _ _ (Qb (kp1 rfl) ?_)
  refine Qu (QE rfl ?_)
  rw [Qc2, hI.2, List.drop_eq_nil_of_le (by omega)]; rfl
theorem QcS {w : Qq} (hw : WSm w) {x : WantT} (hx : Sm x.s.1 /\ Sm x.s.2) : Ok Try.prog 68 [Z9 w, .agg (QeK x)] (.int .i64 (Qi2 w x)) := by
 refine Ok.ofT Z2 Try.func68 QrT (Nat.le_of_ble_eq_true rfl) ?_
 show TW _ _ tf68.body _ _
 refine Qe fun K hK => Zy rfl rfl rfl (Zy rfl rfl rfl (Qa rfl ?_))
 refine hK _ _ (Qb (kp2 rfl rfl) ?_)
 refine QC ?_ -- 0
 refine Qe fun K hK => Qh rfl rfl (Qz rfl rfl rfl (Yb rfl rfl (Qa rfl ?_)))
 refine QF (g := 11) rfl (fun h1 => ?_) (fun h1 => ?_)
 ·try rw [h1]
  try simp only [qa, qb, qc, qd, qe, List.length_map] at h1
  refine Qt rfl (Qt rfl (Qt rfl (Qt rfl (Qt rfl (Qt rfl (Qn rfl rfl ?_))))))
  refine hK _ _ (Qb (kp3 rfl rfl rfl) ?_)
  refine Zv rfl (Qe fun K hK => Qa rfl ?_)
  refine hK _ _ (Qb (kp1 rfl) ?_)
  refine Qu (Qi (QE rfl ?_))
  rw [Qkj (by omega)]
 ·try rw [h1]
  try simp only [qa, qb, qc, qd, qe, List.length_map] at h1
  refine Qk rfl (Qh rfl rfl (Qk rfl (Qz rfl rfl rfl (Qk rfl (Qh rfl rfl (Qk rfl (Qz rfl rfl rfl (Qk rfl (QR rfl rfl (Qk rfl (Qew rfl rfl ?_)))))))))))
  refine Qn rfl rfl ?_
  refine hK _ _ (Qb (kp3 rfl rfl rfl) ?_)
  refine Qw rfl (fun h2 => ?_) (fun h2 => ?_)
  ·try rw [h2]
   try simp only [qa, qb, qc, qd, qe, List.length_map] at h2
   refine Qe fun K hK => Qa rfl ?_
   refine hK _ _ (Qb (kp1 rfl) ?_)
   refine Qu (Qi (QE rfl ?_))
   rw [Qkj (by omega)]
  ·try rw [h2]
   try simp only [qa, qb, qc, qd, qe, List.length_map] at h2
   refine Qv (Qd (kp2 rfl rfl) (Qe fun K hK => Qa rfl ?_))
   refine hK _ _ (Qb (kp3 rfl rfl rfl) ?_)
   refine Qe fun K hK => Qh rfl rfl (Qz rfl rfl rfl (Qh rfl rfl (Qz rfl rfl rfl (QJ rfl rfl rfl (by omega) (ZF (by omega) (by omega)) rfl (Q9 rfl rfl (Qz rfl rfl rfl (Qa rfl ?_)))))))
   refine hK _ _ (Qb (kp3 rfl rfl rfl) ?_)
   refine QC ?_ -- 1
   refine Qe fun K hK => Qa rfl ?_
   refine hK _ _ (Qb (kp4 rfl rfl rfl rfl) ?_)
   refine QA ?_
   refine Zq (ι := Nat) (fun i => ⟨[(3, .ref 3 0 0), (5, .int .i64 (QbD x.s (w[x.u.toNat]'(by omega)).cs i)), (6, QjX (w[x.u.toNat]'(by omega)).cs), (7, .int .i64 i)], [(3, ⟨[[.int .i64 (x).u, ZC (x).s.1, ZC (x).s.2]], 3, 63, true⟩)]⟩) (fun i => i <= (min (w[x.u.toNat]'(by omega)).cs.length 16)) (fun i => (min (w[x.u.toNat]'(by omega)).cs.length 16) - i) 0 ?_ ?_ ?_
   ·exact Q7 (l := [3, 5, 6, 7]) (lH := [3]) (kp4 rfl rfl rfl rfl) (Qf rfl Qo) rfl rfl rfl
   ·exact Nat.zero_le _
   intro i hI
   try dsimp only
   refine QC ?_ -- 2
   refine Qe fun K hK => Qa rfl (Qa rfl (QR rfl rfl (Yb rfl rfl (Qa rfl ?_))))
   refine QF (g := 30) rfl (fun h3 => ?_) (fun h3 => ?_)
   ·try rw [h3]
    try simp only [qa, qb, qc, qd, qe, List.length_map] at h3
    refine Qk rfl (Qa rfl (Qk rfl (Yb rfl rfl (Qn rfl rfl ?_))))
    refine hK _ _ (Qb (kp5 rfl rfl rfl rfl rfl) ?_)
    refine Qw rfl (fun h4 => ?_) (fun h4 => ?_)
    ·try rw [h4]
     try simp only [qa, qb, qc, qd, qe, List.length_map] at h4
     refine Qv (Qd (kp4 rfl rfl rfl rfl) ?_)
     refine QC ?_ -- 3
     refine QA (Qe fun K hK => Qh rfl rfl (QL (ds0 := [0]) (cs := [_, _]) rfl rfl rfl rfl rfl rfl (Qa rfl (Qa rfl (QJ rfl rfl rfl (by omega) (QS (by omega)) rfl (Q9 rfl rfl (QL (ds0 := [0]) (cs := [_, _, _, _, _]) rfl rfl rfl rfl rfl rfl (QV (ds0 := []) (Qdk hx.1 hx.2 (hw.vs _ (List.getElem_mem _) _ (List.getElem_mem (by omega))).1 (hw.vs _ (List.getElem_mem _) _ (List.getElem_mem (by omega))).2) rfl rfl (.inr rfl) rfl rfl ?_))))))))
     refine hK _ _ (Qb (kp5 rfl rfl rfl rfl rfl) ?_)
     refine Qw rfl (fun h5 => ?_) (fun h5 => ?_)
     ·try rw [h5]
      try simp only [qa, qb, qc, qd, qe, List.length_map] at h5
      refine QN fun K hK => Qa rfl (Qa rfl (Q3 rfl rfl (by first | exact Qp (by omega) (by omega) | rfl) (QG (Y6 (by omega) (by omega)) rfl rfl (.inr rfl) (Q3 rfl rfl (Qoc _ _ (by omega)) (Qa rfl (hK _ ?_))))))
      refine Qg (Qd (kp4 rfl rfl rfl rfl) (QN fun K hK => Qa rfl (Q3 rfl rfl (by first | exact Qp (by omega) (by omega) | rfl) (Qa rfl (hK _ ?_)))))
      refine Qj (i + 1) ?_ ?_ ?_
      ·exact Q7 (l := [3, 5, 6, 7]) (lH := [3]) (kp4 rfl rfl rfl rfl) (Qf rfl Qo) (by rw [Qmi (by omega) (by assumption)]; rfl) rfl rfl
      ·omega
      ·first | omega | (simp only; omega) | (dsimp only; omega)
     ·try rw [h5]
      try simp only [qa, qb, qc, qd, qe, List.length_map] at h5
      refine Qv (Qg (Qd (kp4 rfl rfl rfl rfl) (QN fun K hK => Qa rfl (Q3 rfl rfl (by first | exact Qp (by omega) (by omega) | rfl) (Qa rfl (hK _ ?_))))))
      refine Qj (i + 1) ?_ ?_ ?_
      ·exact Q7 (l := [3, 5, 6, 7]) (lH := [3]) (kp4 rfl rfl rfl rfl) (Qf rfl Qo) (by rw [QnM (by omega) (by assumption)]; rfl) rfl rfl
      ·omega
      ·first | omega | (simp only; omega) | (dsimp only; omega)
    ·try rw [h4]
     try simp only [qa, qb, qc, qd, qe, List.length_map] at h4
     refine Zi (QM (Qy (QI (Qd (kp1 rfl) (Qe fun K hK => Qa rfl (Qa rfl ?_))))))
     refine hK _ _ (Qb (kp1 rfl) ?_)
     refine Qu (QE rfl ?_)
     rw [Qmc (by omega) (by omega), show i = min (w[x.u.toNat]'(by omega)).cs.length 16 by omega]
   ·try rw [h3]
    try simp only [qa, qb, qc, qd, qe, List.length_map] at h3
    refine Qt rfl (Qt rfl (Qn rfl rfl ?_))
    refine hK _ _ (Qb (kp5 rfl rfl rfl rfl rfl) ?_)
    refine ZP rfl (Zi (QM (Qy (QI (Qd (kp1 rfl) (Qe fun K hK => Qa rfl (Qa rfl ?_)))))))
    refine hK _ _ (Qb (kp1 rfl) ?_)
    refine Qu (QE rfl ?_)
    rw [Qmc (by omega) (by omega), show i = min (w[x.u.toNat]'(by omega)).cs.length 16 by omega]
theorem XO {m : Int} : Ok Try.prog 20 [.int .i64 m] (Zt (Qbi m)) := by
 refine Ok.ofT Z2 Try.func20 Qq7 (Nat.le_of_ble_eq_true rfl) ?_
 show TW _ _ tf20.body _ _
 refine Qe fun K hK => Qa rfl ?_
 refine hK _ _ (Qb (kp1 rfl) ?_)
 refine Qe fun K hK => Qa rfl ?_
 refine hK _ _ (Qb (kp2 rfl rfl) ?_)
 refine QC ?_ -- 0
 refine Qe fun K hK => Qa rfl ?_
 refine hK _ _ (Qb (kp3 rfl rfl rfl) ?_)
 refine QA ?_
 refine Zq (ι := Nat) (fun i => ⟨[(0, .int .i64 m), (3, .osl 3 (Xb m i).length), (4, .int .i64 i)], [(3, ⟨(Xb m i).map (fun x => [.int .i64 x]), 1, 3, true⟩)]⟩) (fun i => i <= 17) (fun i => 17 - i) 0 ?_ ?_ ?_
 ·exact le_trans (Yx 3 3 1 3 rfl rfl) (Q7 (l := [0, 3, 4]) (lH := [3]) (kp3 rfl rfl rfl) (Qf rfl Qo) rfl rfl rfl)
 ·exact Nat.zero_le _
 intro i hI
 have hlen := Qcf m i
 try dsimp only
 refine QC ?_ -- 1
 refine Qe fun K hK => Qa rfl (QoO rfl rfl ?_)
 refine hK _ _ (Qb (kp4 rfl rfl rfl rfl) ?_)
 refine Qw rfl (fun h1 => ?_) (fun h1 => ?_)
 ·try rw [h1]
  try simp only [qa, qb, qc, qd, qe] at h1
  refine Qv (Qd (kp3 rfl rfl rfl) ?_)
  refine QC ?_ -- 2
  refine QA (Qe fun K hK => Qa rfl (Qa rfl (QG (Y6 (by omega) (by omega)) rfl rfl (.inr rfl) (QeH rfl rfl (X6 rfl rfl ?_)))))
  refine hK _ _ (Qb (kp4 rfl rfl rfl rfl) ?_)
  refine Qw rfl (fun h2 => ?_) (fun h2 => ?_)
  ·try rw [h2]
   try simp only [qa, qb, qc, qd, qe] at h2
   refine QN fun K hK => Qa rfl (Qa rfl (QaA rfl rfl (by first | exact Qp (by omega) (by omega) | rfl) (QB rfl rfl (XH rfl rfl (fun _ h => Xo rfl rfl rfl h) rfl (by simp) rfl rfl rfl (by simp; omega) (by simp; omega) (Qa rfl (hK _ ?_))))))
   refine Qg (Qd (kp3 rfl rfl rfl) (QN fun K hK => Qa rfl (Q3 rfl rfl (by first | exact Qp (by omega) (by omega) | rfl) (Qa rfl (hK _ ?_)))))
   refine Qj (i + 1) ?_ ?_ ?_
   ·exact Q7 (l := [0, 3, 4]) (lH := [3]) (kp3 rfl rfl rfl) (Qf rfl Qo) (by first | (rw [XW (m := m) (n := i) h2]; done) | (rw [XW (m := m) (n := i) h2]; rfl) | (rw [XW (m := m) (n := i) h2, List.length_append]; rfl) | (simp [XW (m := m) (n := i) h2]; done) | (simp [XW (m := m) (n := i) h2]; omega) | rfl) (by first | (rw [XW (m := m) (n := i) h2]; done) | (rw [XW (m := m) (n := i) h2]; rfl) | (rw [XW (m := m) (n := i) h2, List.map_append]; rfl) | (simp [XW (m := m) (n := i) h2]; done) | rfl) rfl
   ·omega
   ·first | omega | (simp only; omega) | (dsimp only; omega)
  ·try rw [h2]
   try simp only [qa, qb, qc, qd, qe] at h2
   refine Qv (Qg (Qd (kp3 rfl rfl rfl) (QN fun K hK => Qa rfl (Q3 rfl rfl (by first | exact Qp (by omega) (by omega) | rfl) (Qa rfl (hK _ ?_))))))
   refine Qj (i + 1) ?_ ?_ ?_
   ·exact Q7 (l := [0, 3, 4]) (lH := [3]) (kp3 rfl rfl rfl) (Qf rfl Qo) (by first | (rw [Qa7 (m := m) (n := i) h2]; done) | (rw [Qa7 (m := m) (n := i) h2]; rfl) | (rw [Qa7 (m := m) (n := i) h2, List.length_append]; rfl) | (simp [Qa7 (m := m) (n := i) h2]; done) | (simp [Qa7 (m := m) (n := i) h2]; omega) | rfl) (by first | (rw [Qa7 (m := m) (n := i) h2]; done) | (rw [Qa7 (m := m) (n := i) h2]; rfl) | (rw [Qa7 (m := m) (n := i) h2, List.map_append]; rfl) | (simp [Qa7 (m := m) (n := i) h2]; done) | rfl) rfl
   ·omega
   ·first | omega | (simp only; omega) | (dsimp only; omega)
 ·try rw [h1]
  try simp only [qa, qb, qc, qd, qe] at h1
  refine Zi (QM (Qy (QI (Qd (kp1 rfl) (Qe fun K hK => Qa rfl (Qa rfl ?_))))))
  refine hK _ _ (Qb (kp1 rfl) ?_)
  refine Qu ?_
  exact Qco rfl rfl rfl (by simp) (by rw [Qbi, show (17 : Nat) = i by omega]; rfl)
theorem QcB {a b : List TermT} (ha : a.length <= 1000000) : Ok Try.prog 69 [ZE a, ZE b] (.bool (decide (a = b))) := by
 refine Ok.ofT Z2 Try.func69 QrU (Nat.le_of_ble_eq_true rfl) ?_
 show TW _ _ tf69.body _ _
 refine Qe fun K hK => Qa rfl ?_
 refine hK _ _ (Qb (kp2 rfl rfl) ?_)
 refine QC ?_ -- 0
 refine Qe fun K hK => Qa rfl (QR rfl rfl (Qa rfl (QR rfl rfl (X6 rfl rfl ?_))))
 refine hK _ _ (Qb (kp3 rfl rfl rfl) ?_)
 refine Qw rfl (fun h1 => ?_) (fun h1 => ?_)
 ·try rw [h1]
  try simp only [qa, qb, qc, qd, qe, List.length_map] at h1
  refine Qe fun K hK => Qa rfl ?_
  refine hK _ _ (Qb (kp1 rfl) ?_)
  refine Qu (Qi (Qs rfl ?_))
  rw [decide_eq_false fun e => h1 (by rw [e])]
 ·try rw [h1]
  try simp only [qa, qb, qc, qd, qe, List.length_map] at h1
  refine Qv (Qd (kp2 rfl rfl) ?_)
  refine QC ?_ -- 1
  refine Qe fun K hK => Qa rfl ?_
  refine hK _ _ (Qb (kp3 rfl rfl rfl) ?_)
  refine QA ?_
  refine Zq (ι := Nat) (fun i => ⟨[(0, ZE a), (1, ZE b), (5, .int .i64 i)], []⟩) (fun i => i <= a.length /\ a.take i = b.take i) (fun i => a.length - i) 0 ?_ ?_ ?_
  ·exact Zc (kp3 rfl rfl rfl)
  ·exact ⟨Nat.zero_le _, by simp⟩
  intro i hI
  try dsimp only
  refine QC ?_ -- 2
  refine Qe fun K hK => Qa rfl (Qa rfl (QR rfl rfl (Yb rfl rfl ?_)))
  refine hK _ _ (Qb (kp4 rfl rfl rfl rfl) ?_)
  refine Qw rfl (fun h2 => ?_) (fun h2 => ?_)
  ·try rw [h2]
   try simp only [qa, qb, qc, qd, qe, List.length_map] at h2
   refine Qv (Qd (kp3 rfl rfl rfl) ?_)
   refine QC ?_ -- 3
   refine QA (Qe fun K hK => Qa rfl (Qa rfl (QJ rfl rfl rfl (by omega) (QS (by omega)) rfl (QL (ds0 := [0]) (cs := [_, _]) rfl rfl rfl rfl rfl rfl (Qa rfl (Qa rfl (QJ rfl rfl rfl (by omega) (QS (by omega)) rfl (QL (ds0 := [0]) (cs := [_, _]) rfl rfl rfl rfl rfl rfl (Qoe rfl rfl QmZ ?_)))))))))
   refine hK _ _ (Qb (kp4 rfl rfl rfl rfl) ?_)
   refine Qw rfl (fun h3 => ?_) (fun h3 => ?_)
   ·try rw [h3]
    try simp only [qa, qb, qc, qd, qe, List.length_map] at h3
    refine Qe fun K hK => Qa rfl ?_
    refine hK _ _ (Qb (kp1 rfl) ?_)
    refine Qu (Qr (Qi (QZ (Qr (Qi (Qs rfl ?_))))))
    rw [QmG (i := i) (by omega) (by omega) h3]
   ·try rw [h3]
    try simp only [qa, qb, qc, qd, qe, List.length_map] at h3
    refine Qv (Qg (Qd (kp3 rfl rfl rfl) (QN fun K hK => Qa rfl (Q3 rfl rfl (by first | exact Qp (by omega) (by omega) | rfl) (Qa rfl (hK _ ?_))))))
    refine Qj (i + 1) ?_ ?_ ?_
    ·exact Zc (kp3 rfl rfl rfl)
    ·exact ⟨by omega, QiW (by omega) (by omega) hI.2 h3⟩
    ·first | omega | (simp only; omega) | (dsimp only; omega)
  ·try rw [h2]
   try simp only [qa, qb, qc, qd, qe, List.length_map] at h2
   refine Zi (QM (Qy (QI (Qd (Q4) (Qe fun K hK => Qa rfl ?_)))))
   refine hK _ _ (Qb (kp1 rfl) ?_)
   refine Qu (Qs rfl ?_)
   rw [List.take_of_length_le (by omega), List.take_of_length_le (by omega)] at hI; exact (decide_eq_true hI.2).symm
end Go.Proofs
namespace Go.Proofs
open Go Go.Abs M3 M25
set_option linter.unusedVariables false
set_option linter.unusedSimpArgs false
theorem QbK {w : Qq} (hw : WSm w) (et : Nat) (het : et = 3) : OkH Try.prog 48 [Z9 w] [] (.osl 500000 (QaU w).length) [(500000, ⟨(QaU w).map (fun x => [.int .i64 x]), 1, et, true⟩)] := by
 subst het
 refine OkH.new Z2 Try.func48 Qrz (Nat.le_of_ble_eq_true rfl) rfl ?_
 show TW _ _ tf48.body _ _
 have hn := hw.len
 refine Qe fun K hK => Zy rfl rfl rfl (Qa rfl ?_)
 refine hK _ _ (Qb (kp1 rfl) ?_)
 refine Qe fun K hK => Qa rfl ?_
 refine hK _ _ (Qb (kp2 rfl rfl) ?_)
 refine QC ?_ -- 0
 refine Qe fun K hK => Qa rfl ?_
 refine hK _ _ (Qb (kp3 rfl rfl rfl) ?_)
 refine QA ?_
 refine Zq (ι := Nat) (fun i => ⟨[(1, .ref 1 0 0), (3, .osl 500000 (QbQ w i).length), (4, .int .i64 i)], [(1, ⟨[[.sl ((w).map YK)]], 1, 26, true⟩), (500000, ⟨(QbQ w i).map (fun x => [.int .i64 x]), 1, 3, true⟩)]⟩) (fun i => i <= w.length) (fun i => w.length - i) 0 ?_ ?_ ?_
 ·exact le_trans (Yx 3 500000 1 3 rfl rfl) (Q7 (l := [1, 3, 4]) (lH := [1, 500000]) (kp3 rfl rfl rfl) (Qf rfl (Qf rfl Qo)) rfl rfl rfl)
 ·exact Nat.zero_le _
 intro i hI
 have hlen := Qc0 w i
 try dsimp only
 refine QC ?_ -- 1
 refine Qe fun K hK => Qa rfl (Qh rfl rfl (Qz rfl rfl rfl (QR rfl rfl (Yb rfl rfl ?_))))
 refine hK _ _ (Qb (kp4 rfl rfl rfl rfl) ?_)
 refine Qw rfl (fun h1 => ?_) (fun h1 => ?_)
 ·try rw [h1]
  try simp only [qa, qb, qc, qd, qe, List.length_map] at h1
  refine Qv (Qd (kp3 rfl rfl rfl) ?_)
  refine QC ?_ -- 2
  refine QA (QN fun K hK => Qa rfl (QH (cs := [_]) rfl rfl rfl rfl (Qa rfl (QG (ZJ hw) rfl rfl (.inr rfl) (QB rfl rfl (XH rfl rfl (fun _ h => Xo rfl rfl rfl h) rfl (by simp) rfl rfl rfl (by simp; omega) (by simp; omega) (Qa rfl (hK _ ?_))))))))
  refine Qg (Qd (kp3 rfl rfl rfl) (QN fun K hK => Qa rfl (Q3 rfl rfl (by first | exact Qp (by omega) (by omega) | rfl) (Qa rfl (hK _ ?_)))))
  refine Qj (i + 1) ?_ ?_ ?_
  ·exact Q7 (l := [1, 3, 4]) (lH := [1, 500000]) (kp3 rfl rfl rfl) (Qf rfl (Qf rfl Qo)) (by first | (rw [XX]; done) | (rw [XX]; rfl) | (rw [XX, List.length_append]; rfl) | (simp [XX]; done) | (simp [XX]; omega) | rfl) (by first | (rw [XX]; done) | (rw [XX]; rfl) | (rw [XX, List.map_append]; rfl) | (simp [XX]; done) | rfl) rfl
  ·omega
  ·first | omega | (simp only; omega) | (dsimp only; omega)
 ·try rw [h1]
  try simp only [qa, qb, qc, qd, qe, List.length_map] at h1
  refine Zi (QM (Qy (QI (Qd (kp1 rfl) (Qe fun K hK => Qa rfl (Qa rfl ?_))))))
  refine hK _ _ (Qb (kp1 rfl) ?_)
  refine Qu ?_
  refine YO rfl ?_ (Qda ?_)
  ·rw [QaU, show w.length = i by omega]; rfl
  ·rw [QaU, show w.length = i by omega]; rfl
theorem QcC {w : Qq} (hw : WSm w) {ms : List Int} (hm : ms.length <= 1000000) : Ok Try.prog 49 [Z9 w, Zt ms] (dOT (Qiu w ms)) := by
 refine Ok.ofT Z2 Try.func49 QrA (Nat.le_of_ble_eq_true rfl) ?_
 show TW _ _ tf49.body _ _
 refine Qe fun K hK => Zy rfl rfl rfl (Qa rfl (Qa rfl ?_))
 refine hK _ _ (Qb (kp2 rfl rfl) ?_)
 refine Qe fun K hK => Qa rfl ?_
 refine hK _ _ (Qb (kp3 rfl rfl rfl) ?_)
 refine QC ?_ -- 0
 refine Qe fun K hK => Qa rfl ?_
 refine hK _ _ (Qb (kp4 rfl rfl rfl rfl) ?_)
 refine QA ?_
 refine Zq (ι := Nat) (fun i => ⟨[(1, Zt ms), (2, .ref 2 0 0), (6, .osl 6 (Xw w ms i).length), (7, .int .i64 i)], [(2, ⟨[[.sl ((w).map YK)]], 1, 26, true⟩), (6, ⟨(Xw w ms i).map Qd6, 2, 78, true⟩)]⟩) (fun i => i <= ms.length /\ (ms.take i).all (fun m => !decide (m = 0)) = true) (fun i => ms.length - i) 0 ?_ ?_ ?_
 ·exact le_trans (Yx 6 6 2 78 rfl rfl) (Q7 (l := [1, 2, 6, 7]) (lH := [2, 6]) (kp4 rfl rfl rfl rfl) (Qf rfl (Qf rfl Qo)) rfl rfl rfl)
 ·exact ⟨Nat.zero_le _, by simp⟩
 intro i hI
 have hlen := QgD w ms i
 try dsimp only
 refine QC ?_ -- 1
 refine Qe fun K hK => Qa rfl (Qa rfl (QR rfl rfl (Yb rfl rfl ?_)))
 refine hK _ _ (Qb (kp5 rfl rfl rfl rfl rfl) ?_)
 refine Qw rfl (fun h1 => ?_) (fun h1 => ?_)
 ·try rw [h1]
  try simp only [qa, qb, qc, qd, qe, List.length_map] at h1
  refine Qv (Qd (kp4 rfl rfl rfl rfl) ?_)
  refine QC ?_ -- 2
  refine QA ?_
  refine QC ?_ -- 3
  refine Qe fun K hK => Qa rfl (Qa rfl (QJ rfl rfl rfl (by omega) (QS (by omega)) rfl (Qz rfl rfl rfl (ZH rfl rfl ?_))))
  refine hK _ _ (Qb (kp5 rfl rfl rfl rfl rfl) ?_)
  refine Qw rfl (fun h2 => ?_) (fun h2 => ?_)
  ·try rw [h2]
   try simp only [qa, qb, qc, qd, qe, List.length_map] at h2
   refine Qe fun K hK => Qa rfl (Qa rfl ?_)
   refine hK _ _ (Qb (kp2 rfl rfl) ?_)
   refine Qu (Qi (Qr (Qi (QZ (Qr (Qi ?_))))))
   rw [Qk8 (i := i) (by omega) h2]
   exact QQ rfl rfl ⟨rfl, rfl⟩
  ·try rw [h2]
   try simp only [qa, qb, qc, qd, qe, List.length_map] at h2
   refine Qv (Qd (kp4 rfl rfl rfl rfl) (Qe fun K hK => Qa rfl (Qa rfl (QJ rfl rfl rfl (by omega) (QS (by omega)) rfl (QW (ds0 := [0]) rfl rfl rfl rfl rfl (QL (ds0 := [1, 0]) (cs := [_]) rfl rfl rfl rfl rfl rfl (Qa rfl (QV (ds0 := [0]) (ZJ hw) rfl rfl (.inr rfl) rfl rfl (X6 rfl rfl ?_)))))))))
   refine hK _ _ (Qb (kp5 rfl rfl rfl rfl rfl) ?_)
   refine Qw rfl (fun h3 => ?_) (fun h3 => ?_)
   ·try rw [h3]
    try simp only [qa, qb, qc, qd, qe, List.length_map] at h3
    refine QN fun K hK => Qa rfl (Qa rfl (Qa rfl (Qa rfl (QJ rfl rfl rfl (by omega) (QS (by omega)) rfl (Qz rfl rfl rfl (QT rfl rfl (QB rfl rfl (XH rfl rfl (fun _ h => Xo rfl rfl rfl h) rfl (by simp) rfl rfl rfl (by simp; omega) (by simp; omega) (Qa rfl (hK _ ?_))))))))))
    refine Qg (Qd (kp4 rfl rfl rfl rfl) (QN fun K hK => Qa rfl (Q3 rfl rfl (by first | exact Qp (by omega) (by omega) | rfl) (Qa rfl (hK _ ?_)))))
    refine Qj (i + 1) ?_ ?_ ?_
    ·exact Q7 (l := [1, 2, 6, 7]) (lH := [2, 6]) (kp4 rfl rfl rfl rfl) (Qf rfl (Qf rfl Qo)) (by first | (rw [XZ (by omega) h3]; done) | (rw [XZ (by omega) h3]; rfl) | (rw [XZ (by omega) h3, List.length_append]; rfl) | (simp [XZ (by omega) h3]; done) | (simp [XZ (by omega) h3]; omega) | rfl) (by first | (rw [XZ (by omega) h3]; done) | (rw [XZ (by omega) h3]; rfl) | (rw [XZ (by omega) h3, List.map_append]; rfl) | (simp [XZ (by omega) h3]; done) | rfl) rfl
    ·exact ⟨by omega, Z7 (by omega) hI.2 (by simpa using h2)⟩
    ·first | omega | (simp only; omega) | (dsimp only; omega)
   ·try rw [h3]
    try simp only [qa, qb, qc, qd, qe, List.length_map] at h3
    refine Qv (Qg (Qd (kp4 rfl rfl rfl rfl) (QN fun K hK => Qa rfl (Q3 rfl rfl (by first | exact Qp (by omega) (by omega) | rfl) (Qa rfl (hK _ ?_))))))
    refine Qj (i + 1) ?_ ?_ ?_
    ·exact Q7 (l := [1, 2, 6, 7]) (lH := [2, 6]) (kp4 rfl rfl rfl rfl) (Qf rfl (Qf rfl Qo)) (by first | (rw [Qbj (by omega) h3]; done) | (rw [Qbj (by omega) h3]; rfl) | (rw [Qbj (by omega) h3, List.length_append]; rfl) | (simp [Qbj (by omega) h3]; done) | (simp [Qbj (by omega) h3]; omega) | rfl) (by first | (rw [Qbj (by omega) h3]; done) | (rw [Qbj (by omega) h3]; rfl) | (rw [Qbj (by omega) h3, List.map_append]; rfl) | (simp [Qbj (by omega) h3]; done) | rfl) rfl
    ·exact ⟨by omega, Z7 (by omega) hI.2 (by simpa using h2)⟩
    ·first | omega | (simp only; omega) | (dsimp only; omega)
 ·try rw [h1]
  try simp only [qa, qb, qc, qd, qe, List.length_map] at h1
  refine Zi (QM (Qy (QI (Qd (kp1 rfl) (Qe fun K hK => Qa rfl (Qa rfl (Qa rfl ?_)))))))
  refine hK _ _ (Qb (kp2 rfl rfl) ?_)
  refine Qu ?_
  rw [Qma (i := i) (by omega) hI.2]
  exact QfR rfl rfl rfl (by simp) (by show D.sl _ = ZE (Xw w ms ms.length); rw [show ms.length = i by omega]; rfl) rfl rfl
theorem QcA {w : Qq} (hw : WSm w) {l : List TermT} (hl : l.length <= 2000000) : Ok Try.prog 24 [Z9 w, ZE l] (dOT (QeB w l)) := by
 refine Ok.ofT Z2 Try.func24 Qrb (Nat.le_of_ble_eq_true rfl) ?_
 show TW _ _ tf24.body _ _
 have hn := hw.len
 refine Qe fun K hK => Zy rfl rfl rfl (Qa rfl (Qa rfl ?_))
 refine hK _ _ (Qb (kp2 rfl rfl) ?_)
 refine Qe fun K hK => QH (cs := [_]) rfl rfl rfl rfl (Yl (Qlx rfl (by intro x hx; simp at hx; subst hx; rfl) rfl rfl rfl (QbK hw _ rfl)) (Qa rfl ?_))
 refine hK _ _ (Qb (kp3 rfl rfl rfl) ?_)
 refine QhT (ι := Unit) (fun _ => ⟨[(2, .ref 2 0 0), (6, Zt (Xv (QaU w) l))], [(2, ⟨[[.sl ((w).map YK)]], 1, 26, true⟩)]⟩) (fun _ => l.all (fun t => inW w t.u) = true) ?_ ?_
 ·skip
  refine Qe fun K hK => Qa rfl ?_
  refine hK _ _ (Qb (kp4 rfl rfl rfl rfl) ?_)
  refine QA ?_
  refine Zq (ι := Nat) (fun i => ⟨[(1, ZE l), (2, .ref 2 0 0), (6, .osl 500000 (Xv (QaU w) (l.take i)).length), (7, .int .i64 i)], [(2, ⟨[[.sl ((w).map YK)]], 1, 26, true⟩), (500000, ⟨(Xv (QaU w) (l.take i)).map (fun x => [.int .i64 x]), 1, 3, true⟩)]⟩) (fun i => i <= l.length /\ (l.take i).all (fun t => inW w t.u) = true) (fun i => l.length - i) 0 ?_ ?_ ?_
  ·exact Q7 (l := [1, 2, 6, 7]) (lH := [2, 500000]) (kp4 rfl rfl rfl rfl) (Qf rfl (Qf rfl Qo)) rfl rfl rfl
  ·exact ⟨Nat.zero_le _, by simp⟩
  intro i hI
  have hlen := Qfp w (l.take i)
  try dsimp only
  refine QC ?_ -- 1
  refine Qe fun K hK => Qa rfl (Qa rfl (QR rfl rfl (Yb rfl rfl ?_)))
  refine hK _ _ (Qb (kp5 rfl rfl rfl rfl rfl) ?_)
  refine Qw rfl (fun h1 => ?_) (fun h1 => ?_)
  ·try rw [h1]
   try simp only [qa, qb, qc, qd, qe, List.length_map] at h1
   refine Qv (Qd (kp4 rfl rfl rfl rfl) ?_)
   refine QC ?_ -- 2
   refine QA ?_
   refine QC ?_ -- 3
   refine Qe fun K hK => Qa rfl (Qa rfl (QJ rfl rfl rfl (by omega) (QS (by omega)) rfl (Q9 rfl rfl (Qz rfl rfl rfl (Yb rfl rfl (Qa rfl ?_))))))
   refine QF (g := 22) rfl (fun h2 => ?_) (fun h2 => ?_)
   ·try rw [h2]
    try simp only [qa, qb, qc, qd, qe, List.length_map] at h2
    refine Qt rfl (Qt rfl (Qt rfl (Qt rfl (Qt rfl (Qt rfl (Qt rfl (Qt rfl (Qn rfl rfl ?_))))))))
    refine hK _ _ (Qb (kp5 rfl rfl rfl rfl rfl) ?_)
    refine Zv rfl (Qe fun K hK => Qa rfl (Qa rfl ?_))
    refine hK _ _ (Qb (kp2 rfl rfl) ?_)
    refine Qu (Qi (Qr (Qi (QZ (Qr (Qdw ?_))))))
    rw [QgB (i := i) (by omega) (Qbc (by omega))]
    exact QQ rfl rfl ⟨rfl, rfl⟩
   ·try rw [h2]
    try simp only [qa, qb, qc, qd, qe, List.length_map] at h2
    refine Qk rfl (Qa rfl (Qk rfl (Qa rfl (Qk rfl (QJ rfl rfl rfl (by omega) (QS (by omega)) rfl (Qk rfl (Q9 rfl rfl (Qk rfl (Qz rfl rfl rfl (Qk rfl (Qa rfl ?_)))))))))))
    refine Qk rfl (QR rfl rfl (Qk rfl (Qew rfl rfl (Qn rfl rfl ?_))))
    refine hK _ _ (Qb (kp5 rfl rfl rfl rfl rfl) ?_)
    refine Qw rfl (fun h3 => ?_) (fun h3 => ?_)
    ·try rw [h3]
     try simp only [qa, qb, qc, qd, qe, List.length_map] at h3
     refine Qe fun K hK => Qa rfl (Qa rfl ?_)
     refine hK _ _ (Qb (kp2 rfl rfl) ?_)
     refine Qu (Qi (Qr (Qi (QZ (Qr (Qdw ?_))))))
     rw [QgB (i := i) (by omega) (Qbc (by omega))]
     exact QQ rfl rfl ⟨rfl, rfl⟩
    ·try rw [h3]
     try simp only [qa, qb, qc, qd, qe, List.length_map] at h3
     refine Qv (Qd (kp4 rfl rfl rfl rfl) (QN fun K hK => Qa rfl (Qa rfl (Qa rfl (QJ rfl rfl rfl (by omega) (QS (by omega)) rfl (Q9 rfl rfl (QW (ds0 := [1, 0]) rfl rfl rfl rfl rfl (Qa rfl (Qa rfl (Qa rfl ?_))))))))))
     refine QJ rfl rfl rfl (by omega) (QS (by omega)) rfl (Q9 rfl rfl (QW (ds0 := [9, 8, 2, 0]) rfl rfl rfl rfl rfl (XI (ds0 := [8, 2, 0]) rfl rfl rfl (by simp) (by omega) (by omega) rfl rfl rfl (QW (ds0 := [2, 0]) rfl (Z4 rfl (ZF (by omega) (by omega))) rfl rfl rfl (Qa rfl (Qa rfl (QJ rfl rfl rfl (by omega) (QS (by omega)) rfl (Q9 rfl rfl (QW (ds0 := [2, 0]) rfl rfl rfl rfl rfl (QeH rfl rfl (XI (ds0 := [0]) rfl rfl rfl (by simp) (by omega) (by omega) rfl rfl rfl ?_)))))))))))
     refine Y2 (ds0 := []) rfl rfl (ZF (by omega) (by omega)) rfl rfl rfl rfl rfl rfl rfl (hK _ ?_)
     refine Qg (Qd (kp4 rfl rfl rfl rfl) (QN fun K hK => Qa rfl (Q3 rfl rfl (by first | exact Qp (by omega) (by omega) | rfl) (Qa rfl (hK _ ?_)))))
     refine Qj (i + 1) ?_ ?_ ?_
     ·exact Q7 (l := [1, 2, 6, 7]) (lH := [2, 500000]) (kp4 rfl rfl rfl rfl) (Qf rfl (Qf rfl Qo)) (by rw [Qkl (by omega) (by omega), List.length_set]; rfl) (by rw [Qkl (by omega) (by omega), List.map_set]; rfl) rfl
     ·exact ⟨by omega, Z7 (by omega) hI.2 (Qfx (by omega) (by omega))⟩
     ·first | omega | (simp only; omega) | (dsimp only; omega)
  ·try rw [h1]
   try simp only [qa, qb, qc, qd, qe, List.length_map] at h1
   refine Zi (QM (Qy (QI ?_)))
   refine Yt () ?_ ?_
   ·exact le_trans (Qgt (l := [2]) (lH := [2]) 500000 6 (kp1 rfl) (Qf rfl Qo) rfl rfl rfl (by first | (simp; done) | (simp; omega)) rfl rfl rfl rfl) (Q7 (l := [2, 6]) (lH := [2]) (kp2 rfl rfl) (Qf rfl Qo) (by rw [List.take_of_length_le (show l.length <= i by omega)]; rfl) rfl rfl)
   ·exact Xy (by omega) hI.2
 intro _ hJ
 try dsimp only
 refine Qe fun K hK => QH (cs := [_]) rfl rfl rfl rfl (Qa rfl (QG (QcC hw (by rw [Qfp]; omega)) rfl rfl (.inl rfl) (QP rfl rfl (QP rfl rfl (Qa rfl (Qa rfl ?_))))))
 refine hK _ _ (Qb (kp2 rfl rfl) ?_)
 refine Qu ?_
 rw [Qmb hJ]
 exact QQ rfl rfl ⟨rfl, rfl⟩
theorem Y7 {l : List TermT} (hl : l.length <= 2000000) {u : Int} : Ok Try.prog 70 [ZE l, .int .i64 u] (ZE (Qgx l u)) := by
 refine Ok.ofT Z2 Try.func70 QrV (Nat.le_of_ble_eq_true rfl) ?_
 show TW _ _ tf70.body _ _
 refine Qe fun K hK => Qa rfl ?_
 refine hK _ _ (Qb (kp2 rfl rfl) ?_)
 refine Qe fun K hK => Qa rfl ?_
 refine hK _ _ (Qb (kp3 rfl rfl rfl) ?_)
 refine QC ?_ -- 0
 refine Qe fun K hK => Qa rfl ?_
 refine hK _ _ (Qb (kp4 rfl rfl rfl rfl) ?_)
 refine QA ?_
 refine Zq (ι := Nat) (fun i => ⟨[(0, ZE l), (1, .int .i64 u), (5, .osl 5 (Qgx (l.take i) u).length), (6, .int .i64 i)], [(5, ⟨(Qgx (l.take i) u).map Qd6, 2, 78, true⟩)]⟩) (fun i => i <= l.length) (fun i => l.length - i) 0 ?_ ?_ ?_
 ·exact le_trans (Yx 5 5 2 78 rfl rfl) (Q7 (l := [0, 1, 5, 6]) (lH := [5]) (kp4 rfl rfl rfl rfl) (Qf rfl Qo) rfl rfl rfl)
 ·exact Nat.zero_le _
 intro i hI
 have hlen := Qnj l u i
 try dsimp only
 refine QC ?_ -- 1
 refine Qe fun K hK => Qa rfl (Qa rfl (QR rfl rfl (Yb rfl rfl ?_)))
 refine hK _ _ (Qb (kp5 rfl rfl rfl rfl rfl) ?_)
 refine Qw rfl (fun h1 => ?_) (fun h1 => ?_)
 ·try rw [h1]
  try simp only [qa, qb, qc, qd, qe, List.length_map] at h1
  refine Qv (Qd (kp4 rfl rfl rfl rfl) ?_)
  refine QC ?_ -- 2
  refine QA (Qe fun K hK => Qa rfl (Qa rfl (QJ rfl rfl rfl (by omega) (QS (by omega)) rfl (Q9 rfl rfl (Qz rfl rfl rfl (Qa rfl (X6 rfl rfl ?_)))))))
  refine hK _ _ (Qb (kp5 rfl rfl rfl rfl rfl) ?_)
  refine Qw rfl (fun h2 => ?_) (fun h2 => ?_)
  ·try rw [h2]
   try simp only [qa, qb, qc, qd, qe, List.length_map] at h2
   refine QN fun K hK => Qa rfl (Qa rfl (Qa rfl (QJ rfl rfl rfl (by omega) (QS (by omega)) rfl (QH (cs := [_, _]) rfl rfl rfl rfl (QB rfl rfl (XH rfl rfl (fun _ h => Xo rfl rfl rfl h) rfl (by simp) rfl rfl rfl (by simp; omega) (by simp; omega) (Qa rfl (hK _ ?_))))))))
   refine Qg (Qd (kp4 rfl rfl rfl rfl) (QN fun K hK => Qa rfl (Q3 rfl rfl (by first | exact Qp (by omega) (by omega) | rfl) (Qa rfl (hK _ ?_)))))
   refine Qj (i + 1) ?_ ?_ ?_
   ·exact Q7 (l := [0, 1, 5, 6]) (lH := [5]) (kp4 rfl rfl rfl rfl) (Qf rfl Qo) (by first | (rw [Qa1 (by omega) h2]; done) | (rw [Qa1 (by omega) h2]; rfl) | (rw [Qa1 (by omega) h2, List.length_append]; rfl) | (simp [Qa1 (by omega) h2]; done) | (simp [Qa1 (by omega) h2]; omega) | rfl) (by first | (rw [Qa1 (by omega) h2]; done) | (rw [Qa1 (by omega) h2]; rfl) | (rw [Qa1 (by omega) h2, List.map_append]; rfl) | (simp [Qa1 (by omega) h2]; done) | rfl) rfl
   ·omega
   ·first | omega | (simp only; omega) | (dsimp only; omega)
  ·try rw [h2]
   try simp only [qa, qb, qc, qd, qe, List.length_map] at h2
   refine Qv (Qg (Qd (kp4 rfl rfl rfl rfl) (QN fun K hK => Qa rfl (Q3 rfl rfl (by first | exact Qp (by omega) (by omega) | rfl) (Qa rfl (hK _ ?_))))))
   refine Qj (i + 1) ?_ ?_ ?_
   ·exact Q7 (l := [0, 1, 5, 6]) (lH := [5]) (kp4 rfl rfl rfl rfl) (Qf rfl Qo) (by first | (rw [Qdg (by omega) h2]; done) | (rw [Qdg (by omega) h2]; rfl) | (rw [Qdg (by omega) h2, List.length_append]; rfl) | (simp [Qdg (by omega) h2]; done) | (simp [Qdg (by omega) h2]; omega) | rfl) (by first | (rw [Qdg (by omega) h2]; done) | (rw [Qdg (by omega) h2]; rfl) | (rw [Qdg (by omega) h2, List.map_append]; rfl) | (simp [Qdg (by omega) h2]; done) | rfl) rfl
   ·omega
   ·first | omega | (simp only; omega) | (dsimp only; omega)
 ·try rw [h1]
  try simp only [qa, qb, qc, qd, qe, List.length_map] at h1
  refine Zi (QM (Qy (QI (Qd (kp1 rfl) (Qe fun K hK => Qa rfl (Qa rfl ?_))))))
  refine hK _ _ (Qb (kp1 rfl) ?_)
  refine Qu ?_
  exact Qco rfl rfl rfl (by simp) (by rw [List.take_of_length_le (show l.length <= i by omega)]; rfl)
theorem QbA {l : List TermT} (hl : l.length <= 3000000) : Ok Try.prog 71 [ZE l] (ZE (Qhu l)) := by
 refine Ok.ofT Z2 Try.func71 QrW (Nat.le_of_ble_eq_true rfl) ?_
 show TW _ _ tf71.body _ _
 refine Qe fun K hK => Qa rfl ?_
 refine hK _ _ (Qb (kp1 rfl) ?_)
 refine Qe fun K hK => Qa rfl ?_
 refine hK _ _ (Qb (kp2 rfl rfl) ?_)
 refine QC ?_ -- 0
 refine Qe fun K hK => Qa rfl ?_
 refine hK _ _ (Qb (kp3 rfl rfl rfl) ?_)
 refine QA ?_
 refine Zq (ι := Nat) (fun u => ⟨[(0, ZE l), (3, .osl 3 (Yk l u).length), (4, .int .i64 u)], [(3, ⟨(Yk l u).map Qd6, 2, 78, true⟩)]⟩) (fun u => u <= 48) (fun u => 48 - u) 0 ?_ ?_ ?_
 ·exact le_trans (Yx 3 3 2 78 rfl rfl) (Q7 (l := [0, 3, 4]) (lH := [3]) (kp3 rfl rfl rfl) (Qf rfl Qo) rfl rfl rfl)
 ·exact Nat.zero_le _
 intro u hU
 have hlen2 : u * l.length <= 48 * 3000000 := Nat.mul_le_mul (by omega) hl
 try dsimp only
 refine QC ?_ -- 1
 refine Qe fun K hK => Qa rfl (Yb rfl rfl ?_)
 refine hK _ _ (Qb (kp4 rfl rfl rfl rfl) ?_)
 refine Qw rfl (fun h1 => ?_) (fun h1 => ?_)
 ·try rw [h1]
  try simp only [qa, qb, qc, qd, qe, List.length_map] at h1
  refine Qv (Qd (kp3 rfl rfl rfl) ?_)
  refine QC ?_ -- 2
  refine QA (Qe fun K hK => Qa rfl ?_)
  refine hK _ _ (Qb (kp4 rfl rfl rfl rfl) ?_)
  refine QA ?_
  refine Zq (ι := Nat) (fun i => ⟨[(0, ZE l), (3, .osl 3 (srt l u i).length), (4, .int .i64 u), (5, .int .i64 i)], [(3, ⟨(srt l u i).map Qd6, 2, 78, true⟩)]⟩) (fun i => i <= l.length) (fun i => l.length - i) 0 ?_ ?_ ?_
  ·exact Q7 (l := [0, 3, 4, 5]) (lH := [3]) (kp4 rfl rfl rfl rfl) (Qf rfl Qo) (by first | (rw [X2]; done) | (rw [X2]; rfl) | (rw [X2, List.length_append]; rfl) | (simp [X2]; done) | (simp [X2]; omega) | rfl) (by first | (rw [X2]; done) | (rw [X2]; rfl) | (rw [X2, List.map_append]; rfl) | (simp [X2]; done) | rfl) rfl
  ·exact Nat.zero_le _
  intro i hI
  have hlen3 := Qpq l u i
  try dsimp only
  refine QC ?_ -- 3
  refine Qe fun K hK => Qa rfl (Qa rfl (QR rfl rfl (Yb rfl rfl ?_)))
  refine hK _ _ (Qb (kp5 rfl rfl rfl rfl rfl) ?_)
  refine Qw rfl (fun h2 => ?_) (fun h2 => ?_)
  ·try rw [h2]
   try simp only [qa, qb, qc, qd, qe, List.length_map] at h2
   refine Qv (Qd (kp4 rfl rfl rfl rfl) ?_)
   refine QC ?_ -- 4
   refine QA (Qe fun K hK => Qa rfl (Qa rfl (QJ rfl rfl rfl (by omega) (QS (by omega)) rfl (Q9 rfl rfl (Qz rfl rfl rfl (Qa rfl (ZH rfl rfl ?_)))))))
   refine hK _ _ (Qb (kp5 rfl rfl rfl rfl rfl) ?_)
   refine Qw rfl (fun h3 => ?_) (fun h3 => ?_)
   ·try rw [h3]
    try simp only [qa, qb, qc, qd, qe, List.length_map] at h3
    refine QN fun K hK => Qa rfl (Qa rfl (Qa rfl (QJ rfl rfl rfl (by omega) (QS (by omega)) rfl (QH (cs := [_, _]) rfl rfl rfl rfl (QB rfl rfl (XH rfl rfl (fun _ h => Xo rfl rfl rfl h) rfl (by simp) rfl rfl rfl (by simp; omega) (by simp; omega) (Qa rfl (hK _ ?_))))))))
    refine Qg (Qd (kp4 rfl rfl rfl rfl) (QN fun K hK => Qa rfl (Q3 rfl rfl (by first | exact Qp (by omega) (by omega) | rfl) (Qa rfl (hK _ ?_)))))
    refine Qj (i + 1) ?_ ?_ ?_
    ·exact Q7 (l := [0, 3, 4, 5]) (lH := [3]) (kp4 rfl rfl rfl rfl) (Qf rfl Qo) (by first | (rw [Qbp (by omega) h3]; done) | (rw [Qbp (by omega) h3]; rfl) | (rw [Qbp (by omega) h3, List.length_append]; rfl) | (simp [Qbp (by omega) h3]; done) | (simp [Qbp (by omega) h3]; omega) | rfl) (by first | (rw [Qbp (by omega) h3]; done) | (rw [Qbp (by omega) h3]; rfl) | (rw [Qbp (by omega) h3, List.map_append]; rfl) | (simp [Qbp (by omega) h3]; done) | rfl) rfl
    ·omega
    ·first | omega | (simp only; omega) | (dsimp only; omega)
   ·try rw [h3]
    try simp only [qa, qb, qc, qd, qe, List.length_map] at h3
    refine Qv (Qg (Qd (kp4 rfl rfl rfl rfl) (QN fun K hK => Qa rfl (Q3 rfl rfl (by first | exact Qp (by omega) (by omega) | rfl) (Qa rfl (hK _ ?_))))))
    refine Qj (i + 1) ?_ ?_ ?_
    ·exact Q7 (l := [0, 3, 4, 5]) (lH := [3]) (kp4 rfl rfl rfl rfl) (Qf rfl Qo) (by first | (rw [QdV (by omega) h3]; done) | (rw [QdV (by omega) h3]; rfl) | (rw [QdV (by omega) h3, List.length_append]; rfl) | (simp [QdV (by omega) h3]; done) | (simp [QdV (by omega) h3]; omega) | rfl) (by first | (rw [QdV (by omega) h3]; done) | (rw [QdV (by omega) h3]; rfl) | (rw [QdV (by omega) h3, List.map_append]; rfl) | (simp [QdV (by omega) h3]; done) | rfl) rfl
    ·omega
    ·first | omega | (simp only; omega) | (dsimp only; omega)
  ·try rw [h2]
   try simp only [qa, qb, qc, qd, qe, List.length_map] at h2
   refine Zi (QM (Qy (QI (Qg (Qd (kp3 rfl rfl rfl) (QN fun K hK => Qa rfl (Q3 rfl rfl (by first | exact Qp (by omega) (by omega) | rfl) (Qa rfl (hK _ ?_)))))))))
   refine Qj (u + 1) ?_ ?_ ?_
   ·exact Q7 (l := [0, 3, 4]) (lH := [3]) (kp3 rfl rfl rfl) (Qf rfl Qo) (by first | (rw [Qbo l u (show l.length = i by omega)]; done) | (rw [Qbo l u (show l.length = i by omega)]; rfl) | (rw [Qbo l u (show l.length = i by omega), List.length_append]; rfl) | (simp [Qbo l u (show l.length = i by omega)]; done) | (simp [Qbo l u (show l.length = i by omega)]; omega) | rfl) (by first | (rw [Qbo l u (show l.length = i by omega)]; done) | (rw [Qbo l u (show l.length = i by omega)]; rfl) | (rw [Qbo l u (show l.length = i by omega), List.map_append]; rfl) | (simp [Qbo l u (show l.length = i by omega)]; done) | rfl) rfl
   ·omega
   ·first | omega | (simp only; omega) | (dsimp only; omega)
 ·try rw [h1]
  try simp only [qa, qb, qc, qd, qe, List.length_map] at h1
  refine Zi (QM (Qy (QI (Qd (kp1 rfl) (Qe fun K hK => Qa rfl (Qa rfl ?_))))))
  refine hK _ _ (Qb (kp1 rfl) ?_)
  refine Qu ?_
  exact Qco rfl rfl rfl (by simp) (by rw [Qhu, show (48 : Nat) = u by omega]; rfl)
theorem Xr {w : Qq} (hw : WSm w) {u : Int} {p : Nat} (hp : p <= 60) {l : List WantT} (hl : l.length <= 1000000) (hx : ∀ x ∈ l, Sm x.s.1 /\ Sm x.s.2) {bar : Bool} : Ok Try.prog 46 [Z9 w, .int .i64 u, .int .i64 (p : Nat), Q8 l, .bool bar] (dOT (Yg w u p l bar)) := by
 refine Ok.ofT Z2 Try.func46 Qrx (Nat.le_of_ble_eq_true rfl) ?_
 show TW _ _ tf46.body _ _
 refine Qe fun K hK => Zy rfl rfl rfl (Qa rfl (Qa rfl ?_))
 refine hK _ _ (Qb (kp5 rfl rfl rfl rfl rfl) ?_)
 refine Qe fun K hK => Qa rfl (QH (cs := [_]) rfl rfl rfl rfl (Qa rfl (QG (ZJ hw) rfl rfl (.inr rfl) (Qa rfl (QhR rfl (Qe5 (by omega) (by omega)) (QoQ rfl rfl (by omega) (Qm3 hp) (QeH rfl rfl (QT rfl rfl (QB rfl rfl (Qa rfl ?_))))))))))
 refine hK _ _ (Qb (kp4 rfl rfl rfl rfl) ?_)
 refine QhT (ι := Unit) (fun _ => ⟨[(5, .ref 5 0 0), (12, ZE (clT w u p bar l))], [(5, ⟨[[.sl ((w).map YK)]], 1, 26, true⟩)]⟩) (fun _ => True) ?_ ?_
 ·skip
  refine Qe fun K hK => Qa rfl ?_
  refine hK _ _ (Qb (kp5 rfl rfl rfl rfl rfl) ?_)
  refine QA ?_
  refine Zq (ι := Nat) (fun i => ⟨[(3, Q8 l), (4, .bool bar), (5, .ref 5 0 0), (12, .osl 24 (clT w u p bar (l.take i)).length), (13, .int .i64 i)], [(5, ⟨[[.sl ((w).map YK)]], 1, 26, true⟩), (24, ⟨(clT w u p bar (l.take i)).map Qd6, 2, 78, true⟩)]⟩) (fun i => i <= l.length) (fun i => l.length - i) 0 ?_ ?_ ?_
  ·exact Q7 (l := [3, 4, 5, 12, 13]) (lH := [5, 24]) (kp5 rfl rfl rfl rfl rfl) (Qf rfl (Qf rfl Qo)) rfl rfl rfl
  ·exact Nat.zero_le _
  intro i hI
  have hlen := QlA w u p bar (l.take i)
  have hlen2 : (l.take i).length <= l.length := List.length_take_le' ..
  try dsimp only
  refine QC ?_ -- 1
  refine Qe fun K hK => Qa rfl (Qa rfl (QR rfl rfl (Yb rfl rfl ?_)))
  refine hK _ _ (Qb (kp6 rfl rfl rfl rfl rfl rfl) ?_)
  refine Qw rfl (fun h1 => ?_) (fun h1 => ?_)
  ·try rw [h1]
   try simp only [qa, qb, qc, qd, qe, List.length_map] at h1
   refine Qv (Qd (kp5 rfl rfl rfl rfl rfl) ?_)
   refine QC ?_ -- 2
   refine QA (Qe fun K hK => QL (ds0 := [1, 0]) (cs := [_]) rfl rfl rfl rfl rfl rfl (Qa rfl (Qa rfl (QJ rfl rfl rfl (by omega) (QS (by omega)) rfl (QL (ds0 := [1, 0]) (cs := [_, _, _]) rfl rfl rfl rfl rfl rfl (QV (ds0 := [0]) (QcS hw (hx _ (List.getElem_mem (by omega)))) rfl rfl (.inr rfl) rfl rfl (Qa rfl ?_)))))))
   refine hK _ _ (Qb (kp6 rfl rfl rfl rfl rfl rfl) ?_)
   refine QC ?_ -- 3
   refine Qe fun K hK => Qa rfl (Yi rfl ?_)
   refine hK _ _ (Qb (kp7 rfl rfl rfl rfl rfl rfl rfl) ?_)
   refine Qw rfl (fun h2 => ?_) (fun h2 => ?_)
   ·try rw [h2]
    try simp only [qa, qb, qc, qd, qe, List.length_map] at h2
    refine QN fun K hK => QL (ds0 := [3, 1, 0]) (cs := [_]) rfl rfl rfl rfl rfl rfl (Qa rfl (Qa rfl (QJ rfl rfl rfl (by omega) (QS (by omega)) rfl (Q9 rfl rfl (QW (ds0 := [3, 1, 0]) rfl rfl rfl rfl rfl (QV (ds0 := [1, 0]) (ZJ hw) rfl rfl (.inr rfl) rfl rfl (Qa rfl (QaA rfl rfl (Qpv w _ _) (Qa rfl (hK _ ?_))))))))))
    refine Qd (kp6 rfl rfl rfl rfl rfl rfl) (QN fun K hK => Qa rfl (Qa rfl (Qa rfl (QJ rfl rfl rfl (by omega) (QS (by omega)) rfl (Q9 rfl rfl (Qz rfl rfl rfl (Qa rfl (QT rfl rfl (QB rfl rfl (XH rfl rfl (fun _ h => Xo rfl rfl rfl h) rfl (by simp) rfl rfl rfl (by simp; omega) (by simp; omega) ?_))))))))))
    refine Qa rfl (hK _ ?_)
    refine Qg (Qd (kp5 rfl rfl rfl rfl rfl) (QN fun K hK => Qa rfl (Q3 rfl rfl (by first | exact Qp (by omega) (by omega) | rfl) (Qa rfl (hK _ ?_)))))
    refine Qj (i + 1) ?_ ?_ ?_
    ·exact Q7 (l := [3, 4, 5, 12, 13]) (lH := [5, 24]) (kp5 rfl rfl rfl rfl rfl) (Qf rfl (Qf rfl Qo)) (by first | (rw [Qa5 (by omega) h2]; done) | (rw [Qa5 (by omega) h2]; rfl) | (rw [Qa5 (by omega) h2, List.length_append]; rfl) | (simp [Qa5 (by omega) h2]; done) | (simp [Qa5 (by omega) h2]; omega) | rfl) (by first | (rw [Qa5 (by omega) h2]; done) | (rw [Qa5 (by omega) h2]; rfl) | (rw [Qa5 (by omega) h2, List.map_append]; rfl) | (simp [Qa5 (by omega) h2]; done) | rfl) rfl
    ·omega
    ·first | omega | (simp only; omega) | (dsimp only; omega)
   ·try rw [h2]
    try simp only [qa, qb, qc, qd, qe, List.length_map] at h2
    refine Qv (Qd (kp6 rfl rfl rfl rfl rfl rfl) (QN fun K hK => Qa rfl (Qa rfl (Qa rfl (QJ rfl rfl rfl (by omega) (QS (by omega)) rfl (Q9 rfl rfl (Qz rfl rfl rfl (Qa rfl (QT rfl rfl (QB rfl rfl ?_))))))))))
    refine XH rfl rfl (fun _ h => Xo rfl rfl rfl h) rfl (by simp) rfl rfl rfl (by simp; omega) (by simp; omega) (Qa rfl (hK _ ?_))
    refine Qg (Qd (kp5 rfl rfl rfl rfl rfl) (QN fun K hK => Qa rfl (Q3 rfl rfl (by first | exact Qp (by omega) (by omega) | rfl) (Qa rfl (hK _ ?_)))))
    refine Qj (i + 1) ?_ ?_ ?_
    ·exact Q7 (l := [3, 4, 5, 12, 13]) (lH := [5, 24]) (kp5 rfl rfl rfl rfl rfl) (Qf rfl (Qf rfl Qo)) (by first | (rw [Qa4 (by omega) h2]; done) | (rw [Qa4 (by omega) h2]; rfl) | (rw [Qa4 (by omega) h2, List.length_append]; rfl) | (simp [Qa4 (by omega) h2]; done) | (simp [Qa4 (by omega) h2]; omega) | rfl) (by first | (rw [Qa4 (by omega) h2]; done) | (rw [Qa4 (by omega) h2]; rfl) | (rw [Qa4 (by omega) h2, List.map_append]; rfl) | (simp [Qa4 (by omega) h2]; done) | rfl) rfl
    ·omega
    ·first | omega | (simp only; omega) | (dsimp only; omega)
  ·try rw [h1]
   try simp only [qa, qb, qc, qd, qe, List.length_map] at h1
   refine Zi (QM (Qy (QI ?_)))
   refine Yt () ?_ ?_
   ·exact le_trans (Qgt (l := [5]) (lH := [5]) 24 12 (kp1 rfl) (Qf rfl Qo) rfl rfl rfl (by first | (simp; done) | (simp; omega)) rfl rfl rfl rfl) (Q7 (l := [5, 12]) (lH := [5]) (kp2 rfl rfl) (Qf rfl Qo) (by rw [List.take_of_length_le (show l.length <= i by omega)]; rfl) rfl rfl)
   ·exact trivial
 intro _ hJ
 try dsimp only
 refine Qe fun K hK => QH (cs := [_]) rfl rfl rfl rfl (Qa rfl (QG (QcA hw (by rw [QlA]; omega)) rfl rfl (.inl rfl) (QP rfl rfl (QP rfl rfl (Qa rfl (Qa rfl ?_))))))
 refine hK _ _ (Qb (kp2 rfl rfl) ?_)
 refine Qu ?_
 exact QQ rfl rfl ⟨rfl, rfl⟩
end Go.Proofs
namespace M25
open Go Go.Abs M3
def IncOk (w : Qq) (l : List TermT) : Prop := l.Pairwise (fun a b => a.u < b.u) /\ ∀ t ∈ l, 0 <= t.u /\ t.u < w.length
theorem QgM : ∀ (l : List TermT) (a b : Int), l.Pairwise (fun x y => x.u < y.u) -> (∀ t ∈ l, a <= t.u /\ t.u < b) -> a <= b -> (l.length : Int) <= b - a
 | [], a, b, _, _, h => by simp; omega
 | t :: l, a, b, hp, hb, h => by
  rw [List.pairwise_cons] at hp
  have h1 := hb t (by simp)
  have := QgM l (t.u + 1) b hp.2 (fun s hs => ⟨by have := hp.1 s hs; omega, (hb s (by simp [hs])).2⟩) (by omega)
  simp only [List.length_cons]; omega
theorem IncOk.len {w : Qq} {l : List TermT} (h : IncOk w l) : l.length <= w.length := by
 have := QgM l 0 w.length h.1 h.2 (by omega)
 omega
theorem IncOk.nil (w : Qq) : IncOk w [] := ⟨List.Pairwise.nil, by simp⟩
theorem Qiz (w : Qq) (ms : List Int) : ∀ n, (Xw w ms n).Pairwise (fun a b => a.u < b.u) /\ ∀ t ∈ Xw w ms n, 0 <= t.u /\ t.u < n
 | 0 => ⟨List.Pairwise.nil, by simp [Xw]⟩
 | n + 1 => by
  obtain ⟨h1, h2⟩ := Qiz w ms n
  rw [Xw]
  split
  ·rw [List.append_nil]; exact ⟨h1, fun t ht => by have := h2 t ht; omega⟩
  ·refine ⟨List.pairwise_append.2 ⟨h1, List.pairwise_singleton _ _, fun a ha b hb => ?_⟩, fun t ht => ?_⟩
   ·simp only [List.mem_singleton] at hb; subst hb; exact (h2 a ha).2
   ·rcases List.mem_append.1 ht with ht | ht
    ·have := h2 t ht; omega
    ·simp only [List.mem_singleton] at ht; subst ht; simp only; omega
theorem QfI {w : Qq} {l t : List TermT} (h : QeB w l = some t) : IncOk w t := by
 unfold QeB at h
 split at h
 ·unfold Qiu at h
  split at h
  ·cases h
   obtain ⟨h1, h2⟩ := Qiz w (Xv (QaU w) l) (Xv (QaU w) l).length
   refine ⟨h1, fun t ht => ?_⟩
   have := h2 t ht
   rw [Qfp] at this
   exact this
  ·cases h
 ·cases h
theorem IncOk.ne {w : Qq} {l : List TermT} (h : IncOk w l) : l.Pairwise (fun a b => a.u ≠ b.u) := h.1.imp fun h => by omega
theorem Qf0 {l : List TermT} (hl : l.Pairwise (fun a b => a.u ≠ b.u)) : ∀ n, (Yk l n).Pairwise (fun a b => a.u < b.u) /\ ∀ t ∈ Yk l n, t ∈ l /\ 0 <= t.u /\ t.u < n
 | 0 => ⟨List.Pairwise.nil, by simp [Yk]⟩
 | n + 1 => by
  obtain ⟨h1, h2⟩ := Qf0 hl n
  rw [Yk]
  have hf : ∀ t ∈ l.filter (fun t => decide (t.u = ((n : Nat) : Int))), t ∈ l /\ t.u = n := fun t ht => by
   simpa using List.mem_filter.1 ht
  refine ⟨List.pairwise_append.2 ⟨h1, ?_, fun a ha b hb => ?_⟩, fun t ht => ?_⟩
  ·refine List.Pairwise.imp_of_mem (fun {a b} ha hb hab => ?_) (hl.filter _)
   have := (hf a ha).2
   have := (hf b hb).2
   omega
  ·rw [(hf b hb).2]; exact (h2 a ha).2.2
  ·rcases List.mem_append.1 ht with ht | ht
   ·have := h2 t ht; exact ⟨this.1, by omega, by omega⟩
   ·have := hf t ht; exact ⟨this.1, by omega, by omega⟩
theorem Qla {w : Qq} {l : List TermT} (hl : l.Pairwise (fun a b => a.u ≠ b.u)) (hb : ∀ t ∈ l, 0 <= t.u /\ t.u < w.length) : IncOk w (Qhu l) := by
 obtain ⟨h1, h2⟩ := Qf0 hl 48
 exact ⟨h1, fun t ht => hb t (h2 t ht).1⟩
theorem QnC {w : Qq} {r x : RowT} (hx : IncOk w x.t) (h0 : 0 <= r.u) (h1 : r.u < w.length) : IncOk w (QnB w r x).t := by
 refine Qla (List.pairwise_cons.2 ⟨fun t ht => ?_, hx.ne.filter _⟩) fun t ht => ?_
 ·have := (List.mem_filter.1 ht).2
  simp only [Bool.not_eq_true', decide_eq_false_iff_not] at this
  exact fun e => this e.symm
 ·rcases List.mem_cons.1 ht with rfl | ht
  ·exact ⟨h0, h1⟩
  ·exact hx.2 t (List.mem_filter.1 ht).1
def QaM (w : Qq) (rows : List RowT) : Prop := ∀ x ∈ rows, IncOk w x.t
theorem Qjy {w : Qq} {r : RowT} (hr : IncOk w r.t) (h0 : 0 <= r.u) (h1 : r.u < w.length) : ∀ {rows : List RowT}, QaM w rows -> QaM w (Xe w r rows)
 | [], _ => fun x hx => by
  simp only [Xe, List.mem_singleton] at hx; subst hx; exact hr
 | y :: rows, h => fun x hx => by
  rw [Xe] at hx
  split at hx
  ·rcases List.mem_cons.1 hx with rfl | hx
   ·exact QnC (h y (by simp)) h0 h1
   ·exact h x (by simp [hx])
  ·rcases List.mem_cons.1 hx with rfl | hx
   ·exact h x (by simp)
   ·exact Qjy hr h0 h1 (fun z hz => h z (by simp [hz])) x hx
theorem Qhy (w : Qq) (r : RowT) : ∀ rows : List RowT, (Xe w r rows).length <= rows.length + 1
 | [] => by simp [Xe]
 | x :: rows => by
  have := Qhy w r rows
  rw [Xe]; split <;> simp <;> omega
theorem Qjp {r x : RowT} (h : ¬ x.k = r.k \/ ¬ x.u = r.u \/ ¬ Qgx x.t r.u = Qgx r.t r.u) : Qjo r x = false := by
 simp only [Qjo, Bool.and_eq_false_iff, decide_eq_false_iff_not]
 rcases h with h | h | h
 ·exact .inl (.inl h)
 ·exact .inl (.inr h)
 ·exact .inr h
theorem Ql5 {r x : RowT} (h1 : x.k = r.k) (h2 : x.u = r.u) (h3 : Qgx x.t r.u = Qgx r.t r.u) : Qjo r x = true := by simp [Qjo, h1, h2, h3]
theorem QfS {w : Qq} {r : RowT} {rows : List RowT} {i : Nat} (h : i < rows.length) (hn : Qjo r rows[i] = false) (hi : Xe w r rows = rows.take i ++ Xe w r (rows.drop i)) : Xe w r rows = rows.take (i + 1) ++ Xe w r (rows.drop (i + 1)) := by
 rw [hi, List.drop_eq_getElem_cons h, Xe, if_neg (by rw [hn]; simp), List.take_succ_eq_append_getElem h, List.append_assoc]; rfl
theorem Qks {w : Qq} {r : RowT} {rows : List RowT} {i : Nat} (h : i < rows.length) (hn : Qjo r rows[i] = true) (hi : Xe w r rows = rows.take i ++ Xe w r (rows.drop i)) : Xe w r rows = rows.set i (QnB w r rows[i]) := by
 rw [hi, List.drop_eq_getElem_cons h, Xe, if_pos hn, List.set_eq_take_append_cons_drop, if_pos h]
theorem Qkt {w : Qq} {r : RowT} {rows : List RowT} {i : Nat} (h : rows.length <= i) (hi : Xe w r rows = rows.take i ++ Xe w r (rows.drop i)) : Xe w r rows = rows ++ [r] := by
 rw [hi, List.drop_eq_nil_of_le h, List.take_of_length_le h, Xe]
theorem Qkp {w : Qq} {u : Int} {p : Nat} {l : List (List WantT)} {rows : List RowT} {i : Nat} (h : i < l.length) : YN w u p (l.take (i + 1)) rows = match Yg w u p l[i] false with
  | some t => Xe w ⟨2, u, 0, 0, t⟩ (YN w u p (l.take i) rows)
  | none => YN w u p (l.take i) rows := by
 rw [List.take_succ_eq_append_getElem h, YN, List.foldl_append]; rfl
theorem QiA {w : Qq} {u : Int} {p : Nat} {l : List (List WantT)} {rows : List RowT} {i : Nat} (h : i < l.length) (ho : (Yg w u p l[i] false).isSome = true) : YN w u p (l.take (i + 1)) rows = Xe w ⟨2, u, 0, 0, (Yg w u p l[i] false).getD []⟩ (YN w u p (l.take i) rows) := by
 rw [Qkp h]
 cases hc : Yg w u p l[i] false with
 | none => rw [hc] at ho; cases ho
 | some t => rfl
theorem Qko {w : Qq} {u : Int} {p : Nat} {l : List (List WantT)} {rows : List RowT} {i : Nat} (h : i < l.length) (ho : (Yg w u p l[i] false).isSome = false) : YN w u p (l.take (i + 1)) rows = YN w u p (l.take i) rows := by
 rw [Qkp h]
 cases hc : Yg w u p l[i] false with
 | none => rfl
 | some t => rw [hc] at ho; cases ho
theorem Qlw {w : Qq} {u : Int} {p : Nat} {l : List WantT} {rows : List RowT} {i : Nat} (h : i < l.length) : Qbz w u p (l.take (i + 1)) rows = match Yg w u p [l[i]] true with
  | some t => Xe w ⟨3, u, 0, 0, t⟩ (Qbz w u p (l.take i) rows)
  | none => Qbz w u p (l.take i) rows := by
 rw [List.take_succ_eq_append_getElem h, Qbz, List.foldl_append]; rfl
theorem QjT {w : Qq} {u : Int} {p : Nat} {l : List WantT} {rows : List RowT} {i : Nat} (h : i < l.length) (ho : (Yg w u p [l[i]] true).isSome = true) : Qbz w u p (l.take (i + 1)) rows = Xe w ⟨3, u, 0, 0, (Yg w u p [l[i]] true).getD []⟩ (Qbz w u p (l.take i) rows) := by
 rw [Qlw h]
 cases hc : Yg w u p [l[i]] true with
 | none => rw [hc] at ho; cases ho
 | some t => rfl
theorem Qlv {w : Qq} {u : Int} {p : Nat} {l : List WantT} {rows : List RowT} {i : Nat} (h : i < l.length) (ho : (Yg w u p [l[i]] true).isSome = false) : Qbz w u p (l.take (i + 1)) rows = Qbz w u p (l.take i) rows := by
 rw [Qlw h]
 cases hc : Yg w u p [l[i]] true with
 | none => rfl
 | some t => rw [hc] at ho; cases ho
theorem QlN {w : Qq} {u : Int} {p : Nat} {l : List WantT} {b : Bool} : IncOk w ((Yg w u p l b).getD []) := by
 cases hc : Yg w u p l b with
 | none => exact IncOk.nil w
 | some t => exact QfI hc
theorem QdJ {w : Qq} {u : Int} {p : Nat} (h0 : 0 <= u) (h1 : u < w.length) : ∀ {l : List (List WantT)} {rows : List RowT}, QaM w rows -> QaM w (YN w u p l rows) /\ (YN w u p l rows).length <= rows.length + l.length
 | [], rows, h => ⟨h, Nat.le_refl _⟩
 | x :: l, rows, h => by
  rw [YN, List.foldl_cons]
  cases hc : Yg w u p x false with
  | none =>
   obtain ⟨q1, q2⟩ := QdJ h0 h1 (l := l) h
   exact ⟨q1, Nat.le_trans q2 (by simp)⟩
  | some t =>
   obtain ⟨q1, q2⟩ := QdJ (p := p) h0 h1 (l := l) (Qjy (r := ⟨2, u, 0, 0, t⟩) (QfI hc) h0 h1 h)
   have := Qhy w ⟨2, u, 0, 0, t⟩ rows
   exact ⟨q1, Nat.le_trans q2 (by simp only [List.length_cons]; omega)⟩
theorem QeR {w : Qq} {u : Int} {p : Nat} (h0 : 0 <= u) (h1 : u < w.length) : ∀ {l : List WantT} {rows : List RowT}, QaM w rows -> QaM w (Qbz w u p l rows) /\ (Qbz w u p l rows).length <= rows.length + l.length
 | [], rows, h => ⟨h, Nat.le_refl _⟩
 | x :: l, rows, h => by
  rw [Qbz, List.foldl_cons]
  cases hc : Yg w u p [x] true with
  | none =>
   obtain ⟨q1, q2⟩ := QeR h0 h1 (l := l) h
   exact ⟨q1, Nat.le_trans q2 (by simp)⟩
  | some t =>
   obtain ⟨q1, q2⟩ := QeR (p := p) h0 h1 (l := l) (Qjy (r := ⟨3, u, 0, 0, t⟩) (QfI hc) h0 h1 h)
   have := Qhy w ⟨3, u, 0, 0, t⟩ rows
   exact ⟨q1, Nat.le_trans q2 (by simp only [List.length_cons]; omega)⟩
theorem Qg0 {w : Qq} {u : Int} {cs : List CandT} {n : Nat} {rows : List RowT} (h : n < cs.length) : YG w u cs (n + 1) rows = Qbz w u n cs[n].bs (YN w u n cs[n].ns (YG w u cs n rows)) := by
 rw [YG, List.getElem?_eq_getElem h]
theorem Qfg {w : Qq} {u : Int} {cs : List CandT} (h0 : 0 <= u) (h1 : u < w.length) (hc : ∀ c ∈ cs, c.ns.length <= 1000 /\ c.bs.length <= 1000) {rows : List RowT} (h : QaM w rows) : ∀ n, n <= cs.length -> QaM w (YG w u cs n rows) /\ (YG w u cs n rows).length <= rows.length + n * 2000
 | 0, _ => ⟨h, by simp [YG]⟩
 | n + 1, hn => by
  obtain ⟨q1, q2⟩ := Qfg h0 h1 hc h n (by omega)
  rw [Qg0 (by omega)]
  obtain ⟨q3, q4⟩ := QdJ (p := n) h0 h1 (l := cs[n].ns) q1
  obtain ⟨q5, q6⟩ := QeR (p := n) h0 h1 (l := cs[n].bs) q3
  have := hc cs[n] (List.getElem_mem _)
  exact ⟨q5, by omega⟩
theorem QjD {w : Qq} {n : Nat} (h : n < w.length) : Yr w (n + 1) = YG w n w[n].cs w[n].cs.length (Yr w n) := by
 rw [Yr, List.getElem?_eq_getElem h]
theorem Qb9 {w : Qq} (hw : WSm w) (h0 : 0 < w.length) : ∀ n, n <= w.length -> QaM w (Yr w n) /\ (Yr w n).length <= 1 + n * 32000
 | 0, _ => ⟨fun x hx => by
   simp only [Yr, List.mem_singleton] at hx; subst hx
   exact ⟨List.pairwise_singleton _ _, fun t ht => by simp only [List.mem_singleton] at ht; subst ht; exact ⟨Int.le_refl _, by simp only; omega⟩⟩, by simp [Yr]⟩
 | n + 1, hn => by
  obtain ⟨q1, q2⟩ := Qb9 hw h0 n (by omega)
  rw [QjD (by omega)]
  obtain ⟨q3, q4⟩ := Qfg (u := n) (by omega) (by omega) (fun c hc => hw.ns w[n] (List.getElem_mem _) c hc) q1 w[n].cs.length (Nat.le_refl _)
  have := hw.cs w[n] (List.getElem_mem _)
  refine ⟨q3, ?_⟩
  have h5 : w[n].cs.length * 2000 <= 16 * 2000 := Nat.mul_le_mul_right _ this
  omega
theorem Qou {w : Qq} (hw : WSm w) (h0 : 0 < w.length) : ∀ t ∈ mDB w, IncOk w t := fun t ht => by
 obtain ⟨r, hr, rfl⟩ := List.mem_map.1 ht
 exact (Qb9 hw h0 w.length (Nat.le_refl _)).1 r hr
theorem Ql8 {w : Qq} (hw : WSm w) (h0 : 0 < w.length) : (mDB w).length <= 1600000 := by
 have := (Qb9 hw h0 w.length (Nat.le_refl _)).2
 have := hw.len
 rw [mDB, List.length_map, Qdz]; omega
theorem QqF {l : List TermT} : ∀ r ∈ l.map Qd6, r.length = 2 := fun r hr => by obtain ⟨x, _, rfl⟩ := List.mem_map.1 hr; rfl
theorem QqG {l : List WantT} : ∀ r ∈ l.map QeK, r.length = 3 := fun r hr => by obtain ⟨x, _, rfl⟩ := List.mem_map.1 hr; rfl
theorem Qld {l : List StepT} : ∀ r ∈ l.map Qfi, r.length = 4 := fun r hr => by obtain ⟨x, _, rfl⟩ := List.mem_map.1 hr; rfl
theorem QmO {α : Type} {f : α -> List D} {l : List α} {i : Nat} (h : i < l.length) : ((l.map f).take ((i : Int) + 1).toNat).drop ((i : Nat) : Int).toNat = [l[i]].map f := by
 rw [Qm1, Int.toNat_natCast, List.drop_take, show i + 1 - i = 1 by omega, List.drop_eq_getElem_cons (by simpa using h)]
 simp
theorem WSm.nsLen {w : Qq} (hw : WSm w) {u i : Nat} (hu : u < w.length) (hi : i < w[u].cs.length) : w[u].cs[i].ns.length <= 1000 := (hw.ns _ (List.getElem_mem _) _ (List.getElem_mem _)).1
theorem WSm.bsLen {w : Qq} (hw : WSm w) {u i : Nat} (hu : u < w.length) (hi : i < w[u].cs.length) : w[u].cs[i].bs.length <= 1000 := (hw.ns _ (List.getElem_mem _) _ (List.getElem_mem _)).2
theorem WSm.csLen {w : Qq} (hw : WSm w) {u : Nat} (hu : u < w.length) : w[u].cs.length <= 16 := hw.cs _ (List.getElem_mem _)
theorem Qpc {w : Qq} (hw : WSm w) {u i : Nat} (hu : u < w.length) (hi : i <= w[u].cs.length) : QaM w (YG w u w[u].cs i (Yr w u)) /\ (YG w u w[u].cs i (Yr w u)).length <= 10000000 := by
 obtain ⟨q1, q2⟩ := Qb9 hw (by omega) u (by omega)
 obtain ⟨q3, q4⟩ := Qfg (u := u) (by omega) (by omega) (fun c hc => hw.ns w[u] (List.getElem_mem _) c hc) q1 i hi
 have := hw.csLen hu
 have := hw.len
 have h5 : i * 2000 <= 16 * 2000 := Nat.mul_le_mul_right _ (by omega)
 have h6 : u * 32000 <= 48 * 32000 := Nat.mul_le_mul_right _ (by omega)
 exact ⟨q3, by omega⟩
theorem Qhn {w : Qq} (hw : WSm w) {u i : Nat} (hu : u < w.length) (hi : i < w[u].cs.length) (k : Nat) : QaM w (YN w u i (w[u].cs[i].ns.take k) (YG w u w[u].cs i (Yr w u))) /\ (YN w u i (w[u].cs[i].ns.take k) (YG w u w[u].cs i (Yr w u))).length <= 20000000 := by
 obtain ⟨q1, q2⟩ := Qpc hw hu (Nat.le_of_lt hi)
 obtain ⟨q3, q4⟩ := QdJ (u := u) (p := i) (by omega) (by omega) (l := w[u].cs[i].ns.take k) q1
 have := hw.nsLen hu hi
 have h2 : (w[u].cs[i].ns.take k).length <= w[u].cs[i].ns.length := List.length_take_le' ..
 exact ⟨q3, by omega⟩
theorem Qkf {w : Qq} (hw : WSm w) {u i : Nat} (hu : u < w.length) (hi : i < w[u].cs.length) (k : Nat) : QaM w (Qbz w u i (w[u].cs[i].bs.take k) (YN w u i w[u].cs[i].ns (YG w u w[u].cs i (Yr w u)))) /\ (Qbz w u i (w[u].cs[i].bs.take k) (YN w u i w[u].cs[i].ns (YG w u w[u].cs i (Yr w u)))).length <= 30000000 := by
 obtain ⟨q1, q2⟩ := Qhn hw hu hi w[u].cs[i].ns.length
 rw [List.take_length] at q1 q2
 obtain ⟨q3, q4⟩ := QeR (u := u) (p := i) (by omega) (by omega) (l := w[u].cs[i].bs.take k) q1
 have := hw.bsLen hu hi
 have h2 : (w[u].cs[i].bs.take k).length <= w[u].cs[i].bs.length := List.length_take_le' ..
 exact ⟨q3, by omega⟩
end M25
namespace Go.Proofs
open Go Go.Abs M3 M25
set_option linter.unusedVariables false
set_option linter.unusedSimpArgs false
theorem X7 {w : Qq} (hw : WSm w) {r : RowT} {rows : List RowT} (hr : QaM w rows) (hrr : IncOk w r.t) (hl : rows.length <= 100000000) : OkH Try.prog 47 [Z9 w, .osl 500000 rows.length, .agg (QlC r)] [(500000, ⟨(rows).map QlC, 5, 73, true⟩)] (.osl 500000 (Xe w r rows).length) [(500000, ⟨(Xe w r rows).map QlC, 5, 73, true⟩)] := by
 refine OkH.mv Z2 Try.func47 Qry (Nat.le_of_ble_eq_true rfl) rfl ?_
 show TW _ _ tf47.body _ _
 have hn := hw.len
 refine Qe fun K hK => Zy rfl rfl rfl (Zy rfl rfl rfl (Qa rfl ?_))
 refine hK _ _ (Qb (kp3 rfl rfl rfl) ?_)
 refine QC ?_ -- 0
 refine Qe fun K hK => Qa rfl ?_
 refine hK _ _ (Qb (kp4 rfl rfl rfl rfl) ?_)
 refine QA ?_
 refine Zq (ι := Nat) (fun i => ⟨[(1, .osl 500000 rows.length), (3, .ref 3 0 0), (5, .ref 5 0 0), (7, .int .i64 i)], [(3, ⟨[[.sl ((w).map YK)]], 1, 26, true⟩), (5, ⟨[[.int .i64 (r).k, .int .i64 (r).u, .int .i64 (r).a, .int .i64 (r).b, ZE (r).t]], 5, 73, true⟩), (500000, ⟨(rows).map QlC, 5, 73, true⟩)]⟩) (fun i => i <= rows.length /\ Xe w r rows = rows.take i ++ Xe w r (rows.drop i)) (fun i => rows.length - i) 0 ?_ ?_ ?_
 ·exact Q7 (l := [1, 3, 5, 7]) (lH := [3, 5, 500000]) (kp4 rfl rfl rfl rfl) (Qf rfl (Qf rfl (Qf rfl Qo))) rfl rfl rfl
 ·exact ⟨Nat.zero_le _, by simp⟩
 intro i hI
 try dsimp only
 refine QC ?_ -- 1
 refine Qe fun K hK => Qa rfl (Qa rfl (QR rfl rfl (Yb rfl rfl ?_)))
 refine hK _ _ (Qb (kp5 rfl rfl rfl rfl rfl) ?_)
 refine Qw rfl (fun h1 => ?_) (fun h1 => ?_)
 ·try rw [h1]
  try simp only [qa, qb, qc, qd, qe, List.length_map] at h1
  refine Qv (Qd (kp4 rfl rfl rfl rfl) ?_)
  refine QC ?_ -- 2
  refine QA (Qe fun K hK => Qa rfl (Qa rfl (Xg rfl rfl rfl (by simp) (by omega) (by omega) rfl (QH (cs := [_, _, _, _, _]) rfl (Z4 rfl (QS (by omega))) rfl rfl (ZD rfl (Q5 rfl rfl rfl rfl rfl rfl rfl rfl ?_))))))
  refine hK _ _ (Qb (kp5 rfl rfl rfl rfl rfl) ?_)
  refine Qe fun K hK => Qh rfl rfl (QW (ds0 := [20, 19, 18, 17, 16, 15, 14, 13, 12, 11, 10, 9, 8, 7, 6, 5, 4, 3, 2, 1, 0]) rfl rfl rfl rfl rfl (Qh rfl rfl (QW (ds0 := [20, 19, 18, 17, 16, 15, 14, 13, 12, 11, 10, 9, 8, 7, 6, 5, 4, 3, 2, 1, 0]) rfl rfl rfl rfl rfl ?_)))
  first | refine ZH rfl rfl ?_ | refine QgU rfl rfl ?_
  refine Qa rfl ?_
  refine QF (g := 25) rfl (fun h2 => ?_) (fun h2 => ?_)
  ·try rw [h2]
   try simp only [qa, qb, qc, qd, qe, List.length_map] at h2
   refine Qk rfl (Qh rfl rfl (Qk rfl (QW (ds0 := [14, 13, 12, 11, 10, 9, 8, 7, 6, 5, 4, 3, 2, 1, 0]) rfl rfl rfl rfl rfl (Qk rfl (Qh rfl rfl (Qk rfl (QW (ds0 := [14, 13, 12, 11, 10, 9, 8, 7, 6, 5, 4, 3, 2, 1, 0]) rfl rfl rfl rfl rfl (Qk rfl ?_))))))))
   first | refine ZH rfl rfl ?_ | refine QgU rfl rfl ?_
   refine Qn rfl rfl (Qa rfl ?_)
   refine QF (g := 32) rfl (fun h3 => ?_) (fun h3 => ?_)
   ·try rw [h3]
    try simp only [qa, qb, qc, qd, qe, List.length_map] at h3
    refine Qk rfl (Qh rfl rfl (Qk rfl (QW (ds0 := [7, 1, 0]) rfl rfl rfl rfl rfl (Qk rfl (Qh rfl rfl (Qk rfl (QW (ds0 := [7, 1, 0]) rfl rfl rfl rfl rfl (Qk rfl (QV (ds0 := [1, 0]) (Y7 (Nat.le_trans (hr _ (List.getElem_mem (by omega))).len (by omega))) rfl rfl (.inl rfl) rfl rfl (Qk rfl (Qh rfl rfl ?_)))))))))))
    refine Qk rfl (QW (ds0 := [2, 1, 0]) rfl rfl rfl rfl rfl (Qk rfl (Qh rfl rfl (Qk rfl (QW (ds0 := [2, 1, 0]) rfl rfl rfl rfl rfl (Qk rfl (QV (ds0 := [1, 0]) (Y7 (Nat.le_trans hrr.len (by omega))) rfl rfl (.inl rfl) rfl rfl (Qk rfl (QV (ds0 := [0]) (QcB (Nat.le_trans (Qfd _ _) (Nat.le_trans (hr _ (List.getElem_mem (by omega))).len (by omega)))) rfl rfl (.inr rfl) rfl rfl (Qn rfl rfl ?_))))))))))
    refine hK _ _ (Qb (kp6 rfl rfl rfl rfl rfl rfl) ?_)
    refine Qw rfl (fun h4 => ?_) (fun h4 => ?_)
    ·try rw [h4]
     try simp only [qa, qb, qc, qd, qe, List.length_map] at h4
     refine Qe fun K hK => Qh rfl rfl (QW (ds0 := [8, 7, 1, 0]) rfl rfl rfl rfl rfl (QL (ds0 := [16, 9, 8, 7, 1, 0]) (cs := [_]) rfl rfl rfl rfl rfl rfl (Qh rfl rfl (QW (ds0 := [16, 9, 8, 7, 1, 0]) rfl rfl rfl rfl rfl (Qh rfl rfl (QW (ds0 := [16, 9, 8, 7, 1, 0]) rfl rfl rfl rfl rfl (QV (ds0 := [9, 8, 7, 1, 0]) (YW hw (Nat.le_trans (hr _ (List.getElem_mem (by omega))).len (by omega))) rfl rfl (.inr rfl) rfl rfl (QL (ds0 := [10, 9, 8, 7, 1, 0]) (cs := [_]) rfl rfl rfl rfl rfl rfl (Qh rfl rfl (QW (ds0 := [10, 9, 8, 7, 1, 0]) rfl rfl rfl rfl rfl ?_))))))))))
     refine Qh rfl rfl (QW (ds0 := [10, 9, 8, 7, 1, 0]) rfl rfl rfl rfl rfl (QV (ds0 := [9, 8, 7, 1, 0]) (YW hw (Nat.le_trans hrr.len (by omega))) rfl rfl (.inr rfl) rfl rfl (QqT rfl rfl (QT rfl rfl (QB rfl rfl (Qh rfl rfl (QW (ds0 := [2, 1, 0]) rfl rfl rfl rfl rfl (Qh rfl rfl (QW (ds0 := [2, 1, 0]) rfl rfl rfl rfl rfl (QV (ds0 := [1, 0]) (Y7 (Nat.le_trans (hr _ (List.getElem_mem (by omega))).len (by omega))) rfl rfl (.inl rfl) rfl rfl (Qaz (ds0 := [0]) rfl rfl (by simp [D.ids, D.sid, ZE]) ⟨rfl, QqF, rfl⟩ rfl rfl (by simp) rfl rfl (by have q1 := Qfd (rows[i]'(by omega)).t r.u; have q2 := (hr _ (List.getElem_mem (show i < rows.length by omega))).len; simp; omega) (by have q1 := Qfd (rows[i]'(by omega)).t r.u; have q2 := (hr _ (List.getElem_mem (show i < rows.length by omega))).len; simp; omega) rfl rfl ?_)))))))))))
     refine Qa rfl ?_
     refine hK _ _ (Qb (kp3 rfl rfl rfl) ?_)
     refine Qm4 (Qgt (l := [1, 7]) (lH := [500000]) 67 9 (kp2 rfl rfl) (Qf rfl Qo) rfl rfl rfl (by first | (simp; done) | (simp; omega)) rfl rfl rfl rfl) (Qe fun K hK => Qa rfl (Qa rfl (Qa rfl (QG (QbA (l := ⟨r.u, bor (Qc2 w (rows[i]'(by omega)).t r.u) (Qc2 w r.t r.u)⟩ :: Qgx (rows[i]'(by omega)).t r.u) (by have q1 := Qfd (rows[i]'(by omega)).t r.u; have q2 := (hr _ (List.getElem_mem (show i < rows.length by omega))).len; simp; omega)) rfl rfl (.inl rfl) (Xg rfl rfl rfl (by simp) (by omega) (by omega) rfl (Qh rfl rfl (Q5 rfl rfl (QS (by omega)) rfl rfl rfl rfl rfl ?_)))))))
     refine hK _ _ (Qb (kp1 rfl) ?_)
     refine Qe fun K hK => Qa rfl (Qa rfl ?_)
     refine hK _ _ (Qb (kp1 rfl) ?_)
     refine Qu (Qr (Qi (QZ (Qr (Qi ?_)))))
     refine YO rfl ?_ (Qda ?_)
     ·rw [Qks (i := i) (by omega) (Ql5 h2 h3 h4) hI.2]; simp [Qlj, D.fz, D.fzS, QfY, D.can, D.canS]
     ·rw [Qks (i := i) (by omega) (Ql5 h2 h3 h4) hI.2]; simp [lk, List.map_set, QlC, QnB, setRow, D.sid, ZE]
    ·try rw [h4]
     try simp only [qa, qb, qc, qd, qe, List.length_map] at h4
     refine Qv (Qg (Qd (kp4 rfl rfl rfl rfl) (QN fun K hK => Qa rfl (Q3 rfl rfl (by first | exact Qp (by omega) (by omega) | rfl) (Qa rfl (hK _ ?_))))))
     refine Qj (i + 1) ?_ ?_ ?_
     ·exact Q7 (l := [1, 3, 5, 7]) (lH := [3, 5, 500000]) (kp4 rfl rfl rfl rfl) (Qf rfl (Qf rfl (Qf rfl Qo))) rfl rfl rfl
     ·exact ⟨by omega, QfS (by omega) (Qjp (by first | exact .inl h2 | exact .inr (.inl h3) | exact .inr (.inr h4))) hI.2⟩
     ·first | omega | (simp only; omega) | (dsimp only; omega)
   ·try rw [h3]
    try simp only [qa, qb, qc, qd, qe, List.length_map] at h3
    refine Qt rfl (Qt rfl (Qt rfl (Qt rfl (Qt rfl (Qt rfl (Qt rfl (Qt rfl (Qt rfl (Qt rfl (Qt rfl (Qn rfl rfl ?_)))))))))))
    refine hK _ _ (Qb (kp6 rfl rfl rfl rfl rfl rfl) ?_)
    refine ZP rfl (Qv (Qg (Qd (kp4 rfl rfl rfl rfl) (QN fun K hK => Qa rfl (Q3 rfl rfl (by first | exact Qp (by omega) (by omega) | rfl) (Qa rfl (hK _ ?_)))))))
    refine Qj (i + 1) ?_ ?_ ?_
    ·exact Q7 (l := [1, 3, 5, 7]) (lH := [3, 5, 500000]) (kp4 rfl rfl rfl rfl) (Qf rfl (Qf rfl (Qf rfl Qo))) rfl rfl rfl
    ·exact ⟨by omega, QfS (by omega) (Qjp (by first | exact .inl h2 | exact .inr (.inl h3) | exact .inr (.inr h4))) hI.2⟩
    ·first | omega | (simp only; omega) | (dsimp only; omega)
  ·try rw [h2]
   try simp only [qa, qb, qc, qd, qe, List.length_map] at h2
   refine Qt rfl (Qt rfl (Qt rfl (Qt rfl (Qt rfl (Qn rfl rfl (Qa rfl (Qt rfl (Qt rfl (Qt rfl (Qt rfl (Qt rfl ?_)))))))))))
   refine Qt rfl (Qt rfl (Qt rfl (Qt rfl (Qt rfl (Qt rfl (Qn rfl rfl ?_))))))
   refine hK _ _ (Qb (kp6 rfl rfl rfl rfl rfl rfl) ?_)
   refine ZP rfl (Qv (Qg (Qd (kp4 rfl rfl rfl rfl) (QN fun K hK => Qa rfl (Q3 rfl rfl (by first | exact Qp (by omega) (by omega) | rfl) (Qa rfl (hK _ ?_)))))))
   refine Qj (i + 1) ?_ ?_ ?_
   ·exact Q7 (l := [1, 3, 5, 7]) (lH := [3, 5, 500000]) (kp4 rfl rfl rfl rfl) (Qf rfl (Qf rfl (Qf rfl Qo))) rfl rfl rfl
   ·exact ⟨by omega, QfS (by omega) (Qjp (by first | exact .inl h2 | exact .inr (.inl h3) | exact .inr (.inr h4))) hI.2⟩
   ·first | omega | (simp only; omega) | (dsimp only; omega)
 ·try rw [h1]
  try simp only [qa, qb, qc, qd, qe, List.length_map] at h1
  refine Zi (QM (Qy (QI (Qd (kp2 rfl rfl) (Qe fun K hK => Qa rfl (QH (cs := [_, _, _, _, _]) rfl rfl rfl rfl (QB rfl rfl (XH rfl rfl (fun _ h => Xo rfl rfl rfl h) rfl (by simp) rfl rfl rfl (by simp; omega) (by simp; omega) (Qa rfl ?_)))))))))
  refine hK _ _ (Qb (kp1 rfl) ?_)
  refine Qu ?_
  refine YO rfl ?_ (Qda ?_)
  ·rw [Qkt (i := i) (by omega) hI.2]; simp [Qlj, D.fz, D.fzS, QfY, D.can, D.canS]
  ·rw [Qkt (i := i) (by omega) hI.2]; simp [lk, QlC, D.sid, ZE]
theorem QcT {w : Qq} (hw : WSm w) : Ok Try.prog 23 [Z9 w] (QpS (Qdz w)) := by
 refine Ok.ofT Z2 Try.func23 Qra (Nat.le_of_ble_eq_true rfl) ?_
 show TW _ _ tf23.body _ _
 have hn := hw.len
 refine Qe fun K hK => Zy rfl rfl rfl (Qa rfl ?_)
 refine hK _ _ (Qb (kp1 rfl) ?_)
 refine Qe fun K hK => QT rfl rfl (QB rfl rfl (QT rfl rfl (QB rfl rfl (Qa rfl ?_))))
 refine hK _ _ (Qb (kp2 rfl rfl) ?_)
 refine QC ?_ -- 0
 refine Qe fun K hK => Qa rfl ?_
 refine hK _ _ (Qb (kp3 rfl rfl rfl) ?_)
 refine QA ?_
 refine Zq (ι := Nat) (fun j => ⟨[(1, .ref 1 0 0), (3, .osl 3 (Yr w j).length), (4, .int .i64 j)], [(1, ⟨[[.sl ((w).map YK)]], 1, 26, true⟩), (3, ⟨(Yr w j).map QlC, 5, 73, true⟩)]⟩) (fun j => j <= w.length) (fun j => w.length - j) 0 ?_ ?_ ?_
 ·exact le_trans (Qin 14 _ (by decide)) (le_trans (Qfy (k := 16) (b := ⟨[[.int .i64 1, .int .i64 0, .int .i64 0, .int .i64 0, .sl [[.int .i64 0, .int .i64 1]]]], 5, 73, false⟩) rfl (by simp) (by simp [D.sid])) (le_trans (Qhi (l := [1, 4]) (lH := [1]) 16 3 3 (kp2 rfl rfl) (Qf rfl Qo) rfl rfl rfl rfl rfl rfl rfl) (Q7 (l := [1, 3, 4]) (lH := [1, 3]) (kp3 rfl rfl rfl) (Qf rfl (Qf rfl Qo)) rfl rfl rfl)))
 ·exact Nat.zero_le _
 intro j hU
 try dsimp only
 refine QC ?_ -- 1
 refine Qe fun K hK => Qa rfl (Qh rfl rfl (Qz rfl rfl rfl (QR rfl rfl (Yb rfl rfl ?_))))
 refine hK _ _ (Qb (kp4 rfl rfl rfl rfl) ?_)
 refine Qw rfl (fun h1 => ?_) (fun h1 => ?_)
 ·try rw [h1]
  try simp only [qa, qb, qc, qd, qe, List.length_map] at h1
  refine Qv (Qd (kp3 rfl rfl rfl) ?_)
  refine QC ?_ -- 2
  refine QA (Qe fun K hK => Qa rfl ?_)
  refine hK _ _ (Qb (kp4 rfl rfl rfl rfl) ?_)
  refine QA ?_
  refine Zq (ι := Nat) (fun i => ⟨[(1, .ref 1 0 0), (3, .osl 3 (YG w j (w[j]'(by omega)).cs i (Yr w j)).length), (4, .int .i64 j), (5, .int .i64 i)], [(1, ⟨[[.sl ((w).map YK)]], 1, 26, true⟩), (3, ⟨(YG w j (w[j]'(by omega)).cs i (Yr w j)).map QlC, 5, 73, true⟩)]⟩) (fun i => i <= (w[j]'(by omega)).cs.length) (fun i => (w[j]'(by omega)).cs.length - i) 0 ?_ ?_ ?_
  ·exact Q7 (l := [1, 3, 4, 5]) (lH := [1, 3]) (kp4 rfl rfl rfl rfl) (Qf rfl (Qf rfl Qo)) rfl rfl rfl
  ·exact Nat.zero_le _
  intro i hI
  have hcs := hw.csLen (u := j) (by omega)
  try dsimp only
  refine QC ?_ -- 3
  refine Qe fun K hK => Qa rfl (Qh rfl rfl (Qz rfl rfl rfl (Qa rfl (QJ rfl rfl rfl (by omega) (QS (by omega)) rfl (Q9 rfl rfl (Qz rfl rfl rfl (QR rfl rfl (Yb rfl rfl ?_))))))))
  refine hK _ _ (Qb (kp5 rfl rfl rfl rfl rfl) ?_)
  refine Qw rfl (fun h2 => ?_) (fun h2 => ?_)
  ·try rw [h2]
   try simp only [qa, qb, qc, qd, qe, List.length_map] at h2
   refine Qv (Qd (kp4 rfl rfl rfl rfl) ?_)
   refine QC ?_ -- 4
   refine QA (Qe fun K hK => Qh rfl rfl (Qz rfl rfl rfl (Qa rfl (QJ rfl rfl rfl (by omega) (QS (by omega)) rfl (Q9 rfl rfl (Qz rfl rfl rfl (Qa rfl (QJ rfl rfl rfl (by omega) (QS (by omega)) rfl (QH (cs := [_, _, _, _, _, _, _, _]) rfl rfl rfl rfl (ZD rfl ?_))))))))))
   refine Q5 rfl rfl rfl rfl rfl rfl rfl rfl ?_
   refine hK _ _ (Qb (kp5 rfl rfl rfl rfl rfl) ?_)
   refine QC ?_ -- 5
   refine Qe fun K hK => Qa rfl ?_
   refine hK _ _ (Qb (kp6 rfl rfl rfl rfl rfl rfl) ?_)
   refine QA ?_
   refine Zq (ι := Nat) (fun k => ⟨[(1, .ref 1 0 0), (3, .osl 3 (YN w j i (((w[j]'(by omega)).cs[i]'(by omega)).ns.take k) (YG w j (w[j]'(by omega)).cs i (Yr w j))).length), (4, .int .i64 j), (5, .int .i64 i), (6, .ref 6 0 0), (7, .int .i64 k)], [(1, ⟨[[.sl ((w).map YK)]], 1, 26, true⟩), (3, ⟨(YN w j i (((w[j]'(by omega)).cs[i]'(by omega)).ns.take k) (YG w j (w[j]'(by omega)).cs i (Yr w j))).map QlC, 5, 73, true⟩), (6, ⟨[Qo4 ((w[j]'(by omega)).cs[i]'(by omega))], 8, 53, true⟩)]⟩) (fun k => k <= ((w[j]'(by omega)).cs[i]'(by omega)).ns.length) (fun k => ((w[j]'(by omega)).cs[i]'(by omega)).ns.length - k) 0 ?_ ?_ ?_
   ·exact Q7 (l := [1, 3, 4, 5, 6, 7]) (lH := [1, 3, 6]) (kp6 rfl rfl rfl rfl rfl rfl) (Qf rfl (Qf rfl (Qf rfl Qo))) rfl rfl rfl
   ·exact Nat.zero_le _
   intro k hK1
   have hnl := hw.nsLen (u := j) (i := i) (by omega) (by omega)
   try dsimp only
   refine QC ?_ -- 6
   refine Qe fun K hK => Qa rfl (Qh rfl rfl (Qz rfl rfl rfl (QR rfl rfl (Yb rfl rfl ?_))))
   refine hK _ _ (Qb (kp7 rfl rfl rfl rfl rfl rfl rfl) ?_)
   refine Qw rfl (fun h3 => ?_) (fun h3 => ?_)
   ·try rw [h3]
    try simp only [qa, qb, qc, qd, qe, List.length_map] at h3
    refine Qv (Qd (kp6 rfl rfl rfl rfl rfl rfl) ?_)
    refine QC ?_ -- 7
    refine QA (Qe fun K hK => QL (ds0 := [5, 4, 3, 2, 1, 0]) (cs := [_]) rfl rfl rfl rfl rfl rfl (Qa rfl (Qa rfl (Qh rfl rfl (QW (ds0 := [7, 6, 5, 4, 3, 2, 1, 0]) rfl rfl rfl rfl rfl (Qa rfl (QJ rfl rfl rfl (by omega) (QS (by omega)) rfl (QW (ds0 := [5, 4, 3, 2, 1, 0]) rfl rfl rfl rfl rfl (QV (ds0 := [4, 3, 2, 1, 0]) (Xr hw (p := i) (by omega) (Nat.le_trans (hw.nl _ (List.getElem_mem (by omega)) _ (List.getElem_mem (by omega)) _ (List.getElem_mem (by omega))) (by omega)) (hw.nw _ (List.getElem_mem (by omega)) _ (List.getElem_mem (by omega)) _ (List.getElem_mem (by omega)))) rfl rfl (.inl rfl) rfl rfl (Qa rfl ?_))))))))))
    refine QP rfl rfl (QP rfl rfl (Qa rfl (Qa rfl ?_)))
    refine hK _ _ (Qb (kp8 rfl rfl rfl rfl rfl rfl rfl rfl) ?_)
    refine Qe fun K hK => Qa rfl ?_
    refine hK _ _ (Qb (kp8 rfl rfl rfl rfl rfl rfl rfl rfl) ?_)
    refine Qw rfl (fun h4 => ?_) (fun h4 => ?_)
    ·try rw [h4]
     try simp only [qa, qb, qc, qd, qe, List.length_map] at h4
     refine QN fun K hK => QH (cs := [_]) rfl rfl rfl rfl (Qa rfl (Qa rfl (Qa rfl (QT rfl rfl (Qlq (QjW (k := 3) rfl rfl rfl (by decide) rfl (by decide) (by simp [D.ids, D.sid, ZE]) ⟨.osl 3 (YN w j i (((w[j]'(by omega)).cs[i]'(by omega)).ns.take k) (YG w j (w[j]'(by omega)).cs i (Yr w j))).length, by simp, by simp [D.ids, D.sid]⟩ rfl rfl (X7 hw (r := ⟨2, j, 0, 0, (Yg w j i (((w[j]'(by omega)).cs[i]'(by omega)).ns[k]'(by omega)) false).getD []⟩) (Qhn hw (by omega) (by omega) _).1 QlN (Nat.le_trans (Qhn hw (by omega) (by omega) _).2 (by omega)))) (Qa rfl (hK _ ?_)))))))
     refine Qg (Qd (kp6 rfl rfl rfl rfl rfl rfl) (QN fun K hK => Qa rfl (Q3 rfl rfl (by first | exact Qp (by omega) (by omega) | rfl) (Qa rfl (hK _ ?_)))))
     refine Qj (k + 1) ?_ ?_ ?_
     ·exact le_trans (Qhi (l := [1, 4, 5, 6, 7]) (lH := [1, 6]) 69 3 3 (kp5 rfl rfl rfl rfl rfl) (Qf rfl (Qf rfl Qo)) rfl rfl rfl rfl rfl rfl rfl) (Q7 (l := [1, 3, 4, 5, 6, 7]) (lH := [1, 3, 6]) (kp6 rfl rfl rfl rfl rfl rfl) (Qf rfl (Qf rfl (Qf rfl Qo))) (by rw [QiA (by omega) h4] <;> rfl) (by rw [QiA (by omega) h4] <;> rfl) rfl)
     ·omega
     ·first | omega | (simp only; omega) | (dsimp only; omega)
    ·try rw [h4]
     try simp only [qa, qb, qc, qd, qe, List.length_map] at h4
     refine Qv (Qg (Qd (kp6 rfl rfl rfl rfl rfl rfl) (QN fun K hK => Qa rfl (Q3 rfl rfl (by first | exact Qp (by omega) (by omega) | rfl) (Qa rfl (hK _ ?_))))))
     refine Qj (k + 1) ?_ ?_ ?_
     ·exact Q7 (l := [1, 3, 4, 5, 6, 7]) (lH := [1, 3, 6]) (kp6 rfl rfl rfl rfl rfl rfl) (Qf rfl (Qf rfl (Qf rfl Qo))) (by rw [Qko (by omega) h4] <;> rfl) (by rw [Qko (by omega) h4] <;> rfl) rfl
     ·omega
     ·first | omega | (simp only; omega) | (dsimp only; omega)
   ·try rw [h3]
    try simp only [qa, qb, qc, qd, qe, List.length_map] at h3
    refine Zi (QM (Qy (QI (Qd (kp5 rfl rfl rfl rfl rfl) (Qe fun K hK => Qa rfl ?_)))))
    refine hK _ _ (Qb (kp6 rfl rfl rfl rfl rfl rfl) ?_)
    refine QA ?_
    refine Zq (ι := Nat) (fun m => ⟨[(1, .ref 1 0 0), (3, .osl 3 (Qbz w j i (((w[j]'(by omega)).cs[i]'(by omega)).bs.take m) (YN w j i ((w[j]'(by omega)).cs[i]'(by omega)).ns (YG w j (w[j]'(by omega)).cs i (Yr w j)))).length), (4, .int .i64 j), (5, .int .i64 i), (6, .ref 6 0 0), (10, .int .i64 m)], [(1, ⟨[[.sl ((w).map YK)]], 1, 26, true⟩), (3, ⟨(Qbz w j i (((w[j]'(by omega)).cs[i]'(by omega)).bs.take m) (YN w j i ((w[j]'(by omega)).cs[i]'(by omega)).ns (YG w j (w[j]'(by omega)).cs i (Yr w j)))).map QlC, 5, 73, true⟩), (6, ⟨[Qo4 ((w[j]'(by omega)).cs[i]'(by omega))], 8, 53, true⟩)]⟩) (fun m => m <= ((w[j]'(by omega)).cs[i]'(by omega)).bs.length) (fun m => ((w[j]'(by omega)).cs[i]'(by omega)).bs.length - m) 0 ?_ ?_ ?_
    ·exact Q7 (l := [1, 3, 4, 5, 6, 10]) (lH := [1, 3, 6]) (kp6 rfl rfl rfl rfl rfl rfl) (Qf rfl (Qf rfl (Qf rfl Qo))) (by rw [List.take_of_length_le (show ((w[j]'(by omega)).cs[i]'(by omega)).ns.length <= k by omega)] <;> rfl) (by rw [List.take_of_length_le (show ((w[j]'(by omega)).cs[i]'(by omega)).ns.length <= k by omega)] <;> rfl) rfl
    ·exact Nat.zero_le _
    intro m hM
    have hbl := hw.bsLen (u := j) (i := i) (by omega) (by omega)
    try dsimp only
    refine QC ?_ -- 8
    refine Qe fun K hK => Qa rfl (Qh rfl rfl (Qz rfl rfl rfl (QR rfl rfl (Yb rfl rfl ?_))))
    refine hK _ _ (Qb (kp7 rfl rfl rfl rfl rfl rfl rfl) ?_)
    refine Qw rfl (fun h5 => ?_) (fun h5 => ?_)
    ·try rw [h5]
     try simp only [qa, qb, qc, qd, qe, List.length_map] at h5
     refine Qv (Qd (kp6 rfl rfl rfl rfl rfl rfl) ?_)
     refine QC ?_ -- 9
     refine QA (Qe fun K hK => QL (ds0 := [5, 4, 3, 2, 1, 0]) (cs := [_]) rfl rfl rfl rfl rfl rfl (Qa rfl (Qa rfl (Qh rfl rfl (QW (ds0 := [6, 5, 4, 3, 2, 1, 0]) rfl rfl rfl rfl rfl (Qa rfl (Qa rfl (Q3 rfl rfl (by first | exact Qp (by omega) (by omega) | rfl) (QcP rfl rfl rfl rfl (by omega) (by omega) (by simp; omega) QqG (QmO (by omega)) (QV (ds0 := [4, 3, 2, 1, 0]) (Xr hw (p := i) (l := [((w[j]'(by omega)).cs[i]'(by omega)).bs[m]'(by omega)]) (by omega) (by simp) (by intro x hx; simp only [List.mem_singleton] at hx; subst hx; exact hw.bw _ (List.getElem_mem (by omega)) _ (List.getElem_mem (by omega)) _ (List.getElem_mem (by omega)))) rfl rfl (.inl rfl) rfl rfl ?_))))))))))
     refine Qa rfl (QP rfl rfl (QP rfl rfl (Qa rfl (Qa rfl ?_))))
     refine hK _ _ (Qb (kp8 rfl rfl rfl rfl rfl rfl rfl rfl) ?_)
     refine Qe fun K hK => Qa rfl ?_
     refine hK _ _ (Qb (kp8 rfl rfl rfl rfl rfl rfl rfl rfl) ?_)
     refine Qw rfl (fun h6 => ?_) (fun h6 => ?_)
     ·try rw [h6]
      try simp only [qa, qb, qc, qd, qe, List.length_map] at h6
      refine QN fun K hK => QH (cs := [_]) rfl rfl rfl rfl (Qa rfl (Qa rfl (Qa rfl (QT rfl rfl (Qlq (QjW (k := 3) rfl rfl rfl (by decide) rfl (by decide) (by simp [D.ids, D.sid, ZE]) ⟨.osl 3 (Qbz w j i (((w[j]'(by omega)).cs[i]'(by omega)).bs.take m) (YN w j i ((w[j]'(by omega)).cs[i]'(by omega)).ns (YG w j (w[j]'(by omega)).cs i (Yr w j)))).length, by simp, by simp [D.ids, D.sid]⟩ rfl rfl (X7 hw (r := ⟨3, j, 0, 0, (Yg w j i [((w[j]'(by omega)).cs[i]'(by omega)).bs[m]'(by omega)] true).getD []⟩) (Qkf hw (by omega) (by omega) _).1 QlN (Nat.le_trans (Qkf hw (by omega) (by omega) _).2 (by omega)))) (Qa rfl (hK _ ?_)))))))
      refine Qg (Qd (kp6 rfl rfl rfl rfl rfl rfl) (QN fun K hK => Qa rfl (Q3 rfl rfl (by first | exact Qp (by omega) (by omega) | rfl) (Qa rfl (hK _ ?_)))))
      refine Qj (m + 1) ?_ ?_ ?_
      ·exact le_trans (Qhi (l := [1, 4, 5, 6, 10]) (lH := [1, 6]) 96 3 3 (kp5 rfl rfl rfl rfl rfl) (Qf rfl (Qf rfl Qo)) rfl rfl rfl rfl rfl rfl rfl) (Q7 (l := [1, 3, 4, 5, 6, 10]) (lH := [1, 3, 6]) (kp6 rfl rfl rfl rfl rfl rfl) (Qf rfl (Qf rfl (Qf rfl Qo))) (by rw [QjT (by omega) h6] <;> rfl) (by rw [QjT (by omega) h6] <;> rfl) rfl)
      ·omega
      ·first | omega | (simp only; omega) | (dsimp only; omega)
     ·try rw [h6]
      try simp only [qa, qb, qc, qd, qe, List.length_map] at h6
      refine Qv (Qg (Qd (kp6 rfl rfl rfl rfl rfl rfl) (QN fun K hK => Qa rfl (Q3 rfl rfl (by first | exact Qp (by omega) (by omega) | rfl) (Qa rfl (hK _ ?_))))))
      refine Qj (m + 1) ?_ ?_ ?_
      ·exact Q7 (l := [1, 3, 4, 5, 6, 10]) (lH := [1, 3, 6]) (kp6 rfl rfl rfl rfl rfl rfl) (Qf rfl (Qf rfl (Qf rfl Qo))) (by rw [Qlv (by omega) h6] <;> rfl) (by rw [Qlv (by omega) h6] <;> rfl) rfl
      ·omega
      ·first | omega | (simp only; omega) | (dsimp only; omega)
    ·try rw [h5]
     try simp only [qa, qb, qc, qd, qe, List.length_map] at h5
     refine Zi (QM (Qy (QI (Qg (Qd (kp4 rfl rfl rfl rfl) (QN fun K hK => Qa rfl (Q3 rfl rfl (by first | exact Qp (by omega) (by omega) | rfl) (Qa rfl (hK _ ?_)))))))))
     refine Qj (i + 1) ?_ ?_ ?_
     ·exact Q7 (l := [1, 3, 4, 5]) (lH := [1, 3]) (kp4 rfl rfl rfl rfl) (Qf rfl (Qf rfl Qo)) (by rw [Qg0 (by omega), List.take_of_length_le (show ((w[j]'(by omega)).cs[i]'(by omega)).bs.length <= m by omega)] <;> rfl) (by rw [Qg0 (by omega), List.take_of_length_le (show ((w[j]'(by omega)).cs[i]'(by omega)).bs.length <= m by omega)] <;> rfl) rfl
     ·omega
     ·first | omega | (simp only; omega) | (dsimp only; omega)
  ·try rw [h2]
   try simp only [qa, qb, qc, qd, qe, List.length_map] at h2
   refine Zi (QM (Qy (QI (Qg (Qd (kp3 rfl rfl rfl) (QN fun K hK => Qa rfl (Q3 rfl rfl (by first | exact Qp (by omega) (by omega) | rfl) (Qa rfl (hK _ ?_)))))))))
   refine Qj (j + 1) ?_ ?_ ?_
   ·exact Q7 (l := [1, 3, 4]) (lH := [1, 3]) (kp3 rfl rfl rfl) (Qf rfl (Qf rfl Qo)) (by rw [QjD (by omega), show (w[j]'(by omega)).cs.length = i by omega] <;> rfl) (by rw [QjD (by omega), show (w[j]'(by omega)).cs.length = i by omega] <;> rfl) rfl
   ·omega
   ·first | omega | (simp only; omega) | (dsimp only; omega)
 ·try rw [h1]
  try simp only [qa, qb, qc, qd, qe, List.length_map] at h1
  refine Zi (QM (Qy (QI (Qd (kp1 rfl) (Qe fun K hK => Qa rfl (Qa rfl ?_))))))
  refine hK _ _ (Qb (kp1 rfl) ?_)
  refine Qu ?_
  exact Qco rfl rfl rfl (by simp) (by rw [Qdz, show w.length = j by omega] <;> rfl)
end Go.Proofs
namespace M25
open Go Go.Abs M3
/-! ### Bits of numbers -/
theorem QhL (e : Int) : IntKind.i64.wrap e = (BitVec.ofInt 64 e).toInt := by
 have hb : (BitVec.ofInt 64 e).toInt = if e % 18446744073709551616 < 9223372036854775808 then e % 18446744073709551616 else e % 18446744073709551616 - 18446744073709551616 := by
  rw [BitVec.toInt_ofInt]; rfl
 rw [hb]
 unfold IntKind.wrap
 simp only [IntKind.bits, IntKind.signed, Bool.true_and]
 split
 ·rename_i h
  have := of_decide_eq_true h
  split <;> omega
 ·rename_i h
  have : ¬ (e % 2 ^ 64 >= 2 ^ (64 - 1)) := fun hh => h (decide_eq_true hh)
  split <;> omega
theorem QfQ (b : BitVec 64) : BitVec.ofInt 64 (b.toNat : Int) = b := by
 rw [BitVec.ofInt_natCast, BitVec.ofNat_toNat, BitVec.setWidth_eq]
theorem Qok (x y : Int) : BitVec.ofInt 64 (QbE x y) = BitVec.ofInt 64 x &&& BitVec.ofInt 64 y := by
 show BitVec.ofInt 64 (IntKind.i64.wrap ((BitVec.ofInt 64 x &&& BitVec.ofInt 64 y).toNat : Int)) = _
 rw [QhL, BitVec.ofInt_toInt, QfQ]
theorem Qol (x y : Int) : BitVec.ofInt 64 (Qf6 x y) = BitVec.ofInt 64 x &&& ~~~ BitVec.ofInt 64 y := by
 show BitVec.ofInt 64 (IntKind.i64.wrap ((BitVec.ofInt 64 x &&& ~~~ BitVec.ofInt 64 y).toNat : Int)) = _
 rw [QhL, BitVec.ofInt_toInt, QfQ]
theorem Qny {x : Int} (h : I64 x) : IntKind.i64.wrap x = x := Qp h.1 h.2
theorem QjU {x : Int} (h : I64 x) : (BitVec.ofInt 64 x).toInt = x := by rw [<- QhL, Qny h]
theorem Qjl (x y : Int) : I64 (QbE x y) := Qf4 _
theorem Qfv (x y : Int) : I64 (Qf6 x y) := Qf4 _
def tb (x : Int) (i : Nat) : Bool := (BitVec.ofInt 64 x).getLsbD i
theorem QmX (x y : Int) (i : Nat) : tb (QbE x y) i = (tb x i && tb y i) := by rw [tb, Qok, BitVec.getLsbD_and]; rfl
theorem Qf2 (x y : Int) {i : Nat} : tb (Qf6 x y) i = (tb x i && !tb y i) := by
 rw [tb, Qol, BitVec.getLsbD_and, BitVec.getLsbD_not]
 by_cases h : i < 64
 ·simp [h, tb]
 ·simp [tb, BitVec.getLsbD_of_ge _ i (by omega : 64 <= i)]
theorem Qqb (x : Int) {i : Nat} (h : 64 <= i) : tb x i = false := BitVec.getLsbD_of_ge _ i h
theorem QmY {x y : Int} (hx : I64 x) (hy : I64 y) (h : ∀ i, tb x i = tb y i) : x = y := by
 rw [<- QjU hx, <- QjU hy]
 congr 1
 exact BitVec.eq_of_getLsbD_eq fun i _ => h i
theorem QhJ (i : Nat) : tb 0 i = false := by
 show (BitVec.ofInt 64 0).getLsbD i = false
 rw [show BitVec.ofInt 64 0 = 0#64 from rfl, BitVec.getLsbD_zero]
theorem Qfk {x : Int} (hx : I64 x) : x = 0 ↔ ∀ i, tb x i = false := by
 constructor
 ·rintro rfl i; exact QhJ i
 ·intro h; exact QmY hx ⟨by omega, by omega⟩ fun i => by rw [h i, QhJ]
theorem QoF (n : Nat) {i : Nat} (h : i < 64) : tb (n : Int) i = n.testBit i := by
 rw [tb, BitVec.ofInt_natCast, BitVec.getLsbD_ofNat]; simp [h]
theorem QoG {k : Nat} (hk : k < 64) (i : Nat) : tb ((2 : Int) ^ k) i = decide (i = k) := by
 have e : ((2 ^ k : Nat) : Int) = (2 : Int) ^ k := by simp
 by_cases h : i < 64
 ·rw [<- e, QoF _ h, Nat.testBit_two_pow]
  exact decide_eq_decide.2 eq_comm
 ·rw [Qqb _ (by omega)]; exact (decide_eq_false (by omega)).symm
theorem Qc9 (x m : Int) : IntKind.i64.wrap (x - QbE x m) = Qf6 x m := by
 have h : BitVec.ofInt 64 (x - QbE x m) = BitVec.ofInt 64 x &&& ~~~ BitVec.ofInt 64 m := by
  rw [Int.sub_eq_add_neg, BitVec.ofInt_add, BitVec.ofInt_neg, <- BitVec.sub_eq_add_neg, Qok]
  generalize BitVec.ofInt 64 x = a
  generalize BitVec.ofInt 64 m = b
  have h1 : (a &&& ~~~b) + (a &&& b) = a := by
   rw [BitVec.add_eq_or_of_and_eq_zero]
   ·ext i hi; simp; cases a[i] <;> cases b[i] <;> rfl
   ·ext i hi; simp
    cases a[i] <;> cases b[i] <;> simp
  exact (BitVec.sub_eq_iff_eq_add).2 h1.symm
 have e : Qf6 x m = (BitVec.ofInt 64 (Qf6 x m)).toInt := (QjU (Qfv x m)).symm
 rw [e, QhL, h, Qol]
theorem Qcb {x m : Int} : QbE x m = 0 ↔ ∀ i, tb x i = true -> tb m i = false := by
 rw [Qfk (Qjl x m)]
 refine forall_congr' fun i => ?_
 rw [QmX]; cases tb x i <;> cases tb m i <;> simp
theorem Qkq {x m : Int} : Qf6 x m = 0 ↔ ∀ i, tb x i = true -> tb m i = true := by
 rw [Qfk (Qfv x m)]
 refine forall_congr' fun i => ?_
 rw [Qf2]; cases tb x i <;> cases tb m i <;> simp
theorem Qal {x m : Int} (hx : I64 x) : QbE x m = x ↔ ∀ i, tb x i = true -> tb m i = true := by
 constructor
 ·intro h i hi
  have := congrArg (fun z => tb z i) h
  simp only [QmX, hi, Bool.true_and] at this
  exact this
 ·intro h
  refine QmY (Qjl x m) hx fun i => ?_
  rw [QmX]
  cases hx2 : tb x i
  ·rfl
  ·rw [h i hx2]; rfl
theorem QeC {x m : Int} (hx : I64 x) : Qf6 x m = x ↔ ∀ i, tb x i = true -> tb m i = false := by
 constructor
 ·intro h i hi
  have := congrArg (fun z => tb z i) h
  simp only [Qf2, hi, Bool.true_and] at this
  simpa using this
 ·intro h
  refine QmY (Qfv x m) hx fun i => ?_
  rw [Qf2]
  cases hx2 : tb x i
  ·rfl
  ·rw [h i hx2]; rfl
def Lo (x : Int) : Prop := 0 <= x /\ x < 131072
theorem Lo.i64 {x : Int} (h : Lo x) : I64 x := ⟨by have := h.1; omega, by have := h.2; omega⟩
theorem Lo.hi {x : Int} (h : Lo x) {i : Nat} (hi : 17 <= i) : tb x i = false := by
 obtain ⟨n, rfl⟩ := Int.eq_ofNat_of_zero_le h.1
 by_cases h6 : i < 64
 ·rw [QoF _ h6, Nat.testBit_lt_two_pow]
  have h1 : (2 : Nat) ^ 17 <= 2 ^ i := Nat.pow_le_pow_right (by omega) hi
  have h2 : (2 : Nat) ^ 17 = 131072 := by decide
  have := h.2
  omega
 ·exact Qqb _ (by omega)
theorem Lo.of {x : Int} (hx : I64 x) (h : ∀ i, 17 <= i -> tb x i = false) : Lo x := by
 have hb : (BitVec.ofInt 64 x).toNat < 2 ^ 17 := by
  refine Nat.lt_pow_two_of_testBit _ fun i hi => ?_
  exact h i hi
 have h2 : (2 : Nat) ^ 17 = 131072 := by decide
 have e := QjU hx
 rw [BitVec.toInt_eq_toNat_of_lt (by omega)] at e
 exact ⟨by omega, by omega⟩
theorem QpZ {x : Int} (h : Lo x) (m : Int) : Lo (Qf6 x m) := Lo.of (Qfv x m) fun i hi => by rw [Qf2, h.hi hi]; rfl
theorem Qpb (w : Qq) (u : Int) : Lo (YZ w u) := ⟨(Qho w u).1, by have := (Qho w u).2; omega⟩
theorem Qn9 {x : Int} (hx : I64 x) (m : Int) : QaE x m = ZS x m := by
 unfold ZS QaE
 have : (Qai .andNot .i64 x m = 0) ↔ (Qai .and .i64 x m = x) := (Qkq (x := x) (m := m)).trans (Qal hx).symm
 by_cases h : Qai .andNot .i64 x m = 0
 ·rw [if_pos h, if_pos (this.1 h)]
 ·rw [if_neg h, if_neg (fun e => h (this.2 e))]
theorem Qan {x : Int} {k : Nat} (hk : k < 64) : QbE x (2 ^ k) = 0 ↔ tb x k = false := by
 rw [Qcb]
 constructor
 ·intro h
  cases hx : tb x k
  ·rfl
  ·have := h k hx; rw [QoG hk] at this; simp at this
 ·intro h i hi
  rw [QoG hk]
  by_cases e : i = k
  ·subst e; rw [h] at hi; cases hi
  ·exact decide_eq_false e
theorem Qh9 {x y : Int} (h : ∀ i, tb x i = true -> tb y i = true) : ∀ n, n <= 64 -> (Xb x n).length <= (Xb y n).length
 | 0, _ => Nat.le_refl _
 | n + 1, hn => by
  have := Qh9 h n (by omega)
  rw [Xb, Xb, List.length_append, List.length_append]
  by_cases hx : tb x n = true
  ·rw [if_neg (by rw [Qan (by omega), hx]; simp), if_neg (by rw [Qan (by omega), h n hx]; simp)]
   simp only [List.length_singleton]; omega
  ·rw [if_pos (by rw [Qan (by omega)]; simpa using hx)]
   simp only [List.length_nil]; omega
theorem Qia {x y : Int} (h : ∀ i, tb x i = true -> tb y i = true) {k : Nat} (h1 : tb x k = false) (h2 : tb y k = true) : ∀ n, n <= 64 -> k < n -> (Xb x n).length < (Xb y n).length
 | 0, _, hk => by omega
 | n + 1, hn, hk => by
  rw [Xb, Xb, List.length_append, List.length_append]
  by_cases e : k = n
  ·subst e
   have := Qh9 h k (by omega)
   rw [if_pos ((Qan (by omega)).2 h1), if_neg (by rw [Qan (by omega), h2]; simp)]
   simp only [List.length_nil, List.length_singleton]; omega
  ·have := Qia h h1 h2 n (by omega) (by omega)
   by_cases hx : tb x n = true
   ·rw [if_neg (by rw [Qan (by omega), hx]; simp), if_neg (by rw [Qan (by omega), h n hx]; simp)]
    simp only [List.length_singleton]; omega
   ·rw [if_pos (by rw [Qan (by omega)]; simpa using hx)]
    simp only [List.length_nil]; omega
theorem Qo7 {x m : Int} (hx : Lo x) (h : QbE x m ≠ 0) : (Qbi (Qf6 x m)).length < (Qbi x).length := by
 have : ∃ k, tb x k = true /\ tb m k = true := by
  refine Classical.byContradiction fun hn => h (Qcb.2 fun i hi => ?_)
  cases hm : tb m i
  ·rfl
  ·exact absurd ⟨i, hi, hm⟩ hn
 obtain ⟨k, h1, h2⟩ := this
 have hk : k < 17 := Classical.byContradiction fun hk => by rw [hx.hi (by omega)] at h1; cases h1
 exact Qia (fun i hi => by rw [Qf2] at hi; simp at hi; exact hi.1) (k := k) (by rw [Qf2, h1, h2]; rfl) h1 17 (by omega) hk
end M25
namespace M25
open Go Go.Abs M3
/-! ### Trails: the loops' laws -/
theorem QbX (w : Qq) (l : List StepT) (s : StepT) (u : Int) : Zh w (l ++ [s]) u = if s.u = u /\ inW w u = true then s.m else Zh w l u := by
 rw [Zh, List.foldl_append]; rfl
theorem QdW {α : Type} {l : List α} {i k : Nat} (hk : k + 1 = i) (h : k < l.length) : l.take i = l.take k ++ [l[k]] := by
 subst hk; rw [List.take_succ_eq_append_getElem h]
theorem QnF {w : Qq} {l : List StepT} {u : Int} {i k : Nat} (hk : k + 1 = i) (h : k < l.length) (hu : l[k].u = u) (hw : inW w u = true) : Zh w (l.take i) u = l[k].m := by
 rw [QdW hk h, QbX, if_pos ⟨hu, hw⟩]
theorem QfB {w : Qq} {l : List StepT} {u : Int} {i k : Nat} (hk : k + 1 = i) (h : k < l.length) (hu : ¬ l[k].u = u \/ ¬ 0 <= u \/ ¬ u < w.length) : Zh w (l.take i) u = Zh w (l.take (i - 1)) u := by
 rw [QdW hk h, QbX, if_neg, show i - 1 = k by omega]
 rintro ⟨h1, h2⟩
 rw [QbR] at h2
 rcases hu with hu | hu | hu
 ·exact hu h1
 ·exact hu h2.1
 ·exact hu h2.2
theorem Qdy {w : Qq} {l : List StepT} {u : Int} (h : inW w u = false) : Zh w l u = 0 := by
 have hf : YZ w u = 0 := QdC (by
  refine Classical.byContradiction fun hn => ?_
  rw [Qfx (by omega) (by omega)] at h; cases h)
 suffices hs : ∀ a, l.foldl (fun a s => if s.u = u /\ inW w u = true then s.m else a) a = a by rw [Zh, hs, hf]
 induction l with
 | nil => intro a; rfl
 | cons s l ih => intro a; rw [List.foldl_cons, if_neg (by rw [h]; simp), ih]
def Qb3 (w : Qq) (l : List StepT) (u : Int) : Int := l.foldl (fun a s => if s.u = u then s.m else a) (YZ w u)
theorem QnE {w : Qq} {l : List StepT} {u : Int} (h : inW w u = true) : Qb3 w l u = Zh w l u := by
 unfold Qb3 Zh
 simp only [h, and_true]
theorem Qgu (w : Qq) (l : List StepT) (s : StepT) (u : Int) : Qb3 w (l ++ [s]) u = if s.u = u then s.m else Qb3 w l u := by
 rw [Qb3, List.foldl_append]; rfl
theorem Ql4 {w : Qq} {l : List StepT} {u : Int} {i k : Nat} (hk : k + 1 = i) (h : k < l.length) (hu : l[k].u = u) : Qb3 w (l.take i) u = l[k].m := by
 rw [QdW hk h, Qgu, if_pos hu]
theorem Qk4 {w : Qq} {l : List StepT} {u : Int} {i k : Nat} (hk : k + 1 = i) (h : k < l.length) (hu : ¬ l[k].u = u) : Qb3 w (l.take i) u = Qb3 w (l.take (i - 1)) u := by
 rw [QdW hk h, Qgu, if_neg hu, show i - 1 = k by omega]
theorem Qfo {w : Qq} {u : Int} : YZ w u = 0 ↔ inW w u = false := by
 constructor
 ·intro h
  cases hw : inW w u
  ·rfl
  ·rw [QbR] at hw
   rw [Qhp hw.1 hw.2] at h
   have h2 : 2 <= (2 : Int) ^ (min (w[u.toNat]'(by omega)).cs.length 16 + 1) := by
    rw [Int.pow_succ]
    have := Qpj (n := min (w[u.toNat]'(by omega)).cs.length 16) (by omega)
    omega
   omega
 ·intro h
  refine QdC (Classical.byContradiction fun hn => ?_)
  rw [Qfx (by omega) (by omega)] at h; cases h
theorem Qip {l : List StepT} (h : (l.length : Int) = 0) : Xu l = 0 := by
 have e : l = [] := List.eq_nil_of_length_eq_zero (by omega)
 subst e; rfl
theorem Qkc {l : List StepT} {k : Nat} (hk : k + 1 = l.length) : Xu l = (l[k]'(by omega)).l := by
 rw [Xu, List.getLast?_eq_getElem?, show l.length - 1 = k by omega, List.getElem?_eq_getElem (by omega)]
theorem QnN : ∀ {l : List Int}, ¬ (l.length : Int) = 1 -> Qpg l = -1
 | [], _ => rfl
 | [x], h => by simp at h
 | x :: y :: l, _ => rfl
theorem Qmm : ∀ {l : List Int} (h : (l.length : Int) = 1), Qpg l = l[(0 : Int).toNat]'(by simp; omega)
 | [], h => by simp at h
 | [x], _ => rfl
 | x :: y :: l, h => by simp at h; omega
theorem QnS {m : Int} (h : ¬ ((Qbi m).length : Int) = 1) : QfL m = -1 := QnN h
theorem Qmr {m : Int} (h : ((Qbi m).length : Int) = 1) : QfL m = (Qbi m)[(0 : Int).toNat]'(by simp; omega) := Qmm h
def Qpf (w : Qq) (l : List StepT) (i : Nat) : Bool := match l[i]? with
 | some s => QdF w (l.take i) s
 | none => true
theorem QdI {w : Qq} {l : List StepT} {i : Nat} (h : i < l.length) : Qpf w l i = QdF w (l.take i) l[i] := by
 rw [Qpf, List.getElem?_eq_getElem h]
theorem Qki (w : Qq) (l : List StepT) : Qef w l = (List.range l.length).all (Qpf w l) := rfl
theorem Xp {w : Qq} {l : List StepT} {s : StepT} (h : s.u < 0 \/ (w.length : Int) <= s.u \/ s.c < -1) : QdF w l s = false := by
 unfold QdF
 rcases h with h | h | h
 ·rw [Qbc (.inl h)]; rfl
 ·rw [Qbc (.inr h)]; rfl
 ·rw [decide_eq_false (show ¬ -1 <= s.c by omega)]; simp
theorem Z6 {w : Qq} {l : List StepT} {s : StepT} (h0 : 0 <= s.u) (h1 : s.u < w.length) (h2 : -1 <= s.c) : QdF w l s = (decide (QbE s.m (Zh w l s.u) = s.m) &&
  if s.c = -1 then decide (0 <= QfL s.m) && !QdB l s.u && decide (s.l = IntKind.i64.wrap (Xu l + 1))
  else !decide (s.m = 0) && !decide (s.m = Zh w l s.u) && decide (s.l = Xu l)) := by
 rw [QdF, Qfx h0 h1, decide_eq_true h2]; rfl
theorem Qce {w : Qq} {l : List StepT} {t : TermT} {c : Int} (h : c < 0 \/ t.u < 0 \/ (w.length : Int) <= t.u) : Yh w l t c = none := by
 rw [Yh, if_pos]
 rcases h with h | h
 ·exact .inl h
 ·exact .inr (Qbc h)
theorem Qa6 {w : Qq} {l : List StepT} {t : TermT} {c : Int} (h : IntKind.i64.wrap (Zh w l t.u - QbE (Zh w l t.u) t.m) = 0 \/ IntKind.i64.wrap (Zh w l t.u - QbE (Zh w l t.u) t.m) = Zh w l t.u) : Yh w l t c = none := by
 rw [Yh]
 split
 ·rfl
 ·first | rfl | rw [if_pos h]
theorem Qgl {w : Qq} {l : List StepT} {t : TermT} {c : Int} (h0 : ¬ c < 0) (h1 : inW w t.u = true) (h2 : ¬ IntKind.i64.wrap (Zh w l t.u - QbE (Zh w l t.u) t.m) = 0) (h3 : ¬ IntKind.i64.wrap (Zh w l t.u - QbE (Zh w l t.u) t.m) = Zh w l t.u) :
  Yh w l t c = some (l ++ [⟨t.u, IntKind.i64.wrap (Zh w l t.u - QbE (Zh w l t.u) t.m), Xu l, c⟩]) := by
 rw [Yh, if_neg (by rw [h1]; simp [h0]), if_neg (by simp [h2, h3])]
theorem Qgk (w : Qq) (l : List StepT) (t : TermT) (c : Int) : ((Yh w l t c).getD []).length <= l.length + 1 := by
 unfold Yh
 split
 ·simp
 ·split <;> simp
def Xf (w : Qq) (l : List StepT) : Prop := ∀ s ∈ l, Lo s.m
theorem QbW {w : Qq} {l : List StepT} (h : Xf w l) (u : Int) : Lo (Zh w l u) := by
 suffices hs : ∀ (l : List StepT) a, (∀ s ∈ l, Lo s.m) -> Lo a -> Lo (l.foldl (fun a s => if s.u = u /\ inW w u = true then s.m else a) a) from hs l _ h (Qpb w u)
 intro l
 induction l with
 | nil => intro a _ h; exact h
 | cons s l ih =>
  intro a hl ha
  rw [List.foldl_cons]
  refine ih _ (fun t ht => hl t (by simp [ht])) ?_
  split
  ·exact hl s (by simp)
  ·exact ha
theorem QlE {w : Qq} {l : List StepT} {t : TermT} {c : Int} (hl : Xf w l) (h : QbE (Zh w l t.u) t.m = 0) : Yh w l t c = none :=
 Qa6 (.inr (by rw [Qc9, QeC (QbW hl _).i64, <- Qcb]; exact h))
theorem QlF {w : Qq} {l : List StepT} {t : TermT} {c : Int} (h : Qf6 (Zh w l t.u) t.m = 0) : Yh w l t c = none :=
 Qa6 (.inl (by rw [Qc9]; exact h))
theorem Qh8 {w : Qq} {l : List StepT} {t : TermT} {c : Int} (hl : Xf w l) (h0 : ¬ c < 0) (h1 : ¬ QbE (Zh w l t.u) t.m = 0) (h2 : ¬ Qf6 (Zh w l t.u) t.m = 0) : Yh w l t c = some (l ++ [⟨t.u, Qf6 (Zh w l t.u) t.m, Xu l, c⟩]) := by
 have hin : inW w t.u = true := by
  cases hw : inW w t.u
  ·rw [Qdy hw] at h1
   exact absurd (Qcb.2 fun i hi => by rw [QhJ] at hi; cases hi) h1
  ·rfl
 rw [Qgl h0 hin (by rw [Qc9]; exact h2) (by rw [Qc9, QeC (QbW hl _).i64, <- Qcb]; exact h1), Qc9]
theorem Qd7 {w : Qq} {l : List StepT} {u p : Int} (h : (u < 0 \/ (w.length : Int) <= u) \/ p < 0) : Xk w l u p = none := by
 unfold Xk
 split
 ·rfl
 ·rename_i x hx
  rcases h with h | h
  ·rw [QjJ h] at hx; cases hx
  ·rw [if_pos (.inl h)]
theorem QkQ {w : Qq} {l : List StepT} {u p : Int} (h0 : 0 <= u) (h1 : u < w.length) (h : ((w[u.toNat]'(by omega)).cs.length : Int) <= p) : Xk w l u p = none := by
 rw [Xk, QkF h0 h1]
 simp only []
 rw [if_pos (.inr h)]
def Qo6 (l : List StepT) (u p : Int) : StepT := ⟨u, IntKind.i64.wrap (2 * 2 ^ min p.toNat 64), IntKind.i64.wrap (Xu l + 1), -1⟩
theorem QlD {w : Qq} {l : List StepT} {u p : Int} (h : QdF w l (Qo6 l u p) = false) : Xk w l u p = none := by
 unfold Xk
 split
 ·rfl
 ·split
  ·rfl
  ·simp only [Qo6] at h
   rw [if_neg (by rw [h]; simp)]
theorem QkT {w : Qq} {l : List StepT} {u p : Int} (h0 : 0 <= u) (h1 : u < w.length) (h2 : ¬ p < 0) (h3 : ¬ ((w[u.toNat]'(by omega)).cs.length : Int) <= p) (h : QdF w l (Qo6 l u p) = true) : Xk w l u p = some (l ++ [Qo6 l u p]) := by
 rw [Xk, QkF h0 h1]
 simp only []
 rw [if_neg (by omega)]
 simp only [Qo6] at h ⊢
 rw [if_pos h]
theorem Qbk {h : Int -> Int} {inc : List TermT} {a : Int} {i : Nat} (hi : i < inc.length) : ZN h (inc.drop i) a = if ZS (h inc[i].u) inc[i].m = 0 then -1 else if ZS (h inc[i].u) inc[i].m = 1 then (if 0 <= a then -1 else ZN h (inc.drop (i + 1)) inc[i].u) else ZN h (inc.drop (i + 1)) a := by
 rw [List.drop_eq_getElem_cons hi, ZN]
theorem QiB {h : Int -> Int} {inc : List TermT} {a : Int} {i : Nat} (hi : inc.length <= i) : ZN h (inc.drop i) a = a := by
 rw [List.drop_eq_nil_of_le hi, ZN]
theorem QjE {w : Qq} {l : List StepT} {db : List (List TermT)} {i : Nat} (hi : i < db.length) : ZW w l i (db.drop i) = if Qc4 w l db[i] = true then ((i : Int), -1) else if 0 <= Qc3 w l db[i] then ((i : Int), Qc3 w l db[i]) else ZW w l (i + 1) (db.drop (i + 1)) := by
 rw [List.drop_eq_getElem_cons hi, ZW]
theorem Qn0 {w : Qq} {l : List StepT} {db : List (List TermT)} {i : Nat} (hi : db.length <= i) : ZW w l i (db.drop i) = (-1, -1) := by
 rw [List.drop_eq_nil_of_le hi, ZW]
theorem QhE (w : Qq) (l : List StepT) : ∀ (db : List (List TermT)) (i : Nat), (ZW w l i db = (-1, -1)) \/ ∃ k, i <= k /\ ∃ hk : k - i < db.length, (ZW w l i db = ((k : Int), -1) /\ Qc4 w l db[k - i] = true) \/ (Qc4 w l db[k - i] = false /\ 0 <= Qc3 w l db[k - i] /\ ZW w l i db = ((k : Int), Qc3 w l db[k - i]))
 | [], i => .inl rfl
 | x :: db, i => by
  rw [ZW]
  by_cases h1 : Qc4 w l x = true
  ·rw [if_pos h1]; exact .inr ⟨i, Nat.le_refl _, by simp, .inl ⟨rfl, by simpa using h1⟩⟩
  ·rw [if_neg h1]
   by_cases h2 : 0 <= Qc3 w l x
   ·rw [if_pos h2]; exact .inr ⟨i, Nat.le_refl _, by simp, .inr ⟨by simpa using h1, by simpa using h2, by simp⟩⟩
   ·rw [if_neg h2]
    rcases QhE w l db (i + 1) with h | ⟨k, hk, hlt, h⟩
    ·exact .inl h
    ·refine .inr ⟨k, by omega, by simp only [List.length_cons]; omega, ?_⟩
     have e : (x :: db)[k - i]'(by simp only [List.length_cons]; omega) = db[k - (i + 1)] := by
      obtain ⟨j, hj⟩ : ∃ j, k - i = j + 1 := ⟨k - i - 1, by omega⟩
      simp only [hj, List.getElem_cons_succ]
      congr 1; omega
     rw [e]; exact h
theorem QiL {w : Qq} {l : List StepT} {db : List (List TermT)} (h : ¬ (Zx w db l).2 < 0) : 0 <= (Zx w db l).1 /\ (Zx w db l).1 < db.length := by
 unfold Zx at h ⊢
 rcases QhE w l db 0 with e | ⟨k, _, hk, ⟨e, _⟩ | ⟨_, _, e⟩⟩
 ·rw [e] at h; simp at h
 ·rw [e] at h; simp at h
 ·rw [e]; simp only; omega
theorem QaY {w : Qq} {db : List (List TermT)} {n : Nat} {out : List StepT} (h : (Zx w db out).2 < 0) (hn : 0 < n) : Qbm w db n out = (out, (Zx w db out).1) := by
 obtain ⟨m, rfl⟩ : ∃ m, n = m + 1 := ⟨n - 1, by omega⟩
 rw [Qbm, if_pos h]
theorem Qky {w : Qq} {db : List (List TermT)} {n : Nat} {out : List StepT} (h : ¬ (Zx w db out).2 < 0) (hn : 0 < n) (hd : (Zx w db out).1.toNat < db.length) : Qbm w db n out = Qbm w db (n - 1) ((Yh w out ⟨(Zx w db out).2, Qc2 w db[(Zx w db out).1.toNat] (Zx w db out).2⟩ (Zx w db out).1).getD []) := by
 obtain ⟨m, rfl⟩ : ∃ m, n = m + 1 := ⟨n - 1, by omega⟩
 rw [Qbm, if_neg h, List.getD_eq_getElem?_getD, List.getElem?_eq_getElem hd]; rfl
end M25
namespace Go.Proofs
open Go Go.Abs M3 M25
set_option linter.unusedVariables false
set_option linter.unusedSimpArgs false
theorem ZZ {w : Qq} (hw : WSm w) {l : List StepT} (hl : l.length <= 10000000) {u : Int} : Ok Try.prog 21 [Z9 w, Zw l, .int .i64 u] (.int .i64 (Zh w l u)) := by
 refine Ok.ofT Z2 Try.func21 Qq8 (Nat.le_of_ble_eq_true rfl) ?_
 show TW _ _ tf21.body _ _
 refine Qe fun K hK => Zy rfl rfl rfl (Qa rfl ?_)
 refine hK _ _ (Qb (kp3 rfl rfl rfl) ?_)
 refine QC ?_ -- 0
 refine Qe fun K hK => Qa rfl ?_
 first | refine QR rfl Q0 ?_ | refine QR rfl rfl ?_
 refine QaA rfl rfl (by first | exact Qp (by omega) (by omega) | rfl) (Qa rfl ?_)
 refine hK _ _ (Qb (kp4 rfl rfl rfl rfl) ?_)
 refine QA ?_
 refine Zq (ι := Nat) (fun i => ⟨[(1, Zw l), (2, .int .i64 u), (3, .ref 3 0 0), (7, .int .i64 ((i : Int) - 1))], [(3, ⟨[[.sl ((w).map YK)]], 1, 26, true⟩)]⟩) (fun i => i <= l.length /\ Zh w l u = Zh w (l.take i) u) (fun i => i) l.length ?_ ?_ ?_
 ·exact Q7 (l := [1, 2, 3, 7]) (lH := [3]) (kp4 rfl rfl rfl rfl) (Qf rfl Qo) rfl rfl rfl
 ·exact ⟨Nat.le_refl _, by rw [List.take_length]⟩
 intro i hI
 try dsimp only
 refine QC ?_ -- 1
 refine Qe fun K hK => Qa rfl (Qew rfl rfl ?_)
 refine hK _ _ (Qb (kp5 rfl rfl rfl rfl rfl) ?_)
 refine Qw rfl (fun h1 => ?_) (fun h1 => ?_)
 ·try rw [h1]
  try simp only [qa, qb, qc, qd, qe, List.length_map] at h1
  refine Qv (Qd (kp4 rfl rfl rfl rfl) ?_)
  refine QC ?_ -- 2
  refine QA (Qe fun K hK => Qa rfl (Qa rfl (QJ rfl rfl rfl (by omega) (ZF (by omega) (by omega)) rfl (Q9 rfl rfl (Qz rfl rfl rfl (Qa rfl (ZH rfl rfl (Qa rfl ?_))))))))
  refine QF (g := 22) rfl (fun h2 => ?_) (fun h2 => ?_)
  ·try rw [h2]
   try simp only [qa, qb, qc, qd, qe, List.length_map] at h2
   refine Qk rfl (Qa rfl (Qk rfl (Qew rfl rfl (Qn rfl rfl (Qa rfl ?_)))))
   refine QF (g := 26) rfl (fun h3 => ?_) (fun h3 => ?_)
   ·try rw [h3]
    try simp only [qa, qb, qc, qd, qe, List.length_map] at h3
    refine Qk rfl (Qa rfl (Qk rfl (Qh rfl rfl (Qk rfl (Qz rfl rfl rfl (Qk rfl ?_))))))
    first | refine QR rfl Q0 ?_ | refine QR rfl rfl ?_
    refine Qk rfl (Yb rfl rfl (Qn rfl rfl ?_))
    refine hK _ _ (Qb (kp5 rfl rfl rfl rfl rfl) ?_)
    refine Qw rfl (fun h4 => ?_) (fun h4 => ?_)
    ·try rw [h4]
     try simp only [qa, qb, qc, qd, qe, List.length_map] at h4
     refine Qe fun K hK => Qa rfl (Qa rfl (QJ rfl rfl rfl (by omega) (ZF (by omega) (by omega)) rfl (Q9 rfl rfl (Qz rfl rfl rfl (Qa rfl ?_)))))
     refine hK _ _ (Qb (kp1 rfl) ?_)
     refine Qu (Qr (Qi (QZ (Qr (Qi (QE rfl ?_))))))
     rw [hI.2, QnF (k := ((i : Int) - 1).toNat) (by omega) (by omega) h2 (Qfx (by omega) (by omega))]
    ·try rw [h4]
     try simp only [qa, qb, qc, qd, qe, List.length_map] at h4
     refine Qv (Qg (Qd (kp4 rfl rfl rfl rfl) (QN fun K hK => Qa rfl (QaA rfl rfl (by first | exact Qp (by omega) (by omega) | rfl) (Qa rfl (hK _ ?_))))))
     refine Qj (i - 1) ?_ ?_ ?_
     ·exact Q7 (l := [1, 2, 3, 7]) (lH := [3]) (kp4 rfl rfl rfl rfl) (Qf rfl Qo) (by simp only [List.cons.injEq, Prod.mk.injEq, D.int.injEq, and_true, true_and]; omega) rfl rfl
     ·exact ⟨by omega, by rw [hI.2, QfB (k := ((i : Int) - 1).toNat) (by omega) (by omega) (by first | exact .inl h2 | exact .inr (.inl h3) | exact .inr (.inr h4))]⟩
     ·first | omega | (simp only; omega) | (dsimp only; omega)
   ·try rw [h3]
    try simp only [qa, qb, qc, qd, qe, List.length_map] at h3
    refine Qt rfl (Qt rfl (Qt rfl (Qt rfl (Qt rfl (Qn rfl rfl ?_)))))
    refine hK _ _ (Qb (kp5 rfl rfl rfl rfl rfl) ?_)
    refine ZP rfl (Qv (Qg (Qd (kp4 rfl rfl rfl rfl) (QN fun K hK => Qa rfl (QaA rfl rfl (by first | exact Qp (by omega) (by omega) | rfl) (Qa rfl (hK _ ?_)))))))
    refine Qj (i - 1) ?_ ?_ ?_
    ·exact Q7 (l := [1, 2, 3, 7]) (lH := [3]) (kp4 rfl rfl rfl rfl) (Qf rfl Qo) (by simp only [List.cons.injEq, Prod.mk.injEq, D.int.injEq, and_true, true_and]; omega) rfl rfl
    ·exact ⟨by omega, by rw [hI.2, QfB (k := ((i : Int) - 1).toNat) (by omega) (by omega) (by first | exact .inl h2 | exact .inr (.inl h3) | exact .inr (.inr h4))]⟩
    ·first | omega | (simp only; omega) | (dsimp only; omega)
  ·try rw [h2]
   try simp only [qa, qb, qc, qd, qe, List.length_map] at h2
   refine Qt rfl (Qt rfl (Qn rfl rfl (Qa rfl (Qt rfl (Qt rfl (Qt rfl (Qt rfl (Qt rfl (Qn rfl rfl ?_)))))))))
   refine hK _ _ (Qb (kp5 rfl rfl rfl rfl rfl) ?_)
   refine ZP rfl (Qv (Qg (Qd (kp4 rfl rfl rfl rfl) (QN fun K hK => Qa rfl (QaA rfl rfl (by first | exact Qp (by omega) (by omega) | rfl) (Qa rfl (hK _ ?_)))))))
   refine Qj (i - 1) ?_ ?_ ?_
   ·exact Q7 (l := [1, 2, 3, 7]) (lH := [3]) (kp4 rfl rfl rfl rfl) (Qf rfl Qo) (by simp only [List.cons.injEq, Prod.mk.injEq, D.int.injEq, and_true, true_and]; omega) rfl rfl
   ·exact ⟨by omega, by rw [hI.2, QfB (k := ((i : Int) - 1).toNat) (by omega) (by omega) (by first | exact .inl h2 | exact .inr (.inl h3) | exact .inr (.inr h4))]⟩
   ·first | omega | (simp only; omega) | (dsimp only; omega)
 ·try rw [h1]
  try simp only [qa, qb, qc, qd, qe, List.length_map] at h1
  refine Zi (QM (Qy (QI (Qd (kp2 rfl rfl) (Qe fun K hK => QH (cs := [_]) rfl rfl rfl rfl (Qa rfl (QG (ZJ hw) rfl rfl (.inr rfl) (Qa rfl ?_))))))))
  refine hK _ _ (Qb (kp1 rfl) ?_)
  refine Qu (QE rfl ?_)
  rw [hI.2, show i = 0 by omega]; rfl
theorem Yd {l : List StepT} (hl : l.length <= 10000000) : Ok Try.prog 44 [Zw l] (.int .i64 (Xu l)) := by
 refine Ok.ofT Z2 Try.func44 Qrv (Nat.le_of_ble_eq_true rfl) ?_
 show TW _ _ tf44.body _ _
 refine Qe fun K hK => Qa rfl ?_
 refine hK _ _ (Qb (kp1 rfl) ?_)
 refine QC ?_ -- 0
 refine Qe fun K hK => Qa rfl ?_
 first | refine QR rfl Q0 ?_ | refine QR rfl rfl ?_
 refine ZH rfl rfl ?_
 refine hK _ _ (Qb (kp2 rfl rfl) ?_)
 refine Qw rfl (fun h1 => ?_) (fun h1 => ?_)
 ·try rw [h1]
  try simp only [qa, qb, qc, qd, qe, List.length_map] at h1
  refine Qe fun K hK => Qa rfl ?_
  refine hK _ _ (Qb (kp1 rfl) ?_)
  refine Qu (Qi (QE rfl ?_))
  rw [Qip h1]
 ·try rw [h1]
  try simp only [qa, qb, qc, qd, qe, List.length_map] at h1
  refine Qv (Qd (kp1 rfl) (Qe fun K hK => Qa rfl (Qa rfl ?_)))
  first | refine QR rfl Q0 ?_ | refine QR rfl rfl ?_
  refine QaA rfl rfl (by first | exact Qp (by omega) (by omega) | rfl) (QJ rfl rfl rfl (by omega) (ZF (by omega) (by omega)) rfl (Q9 rfl rfl (Qz rfl rfl rfl (Qa rfl ?_))))
  refine hK _ _ (Qb (kp1 rfl) ?_)
  refine Qu (QE rfl ?_)
  rw [Qkc (k := ((l.length : Int) - 1).toNat) (by omega)]
theorem Qa2 {l : List StepT} (hl : l.length <= 10000000) {u : Int} : Ok Try.prog 67 [Zw l, .int .i64 u] (.bool (QdB l u)) := by
 refine Ok.ofT Z2 Try.func67 QrS (Nat.le_of_ble_eq_true rfl) ?_
 show TW _ _ tf67.body _ _
 refine Qe fun K hK => Qa rfl ?_
 refine hK _ _ (Qb (kp2 rfl rfl) ?_)
 refine QC ?_ -- 0
 refine Qe fun K hK => Qa rfl ?_
 refine hK _ _ (Qb (kp3 rfl rfl rfl) ?_)
 refine QA ?_
 refine Zq (ι := Nat) (fun i => ⟨[(0, Zw l), (1, .int .i64 u), (5, .int .i64 i)], []⟩) (fun i => i <= l.length /\ (l.take i).any (fun s => decide (s.u = u) && decide (s.c = -1)) = false) (fun i => l.length - i) 0 ?_ ?_ ?_
 ·exact Zc (kp3 rfl rfl rfl)
 ·exact ⟨Nat.zero_le _, by simp⟩
 intro i hI
 try dsimp only
 refine QC ?_ -- 1
 refine Qe fun K hK => Qa rfl (Qa rfl ?_)
 first | refine QR rfl Q0 ?_ | refine QR rfl rfl ?_
 refine Yb rfl rfl ?_
 refine hK _ _ (Qb (kp4 rfl rfl rfl rfl) ?_)
 refine Qw rfl (fun h1 => ?_) (fun h1 => ?_)
 ·try rw [h1]
  try simp only [qa, qb, qc, qd, qe, List.length_map] at h1
  refine Qv (Qd (kp3 rfl rfl rfl) ?_)
  refine QC ?_ -- 2
  refine QA (Qe fun K hK => Qa rfl (Qa rfl (QJ rfl rfl rfl (by omega) (QS (by omega)) rfl (Q9 rfl rfl (Qz rfl rfl rfl (Qa rfl (ZH rfl rfl (Qa rfl ?_))))))))
  refine QF (g := 19) rfl (fun h2 => ?_) (fun h2 => ?_)
  ·try rw [h2]
   try simp only [qa, qb, qc, qd, qe, List.length_map] at h2
   refine Qk rfl (Qa rfl (Qk rfl (Qa rfl (Qk rfl (QJ rfl rfl rfl (by omega) (QS (by omega)) rfl (Qk rfl (Q9 rfl rfl (Qk rfl (Qz rfl rfl rfl (Qk rfl (ZH rfl rfl ?_)))))))))))
   refine Qn rfl rfl ?_
   refine hK _ _ (Qb (kp4 rfl rfl rfl rfl) ?_)
   refine Qw rfl (fun h3 => ?_) (fun h3 => ?_)
   ·try rw [h3]
    try simp only [qa, qb, qc, qd, qe, List.length_map] at h3
    refine Qe fun K hK => Qa rfl ?_
    refine hK _ _ (Qb (kp1 rfl) ?_)
    refine Qu (Qr (Qi (QZ (Qr (Qi (Qs rfl ?_))))))
    rw [QdB, Qi7 (i := i) (by omega) (by simp [h2, h3])]
   ·try rw [h3]
    try simp only [qa, qb, qc, qd, qe, List.length_map] at h3
    refine Qv (Qg (Qd (kp3 rfl rfl rfl) (QN fun K hK => Qa rfl (Q3 rfl rfl (by first | exact Qp (by omega) (by omega) | rfl) (Qa rfl (hK _ ?_))))))
    refine Qj (i + 1) ?_ ?_ ?_
    ·exact Zc (kp3 rfl rfl rfl)
    ·exact ⟨by omega, QhV (by omega) hI.2 (by first | (simp [h2, h3]; done) | (simp [h2]; done))⟩
    ·first | omega | (simp only; omega) | (dsimp only; omega)
  ·try rw [h2]
   try simp only [qa, qb, qc, qd, qe, List.length_map] at h2
   refine Qt rfl (Qt rfl (Qt rfl (Qt rfl (Qt rfl (Qt rfl (Qn rfl rfl ?_))))))
   refine hK _ _ (Qb (kp4 rfl rfl rfl rfl) ?_)
   refine ZP rfl (Qv (Qg (Qd (kp3 rfl rfl rfl) (QN fun K hK => Qa rfl (Q3 rfl rfl (by first | exact Qp (by omega) (by omega) | rfl) (Qa rfl (hK _ ?_)))))))
   refine Qj (i + 1) ?_ ?_ ?_
   ·exact Zc (kp3 rfl rfl rfl)
   ·exact ⟨by omega, QhV (by omega) hI.2 (by first | (simp [h2, h3]; done) | (simp [h2]; done))⟩
   ·first | omega | (simp only; omega) | (dsimp only; omega)
 ·try rw [h1]
  try simp only [qa, qb, qc, qd, qe, List.length_map] at h1
  refine Zi (QM (Qy (QI (Qd (Q4) (Qe fun K hK => Qa rfl ?_)))))
  refine hK _ _ (Qb (kp1 rfl) ?_)
  refine Qu (Qs rfl ?_)
  rw [QdB, Qlu (i := i) (by omega) hI.2]
theorem QbL {m : Int} : Ok Try.prog 66 [.int .i64 m] (.int .i64 (QfL m)) := by
 refine Ok.ofT Z2 Try.func66 QrR (Nat.le_of_ble_eq_true rfl) ?_
 show TW _ _ tf66.body _ _
 refine Qe fun K hK => Qa rfl ?_
 refine hK _ _ (Qb (kp1 rfl) ?_)
 refine Qe fun K hK => Qa rfl (QG (XO) rfl rfl (.inl rfl) (Qa rfl ?_))
 refine hK _ _ (Qb (kp1 rfl) ?_)
 refine QC ?_ -- 0
 refine Qe fun K hK => Qa rfl ?_
 first | refine QR rfl Q0 ?_ | refine QR rfl rfl ?_
 refine X6 rfl rfl ?_
 refine hK _ _ (Qb (kp2 rfl rfl) ?_)
 refine Qw rfl (fun h1 => ?_) (fun h1 => ?_)
 ·try rw [h1]
  try simp only [qa, qb, qc, qd, qe, List.length_map] at h1
  refine Qe fun K hK => Qa rfl ?_
  refine hK _ _ (Qb (kp1 rfl) ?_)
  refine Qu (Qi (QE rfl ?_))
  rw [QnS h1]
 ·try rw [h1]
  try simp only [qa, qb, qc, qd, qe, List.length_map] at h1
  refine Qv (Qd (kp1 rfl) (Qe fun K hK => Qa rfl (QJ rfl rfl rfl (by omega) (ZF (by omega) (by omega)) rfl (Qz rfl rfl rfl (Qa rfl ?_)))))
  refine hK _ _ (Qb (kp1 rfl) ?_)
  refine Qu (QE rfl ?_)
  rw [Qmr h1]
theorem QcF {w : Qq} (hw : WSm w) {l : List StepT} (hl : l.length <= 10000000) {s : StepT} : Ok Try.prog 45 [Z9 w, Zw l, .agg (Qfi s)] (.bool (QdF w l s)) := by
 refine Ok.ofT Z2 Try.func45 Qrw (Nat.le_of_ble_eq_true rfl) ?_
 show TW _ _ tf45.body _ _
 refine Qe fun K hK => Zy rfl rfl rfl (Zy rfl rfl rfl (Qa rfl ?_))
 refine hK _ _ (Qb (kp3 rfl rfl rfl) ?_)
 refine QC ?_ -- 0
 refine Qe fun K hK => Qh rfl rfl (Qz rfl rfl rfl (Yb rfl rfl (Qa rfl ?_)))
 refine QF (g := 11) rfl (fun h1 => ?_) (fun h1 => ?_)
 ·try rw [h1]
  try simp only [qa, qb, qc, qd, qe, List.length_map] at h1
  refine Qt rfl (Qt rfl (Qt rfl (Qt rfl (Qt rfl (Qt rfl (Qn rfl rfl (Qa rfl (Qt rfl (Qt rfl (Qt rfl (Qn rfl rfl ?_)))))))))))
  refine hK _ _ (Qb (kp4 rfl rfl rfl rfl) ?_)
  refine Zv rfl (Qe fun K hK => Qa rfl ?_)
  refine hK _ _ (Qb (kp1 rfl) ?_)
  refine Qu (Qi (Qs rfl ?_))
  first | (rw [Xp (by omega)]; done) | (rw [Z6 (by omega) (by omega) (by omega)]; simp_all; done) | (rw [Z6 (by omega) (by omega) (by omega)]; simp_all; omega)
 ·try rw [h1]
  try simp only [qa, qb, qc, qd, qe, List.length_map] at h1
  refine Qk rfl (Qh rfl rfl (Qk rfl (Qz rfl rfl rfl (Qk rfl (Qh rfl rfl (Qk rfl (Qz rfl rfl rfl (Qk rfl ?_))))))))
  first | refine QR rfl Q0 ?_ | refine QR rfl rfl ?_
  refine Qk rfl (Qew rfl rfl (Qn rfl rfl (Qa rfl ?_)))
  refine QF (g := 19) rfl (fun h2 => ?_) (fun h2 => ?_)
  ·try rw [h2]
   try simp only [qa, qb, qc, qd, qe, List.length_map] at h2
   refine Qt rfl (Qt rfl (Qt rfl (Qn rfl rfl ?_)))
   refine hK _ _ (Qb (kp4 rfl rfl rfl rfl) ?_)
   refine Zv rfl (Qe fun K hK => Qa rfl ?_)
   refine hK _ _ (Qb (kp1 rfl) ?_)
   refine Qu (Qi (Qs rfl ?_))
   first | (rw [Xp (by omega)]; done) | (rw [Z6 (by omega) (by omega) (by omega)]; simp_all; done) | (rw [Z6 (by omega) (by omega) (by omega)]; simp_all; omega)
  ·try rw [h2]
   try simp only [qa, qb, qc, qd, qe, List.length_map] at h2
   refine Qk rfl (Qh rfl rfl (Qk rfl (Qz rfl rfl rfl (Qk rfl (Yb rfl rfl (Qn rfl rfl ?_))))))
   refine hK _ _ (Qb (kp4 rfl rfl rfl rfl) ?_)
   refine Qw rfl (fun h3 => ?_) (fun h3 => ?_)
   ·try rw [h3]
    try simp only [qa, qb, qc, qd, qe, List.length_map] at h3
    refine Qe fun K hK => Qa rfl ?_
    refine hK _ _ (Qb (kp1 rfl) ?_)
    refine Qu (Qi (Qs rfl ?_))
    first | (rw [Xp (by omega)]; done) | (rw [Z6 (by omega) (by omega) (by omega)]; simp_all; done) | (rw [Z6 (by omega) (by omega) (by omega)]; simp_all; omega)
   ·try rw [h3]
    try simp only [qa, qb, qc, qd, qe, List.length_map] at h3
    refine Qv (Qd (kp3 rfl rfl rfl) (Qe fun K hK => QH (cs := [_]) rfl rfl rfl rfl (Qa rfl (Qh rfl rfl (Qz rfl rfl rfl (QG (ZZ hw hl) rfl rfl (.inr rfl) (Qa rfl ?_)))))))
    refine hK _ _ (Qb (kp3 rfl rfl rfl) ?_)
    refine QC ?_ -- 1
    refine Qe fun K hK => Qh rfl rfl (Qz rfl rfl rfl (ZH rfl rfl ?_))
    refine hK _ _ (Qb (kp4 rfl rfl rfl rfl) ?_)
    refine Qw rfl (fun h4 => ?_) (fun h4 => ?_)
    ·try rw [h4]
     try simp only [qa, qb, qc, qd, qe, List.length_map] at h4
     refine Qe fun K hK => Qh rfl rfl (QW (ds0 := [26, 25, 24, 23, 22, 21, 20, 19, 18, 17, 16, 15, 14, 13, 12, 11, 10, 9, 8, 7, 6, 5, 4, 3, 2, 1, 0]) rfl rfl rfl rfl rfl (QV (ds0 := [25, 24, 23, 22, 21, 20, 19, 18, 17, 16, 15, 14, 13, 12, 11, 10, 9, 8, 7, 6, 5, 4, 3, 2, 1, 0]) (QbL) rfl rfl (.inr rfl) rfl rfl (Qew rfl rfl (Qa rfl ?_))))
     refine QF (g := 36) rfl (fun h5 => ?_) (fun h5 => ?_)
     ·try rw [h5]
      try simp only [qa, qb, qc, qd, qe, List.length_map] at h5
      refine Qk rfl (Qh rfl rfl (Qk rfl (QW (ds0 := [20, 17, 16, 15, 14, 13, 12, 11, 10, 9, 8, 7, 6, 5, 4, 3, 2, 1, 0]) rfl rfl rfl rfl rfl (Qk rfl (Qa rfl (Qk rfl (QeH rfl rfl (Qk rfl (Qh rfl rfl (Qk rfl (QW (ds0 := [17, 16, 15, 14, 13, 12, 11, 10, 9, 8, 7, 6, 5, 4, 3, 2, 1, 0]) rfl rfl rfl rfl rfl ?_)))))))))))
      refine Qk rfl (ZH rfl rfl (Qn rfl rfl (Qa rfl ?_)))
      refine QF (g := 45) rfl (fun h6 => ?_) (fun h6 => ?_)
      ·try rw [h6]
       try simp only [qa, qb, qc, qd, qe, List.length_map] at h6
       refine Qk rfl (Qa rfl (Qk rfl (Qh rfl rfl (Qk rfl (QW (ds0 := [11, 10, 9, 8, 7, 6, 5, 4, 3, 2, 1, 0]) rfl rfl rfl rfl rfl (Qk rfl (QV (ds0 := [10, 9, 8, 7, 6, 5, 4, 3, 2, 1, 0]) (Qa2 hl) rfl rfl (.inr rfl) rfl rfl (Qk rfl (Yi rfl (Qn rfl rfl (Qa rfl ?_)))))))))))
       refine QF (g := 52) rfl (fun h7 => ?_) (fun h7 => ?_)
       ·try rw [h7]
        try simp only [qa, qb, qc, qd, qe, List.length_map] at h7
        refine Qk rfl (Qh rfl rfl (Qk rfl (QW (ds0 := [2, 1, 0]) rfl rfl rfl rfl rfl (Qk rfl (Qa rfl (Qk rfl (QV (ds0 := [3, 2, 1, 0]) (Yd hl) rfl rfl (.inr rfl) rfl rfl (Qk rfl (Q3 rfl rfl rfl (Qk rfl (ZH rfl rfl ?_)))))))))))
        refine Qn rfl rfl (Qa rfl ?_)
        refine hK _ _ (Qb (kp1 rfl) ?_)
        refine Qu (Qi (Qs rfl ?_))
        first | (rw [Xp (by omega)]; done) | (rw [Z6 (by omega) (by omega) (by omega)]; simp_all; done) | (rw [Z6 (by omega) (by omega) (by omega)]; simp_all; omega)
       ·try rw [h7]
        try simp only [qa, qb, qc, qd, qe, List.length_map] at h7
        refine Qt rfl (Qt rfl (Qt rfl (Qt rfl (Qt rfl (Qt rfl (Qn rfl rfl (Qa rfl ?_)))))))
        refine hK _ _ (Qb (kp1 rfl) ?_)
        refine Qu (Qi (Qs rfl ?_))
        first | (rw [Xp (by omega)]; done) | (rw [Z6 (by omega) (by omega) (by omega)]; simp_all; done) | (rw [Z6 (by omega) (by omega) (by omega)]; simp_all; omega)
      ·try rw [h6]
       try simp only [qa, qb, qc, qd, qe, List.length_map] at h6
       refine Qt rfl (Qt rfl (Qt rfl (Qt rfl (Qt rfl (Qn rfl rfl (Qa rfl (Qt rfl (Qt rfl (Qt rfl (Qt rfl (Qt rfl ?_)))))))))))
       refine Qt rfl (Qn rfl rfl (Qa rfl ?_))
       refine hK _ _ (Qb (kp1 rfl) ?_)
       refine Qu (Qi (Qs rfl ?_))
       first | (rw [Xp (by omega)]; done) | (rw [Z6 (by omega) (by omega) (by omega)]; simp_all; done) | (rw [Z6 (by omega) (by omega) (by omega)]; simp_all; omega)
     ·try rw [h5]
      try simp only [qa, qb, qc, qd, qe, List.length_map] at h5
      refine Qt rfl (Qt rfl (Qt rfl (Qt rfl (Qt rfl (Qt rfl (Qt rfl (Qn rfl rfl (Qa rfl (Qt rfl (Qt rfl (Qt rfl ?_)))))))))))
      refine Qt rfl (Qt rfl (Qn rfl rfl (Qa rfl (Qt rfl (Qt rfl (Qt rfl (Qt rfl (Qt rfl (Qt rfl (Qn rfl rfl (Qa rfl ?_)))))))))))
      refine hK _ _ (Qb (kp1 rfl) ?_)
      refine Qu (Qi (Qs rfl ?_))
      first | (rw [Xp (by omega)]; done) | (rw [Z6 (by omega) (by omega) (by omega)]; simp_all; done) | (rw [Z6 (by omega) (by omega) (by omega)]; simp_all; omega)
    ·try rw [h4]
     try simp only [qa, qb, qc, qd, qe, List.length_map] at h4
     refine Qv (Qd (kp3 rfl rfl rfl) (Qe fun K hK => Qh rfl rfl (QW (ds0 := [23, 22, 21, 20, 19, 18, 17, 16, 15, 14, 13, 12, 11, 10, 9, 8, 7, 6, 5, 4, 3, 2, 1, 0]) rfl rfl rfl rfl rfl (X6 rfl rfl (Qa rfl ?_)))))
     refine QF (g := 63) rfl (fun h8 => ?_) (fun h8 => ?_)
     ·try rw [h8]
      try simp only [qa, qb, qc, qd, qe, List.length_map] at h8
      refine Qk rfl (Qh rfl rfl (Qk rfl (QW (ds0 := [18, 15, 14, 13, 12, 11, 10, 9, 8, 7, 6, 5, 4, 3, 2, 1, 0]) rfl rfl rfl rfl rfl (Qk rfl (Qa rfl (Qk rfl (QeH rfl rfl (Qk rfl (Qh rfl rfl (Qk rfl (QW (ds0 := [15, 14, 13, 12, 11, 10, 9, 8, 7, 6, 5, 4, 3, 2, 1, 0]) rfl rfl rfl rfl rfl ?_)))))))))))
      refine Qk rfl (ZH rfl rfl (Qn rfl rfl (Qa rfl ?_)))
      refine QF (g := 72) rfl (fun h9 => ?_) (fun h9 => ?_)
      ·try rw [h9]
       try simp only [qa, qb, qc, qd, qe, List.length_map] at h9
       refine Qk rfl (Qh rfl rfl (Qk rfl (QW (ds0 := [9, 8, 7, 6, 5, 4, 3, 2, 1, 0]) rfl rfl rfl rfl rfl (Qk rfl (Qa rfl (Qk rfl (X6 rfl rfl (Qn rfl rfl (Qa rfl ?_)))))))))
       refine QF (g := 78) rfl (fun h10 => ?_) (fun h10 => ?_)
       ·try rw [h10]
        try simp only [qa, qb, qc, qd, qe, List.length_map] at h10
        refine Qk rfl (Qh rfl rfl (Qk rfl (QW (ds0 := [2, 1, 0]) rfl rfl rfl rfl rfl (Qk rfl (Qa rfl (Qk rfl (QV (ds0 := [2, 1, 0]) (Yd hl) rfl rfl (.inr rfl) rfl rfl (Qk rfl (ZH rfl rfl (Qn rfl rfl (Qa rfl ?_)))))))))))
        refine hK _ _ (Qb (kp1 rfl) ?_)
        refine Qu (Qs rfl ?_)
        first | (rw [Xp (by omega)]; done) | (rw [Z6 (by omega) (by omega) (by omega)]; simp_all; done) | (rw [Z6 (by omega) (by omega) (by omega)]; simp_all; omega)
       ·try rw [h10]
        try simp only [qa, qb, qc, qd, qe, List.length_map] at h10
        refine Qt rfl (Qt rfl (Qt rfl (Qt rfl (Qt rfl (Qn rfl rfl (Qa rfl ?_))))))
        refine hK _ _ (Qb (kp1 rfl) ?_)
        refine Qu (Qs rfl ?_)
        first | (rw [Xp (by omega)]; done) | (rw [Z6 (by omega) (by omega) (by omega)]; simp_all; done) | (rw [Z6 (by omega) (by omega) (by omega)]; simp_all; omega)
      ·try rw [h9]
       try simp only [qa, qb, qc, qd, qe, List.length_map] at h9
       refine Qt rfl (Qt rfl (Qt rfl (Qt rfl (Qn rfl rfl (Qa rfl (Qt rfl (Qt rfl (Qt rfl (Qt rfl (Qt rfl (Qn rfl rfl ?_)))))))))))
       refine Qa rfl ?_
       refine hK _ _ (Qb (kp1 rfl) ?_)
       refine Qu (Qs rfl ?_)
       first | (rw [Xp (by omega)]; done) | (rw [Z6 (by omega) (by omega) (by omega)]; simp_all; done) | (rw [Z6 (by omega) (by omega) (by omega)]; simp_all; omega)
     ·try rw [h8]
      try simp only [qa, qb, qc, qd, qe, List.length_map] at h8
      refine Qt rfl (Qt rfl (Qt rfl (Qt rfl (Qt rfl (Qt rfl (Qt rfl (Qn rfl rfl (Qa rfl (Qt rfl (Qt rfl (Qt rfl ?_)))))))))))
      refine Qt rfl (Qn rfl rfl (Qa rfl (Qt rfl (Qt rfl (Qt rfl (Qt rfl (Qt rfl (Qn rfl rfl (Qa rfl ?_)))))))))
      refine hK _ _ (Qb (kp1 rfl) ?_)
      refine Qu (Qs rfl ?_)
      first | (rw [Xp (by omega)]; done) | (rw [Z6 (by omega) (by omega) (by omega)]; simp_all; done) | (rw [Z6 (by omega) (by omega) (by omega)]; simp_all; omega)
theorem QbC {w : Qq} (hw : WSm w) {l : List StepT} (hl : l.length <= 10000000) {t : TermT} {c : Int} : Ok Try.prog 26 [Z9 w, Zw l, .agg (Qd6 t), .int .i64 c] (dOS (Yh w l t c)) := by
 refine Ok.ofT Z2 Try.func26 Qrd (Nat.le_of_ble_eq_true rfl) ?_
 show TW _ _ tf26.body _ _
 refine Qe fun K hK => Zy rfl rfl rfl (Zy rfl rfl rfl (Qa rfl (Qa rfl ?_)))
 refine hK _ _ (Qb (kp4 rfl rfl rfl rfl) ?_)
 refine QC ?_ -- 0
 refine Qe fun K hK => Qa rfl (Yb rfl rfl (Qa rfl ?_))
 refine QF (g := 14) rfl (fun h1 => ?_) (fun h1 => ?_)
 ·try rw [h1]
  try simp only [qa, qb, qc, qd, qe, List.length_map] at h1
  refine Qt rfl (Qt rfl (Qt rfl (Qn rfl rfl (Qa rfl (Qt rfl (Qt rfl (Qt rfl (Qt rfl (Qt rfl (Qt rfl (Qn rfl rfl ?_)))))))))))
  refine hK _ _ (Qb (kp5 rfl rfl rfl rfl rfl) ?_)
  refine Zv rfl (Qe fun K hK => Qa rfl (Qa rfl ?_))
  refine hK _ _ (Qb (kp2 rfl rfl) ?_)
  refine Qu (Qi ?_)
  rw [Qce (by omega)]
  exact QQ rfl rfl ⟨rfl, rfl⟩
 ·try rw [h1]
  try simp only [qa, qb, qc, qd, qe, List.length_map] at h1
  refine Qk rfl (Qh rfl rfl (Qk rfl (Qz rfl rfl rfl (Qk rfl (Yb rfl rfl (Qn rfl rfl (Qa rfl ?_)))))))
  refine QF (g := 19) rfl (fun h2 => ?_) (fun h2 => ?_)
  ·try rw [h2]
   try simp only [qa, qb, qc, qd, qe, List.length_map] at h2
   refine Qt rfl (Qt rfl (Qt rfl (Qt rfl (Qt rfl (Qt rfl (Qn rfl rfl ?_))))))
   refine hK _ _ (Qb (kp5 rfl rfl rfl rfl rfl) ?_)
   refine Zv rfl (Qe fun K hK => Qa rfl (Qa rfl ?_))
   refine hK _ _ (Qb (kp2 rfl rfl) ?_)
   refine Qu (Qi ?_)
   rw [Qce (by omega)]
   exact QQ rfl rfl ⟨rfl, rfl⟩
  ·try rw [h2]
   try simp only [qa, qb, qc, qd, qe, List.length_map] at h2
   refine Qk rfl (Qh rfl rfl (Qk rfl (Qz rfl rfl rfl (Qk rfl (Qh rfl rfl (Qk rfl (Qz rfl rfl rfl (Qk rfl ?_))))))))
   first | refine QR rfl Q0 ?_ | refine QR rfl rfl ?_
   refine Qk rfl (Qew rfl rfl (Qn rfl rfl ?_))
   refine hK _ _ (Qb (kp5 rfl rfl rfl rfl rfl) ?_)
   refine Qw rfl (fun h3 => ?_) (fun h3 => ?_)
   ·try rw [h3]
    try simp only [qa, qb, qc, qd, qe, List.length_map] at h3
    refine Qe fun K hK => Qa rfl (Qa rfl ?_)
    refine hK _ _ (Qb (kp2 rfl rfl) ?_)
    refine Qu (Qi ?_)
    rw [Qce (by omega)]
    exact QQ rfl rfl ⟨rfl, rfl⟩
   ·try rw [h3]
    try simp only [qa, qb, qc, qd, qe, List.length_map] at h3
    refine Qv (Qd (kp4 rfl rfl rfl rfl) (Qe fun K hK => QH (cs := [_]) rfl rfl rfl rfl (Qa rfl (Qh rfl rfl (Qz rfl rfl rfl (QG (ZZ hw hl) rfl rfl (.inr rfl) (Qa rfl ?_)))))))
    refine hK _ _ (Qb (kp4 rfl rfl rfl rfl) ?_)
    refine Qe fun K hK => Qh rfl rfl (QW (ds0 := [2, 0]) rfl rfl rfl rfl rfl (Qa rfl (Qa rfl (Qh rfl rfl (QW (ds0 := [7, 6, 2, 0]) rfl rfl rfl rfl rfl (QeH rfl rfl (QaA rfl rfl rfl (Qa rfl (QV (ds0 := [2, 0]) (Yd hl) rfl rfl (.inr rfl) rfl rfl (Qa rfl ?_))))))))))
    refine QT rfl rfl (ZD rfl (Y2 (ds0 := []) rfl rfl rfl rfl rfl rfl rfl rfl rfl rfl ?_))
    refine hK _ _ (Qb (kp3 rfl rfl rfl) ?_)
    refine QC ?_ -- 1
    refine Qe fun K hK => Qh rfl rfl (Qz rfl rfl rfl (ZH rfl rfl (Qa rfl ?_)))
    refine QF (g := 47) rfl (fun h4 => ?_) (fun h4 => ?_)
    ·try rw [h4]
     try simp only [qa, qb, qc, qd, qe, List.length_map] at h4
     refine Qt rfl (Qt rfl (Qt rfl (Qt rfl (Qn rfl rfl ?_))))
     refine hK _ _ (Qb (kp3 rfl rfl rfl) ?_)
     refine Zv rfl (Qe fun K hK => Qa rfl (Qa rfl ?_))
     refine hK _ _ (Qb (kp2 rfl rfl) ?_)
     refine Qu (Qi ?_)
     rw [Qa6 (by first | exact .inl h4 | exact .inr h5)]
     exact QQ rfl rfl ⟨rfl, rfl⟩
    ·try rw [h4]
     try simp only [qa, qb, qc, qd, qe, List.length_map] at h4
     refine Qk rfl (Qh rfl rfl (Qk rfl (Qz rfl rfl rfl (Qk rfl (Qa rfl (Qk rfl (ZH rfl rfl (Qn rfl rfl ?_))))))))
     refine hK _ _ (Qb (kp3 rfl rfl rfl) ?_)
     refine Qw rfl (fun h5 => ?_) (fun h5 => ?_)
     ·try rw [h5]
      try simp only [qa, qb, qc, qd, qe, List.length_map] at h5
      refine Qe fun K hK => Qa rfl (Qa rfl ?_)
      refine hK _ _ (Qb (kp2 rfl rfl) ?_)
      refine Qu (Qi ?_)
      rw [Qa6 (by first | exact .inl h4 | exact .inr h5)]
      exact QQ rfl rfl ⟨rfl, rfl⟩
     ·try rw [h5]
      try simp only [qa, qb, qc, qd, qe, List.length_map] at h5
      refine Qv (Qd (kp2 rfl rfl) (Qe fun K hK => Qa rfl (QcO (ds0 := [2, 1]) rfl rfl (fun _ h => ⟨Qld, h⟩) rfl (.inl rfl) (by simp) (by simp; omega) (by simp; omega) rfl rfl (QL (ds0 := [3, 2, 1]) (cs := [_, _, _, _]) rfl rfl rfl rfl rfl rfl (QB rfl rfl (Qaz (ds0 := [1]) rfl rfl (by simp [D.ids, D.sid]) ⟨_, rfl, rfl, rfl, rfl, rfl⟩ rfl rfl (by simp) rfl rfl (by simp; omega) (by simp; omega) rfl rfl (Qa rfl (Qa rfl ?_))))))))
      refine hK _ _ (Qb (kp2 rfl rfl) ?_)
      refine Qu ?_
      rw [Qgl (by omega) (Qfx (by omega) (by omega)) h4 h5]
      exact QfR rfl rfl rfl (by simp) (by simp [Zw, Qfi]) rfl rfl
theorem QbB {w : Qq} (hw : WSm w) {l : List StepT} (hl : l.length <= 10000000) {u p : Int} : Ok Try.prog 22 [Z9 w, Zw l, .int .i64 u, .int .i64 p] (dOS (Xk w l u p)) := by
 refine Ok.ofT Z2 Try.func22 Qq9 (Nat.le_of_ble_eq_true rfl) ?_
 show TW _ _ tf22.body _ _
 refine Qe fun K hK => Zy rfl rfl rfl (Qa rfl (Qa rfl ?_))
 refine hK _ _ (Qb (kp4 rfl rfl rfl rfl) ?_)
 refine QC ?_ -- 0
 refine Qe fun K hK => Qa rfl (Yb rfl rfl (Qa rfl ?_))
 refine QF (g := 13) rfl (fun h1 => ?_) (fun h1 => ?_)
 ·try rw [h1]
  try simp only [qa, qb, qc, qd, qe, List.length_map] at h1
  refine Qt rfl (Qt rfl (Qt rfl (Qt rfl (Qt rfl (Qn rfl rfl (Qa rfl (Qt rfl (Qt rfl (Qn rfl rfl (Qa rfl (Qt rfl ?_)))))))))))
  refine Qt rfl (Qt rfl (Qt rfl (Qt rfl (Qt rfl (Qt rfl (Qt rfl (Qt rfl (Qn rfl rfl ?_))))))))
  refine hK _ _ (Qb (kp5 rfl rfl rfl rfl rfl) ?_)
  refine Zv rfl (Qe fun K hK => Qa rfl (Qa rfl ?_))
  refine hK _ _ (Qb (kp2 rfl rfl) ?_)
  refine Qu (Qi ?_)
  rw [Qd7 (by omega)]
  exact QQ rfl rfl ⟨rfl, rfl⟩
 ·try rw [h1]
  try simp only [qa, qb, qc, qd, qe, List.length_map] at h1
  refine Qk rfl (Qa rfl (Qk rfl (Qh rfl rfl (Qk rfl (Qz rfl rfl rfl (Qk rfl ?_))))))
  first | refine QR rfl Q0 ?_ | refine QR rfl rfl ?_
  refine Qk rfl (Qew rfl rfl (Qn rfl rfl (Qa rfl ?_)))
  refine QF (g := 20) rfl (fun h2 => ?_) (fun h2 => ?_)
  ·try rw [h2]
   try simp only [qa, qb, qc, qd, qe, List.length_map] at h2
   refine Qt rfl (Qt rfl (Qn rfl rfl (Qa rfl (Qt rfl (Qt rfl (Qt rfl (Qt rfl (Qt rfl (Qt rfl (Qt rfl (Qt rfl ?_)))))))))))
   refine Qt rfl (Qn rfl rfl ?_)
   refine hK _ _ (Qb (kp5 rfl rfl rfl rfl rfl) ?_)
   refine Zv rfl (Qe fun K hK => Qa rfl (Qa rfl ?_))
   refine hK _ _ (Qb (kp2 rfl rfl) ?_)
   refine Qu (Qi ?_)
   rw [Qd7 (by omega)]
   exact QQ rfl rfl ⟨rfl, rfl⟩
  ·try rw [h2]
   try simp only [qa, qb, qc, qd, qe, List.length_map] at h2
   refine Qk rfl (Qa rfl (Qk rfl (Yb rfl rfl (Qn rfl rfl (Qa rfl ?_)))))
   refine QF (g := 24) rfl (fun h3 => ?_) (fun h3 => ?_)
   ·try rw [h3]
    try simp only [qa, qb, qc, qd, qe, List.length_map] at h3
    refine Qt rfl (Qt rfl (Qt rfl (Qt rfl (Qt rfl (Qt rfl (Qt rfl (Qt rfl (Qt rfl (Qn rfl rfl ?_)))))))))
    refine hK _ _ (Qb (kp5 rfl rfl rfl rfl rfl) ?_)
    refine Zv rfl (Qe fun K hK => Qa rfl (Qa rfl ?_))
    refine hK _ _ (Qb (kp2 rfl rfl) ?_)
    refine Qu (Qi ?_)
    rw [Qd7 (by omega)]
    exact QQ rfl rfl ⟨rfl, rfl⟩
   ·try rw [h3]
    try simp only [qa, qb, qc, qd, qe, List.length_map] at h3
    refine Qk rfl (Qa rfl (Qk rfl (Qh rfl rfl (Qk rfl (Qz rfl rfl rfl (Qk rfl (Qa rfl (Qk rfl (QJ rfl rfl rfl (by omega) (ZF (by omega) (by omega)) rfl (Qk rfl (Q9 rfl rfl ?_)))))))))))
    refine Qk rfl (Qz rfl rfl rfl (Qk rfl ?_))
    first | refine QR rfl Q0 ?_ | refine QR rfl rfl ?_
    refine Qk rfl (Qew rfl rfl (Qn rfl rfl ?_))
    refine hK _ _ (Qb (kp5 rfl rfl rfl rfl rfl) ?_)
    refine Qw rfl (fun h4 => ?_) (fun h4 => ?_)
    ·try rw [h4]
     try simp only [qa, qb, qc, qd, qe, List.length_map] at h4
     refine Qe fun K hK => Qa rfl (Qa rfl ?_)
     refine hK _ _ (Qb (kp2 rfl rfl) ?_)
     refine Qu (Qi ?_)
     rw [QkQ (by omega) (by omega) (by omega)]
     exact QQ rfl rfl ⟨rfl, rfl⟩
    ·try rw [h4]
     try simp only [qa, qb, qc, qd, qe, List.length_map] at h4
     refine Qv (Qd (kp4 rfl rfl rfl rfl) (Qe fun K hK => Qa rfl (Qa rfl (QhR rfl (Qe5 (by omega) (by have := hw.cs _ (List.getElem_mem (show u.toNat < w.length by omega)); omega)) (QoQ rfl rfl (by omega) rfl (Qa rfl (QG (Yd hl) rfl rfl (.inr rfl) (Q3 rfl rfl rfl (QT rfl rfl (ZD rfl ?_))))))))))
     refine Q5 rfl rfl rfl rfl rfl rfl rfl rfl ?_
     refine hK _ _ (Qb (kp3 rfl rfl rfl) ?_)
     refine QC ?_ -- 1
     refine Qe fun K hK => QH (cs := [_]) rfl rfl rfl rfl (Qa rfl (QH (cs := [_, _, _, _]) rfl rfl rfl rfl (QG (QcF (s := Qo6 l u p) hw hl) rfl rfl (.inr rfl) (Yi rfl ?_))))
     refine hK _ _ (Qb (kp3 rfl rfl rfl) ?_)
     refine Qw rfl (fun h5 => ?_) (fun h5 => ?_)
     ·try rw [h5]
      try simp only [qa, qb, qc, qd, qe, List.length_map] at h5
      refine Qe fun K hK => Qa rfl (Qa rfl ?_)
      refine hK _ _ (Qb (kp2 rfl rfl) ?_)
      refine Qu (Qi ?_)
      rw [QlD h5]
      exact QQ rfl rfl ⟨rfl, rfl⟩
     ·try rw [h5]
      try simp only [qa, qb, qc, qd, qe, List.length_map] at h5
      refine Qv (Qd (kp2 rfl rfl) (Qe fun K hK => Qa rfl (QcO (ds0 := [2, 1]) rfl rfl (fun _ h => ⟨Qld, h⟩) rfl (.inl rfl) (by simp) (by simp; omega) (by simp; omega) rfl rfl (QL (ds0 := [3, 2, 1]) (cs := [_, _, _, _]) rfl rfl rfl rfl rfl rfl (QB rfl rfl (Qaz (ds0 := [1]) rfl rfl (by simp [D.ids, D.sid]) ⟨_, rfl, rfl, rfl, rfl, rfl⟩ rfl rfl (by simp) rfl rfl (by simp; omega) (by simp; omega) rfl rfl (Qa rfl (Qa rfl ?_))))))))
      refine hK _ _ (Qb (kp2 rfl rfl) ?_)
      refine Qu ?_
      rw [QkT (by omega) (by omega) (by omega) (by omega) h5]
      exact QfR rfl rfl rfl (by simp) (by simp [Zw, Qfi, Qo6]; rfl) rfl rfl
theorem QcD {w : Qq} (hw : WSm w) {l : List StepT} (hl : l.length <= 10000000) {inc : List TermT} (hi : inc.length <= 1000000) : Ok Try.prog 28 [Z9 w, Zw l, ZE inc] (.bool (Qc4 w l inc)) := by
 refine Ok.ofT Z2 Try.func28 Qrf (Nat.le_of_ble_eq_true rfl) ?_
 show TW _ _ tf28.body _ _
 refine Qe fun K hK => Zy rfl rfl rfl (Qa rfl ?_)
 refine hK _ _ (Qb (kp3 rfl rfl rfl) ?_)
 refine QC ?_ -- 0
 refine Qe fun K hK => Qa rfl ?_
 refine hK _ _ (Qb (kp4 rfl rfl rfl rfl) ?_)
 refine QA ?_
 refine Zq (ι := Nat) (fun i => ⟨[(1, Zw l), (2, ZE inc), (3, .ref 3 0 0), (7, .int .i64 i)], [(3, ⟨[[.sl ((w).map YK)]], 1, 26, true⟩)]⟩) (fun i => i <= inc.length /\ (inc.take i).all (fun t => decide (ZS (Zh w l t.u) t.m = 2)) = true) (fun i => inc.length - i) 0 ?_ ?_ ?_
 ·exact Q7 (l := [1, 2, 3, 7]) (lH := [3]) (kp4 rfl rfl rfl rfl) (Qf rfl Qo) rfl rfl rfl
 ·exact ⟨Nat.zero_le _, by simp⟩
 intro i hI
 try dsimp only
 refine QC ?_ -- 1
 refine Qe fun K hK => Qa rfl (Qa rfl ?_)
 first | refine QR rfl Q0 ?_ | refine QR rfl rfl ?_
 refine Yb rfl rfl ?_
 refine hK _ _ (Qb (kp5 rfl rfl rfl rfl rfl) ?_)
 refine Qw rfl (fun h1 => ?_) (fun h1 => ?_)
 ·try rw [h1]
  try simp only [qa, qb, qc, qd, qe, List.length_map] at h1
  refine Qv (Qd (kp4 rfl rfl rfl rfl) ?_)
  refine QC ?_ -- 2
  refine QA (Qe fun K hK => QL (ds0 := [7, 1, 0]) (cs := [_]) rfl rfl rfl rfl rfl rfl (Qa rfl (Qa rfl (Qa rfl (QJ rfl rfl rfl (by omega) (QS (by omega)) rfl (Q9 rfl rfl (QW (ds0 := [7, 1, 0]) rfl rfl rfl rfl rfl (QV (ds0 := [1, 0]) (ZZ hw hl) rfl rfl (.inr rfl) rfl rfl (Qa rfl (Qa rfl ?_))))))))))
  refine QJ rfl rfl rfl (by omega) (QS (by omega)) rfl (Q9 rfl rfl (QW (ds0 := [1, 0]) rfl rfl rfl rfl rfl (QV (ds0 := [0]) (XL) rfl rfl (.inr rfl) rfl rfl (X6 rfl rfl ?_))))
  refine hK _ _ (Qb (kp5 rfl rfl rfl rfl rfl) ?_)
  refine Qw rfl (fun h2 => ?_) (fun h2 => ?_)
  ·try rw [h2]
   try simp only [qa, qb, qc, qd, qe, List.length_map] at h2
   refine Qe fun K hK => Qa rfl ?_
   refine hK _ _ (Qb (kp1 rfl) ?_)
   refine Qu (Qr (Qi (QZ (Qr (Qi (Qs rfl ?_))))))
   rw [Qc4, XJ (i := i) (by omega) (by simpa using h2)]
  ·try rw [h2]
   try simp only [qa, qb, qc, qd, qe, List.length_map] at h2
   refine Qv (Qg (Qd (kp4 rfl rfl rfl rfl) (QN fun K hK => Qa rfl (Q3 rfl rfl (by first | exact Qp (by omega) (by omega) | rfl) (Qa rfl (hK _ ?_))))))
   refine Qj (i + 1) ?_ ?_ ?_
   ·exact Q7 (l := [1, 2, 3, 7]) (lH := [3]) (kp4 rfl rfl rfl rfl) (Qf rfl Qo) rfl rfl rfl
   ·exact ⟨by omega, Z7 (by omega) hI.2 (by simpa using h2)⟩
   ·first | omega | (simp only; omega) | (dsimp only; omega)
 ·try rw [h1]
  try simp only [qa, qb, qc, qd, qe, List.length_map] at h1
  refine Zi (QM (Qy (QI (Qd (Q4) (Qe fun K hK => Qa rfl ?_)))))
  refine hK _ _ (Qb (kp1 rfl) ?_)
  refine Qu (Qs rfl ?_)
  rw [Qc4, Xy (i := i) (by omega) hI.2]
theorem QcE {w : Qq} (hw : WSm w) {l : List StepT} (hl : l.length <= 10000000) {inc : List TermT} (hi : inc.length <= 1000000) : Ok Try.prog 29 [Z9 w, Zw l, ZE inc] (.int .i64 (Qc3 w l inc)) := by
 refine Ok.ofT Z2 Try.func29 Qrg (Nat.le_of_ble_eq_true rfl) ?_
 show TW _ _ tf29.body _ _
 refine Qe fun K hK => Zy rfl rfl rfl (Qa rfl ?_)
 refine hK _ _ (Qb (kp3 rfl rfl rfl) ?_)
 refine Qe fun K hK => Qa rfl ?_
 refine hK _ _ (Qb (kp4 rfl rfl rfl rfl) ?_)
 refine QC ?_ -- 0
 refine Qe fun K hK => Qa rfl ?_
 refine hK _ _ (Qb (kp5 rfl rfl rfl rfl rfl) ?_)
 refine QA ?_
 refine Zq (ι := Nat × Int) (fun ⟨i, a⟩ => ⟨[(1, Zw l), (2, ZE inc), (3, .ref 3 0 0), (7, .int .i64 a), (8, .int .i64 i)], [(3, ⟨[[.sl ((w).map YK)]], 1, 26, true⟩)]⟩) (fun ⟨i, a⟩ => i <= inc.length /\ ZN (Zh w l) inc (-1) = ZN (Zh w l) (inc.drop i) a) (fun ⟨i, a⟩ => inc.length - i) (0, -1) ?_ ?_ ?_
 ·exact Q7 (l := [1, 2, 3, 7, 8]) (lH := [3]) (kp5 rfl rfl rfl rfl rfl) (Qf rfl Qo) rfl rfl rfl
 ·exact ⟨Nat.zero_le _, by simp⟩
 intro ⟨i, a⟩ hI
 dsimp only at hI
 try dsimp only
 refine QC ?_ -- 1
 refine Qe fun K hK => Qa rfl (Qa rfl ?_)
 first | refine QR rfl Q0 ?_ | refine QR rfl rfl ?_
 refine Yb rfl rfl ?_
 refine hK _ _ (Qb (kp6 rfl rfl rfl rfl rfl rfl) ?_)
 refine Qw rfl (fun h1 => ?_) (fun h1 => ?_)
 ·try rw [h1]
  try simp only [qa, qb, qc, qd, qe, List.length_map] at h1
  refine Qv (Qd (kp5 rfl rfl rfl rfl rfl) ?_)
  refine QC ?_ -- 2
  refine QA (Qe fun K hK => QL (ds0 := [6, 0]) (cs := [_]) rfl rfl rfl rfl rfl rfl (Qa rfl (Qa rfl (Qa rfl (QJ rfl rfl rfl (by omega) (QS (by omega)) rfl (Q9 rfl rfl (QW (ds0 := [6, 0]) rfl rfl rfl rfl rfl (QV (ds0 := [0]) (ZZ hw hl) rfl rfl (.inr rfl) rfl rfl (Qa rfl (Qa rfl ?_))))))))))
  refine QJ rfl rfl rfl (by omega) (QS (by omega)) rfl (Q9 rfl rfl (QW (ds0 := [0]) rfl rfl rfl rfl rfl (QV (ds0 := []) (XL) rfl rfl (.inr rfl) rfl rfl ?_)))
  refine hK _ _ (Qb (kp6 rfl rfl rfl rfl rfl rfl) ?_)
  refine QA (Qe fun K hK => ZH rfl rfl (Qa rfl ?_))
  refine hK _ _ (Qb (kp7 rfl rfl rfl rfl rfl rfl rfl) ?_)
  refine Qw rfl (fun h2 => ?_) (fun h2 => ?_)
  ·try rw [h2]
   try simp only [qa, qb, qc, qd, qe, List.length_map] at h2
   refine Qe fun K hK => Qa rfl ?_
   refine hK _ _ (Qb (kp1 rfl) ?_)
   refine Qu (Qr (Qr (Qi (QZ (Qr (Qi (QE rfl ?_)))))))
   rw [Qc3, hI.2, Qbk (by omega), if_pos h2]
  ·try rw [h2]
   try simp only [qa, qb, qc, qd, qe, List.length_map] at h2
   refine Qe fun K hK => ZH rfl rfl (Qa rfl ?_)
   refine hK _ _ (Qb (kp6 rfl rfl rfl rfl rfl rfl) ?_)
   refine Qw rfl (fun h3 => ?_) (fun h3 => ?_)
   ·try rw [h3]
    try simp only [qa, qb, qc, qd, qe, List.length_map] at h3
    refine QC ?_ -- 3
    refine Qe fun K hK => Qa rfl (Qew rfl rfl ?_)
    refine hK _ _ (Qb (kp5 rfl rfl rfl rfl rfl) ?_)
    refine Qw rfl (fun h4 => ?_) (fun h4 => ?_)
    ·try rw [h4]
     try simp only [qa, qb, qc, qd, qe, List.length_map] at h4
     refine Qe fun K hK => Qa rfl ?_
     refine hK _ _ (Qb (kp1 rfl) ?_)
     refine Qu (Qi (Qr (Qr (Qi (QZ (Qr (Qi (QE rfl ?_))))))))
     rw [Qc3, hI.2, Qbk (by omega), if_neg h2, if_pos h3, if_pos h4]
    ·try rw [h4]
     try simp only [qa, qb, qc, qd, qe, List.length_map] at h4
     refine Qv (Qd (kp4 rfl rfl rfl rfl) (QN fun K hK => Qa rfl (Qa rfl (QJ rfl rfl rfl (by omega) (QS (by omega)) rfl (Q9 rfl rfl (Qz rfl rfl rfl (Qa rfl (hK _ ?_))))))))
     refine Qg (Qg (Qd (kp5 rfl rfl rfl rfl rfl) (QN fun K hK => Qa rfl (Q3 rfl rfl (by first | exact Qp (by omega) (by omega) | rfl) (Qa rfl (hK _ ?_))))))
     refine Qj (i + 1, (inc[i]'(by omega)).u) ?_ ?_ ?_
     ·exact Q7 (l := [1, 2, 3, 7, 8]) (lH := [3]) (kp5 rfl rfl rfl rfl rfl) (Qf rfl Qo) rfl rfl rfl
     ·exact ⟨by omega, by rw [hI.2, Qbk (by omega), if_neg h2, if_pos h3, if_neg h4]⟩
     ·show inc.length - (i + 1) < inc.length - i; omega
   ·try rw [h3]
    try simp only [qa, qb, qc, qd, qe, List.length_map] at h3
    refine Qv (Qg (Qg (Qd (kp5 rfl rfl rfl rfl rfl) (QN fun K hK => Qa rfl (Q3 rfl rfl (by first | exact Qp (by omega) (by omega) | rfl) (Qa rfl (hK _ ?_)))))))
    refine Qj (i + 1, a) ?_ ?_ ?_
    ·exact Q7 (l := [1, 2, 3, 7, 8]) (lH := [3]) (kp5 rfl rfl rfl rfl rfl) (Qf rfl Qo) rfl rfl rfl
    ·exact ⟨by omega, by rw [hI.2, Qbk (by omega), if_neg h2, if_neg h3]⟩
    ·show inc.length - (i + 1) < inc.length - i; omega
 ·try rw [h1]
  try simp only [qa, qb, qc, qd, qe, List.length_map] at h1
  refine Zi (QM (Qy (QI (Qd (kp1 rfl) (Qe fun K hK => Qa rfl (Qa rfl ?_))))))
  refine hK _ _ (Qb (kp1 rfl) ?_)
  refine Qu (QE rfl ?_)
  rw [Qc3, hI.2, QiB (by omega)]
theorem XP {w : Qq} (hw : WSm w) {db : List (List TermT)} (hd : db.length <= 100000000) (hi : ∀ x ∈ db, x.length <= 1000000) {l : List StepT} (hl : l.length <= 10000000) : Ok Try.prog 9 [Z9 w, dDb db, Zw l] (.tup [.int .i64 (Zx w db l).1, .int .i64 (Zx w db l).2]) := by
 refine Ok.ofT Z2 Try.func9 tp9 (Nat.le_of_ble_eq_true rfl) ?_
 show TW _ _ tf9.body _ _
 refine Qe fun K hK => Zy rfl rfl rfl (Qa rfl (Qa rfl ?_))
 refine hK _ _ (Qb (kp3 rfl rfl rfl) ?_)
 refine QC ?_ -- 0
 refine Qe fun K hK => Qa rfl ?_
 refine hK _ _ (Qb (kp4 rfl rfl rfl rfl) ?_)
 refine QA ?_
 refine Zq (ι := Nat) (fun i => ⟨[(1, dDb db), (2, Zw l), (3, .ref 3 0 0), (8, .int .i64 i)], [(3, ⟨[[.sl ((w).map YK)]], 1, 26, true⟩)]⟩) (fun i => i <= db.length /\ Zx w db l = ZW w l i (db.drop i)) (fun i => db.length - i) 0 ?_ ?_ ?_
 ·exact Q7 (l := [1, 2, 3, 8]) (lH := [3]) (kp4 rfl rfl rfl rfl) (Qf rfl Qo) rfl rfl rfl
 ·exact ⟨Nat.zero_le _, rfl⟩
 intro i hI
 try dsimp only
 refine QC ?_ -- 1
 refine Qe fun K hK => Qa rfl (Qa rfl ?_)
 first | refine QR rfl Q0 ?_ | refine QR rfl rfl ?_
 refine Yb rfl rfl ?_
 refine hK _ _ (Qb (kp5 rfl rfl rfl rfl rfl) ?_)
 refine Qw rfl (fun h1 => ?_) (fun h1 => ?_)
 ·try rw [h1]
  try simp only [qa, qb, qc, qd, qe, List.length_map] at h1
  refine Qv (Qd (kp4 rfl rfl rfl rfl) ?_)
  refine QC ?_ -- 2
  refine QA ?_
  refine QC ?_ -- 3
  refine Qe fun K hK => QL (ds0 := [0]) (cs := [_]) rfl rfl rfl rfl rfl rfl (Qa rfl (Qa rfl (Qa rfl (QJ rfl rfl rfl (by omega) (QS (by omega)) rfl (QW (ds0 := [0]) rfl rfl rfl rfl rfl (QV (ds0 := []) (QcD hw hl (hi _ (List.getElem_mem (by omega)))) rfl rfl (.inr rfl) rfl rfl ?_))))))
  refine hK _ _ (Qb (kp5 rfl rfl rfl rfl rfl) ?_)
  refine Qw rfl (fun h2 => ?_) (fun h2 => ?_)
  ·try rw [h2]
   try simp only [qa, qb, qc, qd, qe, List.length_map] at h2
   refine Qe fun K hK => Qa rfl (Qa rfl (Qa rfl ?_))
   refine hK _ _ (Qb (kp2 rfl rfl) ?_)
   refine Qu (Qi (Qr (Qi (QZ (Qr (Qi ?_))))))
   rw [hI.2, QjE (by omega), if_pos h2]
   exact QQ rfl rfl ⟨rfl, rfl⟩
  ·try rw [h2]
   try simp only [qa, qb, qc, qd, qe, List.length_map] at h2
   refine Qv (Qd (kp4 rfl rfl rfl rfl) (Qe fun K hK => QL (ds0 := [1, 0]) (cs := [_]) rfl rfl rfl rfl rfl rfl (Qa rfl (Qa rfl (Qa rfl (QJ rfl rfl rfl (by omega) (QS (by omega)) rfl (QW (ds0 := [1, 0]) rfl rfl rfl rfl rfl (QV (ds0 := [0]) (QcE hw hl (hi _ (List.getElem_mem (by omega)))) rfl rfl (.inr rfl) rfl rfl (Qa rfl ?_)))))))))
   refine hK _ _ (Qb (kp5 rfl rfl rfl rfl rfl) ?_)
   refine Qe fun K hK => Qa rfl (Qew rfl rfl ?_)
   refine hK _ _ (Qb (kp6 rfl rfl rfl rfl rfl rfl) ?_)
   refine Qw rfl (fun h3 => ?_) (fun h3 => ?_)
   ·try rw [h3]
    try simp only [qa, qb, qc, qd, qe, List.length_map] at h3
    refine Qe fun K hK => Qa rfl (Qa rfl (Qa rfl (Qa rfl ?_)))
    refine hK _ _ (Qb (kp2 rfl rfl) ?_)
    refine Qu (Qr (Qi (QZ (Qr (Qi ?_)))))
    rw [hI.2, QjE (by omega), if_neg (by rw [h2]; simp), if_pos h3]
    exact QQ rfl rfl ⟨rfl, rfl⟩
   ·try rw [h3]
    try simp only [qa, qb, qc, qd, qe, List.length_map] at h3
    refine Qv (Qg (Qd (kp4 rfl rfl rfl rfl) (QN fun K hK => Qa rfl (Q3 rfl rfl (by first | exact Qp (by omega) (by omega) | rfl) (Qa rfl (hK _ ?_))))))
    refine Qj (i + 1) ?_ ?_ ?_
    ·exact Q7 (l := [1, 2, 3, 8]) (lH := [3]) (kp4 rfl rfl rfl rfl) (Qf rfl Qo) rfl rfl rfl
    ·exact ⟨by omega, by rw [hI.2, QjE (by omega), if_neg (by rw [h2]; simp), if_neg h3]⟩
    ·first | omega | (simp only; omega) | (dsimp only; omega)
 ·try rw [h1]
  try simp only [qa, qb, qc, qd, qe, List.length_map] at h1
  refine Zi (QM (Qy (QI (Qd (Q4) (Qe fun K hK => Qa rfl (Qa rfl ?_))))))
  refine hK _ _ (Qb (kp2 rfl rfl) ?_)
  refine Qu ?_
  rw [hI.2, Qn0 (by omega)]
  exact QQ rfl rfl ⟨rfl, rfl⟩
end Go.Proofs
namespace M25
open Go Go.Abs M3
def Qnk (w : Qq) (i : Nat) : List (List TermT) := ((Qdz w).take i).map RowT.t
theorem Qg3 {w : Qq} {i : Nat} (h : i < (Qdz w).length) : Qnk w (i + 1) = Qnk w i ++ [(Qdz w)[i].t] := by
 rw [Qnk, List.take_succ_eq_append_getElem h, List.map_append]; rfl
theorem Qom {w : Qq} {i : Nat} (h : (Qdz w).length <= i) : Qnk w i = mDB w := by rw [Qnk, List.take_of_length_le h]; rfl
theorem Qnl (w : Qq) (i : Nat) : (Qnk w i).length <= (Qdz w).length := by rw [Qnk, List.length_map]; exact List.length_take_le' ..
theorem Qnf {w : Qq} (hw : WSm w) (h0 : 0 < w.length) : (Qdz w).length <= 1600000 := by
 have := (Qb9 hw h0 w.length (Nat.le_refl _)).2
 have := hw.len
 rw [Qdz]; omega
theorem QmD {w : Qq} {db : List (List TermT)} : ∀ (n : Nat) (out : List StepT), (Qbm w db n out).1.length <= out.length + n
 | 0, out => Nat.le_refl _
 | n + 1, out => by
  rw [Qbm]
  split
  ·simp
  ·refine Nat.le_trans (QmD n _) ?_
   have := Qgk w out ⟨(Zx w db out).2, Qc2 w (db.getD (Zx w db out).1.toNat []) (Zx w db out).2⟩ (Zx w db out).1
   omega
theorem Qm2 {v : Int} (h : (v + 1).toNat <= 61) : IntKind.i64.wrap ((1 : Int) * 2 ^ min (v + 1).toNat IntKind.i64.bits) = 2 ^ (v + 1).toNat := by
 rw [show min (v + 1).toNat IntKind.i64.bits = (v + 1).toNat from by simp only [IntKind.bits]; omega, Int.one_mul]
 have := Qhx (i := (v + 1).toNat) (by omega)
 exact Qp (by omega) (by omega)
theorem QmN {α : Type} {f : α -> List D} {l : List α} {k : Int} (h : k = (l.length : Int)) : ((l.map f).take k.toNat).drop (((0 : Nat) : Int)).toNat = l.map f := by
 subst h; rw [Int.toNat_natCast, List.take_of_length_le (by simp)]; rfl
end M25
namespace Go.Proofs
open Go Go.Abs M3 M25
set_option linter.unusedVariables false
set_option linter.unusedSimpArgs false
theorem X8 {w : Qq} (hw : WSm w) {db : List (List TermT)} (hd : db.length <= 100000000) (hi : ∀ x ∈ db, x.length <= 1000000) {l : List StepT} (hl : l.length <= 1000000) : Ok Try.prog 8 [Z9 w, dDb db, Zw l] (.tup [Zw (QbF w db l).1, .int .i64 (QbF w db l).2]) := by
 refine Ok.ofT Z2 Try.func8 tp8 (Nat.le_of_ble_eq_true rfl) ?_
 show TW _ _ tf8.body _ _
 have hn := hw.len
 refine Qe fun K hK => Zy rfl rfl rfl (Qa rfl (Qa rfl ?_))
 refine hK _ _ (Qb (kp3 rfl rfl rfl) ?_)
 refine Qe fun K hK => Qa rfl (Qlp rfl rfl (fun _ h => QiT Qld h) rfl (.inl rfl) (by simp) (by simp; omega) (by simp; omega) (Qa rfl ?_))
 refine hK _ _ (Qb (kp3 rfl rfl rfl) ?_)
 refine QC ?_ -- 0
 refine Qe fun K hK => Qa rfl ?_
 refine hK _ _ (Qb (kp4 rfl rfl rfl rfl) ?_)
 refine QA ?_
 refine Zq (ι := Nat × List StepT) (fun ⟨n, out⟩ => ⟨[(1, dDb db), (3, .ref 3 0 0), (8, Zw out), (9, .int .i64 n)], [(3, ⟨[[.sl ((w).map YK)]], 1, 26, true⟩)]⟩) (fun ⟨n, out⟩ => n <= w.length * 18 + 1 /\ out.length <= l.length + n /\ QbF w db l = Qbm w db (w.length * 18 + 1 - n) out) (fun ⟨n, out⟩ => w.length * 18 + 1 - n) (0, l) ?_ ?_ ?_
 ·exact le_trans (Qgt (l := [1, 3, 9]) (lH := [3]) 13 8 (kp3 rfl rfl rfl) (Qf rfl Qo) rfl rfl rfl (by simp) rfl rfl rfl rfl) (Q7 (l := [1, 3, 8, 9]) (lH := [3]) (kp4 rfl rfl rfl rfl) (Qf rfl Qo) rfl rfl rfl)
 ·exact ⟨Nat.zero_le _, Nat.le_refl _, rfl⟩
 intro ⟨n, out⟩ hI
 obtain ⟨hI1, hI2, hI3⟩ := hI
 try dsimp only at hI1 hI2 hI3
 try dsimp only
 refine QC ?_ -- 1
 refine Qe fun K hK => Qa rfl (Qh rfl rfl (Qz rfl rfl rfl ?_))
 first | refine QR rfl Q0 ?_ | refine QR rfl rfl ?_
 refine QoP rfl rfl (by first | exact Qp (by omega) (by omega) | rfl) (QoO rfl rfl ?_)
 refine hK _ _ (Qb (kp5 rfl rfl rfl rfl rfl) ?_)
 refine Qw rfl (fun h1 => ?_) (fun h1 => ?_)
 ·try rw [h1]
  try simp only [qa, qb, qc, qd, qe, List.length_map] at h1
  refine Qv (Qd (kp4 rfl rfl rfl rfl) ?_)
  refine QC ?_ -- 2
  refine QA (Qe fun K hK => QH (cs := [_]) rfl rfl rfl rfl (Qa rfl (Qa rfl (QG (XP hw hd hi (by omega)) rfl rfl (.inl rfl) (Qa rfl (QP rfl rfl (QP rfl rfl (Qa rfl (Qa rfl ?_)))))))))
  refine hK _ _ (Qb (kp6 rfl rfl rfl rfl rfl rfl) ?_)
  refine QC ?_ -- 3
  refine Qe fun K hK => Qa rfl (Yb rfl rfl ?_)
  refine hK _ _ (Qb (kp7 rfl rfl rfl rfl rfl rfl rfl) ?_)
  refine Qw rfl (fun h2 => ?_) (fun h2 => ?_)
  ·try rw [h2]
   try simp only [qa, qb, qc, qd, qe, List.length_map] at h2
   try have hu := QiL h2
   refine Qe fun K hK => Qa rfl (Qa rfl (Qa rfl (Qa rfl ?_)))
   refine hK _ _ (Qb (kp2 rfl rfl) ?_)
   refine Qu (Qi (Qr (Qi (QZ (Qr (Qi ?_))))))
   rw [hI3, QaY h2 (by omega)]
   exact QQ rfl rfl ⟨rfl, rfl⟩
  ·try rw [h2]
   try simp only [qa, qb, qc, qd, qe, List.length_map] at h2
   try have hu := QiL h2
   refine Qv (Qd (kp6 rfl rfl rfl rfl rfl rfl) (QN fun K hK => QL (ds0 := [4, 3, 2, 1, 0]) (cs := [_]) rfl rfl rfl rfl rfl rfl (Qa rfl (Qa rfl (QL (ds0 := [7, 6, 4, 3, 2, 1, 0]) (cs := [_]) rfl rfl rfl rfl rfl rfl (Qa rfl (Qa rfl (QJ rfl rfl rfl (by omega) (ZF (by omega) (by omega)) rfl (QW (ds0 := [7, 6, 4, 3, 2, 1, 0]) rfl rfl rfl rfl rfl (Qa rfl ?_))))))))))
   refine QV (ds0 := [6, 4, 3, 2, 1, 0]) (YW hw (hi _ (List.getElem_mem (by omega)))) rfl rfl (.inr rfl) rfl rfl (QT rfl rfl (Qa rfl (QV (ds0 := [3, 2, 1, 0]) (QbC (t := ⟨(Zx w db out).2, Qc2 w (db[(Zx w db out).1.toNat]'(by omega)) (Zx w db out).2⟩) hw (by omega)) rfl rfl (.inl rfl) rfl rfl (Qa rfl (QP rfl rfl (QP rfl rfl (Qa rfl (hK _ ?_))))))))
   refine Qg (Qd (kp4 rfl rfl rfl rfl) (QN fun K hK => Qa rfl (Q3 rfl rfl (by first | exact Qp (by omega) (by omega) | rfl) (Qa rfl (hK _ ?_)))))
   refine Qj (n + 1, (Yh w out ⟨(Zx w db out).2, Qc2 w (db[(Zx w db out).1.toNat]'(by omega)) (Zx w db out).2⟩ (Zx w db out).1).getD []) ?_ ?_ ?_
   ·exact Q7 (l := [1, 3, 8, 9]) (lH := [3]) (kp4 rfl rfl rfl rfl) (Qf rfl Qo) rfl rfl rfl
   ·exact ⟨by omega, by have := Qgk w out ⟨(Zx w db out).2, Qc2 w (db[(Zx w db out).1.toNat]'(by omega)) (Zx w db out).2⟩ (Zx w db out).1; simp only; omega, by rw [hI3, Qky h2 (by omega) (by omega), show w.length * 18 + 1 - (n + 1) = w.length * 18 + 1 - n - 1 by omega]⟩
   ·show w.length * 18 + 1 - (n + 1) < w.length * 18 + 1 - n; omega
 ·try rw [h1]
  try simp only [qa, qb, qc, qd, qe, List.length_map] at h1
  refine Zi (QM (Qy (QI (Qd (kp1 rfl) (Qe fun K hK => Qa rfl (Qa rfl (Qa rfl ?_)))))))
  refine hK _ _ (Qb (kp2 rfl rfl) ?_)
  refine Qu ?_
  rw [hI3, show w.length * 18 + 1 - n = 0 by omega]
  exact QQ rfl rfl ⟨rfl, rfl⟩
theorem QaN {a b : List StepT} (ha : a.length <= 10000000) : Ok Try.prog 13 [Zw a, Zw b] (.bool (decide (a = b))) := by
 refine Ok.ofT Z2 Try.func13 Qq0 (Nat.le_of_ble_eq_true rfl) ?_
 show TW _ _ tf13.body _ _
 refine Qe fun K hK => Qa rfl ?_
 refine hK _ _ (Qb (kp2 rfl rfl) ?_)
 refine QC ?_ -- 0
 refine Qe fun K hK => Qa rfl ?_
 first | refine QR rfl Q0 ?_ | refine QR rfl rfl ?_
 refine Qa rfl ?_
 first | refine QR rfl Q0 ?_ | refine QR rfl rfl ?_
 refine X6 rfl rfl ?_
 refine hK _ _ (Qb (kp3 rfl rfl rfl) ?_)
 refine Qw rfl (fun h1 => ?_) (fun h1 => ?_)
 ·try rw [h1]
  try simp only [qa, qb, qc, qd, qe, List.length_map] at h1
  refine Qe fun K hK => Qa rfl ?_
  refine hK _ _ (Qb (kp1 rfl) ?_)
  refine Qu (Qi (Qs rfl ?_))
  rw [decide_eq_false fun e => h1 (by rw [e])]
 ·try rw [h1]
  try simp only [qa, qb, qc, qd, qe, List.length_map] at h1
  refine Qv (Qd (kp2 rfl rfl) ?_)
  refine QC ?_ -- 1
  refine Qe fun K hK => Qa rfl ?_
  refine hK _ _ (Qb (kp3 rfl rfl rfl) ?_)
  refine QA ?_
  refine Zq (ι := Nat) (fun i => ⟨[(0, Zw a), (1, Zw b), (5, .int .i64 i)], []⟩) (fun i => i <= a.length /\ a.take i = b.take i) (fun i => a.length - i) 0 ?_ ?_ ?_
  ·exact Zc (kp3 rfl rfl rfl)
  ·exact ⟨Nat.zero_le _, by simp⟩
  intro i hI
  try dsimp only
  refine QC ?_ -- 2
  refine Qe fun K hK => Qa rfl (Qa rfl ?_)
  first | refine QR rfl Q0 ?_ | refine QR rfl rfl ?_
  refine Yb rfl rfl ?_
  refine hK _ _ (Qb (kp4 rfl rfl rfl rfl) ?_)
  refine Qw rfl (fun h2 => ?_) (fun h2 => ?_)
  ·try rw [h2]
   try simp only [qa, qb, qc, qd, qe, List.length_map] at h2
   refine Qv (Qd (kp3 rfl rfl rfl) ?_)
   refine QC ?_ -- 3
   refine QA (Qe fun K hK => Qa rfl (Qa rfl (QJ rfl rfl rfl (by omega) (QS (by omega)) rfl (QL (ds0 := [0]) (cs := [_, _, _, _]) rfl rfl rfl rfl rfl rfl (Qa rfl (Qa rfl (QJ rfl rfl rfl (by omega) (QS (by omega)) rfl (QL (ds0 := [0]) (cs := [_, _, _, _]) rfl rfl rfl rfl rfl rfl (Qoe rfl rfl QmU ?_)))))))))
   refine hK _ _ (Qb (kp4 rfl rfl rfl rfl) ?_)
   refine Qw rfl (fun h3 => ?_) (fun h3 => ?_)
   ·try rw [h3]
    try simp only [qa, qb, qc, qd, qe, List.length_map] at h3
    refine Qe fun K hK => Qa rfl ?_
    refine hK _ _ (Qb (kp1 rfl) ?_)
    refine Qu (Qr (Qi (QZ (Qr (Qi (Qs rfl ?_))))))
    rw [QmG (i := i) (by omega) (by omega) h3]
   ·try rw [h3]
    try simp only [qa, qb, qc, qd, qe, List.length_map] at h3
    refine Qv (Qg (Qd (kp3 rfl rfl rfl) (QN fun K hK => Qa rfl (Q3 rfl rfl (by first | exact Qp (by omega) (by omega) | rfl) (Qa rfl (hK _ ?_))))))
    refine Qj (i + 1) ?_ ?_ ?_
    ·exact Zc (kp3 rfl rfl rfl)
    ·exact ⟨by omega, QiW (by omega) (by omega) hI.2 h3⟩
    ·first | omega | (simp only; omega) | (dsimp only; omega)
  ·try rw [h2]
   try simp only [qa, qb, qc, qd, qe, List.length_map] at h2
   refine Zi (QM (Qy (QI (Qd (Q4) (Qe fun K hK => Qa rfl ?_)))))
   refine hK _ _ (Qb (kp1 rfl) ?_)
   refine Qu (Qs rfl ?_)
   rw [List.take_of_length_le (by omega), List.take_of_length_le (by omega)] at hI; exact (decide_eq_true hI.2).symm
theorem Ym {w : Qq} (hw : WSm w) (h0 : 0 < w.length) : Ok Try.prog 7 [Z9 w, Zt []] (dDb (mDB w)) := by
 refine Ok.ofT Z2 Try.func7 tp7 (Nat.le_of_ble_eq_true rfl) ?_
 show TW _ _ tf7.body _ _
 have hn := Qnf hw h0
 refine Qe fun K hK => Zy rfl rfl rfl (Qa rfl ?_)
 refine hK _ _ (Qb (kp2 rfl rfl) ?_)
 refine Qe fun K hK => QH (cs := [_]) rfl rfl rfl rfl (QG (QcT hw) rfl rfl (.inl rfl) (Qa rfl ?_))
 refine hK _ _ (Qb (kp3 rfl rfl rfl) ?_)
 refine Qe fun K hK => Qa rfl ?_
 refine hK _ _ (Qb (kp4 rfl rfl rfl rfl) ?_)
 refine QC ?_ -- 0
 refine Qe fun K hK => Qa rfl ?_
 refine hK _ _ (Qb (kp5 rfl rfl rfl rfl rfl) ?_)
 refine QA ?_
 refine Zq (ι := Nat) (fun i => ⟨[(1, Zt []), (2, .ref 2 0 0), (5, QpS (Qdz w)), (6, .osl 6 (Qnk w i).length), (7, .int .i64 i)], [(2, ⟨[[.sl ((w).map YK)]], 1, 26, true⟩), (6, ⟨(Qnk w i).map (fun t => [ZE t]), 1, 37, true⟩)]⟩) (fun i => i <= (Qdz w).length) (fun i => (Qdz w).length - i) 0 ?_ ?_ ?_
 ·exact le_trans (Yx 6 6 1 37 rfl rfl) (Q7 (l := [1, 2, 5, 6, 7]) (lH := [2, 6]) (kp5 rfl rfl rfl rfl rfl) (Qf rfl (Qf rfl Qo)) rfl rfl rfl)
 ·exact Nat.zero_le _
 intro i hI
 have hlen := Qnl w i
 try dsimp only
 refine QC ?_ -- 1
 refine Qe fun K hK => Qa rfl (Qa rfl ?_)
 first | refine QR rfl Q0 ?_ | refine QR rfl rfl ?_
 refine Yb rfl rfl ?_
 refine hK _ _ (Qb (kp6 rfl rfl rfl rfl rfl rfl) ?_)
 refine Qw rfl (fun h1 => ?_) (fun h1 => ?_)
 ·try rw [h1]
  try simp only [qa, qb, qc, qd, qe, List.length_map, List.length_nil] at h1
  refine Qv (Qd (kp5 rfl rfl rfl rfl rfl) ?_)
  refine QC ?_ -- 2
  refine QA (QN fun K hK => Qa rfl (Qa rfl (Qa rfl (QJ rfl rfl rfl (by omega) (QS (by omega)) rfl (Q9 rfl rfl (Qz rfl rfl rfl (QB rfl rfl (XH rfl rfl (fun _ h => Xo rfl rfl rfl h) rfl (by simp) rfl rfl rfl (by simp; omega) (by simp; omega) (Qa rfl (hK _ ?_))))))))))
  refine Qg (Qd (kp5 rfl rfl rfl rfl rfl) (QN fun K hK => Qa rfl (Q3 rfl rfl (by first | exact Qp (by omega) (by omega) | rfl) (Qa rfl (hK _ ?_)))))
  refine Qj (i + 1) ?_ ?_ ?_
  ·exact Q7 (l := [1, 2, 5, 6, 7]) (lH := [2, 6]) (kp5 rfl rfl rfl rfl rfl) (Qf rfl (Qf rfl Qo)) (by first | (rw [Qg3 (by omega)]; done) | (rw [Qg3 (by omega)]; rfl) | (rw [Qg3 (by omega), List.length_append]; rfl) | (simp [Qg3 (by omega)]; done) | (simp [Qg3 (by omega)]; omega) | rfl) (by first | (rw [Qg3 (by omega)]; done) | (rw [Qg3 (by omega)]; rfl) | (rw [Qg3 (by omega), List.map_append]; rfl) | (simp [Qg3 (by omega)]; done) | rfl) rfl
  ·omega
  ·first | omega | (simp only; omega) | (dsimp only; omega)
 ·try rw [h1]
  try simp only [qa, qb, qc, qd, qe, List.length_map, List.length_nil] at h1
  refine Zi (QM (Qy (QI (Qd (kp3 rfl rfl rfl) ?_))))
  refine QC ?_ -- 3
  refine Qe fun K hK => Qa rfl ?_
  refine hK _ _ (Qb (kp4 rfl rfl rfl rfl) ?_)
  refine QA ?_
  refine Zq (ι := Unit) (fun _ => ⟨[(1, Zt []), (2, .ref 2 0 0), (6, .osl 6 (mDB w).length), (8, .int .i64 0)], [(2, ⟨[[.sl ((w).map YK)]], 1, 26, true⟩), (6, ⟨(mDB w).map (fun t => [ZE t]), 1, 37, true⟩)]⟩) (fun _ => True) (fun _ => 0) () ?_ ?_ ?_
  ·exact Q7 (l := [1, 2, 6, 8]) (lH := [2, 6]) (kp4 rfl rfl rfl rfl) (Qf rfl (Qf rfl Qo)) (by rw [Qom (by omega)]) (by rw [Qom (by omega)]) rfl
  ·trivial
  intro _ hJ
  try dsimp only
  refine QC ?_ -- 4
  refine Qe fun K hK => Qa rfl (Qa rfl ?_)
  first | refine QR rfl Q0 ?_ | refine QR rfl rfl ?_
  refine Yb rfl rfl (Qa rfl ?_)
  refine QF (g := 31) rfl (fun h2 => ?_) (fun h2 => ?_)
  ·try rw [h2]
   try simp only [qa, qb, qc, qd, qe, List.length_map, List.length_nil] at h2
   exact absurd h2 (by decide)
  ·try rw [h2]
   try simp only [qa, qb, qc, qd, qe, List.length_map, List.length_nil] at h2
   refine Qt rfl (Qt rfl (Qt rfl (Qt rfl (Qt rfl (Qn rfl rfl ?_)))))
   refine hK _ _ (Qb (kp5 rfl rfl rfl rfl rfl) ?_)
   refine ZP rfl (Zi (QM (Qy (QI (Qd (kp1 rfl) (Qe fun K hK => Qa rfl (Qa rfl ?_)))))))
   refine hK _ _ (Qb (kp1 rfl) ?_)
   refine Qu ?_
   exact Qco rfl rfl rfl (by simp) (by rfl)
theorem QkN {v : Int} (h0 : -1 <= v) (h1v : v <= 60) : Ok Try.prog 74 [.int .i64 v] (.int .i64 (2 ^ (v + 1).toNat)) := by
 refine Ok.ofT Z2 Try.func74 QrZ (Nat.le_of_ble_eq_true rfl) ?_
 show TW _ _ tf74.body _ _
 refine Qe fun K hK => Qa rfl ?_
 refine hK _ _ (Qb (kp1 rfl) ?_)
 refine Qe fun K hK => Qa rfl (Q3 rfl rfl (by first | exact Qp (by omega) (by omega) | rfl) (QoQ rfl rfl (by omega) (Qm2 (by omega)) (Qa rfl ?_)))
 refine hK _ _ (Qb (kp1 rfl) ?_)
 refine Qu (QE rfl ?_)
 rfl
theorem QkO {w : Qq} (hw : WSm w) {u : Int} : Ok Try.prog 73 [Z9 w, .int .i64 u] (.bool (inW w u)) := by
 refine Ok.ofT Z2 Try.func73 QrY (Nat.le_of_ble_eq_true rfl) ?_
 show TW _ _ tf73.body _ _
 refine Qe fun K hK => Zy rfl rfl rfl (Qa rfl ?_)
 refine hK _ _ (Qb (kp2 rfl rfl) ?_)
 refine Qe fun K hK => Qa rfl (Qew rfl rfl (Qa rfl ?_))
 refine QF (g := 7) rfl (fun h1 => ?_) (fun h1 => ?_)
 ·try rw [h1]
  try simp only [qa, qb, qc, qd, qe, List.length_map] at h1
  refine Qk rfl (Qa rfl (Qk rfl (Qh rfl rfl (Qk rfl (Qz rfl rfl rfl (Qk rfl ?_))))))
  first | refine QR rfl Q0 ?_ | refine QR rfl rfl ?_
  refine Qk rfl (Yb rfl rfl (Qn rfl rfl (Qa rfl ?_)))
  refine hK _ _ (Qb (kp1 rfl) ?_)
  refine Qu (Qs rfl ?_)
  first | rfl | (rw [Qbc (by omega)]; done) | (rw [inW, decide_eq_true h1, Bool.true_and])
 ·try rw [h1]
  try simp only [qa, qb, qc, qd, qe, List.length_map] at h1
  refine Qt rfl (Qt rfl (Qt rfl (Qt rfl (Qt rfl (Qn rfl rfl (Qa rfl ?_))))))
  refine hK _ _ (Qb (kp1 rfl) ?_)
  refine Qu (Qs rfl ?_)
  first | rfl | (rw [Qbc (by omega)]; done) | (rw [inW, decide_eq_true h1, Bool.true_and])
theorem QcY {w : Qq} (hw : WSm w) {u : Int} : Ok Try.prog 52 [Z9 w, .int .i64 u] (.int .i64 (YZ w u)) := by
 refine Ok.ofT Z2 Try.func52 QrD (Nat.le_of_ble_eq_true rfl) ?_
 show TW _ _ tf52.body _ _
 refine Qe fun K hK => Zy rfl rfl rfl (Qa rfl ?_)
 refine hK _ _ (Qb (kp2 rfl rfl) ?_)
 refine QC ?_ -- 0
 refine Qe fun K hK => QH (cs := [_]) rfl rfl rfl rfl (Qa rfl (QG (QkO hw) rfl rfl (.inr rfl) (Yi rfl ?_)))
 refine hK _ _ (Qb (kp3 rfl rfl rfl) ?_)
 refine Qw rfl (fun h1 => ?_) (fun h1 => ?_)
 ·try rw [h1]
  try simp only [qa, qb, qc, qd, qe, List.length_map] at h1
  try have h1b := QbR.1 h1
  refine Qe fun K hK => Qa rfl ?_
  refine hK _ _ (Qb (kp1 rfl) ?_)
  refine Qu (Qi (QE rfl ?_))
  rw [Qfo.2 h1]
 ·try rw [h1]
  try simp only [qa, qb, qc, qd, qe, List.length_map] at h1
  try have h1b := QbR.1 h1
  refine Qv (Qd (kp2 rfl rfl) (Qe fun K hK => Qh rfl rfl (Qz rfl rfl rfl (Qa rfl (QJ rfl rfl rfl (by omega) (ZF (by omega) (by omega)) rfl (Q9 rfl rfl (Qz rfl rfl rfl ?_)))))))
  first | refine QR rfl Q0 ?_ | refine QR rfl rfl ?_
  refine QG (QkN (by omega) (by have := hw.cs _ (List.getElem_mem (show u.toNat < w.length by omega)); omega)) rfl rfl (.inr rfl) (QaA rfl rfl (QiZ (by have := hw.cs _ (List.getElem_mem (show u.toNat < w.length by omega)); omega)) (Qa rfl ?_))
  refine hK _ _ (Qb (kp1 rfl) ?_)
  refine Qu (QE rfl ?_)
  rw [Qhp h1b.1 h1b.2, show min (w[u.toNat]'(by omega)).cs.length 16 = (w[u.toNat]'(by omega)).cs.length from Nat.min_eq_left (hw.cs _ (List.getElem_mem _)), Qm1]
theorem Qh2 {w : Qq} (hw : WSm w) {l : List StepT} (hl : l.length <= 10000000) {u : Int} : Ok Try.prog 75 [Z9 w, Zw l, .int .i64 u] (.int .i64 (Qb3 w l u)) := by
 refine Ok.ofT Z2 Try.func75 Qr0 (Nat.le_of_ble_eq_true rfl) ?_
 show TW _ _ tf75.body _ _
 refine Qe fun K hK => Zy rfl rfl rfl (Qa rfl ?_)
 refine hK _ _ (Qb (kp3 rfl rfl rfl) ?_)
 refine QC ?_ -- 0
 refine Qe fun K hK => Qa rfl ?_
 first | refine QR rfl Q0 ?_ | refine QR rfl rfl ?_
 refine QaA rfl rfl (by first | exact Qp (by omega) (by omega) | rfl) (Qa rfl ?_)
 refine hK _ _ (Qb (kp4 rfl rfl rfl rfl) ?_)
 refine QA ?_
 refine Zq (ι := Nat) (fun i => ⟨[(1, Zw l), (2, .int .i64 u), (3, .ref 3 0 0), (7, .int .i64 ((i : Int) - 1))], [(3, ⟨[[.sl ((w).map YK)]], 1, 26, true⟩)]⟩) (fun i => i <= l.length /\ Qb3 w l u = Qb3 w (l.take i) u) (fun i => i) l.length ?_ ?_ ?_
 ·exact Q7 (l := [1, 2, 3, 7]) (lH := [3]) (kp4 rfl rfl rfl rfl) (Qf rfl Qo) rfl rfl rfl
 ·exact ⟨Nat.le_refl _, by rw [List.take_length]⟩
 intro i hI
 try dsimp only
 refine QC ?_ -- 1
 refine Qe fun K hK => Qa rfl (Qew rfl rfl ?_)
 refine hK _ _ (Qb (kp5 rfl rfl rfl rfl rfl) ?_)
 refine Qw rfl (fun h1 => ?_) (fun h1 => ?_)
 ·try rw [h1]
  try simp only [qa, qb, qc, qd, qe, List.length_map] at h1
  refine Qv (Qd (kp4 rfl rfl rfl rfl) ?_)
  refine QC ?_ -- 2
  refine QA (Qe fun K hK => Qa rfl (Qa rfl (QJ rfl rfl rfl (by omega) (ZF (by omega) (by omega)) rfl (Q9 rfl rfl (Qz rfl rfl rfl (Qa rfl (ZH rfl rfl ?_)))))))
  refine hK _ _ (Qb (kp5 rfl rfl rfl rfl rfl) ?_)
  refine Qw rfl (fun h2 => ?_) (fun h2 => ?_)
  ·try rw [h2]
   try simp only [qa, qb, qc, qd, qe, List.length_map] at h2
   refine Qe fun K hK => Qa rfl (Qa rfl (QJ rfl rfl rfl (by omega) (ZF (by omega) (by omega)) rfl (Q9 rfl rfl (Qz rfl rfl rfl (Qa rfl ?_)))))
   refine hK _ _ (Qb (kp1 rfl) ?_)
   refine Qu (Qr (Qi (QZ (Qr (Qi (QE rfl ?_))))))
   rw [hI.2, Ql4 (k := ((i : Int) - 1).toNat) (by omega) (by omega) h2]
  ·try rw [h2]
   try simp only [qa, qb, qc, qd, qe, List.length_map] at h2
   refine Qv (Qg (Qd (kp4 rfl rfl rfl rfl) (QN fun K hK => Qa rfl (QaA rfl rfl (by first | exact Qp (by omega) (by omega) | rfl) (Qa rfl (hK _ ?_))))))
   refine Qj (i - 1) ?_ ?_ ?_
   ·exact Q7 (l := [1, 2, 3, 7]) (lH := [3]) (kp4 rfl rfl rfl rfl) (Qf rfl Qo) (by simp only [List.cons.injEq, Prod.mk.injEq, D.int.injEq, and_true, true_and]; omega) rfl rfl
   ·exact ⟨by omega, by rw [hI.2, Qk4 (k := ((i : Int) - 1).toNat) (by omega) (by omega) h2]⟩
   ·first | omega | (simp only; omega) | (dsimp only; omega)
 ·try rw [h1]
  try simp only [qa, qb, qc, qd, qe, List.length_map] at h1
  refine Zi (QM (Qy (QI (Qd (kp2 rfl rfl) (Qe fun K hK => QH (cs := [_]) rfl rfl rfl rfl (Qa rfl (QG (QcY hw) rfl rfl (.inr rfl) (Qa rfl ?_))))))))
  refine hK _ _ (Qb (kp1 rfl) ?_)
  refine Qu (QE rfl ?_)
  rw [hI.2, show i = 0 by omega]; rfl
theorem Qh1 {w : Qq} (hw : WSm w) {l : List StepT} (hl : l.length <= 10000000) {u : Int} : Ok Try.prog 53 [Z9 w, Zw l, .int .i64 u] (.int .i64 (Zh w l u)) := by
 refine Ok.ofT Z2 Try.func53 QrE (Nat.le_of_ble_eq_true rfl) ?_
 show TW _ _ tf53.body _ _
 refine Qe fun K hK => Zy rfl rfl rfl (Qa rfl ?_)
 refine hK _ _ (Qb (kp3 rfl rfl rfl) ?_)
 refine QC ?_ -- 0
 refine Qe fun K hK => QH (cs := [_]) rfl rfl rfl rfl (Qa rfl (QG (QcY hw) rfl rfl (.inr rfl) (ZH rfl rfl ?_)))
 refine hK _ _ (Qb (kp4 rfl rfl rfl rfl) ?_)
 refine Qw rfl (fun h1 => ?_) (fun h1 => ?_)
 ·try rw [h1]
  try simp only [qa, qb, qc, qd, qe, List.length_map] at h1
  refine Qe fun K hK => Qa rfl ?_
  refine hK _ _ (Qb (kp1 rfl) ?_)
  refine Qu (Qi (QE rfl ?_))
  rw [Qdy (Qfo.1 h1)]
 ·try rw [h1]
  try simp only [qa, qb, qc, qd, qe, List.length_map] at h1
  refine Qv (Qd (kp3 rfl rfl rfl) (Qe fun K hK => QH (cs := [_]) rfl rfl rfl rfl (Qa rfl (Qa rfl (QG (Qh2 hw hl) rfl rfl (.inr rfl) (Qa rfl ?_))))))
  refine hK _ _ (Qb (kp1 rfl) ?_)
  refine Qu (QE rfl ?_)
  rw [QnE (by simpa using fun e => h1 (Qfo.2 e))]
theorem QgZ {l : List StepT} (hl : l.length <= 10000000) : Ok Try.prog 55 [Zw l] (.int .i64 (Xu l)) := by
 refine Ok.ofT Z2 Try.func55 QrG (Nat.le_of_ble_eq_true rfl) ?_
 show TW _ _ tf55.body _ _
 refine Qe fun K hK => Qa rfl ?_
 refine hK _ _ (Qb (kp1 rfl) ?_)
 refine QC ?_ -- 0
 refine Qe fun K hK => Qa rfl ?_
 first | refine QR rfl Q0 ?_ | refine QR rfl rfl ?_
 refine ZH rfl rfl ?_
 refine hK _ _ (Qb (kp2 rfl rfl) ?_)
 refine Qw rfl (fun h1 => ?_) (fun h1 => ?_)
 ·try rw [h1]
  try simp only [qa, qb, qc, qd, qe, List.length_map] at h1
  refine Qe fun K hK => Qa rfl ?_
  refine hK _ _ (Qb (kp1 rfl) ?_)
  refine Qu (Qi (QE rfl ?_))
  rw [Qip h1]
 ·try rw [h1]
  try simp only [qa, qb, qc, qd, qe, List.length_map] at h1
  refine Qv (Qd (kp1 rfl) (Qe fun K hK => Qa rfl (Qa rfl ?_)))
  first | refine QR rfl Q0 ?_ | refine QR rfl rfl ?_
  refine QaA rfl rfl (by first | exact Qp (by omega) (by omega) | rfl) (QJ rfl rfl rfl (by omega) (ZF (by omega) (by omega)) rfl (Q9 rfl rfl (Qz rfl rfl rfl (Qa rfl ?_))))
  refine hK _ _ (Qb (kp1 rfl) ?_)
  refine Qu (QE rfl ?_)
  rw [Qkc (k := ((l.length : Int) - 1).toNat) (by omega)]
theorem QkP {l : List StepT} (hl : l.length <= 10000000) {s : StepT} : Ok Try.prog 54 [Zw l, .agg (Qfi s)] (Zw (l ++ [s])) := by
 refine Ok.ofT Z2 Try.func54 QrF (Nat.le_of_ble_eq_true rfl) ?_
 show TW _ _ tf54.body _ _
 refine Qe fun K hK => Zy rfl rfl rfl (Qa rfl ?_)
 refine hK _ _ (Qb (kp2 rfl rfl) ?_)
 refine Qe fun K hK => Qa rfl (Qa rfl ?_)
 first | refine QR rfl Q0 ?_ | refine QR rfl rfl ?_
 refine Qa rfl ?_
 first | refine QR rfl Q0 ?_ | refine QR rfl rfl ?_
 refine Qnc rfl rfl rfl rfl rfl (by omega) (by omega) (by simp) Qld (QmN rfl) (QL (ds0 := [2, 1, 0]) (cs := [_, _, _, _]) rfl rfl rfl rfl rfl rfl (QB rfl rfl (QcO (ds0 := [0]) rfl rfl (fun _ h => Xo rfl rfl rfl h) rfl (.inr (by simp)) Qld (by simp; omega) (by simp; omega) rfl rfl (Qa rfl ?_))))
 refine hK _ _ (Qb (kp1 rfl) ?_)
 refine Qu ?_
 exact Qco rfl rfl rfl (by simp) (by simp [Zw, Qfi])
theorem Qf8 {w : Qq} (hw : WSm w) {l : List StepT} (hl : l.length <= 10000000) (hp : Xf w l) {t : TermT} {c : Int} : Ok Try.prog 32 [Z9 w, Zw l, .agg (Qd6 t), .int .i64 c] (dOS (Yh w l t c)) := by
 refine Ok.ofT Z2 Try.func32 Qrj (Nat.le_of_ble_eq_true rfl) ?_
 show TW _ _ tf32.body _ _
 refine Qe fun K hK => Zy rfl rfl rfl (Zy rfl rfl rfl (Qa rfl (Qa rfl ?_)))
 refine hK _ _ (Qb (kp4 rfl rfl rfl rfl) ?_)
 refine Qe fun K hK => QH (cs := [_]) rfl rfl rfl rfl (Qa rfl (Qh rfl rfl (Qz rfl rfl rfl (QG (Qh1 hw hl) rfl rfl (.inr rfl) (Qa rfl ?_)))))
 refine hK _ _ (Qb (kp4 rfl rfl rfl rfl) ?_)
 refine QC ?_ -- 0
 refine Qe fun K hK => Qa rfl (Yb rfl rfl (Qa rfl ?_))
 refine QF (g := 18) rfl (fun h1 => ?_) (fun h1 => ?_)
 ·try rw [h1]
  try simp only [qa, qb, qc, qd, qe, List.length_map] at h1
  refine Qt rfl (Qt rfl (Qt rfl (Qt rfl (Qt rfl (Qn rfl rfl (Qa rfl (Qt rfl (Qt rfl (Qt rfl (Qt rfl (Qt rfl ?_)))))))))))
  refine Qn rfl rfl ?_
  refine hK _ _ (Qb (kp5 rfl rfl rfl rfl rfl) ?_)
  refine Zv rfl (Qe fun K hK => Qa rfl (Qa rfl ?_))
  refine hK _ _ (Qb (kp2 rfl rfl) ?_)
  refine Qu (Qi ?_)
  rw [Qce (.inl h1)]
  exact QQ rfl rfl ⟨rfl, rfl⟩
 ·try rw [h1]
  try simp only [qa, qb, qc, qd, qe, List.length_map] at h1
  refine Qk rfl (Qa rfl (Qk rfl (Qh rfl rfl (Qk rfl (Qz rfl rfl rfl (Qk rfl (QeH rfl rfl (Qk rfl (ZH rfl rfl (Qn rfl rfl (Qa rfl ?_)))))))))))
  refine QF (g := 25) rfl (fun h2 => ?_) (fun h2 => ?_)
  ·try rw [h2]
   try simp only [qa, qb, qc, qd, qe, List.length_map] at h2
   refine Qt rfl (Qt rfl (Qt rfl (Qt rfl (Qt rfl (Qn rfl rfl ?_)))))
   refine hK _ _ (Qb (kp5 rfl rfl rfl rfl rfl) ?_)
   refine Zv rfl (Qe fun K hK => Qa rfl (Qa rfl ?_))
   refine hK _ _ (Qb (kp2 rfl rfl) ?_)
   refine Qu (Qi ?_)
   rw [QlE hp h2]
   exact QQ rfl rfl ⟨rfl, rfl⟩
  ·try rw [h2]
   try simp only [qa, qb, qc, qd, qe, List.length_map] at h2
   refine Qk rfl (Qa rfl (Qk rfl (Qh rfl rfl (Qk rfl (Qz rfl rfl rfl (Qk rfl (QeO rfl rfl (Qk rfl (ZH rfl rfl (Qn rfl rfl ?_))))))))))
   refine hK _ _ (Qb (kp5 rfl rfl rfl rfl rfl) ?_)
   refine Qw rfl (fun h3 => ?_) (fun h3 => ?_)
   ·try rw [h3]
    try simp only [qa, qb, qc, qd, qe, List.length_map] at h3
    refine Qe fun K hK => Qa rfl (Qa rfl ?_)
    refine hK _ _ (Qb (kp2 rfl rfl) ?_)
    refine Qu (Qi ?_)
    rw [QlF h3]
    exact QQ rfl rfl ⟨rfl, rfl⟩
   ·try rw [h3]
    try simp only [qa, qb, qc, qd, qe, List.length_map] at h3
    refine Qv (Qd (kp4 rfl rfl rfl rfl) (Qe fun K hK => Qa rfl (Qh rfl rfl (QW (ds0 := [3, 2, 1]) rfl rfl rfl rfl rfl (Qa rfl (Qh rfl rfl (QW (ds0 := [7, 3, 2, 1]) rfl rfl rfl rfl rfl (QeO rfl rfl (Qa rfl (QV (ds0 := [3, 2, 1]) (QgZ hl) rfl rfl (.inr rfl) rfl rfl ?_))))))))))
    refine Qa rfl (QT rfl rfl (QV (ds0 := [1]) (QkP (s := ⟨t.u, Qf6 (Zh w l t.u) t.m, Xu l, c⟩) hl) rfl rfl (.inl rfl) rfl rfl (Qa rfl (Qa rfl ?_))))
    refine hK _ _ (Qb (kp2 rfl rfl) ?_)
    refine Qu ?_
    rw [Qh8 hp (by omega) h2 h3]
    exact QQ rfl rfl ⟨rfl, rfl⟩
end Go.Proofs
namespace M25
open Go Go.Abs M3
/-! ### prop: what is left of each unit, scans -/
def ZM (w : Qq) (l : List StepT) : List Int := (List.range w.length).map fun k => Zh w l ((k : Nat) : Int)
theorem QaT (w : Qq) (l : List StepT) : (ZM w l).length = w.length := by simp [ZM]
def Qc1 (w : Qq) (i : Nat) : List Int := (List.range w.length).map fun k => if k < i then YZ w ((k : Nat) : Int) else 0
theorem Qil (w : Qq) (i : Nat) : (Qc1 w i).length = w.length := by simp [Qc1]
theorem Qk3 (w : Qq) : Qc1 w 0 = List.replicate w.length 0 := by
  refine List.ext_getElem (by simp [Qc1]) fun i h1 h2 => ?_
  simp [Qc1]
theorem Qj7 {w : Qq} {i : Nat} : Qc1 w (i + 1) = (Qc1 w i).set i (YZ w ((i : Nat) : Int)) := by
  refine List.ext_getElem (by simp [Qc1]) fun k h1 h2 => ?_
  rw [List.getElem_set]
  simp only [Qc1, List.getElem_map, List.getElem_range]
  by_cases e : i = k
  · subst e; simp
  · rw [if_neg e]
    by_cases h : k < i
    · rw [if_pos h, if_pos (by omega)]
    · rw [if_neg h, if_neg (by omega)]
theorem Qik (w : Qq) {i : Nat} (h : w.length <= i) : Qc1 w i = ZM w [] := by
  refine List.ext_getElem (by simp [Qc1, ZM]) fun k h1 h2 => ?_
  simp only [Qc1, ZM, List.getElem_map, List.getElem_range]
  rw [Qil] at h1
  rw [if_pos (by omega)]; rfl
theorem Qka {w : Qq} {l : List StepT} {k : Nat} (h : k < (ZM w l).length) : (ZM w l)[k] = Zh w l ((k : Nat) : Int) := by simp [ZM]
theorem Qgv {w : Qq} {l : List StepT} {s : StepT} (h0 : 0 <= s.u) (h1 : s.u < w.length) : ZM w (l ++ [s]) = (ZM w l).set s.u.toNat s.m := by
  refine List.ext_getElem (by simp [ZM]) fun k q1 q2 => ?_
  rw [List.getElem_set]
  simp only [ZM, List.getElem_map, List.getElem_range]
  rw [QaT] at q1
  rw [QbX]
  by_cases e : s.u.toNat = k
  · rw [if_pos e, if_pos ⟨by omega, Qfx (by omega) (by omega)⟩]
  · rw [if_neg e, if_neg (by intro h; exact e (by omega))]
theorem Qk5 {w : Qq} {l : List StepT} {s : StepT} (h : ¬ 0 <= s.u \/ ¬ s.u < w.length) : ZM w (l ++ [s]) = ZM w l := by
  refine List.ext_getElem (by simp [ZM]) fun k q1 q2 => ?_
  simp only [ZM, List.getElem_map, List.getElem_range]
  rw [QaT] at q1
  rw [QbX, if_neg]
  rintro ⟨h1, _⟩
  omega
theorem Qkb {w : Qq} {l : List StepT} {i : Nat} (h : i < l.length) (h0 : 0 <= l[i].u) (h1 : l[i].u < w.length) : ZM w (l.take (i + 1)) = (ZM w (l.take i)).set l[i].u.toNat l[i].m := by
  rw [List.take_succ_eq_append_getElem h, Qgv h0 h1]
theorem QeW {w : Qq} {l : List StepT} {i : Nat} (h : i < l.length) (hn : ¬ 0 <= l[i].u \/ ¬ l[i].u < w.length) : ZM w (l.take (i + 1)) = ZM w (l.take i) := by
  rw [List.take_succ_eq_append_getElem h, Qk5 hn]
def hAt (hv : List Int) (u : Int) : Int := if 0 <= u /\ u < hv.length then hv.getD u.toNat 0 else 0
theorem Qoo {hv : List Int} {u : Int} (h0 : 0 <= u) (h1 : u < hv.length) : hAt hv u = hv[u.toNat]'(by omega) := by
  rw [hAt, if_pos ⟨h0, h1⟩, List.getD_eq_getElem?_getD, List.getElem?_eq_getElem (by omega)]; rfl
theorem Qjk {hv : List Int} {u : Int} (h : ¬ 0 <= u \/ ¬ u < hv.length) : hAt hv u = 0 := by
  rw [hAt, if_neg]; omega
theorem QlV (w : Qq) (l : List StepT) : hAt (ZM w l) = Zh w l := by
  funext u
  by_cases h : 0 <= u /\ u < w.length
  · rw [Qoo h.1 (by rw [QaT]; exact h.2), Qka, Int.toNat_of_nonneg h.1]
  · rw [Qjk (by rw [QaT]; omega), Qdy]
    exact Qbc (by omega)
def X0 (h : Int -> Int) : List TermT -> Int -> Option Int
  | [], a => some a
  | t :: r, a => if QaE (h t.u) t.m = 0 then none else if QaE (h t.u) t.m = 1 then (if 0 <= a then none else X0 h r t.u) else X0 h r a
theorem Qe2 {h : Int -> Int} {inc : List TermT} {a : Int} {i : Nat} (hi : i < inc.length) : X0 h (inc.drop i) a = if QaE (h inc[i].u) inc[i].m = 0 then none else if QaE (h inc[i].u) inc[i].m = 1 then (if 0 <= a then none else X0 h (inc.drop (i + 1)) inc[i].u) else X0 h (inc.drop (i + 1)) a := by
  rw [List.drop_eq_getElem_cons hi, X0]
theorem Qmn {h : Int -> Int} {inc : List TermT} {a : Int} {i : Nat} (hi : inc.length <= i) : X0 h (inc.drop i) a = some a := by
  rw [List.drop_eq_nil_of_le hi, X0]
def Qc7 (h : Int -> Int) : Nat -> List (List TermT) -> Int × Int
  | _, [] => (-1, -1)
  | i, x :: r => match X0 h x (-1) with
    | some u => ((i : Int), u)
    | none => Qc7 h (i + 1) r
theorem QmJ {h : Int -> Int} {db : List (List TermT)} {i : Nat} (hi : i < db.length) (ho : (X0 h db[i] (-1)).isSome = true) : Qc7 h i (db.drop i) = ((i : Int), (X0 h db[i] (-1)).getD 0) := by
  rw [List.drop_eq_getElem_cons hi, Qc7]
  cases hc : X0 h db[i] (-1) with
  | none => rw [hc] at ho; cases ho
  | some u => rfl
theorem QnZ {h : Int -> Int} {db : List (List TermT)} {i : Nat} (hi : i < db.length) (ho : (X0 h db[i] (-1)).isSome = false) : Qc7 h i (db.drop i) = Qc7 h (i + 1) (db.drop (i + 1)) := by
  rw [List.drop_eq_getElem_cons hi, Qc7]
  cases hc : X0 h db[i] (-1) with
  | none => rfl
  | some u => rw [hc] at ho; cases ho
theorem QmI {h : Int -> Int} {db : List (List TermT)} {i : Nat} (hi : db.length <= i) : Qc7 h i (db.drop i) = (-1, -1) := by rw [List.drop_eq_nil_of_le hi, Qc7]
theorem Qet (m : Int) : ZS 0 m = 2 := by
  rw [ZS, if_pos]
  exact Qcb.2 fun i hi => by rw [QhJ] at hi; cases hi
theorem Qf3 (x m : Int) : ZS x m = 0 \/ ZS x m = 1 \/ ZS x m = 2 := by
  unfold ZS
  split
  · exact .inr (.inr rfl)
  · split
    · exact .inl rfl
    · exact .inr (.inl rfl)
theorem Qen {h : Int -> Int} (hI : ∀ u, I64 (h u)) (hneg : ∀ u, u < 0 -> h u = 0) : ∀ (l : List TermT) (a : Int), (a = -1 \/ 0 <= a) ->
    (∀ b, X0 h l a = some b -> ZN h l a = b /\ (b = a \/ (a = -1 /\ 0 <= b)) /\ (b = a -> ∀ t ∈ l, ZS (h t.u) t.m = 2)) /\ (X0 h l a = none -> ZN h l a = -1 /\ ∃ t ∈ l, ZS (h t.u) t.m ≠ 2)
  | [], a, ha => ⟨fun b hb => by simp only [X0, Option.some.injEq] at hb; subst hb; exact ⟨rfl, .inl rfl, by simp⟩, fun hb => by simp [X0] at hb⟩
  | t :: r, a, ha => by
    rw [X0, ZN, Qn9 (hI t.u)]
    rcases Qf3 (h t.u) t.m with e | e | e
    · simp only [show (ZS (h t.u) t.m = 0) = True from by rw [e]; simp, if_true]
      exact ⟨(fun b hb => by cases hb), fun _ => ⟨by first | rfl | trivial, t, by simp, by rw [e]; decide⟩⟩
    · simp only [show (ZS (h t.u) t.m = 0) = False from by rw [e]; simp, show (ZS (h t.u) t.m = 1) = True from by rw [e]; simp, if_true, if_false]
      have hu : 0 <= t.u := Classical.byContradiction fun hn => by
        rw [hneg t.u (by omega), Qet] at e; cases e
      by_cases h0 : 0 <= a
      · rw [if_pos h0, if_pos h0]
        exact ⟨(fun b hb => by cases hb), fun _ => ⟨rfl, t, by simp, by rw [e]; decide⟩⟩
      · rw [if_neg h0, if_neg h0]
        obtain ⟨q1, q2⟩ := Qen hI hneg r t.u (.inr hu)
        refine ⟨fun b hb => ?_, fun hb => ?_⟩
        · obtain ⟨p1, p2, _⟩ := q1 b hb
          rcases p2 with rfl | ⟨p2, _⟩
          · exact ⟨p1, .inr ⟨by omega, hu⟩, fun e2 => by omega⟩
          · omega
        · exact ⟨(q2 hb).1, t, by simp, by rw [e]; decide⟩
    · simp only [show (ZS (h t.u) t.m = 0) = False from by rw [e]; simp, show (ZS (h t.u) t.m = 1) = False from by rw [e]; simp, if_false]
      obtain ⟨q1, q2⟩ := Qen hI hneg r a ha
      refine ⟨fun b hb => ?_, fun hb => ?_⟩
      · obtain ⟨p1, p2, p3⟩ := q1 b hb
        refine ⟨p1, p2, fun e2 s hs => ?_⟩
        rcases List.mem_cons.1 hs with rfl | hs
        · exact e
        · exact p3 e2 s hs
      · obtain ⟨p1, s, hs, p2⟩ := q2 hb
        exact ⟨p1, s, by simp [hs], p2⟩
theorem Qj9 {w : Qq} {l : List StepT} {u : Int} (h : u < 0) : Zh w l u = 0 := Qdy (Qbc (.inl h))
theorem QhI {w : Qq} {l : List StepT} {inc : List TermT} : Qc4 w l inc = true ↔ ∀ t ∈ inc, ZS (Zh w l t.u) t.m = 2 := by simp [Qc4]
theorem QkA {w : Qq} {l : List StepT} (hp : Xf w l) : ∀ (db : List (List TermT)) (i : Nat), Qc7 (Zh w l) i db = ZW w l i db
  | [], _ => rfl
  | x :: db, i => by
    rw [Qc7, ZW]
    obtain ⟨q1, q2⟩ := Qen (h := Zh w l) (fun u => (QbW hp u).i64) (fun u => Qj9) x (-1) (.inl rfl)
    cases hc : X0 (Zh w l) x (-1) with
    | none =>
      obtain ⟨p1, t, ht, p2⟩ := q2 hc
      rw [if_neg (fun hs => p2 (QhI.1 hs t ht)), if_neg (by show ¬ 0 <= ZN _ _ _; rw [p1]; omega)]
      exact QkA hp db (i + 1)
    | some b =>
      obtain ⟨p1, p2, p3⟩ := q1 b hc
      by_cases hs : Qc4 w l x = true
      · rw [if_pos hs]
        simp only
        rcases p2 with rfl | ⟨_, p2⟩
        · rfl
        · exfalso
          have := QhI.1 hs
          have key : ∀ (r : List TermT), (∀ t ∈ r, ZS (Zh w l t.u) t.m = 2) -> ZN (Zh w l) r (-1) = -1 := by
            intro r
            induction r with
            | nil => intro _; rfl
            | cons t r ih =>
              intro h
              rw [ZN, if_neg (by rw [h t (by simp)]; decide), if_neg (by rw [h t (by simp)]; decide)]
              exact ih fun s hs => h s (by simp [hs])
          rw [key x this] at p1
          omega
      · rw [if_neg hs]
        have hb : b ≠ -1 := fun e => hs (QhI.2 (p3 e))
        have h0 : 0 <= b := by
          rcases p2 with e | ⟨_, e⟩
          · exact absurd e hb
          · exact e
        have hm : Qc3 w l x = b := p1
        rw [hm, if_pos h0]
theorem QmH {w : Qq} {db : List (List TermT)} {l : List StepT} (hp : Xf w l) : Qc7 (hAt (ZM w l)) 0 db = Zx w db l := by rw [QlV, QkA hp]; rfl
theorem Qjv {h : Int -> Int} (hneg : ∀ u, u < 0 -> h u = 0) : ∀ (l : List TermT) (a : Int), 0 <= ZN h l a -> (a = ZN h l a /\ ∀ t ∈ l, ZS (h t.u) t.m = 2) \/ (¬ 0 <= a /\ ∃ k, ∃ hk : k < l.length, l[k].u = ZN h l a /\ ZS (h l[k].u) l[k].m = 1 /\ ∀ j, ∀ hj : j < l.length, j ≠ k -> ZS (h l[j].u) l[j].m = 2)
  | [], a, _ => .inl ⟨rfl, by simp⟩
  | t :: r, a, h0 => by
    rw [ZN] at h0 ⊢
    rcases Qf3 (h t.u) t.m with e | e | e
    · rw [if_pos e] at h0; omega
    · rw [if_neg (by rw [e]; decide), if_pos e] at h0 ⊢
      by_cases ha : 0 <= a
      · rw [if_pos ha] at h0; omega
      · rw [if_neg ha] at h0 ⊢
        rcases Qjv hneg r t.u h0 with ⟨q1, q2⟩ | ⟨q1, k, hk, q2, q3, q4⟩
        · refine .inr ⟨ha, 0, by simp, by simpa using q1, by simpa using e, fun j hj hn => ?_⟩
          obtain ⟨i, rfl⟩ : ∃ i, j = i + 1 := ⟨j - 1, by omega⟩
          simp only [List.getElem_cons_succ]
          exact q2 _ (List.getElem_mem _)
        · rw [hneg t.u (by omega), Qet] at e; cases e
    · rw [if_neg (by rw [e]; decide), if_neg (by rw [e]; decide)] at h0 ⊢
      rcases Qjv hneg r a h0 with ⟨q1, q2⟩ | ⟨q1, k, hk, q2, q3, q4⟩
      · exact .inl ⟨q1, fun s hs => by
          rcases List.mem_cons.1 hs with rfl | hs
          · exact e
          · exact q2 s hs⟩
      · refine .inr ⟨q1, k + 1, by simpa using hk, by simpa using q2, by simpa using q3, fun j hj hn => ?_⟩
        cases j with
        | zero => simpa using e
        | succ j => simp only [List.getElem_cons_succ]; exact q4 j (by simpa using hj) (by omega)
structure OpenAt (w : Qq) (db : List (List TermT)) (l : List StepT) (a : Nat) (k : Nat) : Prop where
  ha : a < db.length
  hk : k < db[a].length
  eq : Zx w db l = ((a : Int), db[a][k].u)
  one : ZS (Zh w l db[a][k].u) db[a][k].m = 1
  two : ∀ j, ∀ hj : j < db[a].length, j ≠ k -> ZS (Zh w l db[a][j].u) db[a][j].m = 2
theorem QdS {w : Qq} {db : List (List TermT)} {l : List StepT} (h : ¬ (Zx w db l).2 < 0) : ∃ a k, OpenAt w db l a k := by
  have h' := h
  unfold Zx at h
  rcases QhE w l db 0 with e | ⟨a, _, ha, ⟨e, _⟩ | ⟨_, h0, e⟩⟩
  · rw [e] at h; simp at h
  · rw [e] at h; simp at h
  · simp only [Nat.sub_zero] at ha h0 e
    rcases Qjv (fun u hu => Qj9 hu) db[a] (-1) h0 with ⟨q1, _⟩ | ⟨_, k, hk, q2, q3, q4⟩
    · have : (0 : Int) <= -1 := by rw [q1]; exact h0
      omega
    · exact ⟨a, k, ha, hk, by rw [Zx, e, q2]; rfl, q3, q4⟩
theorem Qn1 {w : Qq} {db : List (List TermT)} {l : List StepT} (h : (Zx w db l).1 < 0) : (Zx w db l).2 < 0 := by
  refine Classical.byContradiction fun hn => ?_
  obtain ⟨a, k, ho⟩ := QdS hn
  rw [ho.eq] at h; simp only at h; omega
theorem QiX {x m : Int} (h : ZS x m = 1) : QbE x m ≠ 0 /\ ¬ QbE x m = x := by
  unfold ZS at h
  split at h
  · cases h
  · rename_i h1
    split at h
    · cases h
    · rename_i h2; exact ⟨h2, h1⟩
theorem Qoy {w : Qq} {l : List StepT} {u m : Int} (h : ZS (Zh w l u) m = 1) : inW w u = true := by
  cases hw : inW w u
  · rw [Qdy hw, Qet] at h; cases h
  · rfl
theorem QfN {f u : Int} : ∀ {l : List TermT} {k : Nat} (hk : k < l.length), l[k].u = u -> (∀ j, ∀ hj : j < k, (l[j]'(by omega)).u ≠ u) -> Qbw f u l = l[k].m
  | t :: l, 0, _, h, _ => by rw [Qbw, if_pos (by simpa using h)]; rfl
  | t :: l, k + 1, hk, h, hn => by
    have h0 := hn 0 (by omega)
    simp only [List.getElem_cons_zero] at h0
    rw [Qbw, if_neg h0, List.getElem_cons_succ]
    exact QfN (by simpa using hk) (by simpa using h) fun j hj => by
      have := hn (j + 1) (by omega)
      simpa using this
theorem IncOk.uniq {w : Qq} {l : List TermT} (h : IncOk w l) {i j : Nat} (hi : i < l.length) (hj : j < l.length) (e : l[i].u = l[j].u) : i = j := by
  have hp := List.pairwise_iff_getElem.1 h.1
  rcases Nat.lt_trichotomy i j with h1 | h1 | h1
  · have := hp i j hi hj h1; omega
  · exact h1
  · have := hp j i hj hi h1; omega
theorem OpenAt.mask {w : Qq} {db : List (List TermT)} {l : List StepT} {a k : Nat} (h : OpenAt w db l a k) (hi : ∀ x ∈ db, IncOk w x) : Qc2 w (db[a]'h.ha) ((db[a]'h.ha)[k]'h.hk).u = ((db[a]'h.ha)[k]'h.hk).m :=
  QfN h.hk rfl fun j hj e => by
    have := (hi _ (List.getElem_mem h.ha)).uniq (by have := h.hk; omega) h.hk e
    omega
theorem OpenAt.step {w : Qq} {db : List (List TermT)} {l : List StepT} {a k : Nat} (h : OpenAt w db l a k) (hp : Xf w l) : Yh w l ((db[a]'h.ha)[k]'h.hk) a = some (l ++ [⟨((db[a]'h.ha)[k]'h.hk).u, Qf6 (Zh w l ((db[a]'h.ha)[k]'h.hk).u) ((db[a]'h.ha)[k]'h.hk).m, Xu l, a⟩]) := by
  obtain ⟨h1, h2⟩ := QiX h.one
  refine Qh8 hp (by omega) h1 fun e => h2 ?_
  rw [Qal (QbW hp _).i64, <- Qkq]; exact e
theorem QgI {w : Qq} {l : List StepT} {s : StepT} (hp : Xf w l) (hs : Lo s.m) : Xf w (l ++ [s]) := fun t ht => by
  rcases List.mem_append.1 ht with ht | ht
  · exact hp t ht
  · simp only [List.mem_singleton] at ht; subst ht; exact hs
def QeN (w : Qq) (l : List StepT) : Nat -> Nat
  | 0 => 0
  | k + 1 => QeN w l k + (Qbi (Zh w l ((k : Nat) : Int))).length
def tot (w : Qq) (l : List StepT) : Nat := QeN w l w.length
theorem Qm0 (w : Qq) (l : List StepT) : ∀ n, QeN w l n <= 17 * n
  | 0 => Nat.le_refl _
  | n + 1 => by
    have := Qm0 w l n
    have h2 : (Qbi (Zh w l ((n : Nat) : Int))).length <= 17 := Qcf _ 17
    rw [QeN]; omega
theorem QkE {w : Qq} {l : List StepT} {u m lv c : Int} (hp : Xf w l) (hu : inW w u = true) (hm : QbE (Zh w l u) m ≠ 0) : ∀ n, QeN w (l ++ [⟨u, Qf6 (Zh w l u) m, lv, c⟩]) n <= QeN w l n /\ (u < n -> QeN w (l ++ [⟨u, Qf6 (Zh w l u) m, lv, c⟩]) n < QeN w l n)
  | 0 => ⟨Nat.le_refl _, fun h => by rw [QbR] at hu; omega⟩
  | n + 1 => by
    obtain ⟨h1, h2⟩ := QkE (lv := lv) (c := c) hp hu hm n
    rw [QeN, QeN, QbX]
    by_cases e : u = n
    · rw [if_pos ⟨e, by rw [<- e]; exact hu⟩]
      subst e
      have := Qo7 (QbW hp _) hm
      exact ⟨by simp only; omega, fun _ => by simp only; omega⟩
    · rw [if_neg (fun h => e h.1)]
      exact ⟨by omega, fun h => by have := h2 (by omega); omega⟩
theorem Qqd {w : Qq} {l : List StepT} {u m lv c : Int} (hp : Xf w l) (hu : inW w u = true) (hm : QbE (Zh w l u) m ≠ 0) : tot w (l ++ [⟨u, Qf6 (Zh w l u) m, lv, c⟩]) < tot w l :=
  (QkE hp hu hm w.length).2 (by rw [QbR] at hu; omega)
def Qnm (w : Qq) (l : List StepT) (t : TermT) (c : Int) : StepT := ⟨t.u, Qf6 (Zh w l t.u) t.m, Xu l, c⟩
theorem OpenAt.step' {w : Qq} {db : List (List TermT)} {l : List StepT} {a k : Nat} (h : OpenAt w db l a k) (hp : Xf w l) : Yh w l ((db[a]'h.ha)[k]'h.hk) a = some (l ++ [Qnm w l ((db[a]'h.ha)[k]'h.hk) a]) := h.step hp
theorem OpenAt.inW {w : Qq} {db : List (List TermT)} {l : List StepT} {a k : Nat} (h : OpenAt w db l a k) : 0 <= ((db[a]'h.ha)[k]'h.hk).u /\ ((db[a]'h.ha)[k]'h.hk).u < w.length := QbR.1 (Qoy h.one)
theorem OpenAt.go {w : Qq} {db : List (List TermT)} {l : List StepT} {a k : Nat} (h : OpenAt w db l a k) (hp : Xf w l) (hi : ∀ x ∈ db, IncOk w x) {n : Nat} (hn : 0 < n) : Qbm w db n l = Qbm w db (n - 1) (l ++ [Qnm w l ((db[a]'h.ha)[k]'h.hk) a]) := by
  have h2 : ¬ (Zx w db l).2 < 0 := by rw [h.eq]; have := h.inW.1; simp only; omega
  have hd : (Zx w db l).1.toNat < db.length := by rw [h.eq]; simpa using h.ha
  rw [Qky h2 hn hd]
  have e1 : db[(Zx w db l).1.toNat]'hd = db[a]'h.ha := by
    congr 1; rw [h.eq]; simp
  rw [e1, h.eq]
  simp only
  rw [h.mask hi, h.step' hp]; rfl
theorem OpenAt.plain {w : Qq} {db : List (List TermT)} {l : List StepT} {a k : Nat} (h : OpenAt w db l a k) (hp : Xf w l) : Xf w (l ++ [Qnm w l ((db[a]'h.ha)[k]'h.hk) a]) := QgI hp (QpZ (QbW hp _) _)
theorem OpenAt.tot {w : Qq} {db : List (List TermT)} {l : List StepT} {a k : Nat} (h : OpenAt w db l a k) (hp : Xf w l) : M25.tot w (l ++ [Qnm w l ((db[a]'h.ha)[k]'h.hk) a]) < M25.tot w l := Qqd hp (Qoy h.one) (QiX h.one).1
theorem Qio {w : Qq} {l : List StepT} {t : TermT} {c : Int} (h0 : 0 <= t.u) (h1 : t.u < w.length) (h2 : t.u.toNat < (ZM w l).length) : ZM w (l ++ [Qnm w l t c]) = (ZM w l).set t.u.toNat (Qf6 ((ZM w l)[t.u.toNat]) t.m) := by
  rw [Qgv h0 h1, Qka, Int.toNat_of_nonneg h0]; rfl
end M25
