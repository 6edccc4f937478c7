/- Part 5 of the means of the proof: a verified abstract evaluator, the prepared functions, and contracts of functions. It states nothing of the claim by itself. -/
import Derived.Test.YtnkkhniiddjibaaGreatB4
set_option linter.unusedSimpArgs false
set_option linter.unusedVariables false
namespace Go.Proofs
open Go Go.Abs M3 M25
set_option linter.unusedVariables false
set_option linter.unusedSimpArgs false
theorem Qdg {w : Qn} (hw : WSm w) {db : List (List TermT)} (hd : db.length <= 100000000) (hi : ∀ x ∈ db, x.length <= 1000000) {l : List StepT} (hl : l.length <= 1000000) : Ok Tryz.prog 15 [ZI w, dDb db, Zp l] (.tup [Zp (Qa7 w db l).1, .int .i64 (Qa7 w db l).2]) := by
 refine Ok.ofT ZP Tryz.func15 Qsb (Nat.le_of_ble_eq_true rfl) ?_
 show TW _ _ tf15.body _ _
 have hn := hw.len
 refine Qf fun K hK => Zr rfl rfl rfl (Qa rfl (Qa rfl ?_))
 refine hK _ _ (Qb (kp3 rfl rfl rfl) ?_)
 refine Qf fun K hK => Qa rfl (Ql0 rfl rfl (fun _ h => Qlf Qjg h) rfl (.inl rfl) (by simp) (by simp; omega) (by simp; omega) (Qa rfl ?_))
 refine hK _ _ (Qb (kp3 rfl rfl rfl) ?_)
 refine Qz ?_ -- 0
 refine Qf fun K hK => Qa rfl ?_
 refine hK _ _ (Qb (kp4 rfl rfl rfl rfl) ?_)
 refine Qy ?_
 refine Zi (ι := Nat × List StepT) (fun ⟨n, out⟩ => ⟨[(1, dDb db), (3, .ref 3 0 0), (8, Zp out), (9, .int .i64 n)], [(3, ⟨[[.sl ((w).map Z8)]], 1, 26, true⟩)]⟩) (fun ⟨n, out⟩ => n <= w.length * 18 + 1 /\ out.length <= l.length + n /\ Qa7 w db l = QbD w db (w.length * 18 + 1 - n) out) (fun ⟨n, out⟩ => w.length * 18 + 1 - n) (0, l) ?_ ?_ ?_
 ·exact le_trans (QfZ (l := [1, 3, 9]) (lH := [3]) 13 8 (kp3 rfl rfl rfl) (Qe rfl Ql) rfl rfl rfl (by simp) rfl rfl rfl rfl) (QX (l := [1, 3, 8, 9]) (lH := [3]) (kp4 rfl rfl rfl rfl) (Qe rfl Ql) rfl rfl rfl)
 ·exact ⟨Nat.zero_le _, Nat.le_refl _, rfl⟩
 intro ⟨n, out⟩ hI
 obtain ⟨hI1, hI2, hI3⟩ := hI
 try dsimp only at hI1 hI2 hI3
 try dsimp only
 refine Qz ?_ -- 1
 refine Qf fun K hK => Qa rfl (Qh rfl rfl (QC rfl rfl rfl ?_))
 first | refine QO rfl QP ?_ | refine QO rfl rfl ?_
 refine QnT rfl rfl (by first | exact Qq (by omega) (by omega) | rfl) (QoW rfl rfl ?_)
 refine hK _ _ (Qb (kp5 rfl rfl rfl rfl rfl) ?_)
 refine Qw rfl (fun h1 => ?_) (fun h1 => ?_)
 ·try rw [h1]
  try simp only [qa, qb, qc, qd, qe, List.length_map] at h1
  refine Qv (Qd (kp4 rfl rfl rfl rfl) ?_)
  refine Qz ?_ -- 2
  refine Qy (Qf fun K hK => QG (cs := [_]) rfl rfl rfl rfl (Qa rfl (Qa rfl (QH (QcY hw hd hi (by omega)) rfl rfl (.inl rfl) (Qa rfl (QV rfl rfl (QV rfl rfl (Qa rfl (Qa rfl ?_)))))))))
  refine hK _ _ (Qb (kp6 rfl rfl rfl rfl rfl rfl) ?_)
  refine Qz ?_ -- 3
  refine Qf fun K hK => Qa rfl (ZW rfl rfl ?_)
  refine hK _ _ (Qb (kp7 rfl rfl rfl rfl rfl rfl rfl) ?_)
  refine Qw rfl (fun h2 => ?_) (fun h2 => ?_)
  ·try rw [h2]
   try simp only [qa, qb, qc, qd, qe, List.length_map] at h2
   try have hu := Qjj h2
   refine Qf fun K hK => Qa rfl (Qa rfl (Qa rfl (Qa rfl ?_)))
   refine hK _ _ (Qb (kp2 rfl rfl) ?_)
   refine Qu (Qj (Qr (Qj (QW (Qr (Qj ?_))))))
   rw [hI3, QcI h2 (by omega)]
   exact QT rfl rfl ⟨rfl, rfl⟩
  ·try rw [h2]
   try simp only [qa, qb, qc, qd, qe, List.length_map] at h2
   try have hu := Qjj h2
   refine Qv (Qd (kp6 rfl rfl rfl rfl rfl rfl) (QL fun K hK => QN (ds0 := [4, 3, 2, 1, 0]) (cs := [_]) rfl rfl rfl rfl rfl rfl (Qa rfl (Qa rfl (QN (ds0 := [7, 6, 4, 3, 2, 1, 0]) (cs := [_]) rfl rfl rfl rfl rfl rfl (Qa rfl (Qa rfl (QK rfl rfl rfl (by omega) (Zu (by omega) (by omega)) rfl (QR (ds0 := [7, 6, 4, 3, 2, 1, 0]) rfl rfl rfl rfl rfl (Qa rfl ?_))))))))))
   refine QU (ds0 := [6, 4, 3, 2, 1, 0]) (YY hw (hi _ (List.getElem_mem (by omega)))) rfl rfl (.inr rfl) rfl rfl (QZ rfl rfl (Qa rfl (QU (ds0 := [3, 2, 1, 0]) (QbT (t := ⟨(ZD w db out).2, Qdq w (db[(ZD w db out).1.toNat]'(by omega)) (ZD w db out).2⟩) hw (by omega)) rfl rfl (.inl rfl) rfl rfl (Qa rfl (QV rfl rfl (QV rfl rfl (Qa rfl (hK _ ?_))))))))
   refine Qg (Qd (kp4 rfl rfl rfl rfl) (QL fun K hK => Qa rfl (QY rfl rfl (by first | exact Qq (by omega) (by omega) | rfl) (Qa rfl (hK _ ?_)))))
   refine Qi (n + 1, (Yn w out ⟨(ZD w db out).2, Qdq w (db[(ZD w db out).1.toNat]'(by omega)) (ZD w db out).2⟩ (ZD w db out).1).getD []) ?_ ?_ ?_
   ·exact QX (l := [1, 3, 8, 9]) (lH := [3]) (kp4 rfl rfl rfl rfl) (Qe rfl Ql) rfl rfl rfl
   ·exact ⟨by omega, by have := QgP w out ⟨(ZD w db out).2, Qdq w (db[(ZD w db out).1.toNat]'(by omega)) (ZD w db out).2⟩ (ZD w db out).1; simp only; omega, by rw [hI3, Qla h2 (by omega) (by omega), show w.length * 18 + 1 - (n + 1) = w.length * 18 + 1 - n - 1 by omega]⟩
   ·show w.length * 18 + 1 - (n + 1) < w.length * 18 + 1 - n; omega
 ·try rw [h1]
  try simp only [qa, qb, qc, qd, qe, List.length_map] at h1
  refine Za (QJ (Qx (QB (Qd (kp1 rfl) (Qf fun K hK => Qa rfl (Qa rfl (Qa rfl ?_)))))))
  refine hK _ _ (Qb (kp2 rfl rfl) ?_)
  refine Qu ?_
  rw [hI3, show w.length * 18 + 1 - n = 0 by omega]
  exact QT rfl rfl ⟨rfl, rfl⟩
theorem QaY {a b : List StepT} (ha : a.length <= 10000000) : Ok Tryz.prog 18 [Zp a, Zp b] (.bool (decide (a = b))) := by
 refine Ok.ofT ZP Tryz.func18 Qse (Nat.le_of_ble_eq_true rfl) ?_
 show TW _ _ tf18.body _ _
 refine Qf fun K hK => Qa rfl ?_
 refine hK _ _ (Qb (kp2 rfl rfl) ?_)
 refine Qz ?_ -- 0
 refine Qf fun K hK => Qa rfl ?_
 first | refine QO rfl QP ?_ | refine QO rfl rfl ?_
 refine Qa rfl ?_
 first | refine QO rfl QP ?_ | refine QO rfl rfl ?_
 refine X1 rfl rfl ?_
 refine hK _ _ (Qb (kp3 rfl rfl rfl) ?_)
 refine Qw rfl (fun h1 => ?_) (fun h1 => ?_)
 ·try rw [h1]
  try simp only [qa, qb, qc, qd, qe, List.length_map] at h1
  refine Qf fun K hK => Qa rfl ?_
  refine hK _ _ (Qb (kp1 rfl) ?_)
  refine Qu (Qj (Qs rfl ?_))
  rw [decide_eq_false fun e => h1 (by rw [e])]
 ·try rw [h1]
  try simp only [qa, qb, qc, qd, qe, List.length_map] at h1
  refine Qv (Qd (kp2 rfl rfl) ?_)
  refine Qz ?_ -- 1
  refine Qf fun K hK => Qa rfl ?_
  refine hK _ _ (Qb (kp3 rfl rfl rfl) ?_)
  refine Qy ?_
  refine Zi (ι := Nat) (fun i => ⟨[(0, Zp a), (1, Zp b), (5, .int .i64 i)], []⟩) (fun i => i <= a.length /\ a.take i = b.take i) (fun i => a.length - i) 0 ?_ ?_ ?_
  ·exact Zd (kp3 rfl rfl rfl)
  ·exact ⟨Nat.zero_le _, by simp⟩
  intro i hI
  try dsimp only
  refine Qz ?_ -- 2
  refine Qf fun K hK => Qa rfl (Qa rfl ?_)
  first | refine QO rfl QP ?_ | refine QO rfl rfl ?_
  refine ZW rfl rfl ?_
  refine hK _ _ (Qb (kp4 rfl rfl rfl rfl) ?_)
  refine Qw rfl (fun h2 => ?_) (fun h2 => ?_)
  ·try rw [h2]
   try simp only [qa, qb, qc, qd, qe, List.length_map] at h2
   refine Qv (Qd (kp3 rfl rfl rfl) ?_)
   refine Qz ?_ -- 3
   refine Qy (Qf fun K hK => Qa rfl (Qa rfl (QK rfl rfl rfl (by omega) (QS (by omega)) rfl (QN (ds0 := [0]) (cs := [_, _, _, _]) rfl rfl rfl rfl rfl rfl (Qa rfl (Qa rfl (QK rfl rfl rfl (by omega) (QS (by omega)) rfl (QN (ds0 := [0]) (cs := [_, _, _, _]) rfl rfl rfl rfl rfl rfl (QoV rfl rfl Qnz ?_)))))))))
   refine hK _ _ (Qb (kp4 rfl rfl rfl rfl) ?_)
   refine Qw rfl (fun h3 => ?_) (fun h3 => ?_)
   ·try rw [h3]
    try simp only [qa, qb, qc, qd, qe, List.length_map] at h3
    refine Qf fun K hK => Qa rfl ?_
    refine hK _ _ (Qb (kp1 rfl) ?_)
    refine Qu (Qr (Qj (QW (Qr (Qj (Qs rfl ?_))))))
    rw [Qnl (i := i) (by omega) (by omega) h3]
   ·try rw [h3]
    try simp only [qa, qb, qc, qd, qe, List.length_map] at h3
    refine Qv (Qg (Qd (kp3 rfl rfl rfl) (QL fun K hK => Qa rfl (QY rfl rfl (by first | exact Qq (by omega) (by omega) | rfl) (Qa rfl (hK _ ?_))))))
    refine Qi (i + 1) ?_ ?_ ?_
    ·exact Zd (kp3 rfl rfl rfl)
    ·exact ⟨by omega, Qjt (by omega) (by omega) hI.2 h3⟩
    ·first | omega | (simp only; omega) | (dsimp only; omega)
  ·try rw [h2]
   try simp only [qa, qb, qc, qd, qe, List.length_map] at h2
   refine Za (QJ (Qx (QB (Qd (Q2) (Qf fun K hK => Qa rfl ?_)))))
   refine hK _ _ (Qb (kp1 rfl) ?_)
   refine Qu (Qs rfl ?_)
   rw [List.take_of_length_le (by omega), List.take_of_length_le (by omega)] at hI; exact (decide_eq_true hI.2).symm
theorem Qdc {w : Qn} (hw : WSm w) : Ok Tryz.prog 21 [ZI w] (.int .i64 (QqP w)) := by
 refine Ok.ofT ZP Tryz.func21 Qsh (Nat.le_of_ble_eq_true rfl) ?_
 show TW _ _ tf21.body _ _
 have hn := hw.len
 refine Qf fun K hK => Zr rfl rfl rfl (Qa rfl ?_)
 refine hK _ _ (Qb (kp1 rfl) ?_)
 refine Qf fun K hK => Qa rfl ?_
 refine hK _ _ (Qb (kp2 rfl rfl) ?_)
 refine Qz ?_ -- 0
 refine Qf fun K hK => Qa rfl ?_
 refine hK _ _ (Qb (kp3 rfl rfl rfl) ?_)
 refine Qy ?_
 refine Zi (ι := Nat × Int) (fun ⟨i, n⟩ => ⟨[(1, .ref 1 0 0), (3, .int .i64 n), (4, .int .i64 i)], [(1, ⟨[[.sl ((w).map Z8)]], 1, 26, true⟩)]⟩) (fun ⟨i, n⟩ => i <= w.length /\ 1 <= n /\ QqP w = QnP (w.drop i) n) (fun ⟨i, n⟩ => w.length - i) (0, 1) ?_ ?_ ?_
 ·exact QX (l := [1, 3, 4]) (lH := [1]) (kp3 rfl rfl rfl) (Qe rfl Ql) rfl rfl rfl
 ·exact ⟨Nat.zero_le _, Int.le_refl _, rfl⟩
 intro ⟨i, n⟩ hI
 obtain ⟨hI1, hI2, hI3⟩ := hI
 try dsimp only at hI1 hI2 hI3
 try dsimp only
 refine Qz ?_ -- 1
 refine Qf fun K hK => Qa rfl (Qh rfl rfl (QC rfl rfl rfl ?_))
 first | refine QO rfl QP ?_ | refine QO rfl rfl ?_
 refine ZW rfl rfl (Qa rfl ?_)
 refine QF (g := 10) rfl (fun h1 => ?_) (fun h1 => ?_)
 ·try rw [h1]
  try simp only [qa, qb, qc, qd, qe, List.length_map] at h1
  refine Qk rfl (Qa rfl (Qk rfl (ZW rfl rfl (Qm rfl rfl ?_))))
  refine hK _ _ (Qb (kp4 rfl rfl rfl rfl) ?_)
  refine Qw rfl (fun h2 => ?_) (fun h2 => ?_)
  ·try rw [h2]
   try simp only [qa, qb, qc, qd, qe, List.length_map] at h2
   refine Qv (Qd (kp3 rfl rfl rfl) ?_)
   refine Qz ?_ -- 2
   refine Qy (QL fun K hK => Qa rfl (Qh rfl rfl (QC rfl rfl rfl (Qa rfl (QK rfl rfl rfl (by omega) (QS (by omega)) rfl (Q6 rfl rfl (QC rfl rfl rfl ?_)))))))
   first | refine QO rfl QP ?_ | refine QO rfl rfl ?_
   refine QY rfl rfl (Qq (by have := hw.csLen (show i < w.length by omega); omega) (by have := hw.csLen (show i < w.length by omega); omega)) (QnT rfl rfl (Qq (by have := Qqc hI2 h2 (hw.csLen (show i < w.length by omega)); omega) (by have := Qqc hI2 h2 (hw.csLen (show i < w.length by omega)); omega)) (Qa rfl (hK _ ?_)))
   refine Qg (Qd (kp3 rfl rfl rfl) (QL fun K hK => Qa rfl (QY rfl rfl (by first | exact Qq (by omega) (by omega) | rfl) (Qa rfl (hK _ ?_)))))
   refine Qi (i + 1, n * (((w[i]'(by omega)).cs.length : Int) + 1)) ?_ ?_ ?_
   ·exact QX (l := [1, 3, 4]) (lH := [1]) (kp3 rfl rfl rfl) (Qe rfl Ql) rfl rfl rfl
   ·exact ⟨by omega, (Qqc hI2 h2 (hw.csLen (by omega))).1, by rw [hI3, QrA (by omega) h2]⟩
   ·show w.length - (i + 1) < w.length - i; omega
  ·try rw [h2]
   try simp only [qa, qb, qc, qd, qe, List.length_map] at h2
   refine Za (QJ (Qx (QB (Qd (kp1 rfl) (Qf fun K hK => Qa rfl (Qa rfl ?_))))))
   refine hK _ _ (Qb (kp1 rfl) ?_)
   refine Qu (QD rfl ?_)
   rw [hI3, Qq0 (by omega)]
 ·try rw [h1]
  try simp only [qa, qb, qc, qd, qe, List.length_map] at h1
  refine Qt rfl (Qt rfl (Qm rfl rfl ?_))
  refine hK _ _ (Qb (kp4 rfl rfl rfl rfl) ?_)
  refine Zz rfl (Za (QJ (Qx (QB (Qd (kp1 rfl) (Qf fun K hK => Qa rfl (Qa rfl ?_)))))))
  refine hK _ _ (Qb (kp1 rfl) ?_)
  refine Qu (QD rfl ?_)
  rw [hI3, Qq1 (by omega)]
theorem Qb1 {w : Qn} (hw : WSm w) {n : Int} (h0n : 0 <= n) (h1n : n <= 9223372036854775807) : Ok Tryz.prog 22 [ZI w, .int .i64 n] (Zl (QmK w n)) := by
 refine Ok.ofT ZP Tryz.func22 Qsi (Nat.le_of_ble_eq_true rfl) ?_
 show TW _ _ tf22.body _ _
 have hn := hw.len
 refine Qf fun K hK => Zr rfl rfl rfl (Qa rfl ?_)
 refine hK _ _ (Qb (kp2 rfl rfl) ?_)
 refine Qf fun K hK => Qa rfl ?_
 refine hK _ _ (Qb (kp3 rfl rfl rfl) ?_)
 refine Qz ?_ -- 0
 refine Qf fun K hK => Qa rfl ?_
 refine hK _ _ (Qb (kp4 rfl rfl rfl rfl) ?_)
 refine Qy ?_
 refine Zi (ι := Nat) (fun i => ⟨[(1, .int .i64 (chN w n i)), (2, .ref 2 0 0), (5, .osl 5 (chL w n i).length), (6, .int .i64 i)], [(2, ⟨[[.sl ((w).map Z8)]], 1, 26, true⟩), (5, ⟨(chL w n i).map (fun x => [.int .i64 x]), 1, 3, true⟩)]⟩) (fun i => i <= w.length) (fun i => w.length - i) 0 ?_ ?_ ?_
 ·exact le_trans (Yc 5 5 1 3 rfl rfl) (QX (l := [1, 2, 5, 6]) (lH := [2, 5]) (kp4 rfl rfl rfl rfl) (Qe rfl (Qe rfl Ql)) rfl rfl rfl)
 ·exact Nat.zero_le _
 intro i hI
 have hlen := Qmc w n i
 have hbd := Qo6 (w := w) h0n i
 try dsimp only
 refine Qz ?_ -- 1
 refine Qf fun K hK => Qa rfl (Qh rfl rfl (QC rfl rfl rfl ?_))
 first | refine QO rfl QP ?_ | refine QO rfl rfl ?_
 refine ZW rfl rfl ?_
 refine hK _ _ (Qb (kp5 rfl rfl rfl rfl rfl) ?_)
 refine Qw rfl (fun h1 => ?_) (fun h1 => ?_)
 ·try rw [h1]
  try simp only [qa, qb, qc, qd, qe, List.length_map] at h1
  refine Qv (Qd (kp4 rfl rfl rfl rfl) ?_)
  refine Qz ?_ -- 2
  refine Qy (Qf fun K hK => Qh rfl rfl (QC rfl rfl rfl (Qa rfl (QK rfl rfl rfl (by omega) (QS (by omega)) rfl (Q6 rfl rfl (QC rfl rfl rfl ?_))))))
  first | refine QO rfl QP ?_ | refine QO rfl rfl ?_
  refine QY rfl rfl (Qq (by omega) (by have := hw.csLen (show i < w.length by omega); omega)) (Qa rfl ?_)
  refine hK _ _ (Qb (kp5 rfl rfl rfl rfl rfl) ?_)
  refine Qf fun K hK => Qa rfl (Qa rfl (Qa rfl (Ql3 rfl rfl (by omega) (Qas rfl rfl (Qqi (hw.csLen (by omega))) (QE rfl rfl (Xe rfl rfl (fun _ h => YW rfl rfl rfl h) rfl (by simp) rfl rfl rfl (by simp; omega) (by simp; omega) (Qa rfl ?_)))))))
  refine hK _ _ (Qb (kp5 rfl rfl rfl rfl rfl) ?_)
  refine QL fun K hK => Qa rfl (Qa rfl (Qrj rfl rfl (by omega) (Qqh hbd.1 (by omega)) (Qa rfl (hK _ ?_))))
  refine Qg (Qd (kp4 rfl rfl rfl rfl) (QL fun K hK => Qa rfl (QY rfl rfl (by first | exact Qq (by omega) (by omega) | rfl) (Qa rfl (hK _ ?_)))))
  refine Qi (i + 1) ?_ ?_ ?_
  ·exact QX (l := [1, 2, 5, 6]) (lH := [2, 5]) (kp4 rfl rfl rfl rfl) (Qe rfl (Qe rfl Ql)) (by rw [Qo5 (by omega), QqF (by omega), List.length_append]; rfl) (by rw [Qo5 (by omega), List.map_append]; rfl) rfl
  ·omega
  ·first | omega | (simp only; omega) | (dsimp only; omega)
 ·try rw [h1]
  try simp only [qa, qb, qc, qd, qe, List.length_map] at h1
  refine Za (QJ (Qx (QB (Qd (kp1 rfl) (Qf fun K hK => Qa rfl (Qa rfl ?_))))))
  refine hK _ _ (Qb (kp1 rfl) ?_)
  refine Qu ?_
  exact Qaa rfl rfl rfl (by simp) (by rw [QmK, show w.length = i by omega]; rfl)
theorem QdE {w : Qn} (hw : WSm w) {l : List Int} (hL : ∀ x ∈ l, I64 x) (hl : l.length <= 1000000) : Ok Tryz.prog 38 [ZI w, Zl l] (ZC (Qos w l)) := by
 refine Ok.ofT ZP Tryz.func38 Qsx (Nat.le_of_ble_eq_true rfl) ?_
 show TW _ _ tf38.body _ _
 have hn := hw.len
 refine Qf fun K hK => Zr rfl rfl rfl (Qa rfl ?_)
 refine hK _ _ (Qb (kp2 rfl rfl) ?_)
 refine Qf fun K hK => Qa rfl ?_
 refine hK _ _ (Qb (kp3 rfl rfl rfl) ?_)
 refine Qfy (ι := Unit) (fun _ => ⟨[(2, .ref 2 0 0), (5, ZC (QgC w l (min 4 (l.length / 2))))], [(2, ⟨[[.sl ((w).map Z8)]], 1, 26, true⟩)]⟩) (fun _ => True) ?_ ?_
 ·skip
  refine Qf fun K hK => Qa rfl ?_
  refine hK _ _ (Qb (kp4 rfl rfl rfl rfl) ?_)
  refine Qy ?_
  refine Zi (ι := Nat) (fun j => ⟨[(1, Zl l), (2, .ref 2 0 0), (5, .osl 5 (QgC w l j).length), (6, .int .i64 (2 * (j : Int)))], [(2, ⟨[[.sl ((w).map Z8)]], 1, 26, true⟩), (5, ⟨(QgC w l j).map Qdm, 2, 56, true⟩)]⟩) (fun j => j <= min 4 (l.length / 2)) (fun j => min 4 (l.length / 2) - j) 0 ?_ ?_ ?_
  ·exact le_trans (Yc 5 5 2 56 rfl rfl) (QX (l := [1, 2, 5, 6]) (lH := [2, 5]) (kp4 rfl rfl rfl rfl) (Qe rfl (Qe rfl Ql)) rfl rfl rfl)
  ·exact Nat.zero_le _
  intro j hI
  have hlen := Qca w l j
  try dsimp only
  refine Qz ?_ -- 1
  refine Qf fun K hK => Qa rfl (QY rfl rfl (by first | exact Qq (by omega) (by omega) | rfl) (Qa rfl ?_))
  first | refine QO rfl QP ?_ | refine QO rfl rfl ?_
  refine ZW rfl rfl (Qa rfl ?_)
  refine QF (g := 15) rfl (fun h1 => ?_) (fun h1 => ?_)
  ·try rw [h1]
   try simp only [qa, qb, qc, qd, qe, List.length_map] at h1
   refine Qk rfl (Qa rfl (Qk rfl (ZW rfl rfl (Qm rfl rfl ?_))))
   refine hK _ _ (Qb (kp5 rfl rfl rfl rfl rfl) ?_)
   refine Qw rfl (fun h2 => ?_) (fun h2 => ?_)
   ·try rw [h2]
    try simp only [qa, qb, qc, qd, qe, List.length_map] at h2
    refine Qv (Qd (kp4 rfl rfl rfl rfl) ?_)
    refine Qz ?_ -- 2
    refine Qy (Qf fun K hK => Qa rfl (Qa rfl (QK rfl rfl rfl (by omega) (Zu (by omega) (by omega)) rfl (QR (ds0 := [1, 0]) rfl rfl rfl rfl rfl (Qh rfl rfl (QR (ds0 := [2, 1, 0]) rfl rfl rfl rfl rfl ?_))))))
    first | refine QO rfl QP ?_ | refine QO rfl rfl ?_
    refine QU (ds0 := [0]) (Z4 (by omega) (hL _ (List.getElem_mem (by omega)))) rfl rfl (.inr rfl) rfl rfl (Qa rfl ?_)
    refine hK _ _ (Qb (kp5 rfl rfl rfl rfl rfl) ?_)
    refine QL fun K hK => Qa rfl (Qa rfl (Qa rfl (Qa rfl (QY rfl rfl (by first | exact Qq (by omega) (by omega) | rfl) (QK rfl rfl rfl (by omega) (Zu (by omega) (by omega)) rfl (QR (ds0 := [5, 4, 3, 2, 1, 0]) rfl rfl rfl rfl rfl (QN (ds0 := [6, 5, 4, 3, 2, 1, 0]) (cs := [_]) rfl rfl rfl rfl rfl rfl (Qa rfl (QU (ds0 := [5, 4, 3, 2, 1, 0]) (ZA hw) rfl rfl (.inr rfl) rfl rfl (QU (ds0 := [4, 3, 2, 1, 0]) (Z4 (by have := QdZ w (mPl (l[(2 * (j : Int)).toNat]'(by omega)) w.length); omega) (hL _ (List.getElem_mem (by omega)))) rfl rfl (.inr rfl) rfl rfl ?_))))))))))
    refine QY rfl rfl (QoS _ (QdZ _ _).2) (QZ rfl rfl (QE rfl rfl (Qbd (ds0 := [0]) rfl rfl (by simp [D.ids, D.sid]) ⟨_, rfl, rfl, rfl, rfl, rfl⟩ rfl rfl (by simp) rfl rfl (by simp; omega) (by simp; omega) rfl rfl (Qa rfl (hK _ ?_)))))
    refine Qg (Qd (kp4 rfl rfl rfl rfl) (QL fun K hK => Qa rfl (QY rfl rfl (by first | exact Qq (by omega) (by omega) | rfl) (Qa rfl (hK _ ?_)))))
    refine Qi (j + 1) ?_ ?_ ?_
    ·exact le_trans (Qf0 (l := [1, 2, 6]) (lH := [2]) 43 5 5 (kp3 rfl rfl rfl) (Qe rfl Ql) rfl rfl rfl rfl rfl rfl rfl) (QX (l := [1, 2, 5, 6]) (lH := [2, 5]) (kp4 rfl rfl rfl rfl) (Qe rfl (Qe rfl Ql)) (by simp only [List.cons.injEq, Prod.mk.injEq, D.int.injEq, D.osl.injEq, true_and, and_true, Qca]; first | omega | (constructor <;> first | omega | rfl | (simp [Qca]; done))) (by rw [QqL, List.map_append, Qoe (by omega)]; rfl) rfl)
    ·show j + 1 <= _; omega
    ·show min 4 (l.length / 2) - (j + 1) < min 4 (l.length / 2) - j; omega
   ·try rw [h2]
    try simp only [qa, qb, qc, qd, qe, List.length_map] at h2
    refine Za (QJ (Qx (QB ?_)))
    refine Z2 () ?_ ?_
    ·exact le_trans (QfZ (l := [2]) (lH := [2]) 5 5 (kp1 rfl) (Qe rfl Ql) rfl rfl rfl (by first | (simp; done) | (simp; omega)) rfl rfl rfl rfl) (QX (l := [2, 5]) (lH := [2]) (kp2 rfl rfl) (Qe rfl Ql) (by rw [show min 4 (l.length / 2) = j by omega]; rfl) rfl rfl)
    ·exact trivial
  ·try rw [h1]
   try simp only [qa, qb, qc, qd, qe, List.length_map] at h1
   refine Qt rfl (Qt rfl (Qm rfl rfl ?_))
   refine hK _ _ (Qb (kp5 rfl rfl rfl rfl rfl) ?_)
   refine Zz rfl (Za (QJ (Qx (QB ?_))))
   refine Z2 () ?_ ?_
   ·exact le_trans (QfZ (l := [2]) (lH := [2]) 5 5 (kp1 rfl) (Qe rfl Ql) rfl rfl rfl (by first | (simp; done) | (simp; omega)) rfl rfl rfl rfl) (QX (l := [2, 5]) (lH := [2]) (kp2 rfl rfl) (Qe rfl Ql) (by rw [show min 4 (l.length / 2) = j by omega]; rfl) rfl rfl)
   ·exact trivial
 intro _ hJ
 try dsimp only
 refine Qf fun K hK => QG (cs := [_]) rfl rfl rfl rfl (Qa rfl (QH (XU hw (by rw [Qca]; omega)) rfl rfl (.inl rfl) (Qa rfl (QV rfl rfl (QV rfl rfl (Qa rfl (Qa rfl ?_)))))))
 refine hK _ _ (Qb (kp1 rfl) ?_)
 refine Qf fun K hK => Qa rfl (Qa rfl ?_)
 refine hK _ _ (Qb (kp1 rfl) ?_)
 refine Qu (Yj rfl ?_)
 rfl
theorem QaX {w : Qn} (hw : WSm w) (h0 : 0 < w.length) : Ok Tryz.prog 30 [ZI w, Zl []] (dDb (mDB w)) := by
 refine Ok.ofT ZP Tryz.func30 Qr1 (Nat.le_of_ble_eq_true rfl) ?_
 show TW _ _ tf30.body _ _
 have hn := Qkp hw h0
 refine Qf fun K hK => Zr rfl rfl rfl (Qa rfl ?_)
 refine hK _ _ (Qb (kp2 rfl rfl) ?_)
 refine Qf fun K hK => QG (cs := [_]) rfl rfl rfl rfl (QH (Qah hw) rfl rfl (.inl rfl) (Qa rfl ?_))
 refine hK _ _ (Qb (kp3 rfl rfl rfl) ?_)
 refine Qf fun K hK => Qa rfl ?_
 refine hK _ _ (Qb (kp4 rfl rfl rfl rfl) ?_)
 refine Qz ?_ -- 0
 refine Qf fun K hK => Qa rfl ?_
 refine hK _ _ (Qb (kp5 rfl rfl rfl rfl rfl) ?_)
 refine Qy ?_
 refine Zi (ι := Nat) (fun i => ⟨[(1, Zl []), (2, .ref 2 0 0), (5, QpM (Qch w)), (6, .osl 6 (Qmg w i).length), (7, .int .i64 i)], [(2, ⟨[[.sl ((w).map Z8)]], 1, 26, true⟩), (6, ⟨(Qmg w i).map (fun t => [ZC t]), 1, 39, true⟩)]⟩) (fun i => i <= (Qch w).length) (fun i => (Qch w).length - i) 0 ?_ ?_ ?_
 ·exact le_trans (Yc 6 6 1 39 rfl rfl) (QX (l := [1, 2, 5, 6, 7]) (lH := [2, 6]) (kp5 rfl rfl rfl rfl rfl) (Qe rfl (Qe rfl Ql)) rfl rfl rfl)
 ·exact Nat.zero_le _
 intro i hI
 have hlen := Qky w i
 try dsimp only
 refine Qz ?_ -- 1
 refine Qf fun K hK => Qa rfl (Qa rfl ?_)
 first | refine QO rfl QP ?_ | refine QO rfl rfl ?_
 refine ZW rfl rfl ?_
 refine hK _ _ (Qb (kp6 rfl rfl rfl rfl rfl rfl) ?_)
 refine Qw rfl (fun h1 => ?_) (fun h1 => ?_)
 ·try rw [h1]
  try simp only [qa, qb, qc, qd, qe, List.length_map, List.length_nil] at h1
  refine Qv (Qd (kp5 rfl rfl rfl rfl rfl) ?_)
  refine Qz ?_ -- 2
  refine Qy (QL fun K hK => Qa rfl (Qa rfl (Qa rfl (QK rfl rfl rfl (by omega) (QS (by omega)) rfl (Q6 rfl rfl (QC rfl rfl rfl (QE rfl rfl (Xe rfl rfl (fun _ h => YW rfl rfl rfl h) rfl (by simp) rfl rfl rfl (by simp; omega) (by simp; omega) (Qa rfl (hK _ ?_))))))))))
  refine Qg (Qd (kp5 rfl rfl rfl rfl rfl) (QL fun K hK => Qa rfl (QY rfl rfl (by first | exact Qq (by omega) (by omega) | rfl) (Qa rfl (hK _ ?_)))))
  refine Qi (i + 1) ?_ ?_ ?_
  ·exact QX (l := [1, 2, 5, 6, 7]) (lH := [2, 6]) (kp5 rfl rfl rfl rfl rfl) (Qe rfl (Qe rfl Ql)) (by first | (rw [QbU (by omega)]; done) | (rw [QbU (by omega)]; rfl) | (rw [QbU (by omega), List.length_append]; rfl) | (simp [QbU (by omega)]; done) | (simp [QbU (by omega)]; omega) | rfl) (by first | (rw [QbU (by omega)]; done) | (rw [QbU (by omega)]; rfl) | (rw [QbU (by omega), List.map_append]; rfl) | (simp [QbU (by omega)]; done) | rfl) rfl
  ·omega
  ·first | omega | (simp only; omega) | (dsimp only; omega)
 ·try rw [h1]
  try simp only [qa, qb, qc, qd, qe, List.length_map, List.length_nil] at h1
  refine Za (QJ (Qx (QB (Qd (kp3 rfl rfl rfl) ?_))))
  refine Qz ?_ -- 3
  refine Qf fun K hK => Qa rfl ?_
  refine hK _ _ (Qb (kp4 rfl rfl rfl rfl) ?_)
  refine Qy ?_
  refine Zi (ι := Unit) (fun _ => ⟨[(1, Zl []), (2, .ref 2 0 0), (6, .osl 6 (mDB w).length), (8, .int .i64 0)], [(2, ⟨[[.sl ((w).map Z8)]], 1, 26, true⟩), (6, ⟨(mDB w).map (fun t => [ZC t]), 1, 39, true⟩)]⟩) (fun _ => True) (fun _ => 0) () ?_ ?_ ?_
  ·exact QX (l := [1, 2, 6, 8]) (lH := [2, 6]) (kp4 rfl rfl rfl rfl) (Qe rfl (Qe rfl Ql)) (by rw [Qkz (by omega)]) (by rw [Qkz (by omega)]) rfl
  ·trivial
  intro _ hJ
  try dsimp only
  refine Qz ?_ -- 4
  refine Qf fun K hK => Qa rfl (Qa rfl ?_)
  first | refine QO rfl QP ?_ | refine QO rfl rfl ?_
  refine ZW rfl rfl (Qa rfl ?_)
  refine QF (g := 31) rfl (fun h2 => ?_) (fun h2 => ?_)
  ·try rw [h2]
   try simp only [qa, qb, qc, qd, qe, List.length_map, List.length_nil] at h2
   exact absurd h2 (by decide)
  ·try rw [h2]
   try simp only [qa, qb, qc, qd, qe, List.length_map, List.length_nil] at h2
   refine Qt rfl (Qt rfl (Qt rfl (Qt rfl (Qt rfl (Qm rfl rfl ?_)))))
   refine hK _ _ (Qb (kp5 rfl rfl rfl rfl rfl) ?_)
   refine Zz rfl (Za (QJ (Qx (QB (Qd (kp1 rfl) (Qf fun K hK => Qa rfl (Qa rfl ?_)))))))
   refine hK _ _ (Qb (kp1 rfl) ?_)
   refine Qu ?_
   exact Qaa rfl rfl rfl (by simp) (by rfl)
theorem Qlo {v : Int} (h0 : -1 <= v) (h1v : v <= 60) : Ok Tryz.prog 86 [.int .i64 v] (.int .i64 (2 ^ (v + 1).toNat)) := by
 refine Ok.ofT ZP Tryz.func86 Qtj (Nat.le_of_ble_eq_true rfl) ?_
 show TW _ _ tf86.body _ _
 refine Qf fun K hK => Qa rfl ?_
 refine hK _ _ (Qb (kp1 rfl) ?_)
 refine Qf fun K hK => Qa rfl (QY rfl rfl (by first | exact Qq (by omega) (by omega) | rfl) (Qpx rfl rfl (by omega) (QnK (by omega)) (Qa rfl ?_)))
 refine hK _ _ (Qb (kp1 rfl) ?_)
 refine Qu (QD rfl ?_)
 rfl
theorem Qlp {w : Qn} (hw : WSm w) {u : Int} : Ok Tryz.prog 85 [ZI w, .int .i64 u] (.bool (inW w u)) := by
 refine Ok.ofT ZP Tryz.func85 Qti (Nat.le_of_ble_eq_true rfl) ?_
 show TW _ _ tf85.body _ _
 refine Qf fun K hK => Zr rfl rfl rfl (Qa rfl ?_)
 refine hK _ _ (Qb (kp2 rfl rfl) ?_)
 refine Qf fun K hK => Qa rfl (Qen rfl rfl (Qa rfl ?_))
 refine QF (g := 7) rfl (fun h1 => ?_) (fun h1 => ?_)
 ·try rw [h1]
  try simp only [qa, qb, qc, qd, qe, List.length_map] at h1
  refine Qk rfl (Qa rfl (Qk rfl (Qh rfl rfl (Qk rfl (QC rfl rfl rfl (Qk rfl ?_))))))
  first | refine QO rfl QP ?_ | refine QO rfl rfl ?_
  refine Qk rfl (ZW rfl rfl (Qm rfl rfl (Qa rfl ?_)))
  refine hK _ _ (Qb (kp1 rfl) ?_)
  refine Qu (Qs rfl ?_)
  first | rfl | (rw [Qbr (by omega)]; done) | (rw [inW, decide_eq_true h1, Bool.true_and])
 ·try rw [h1]
  try simp only [qa, qb, qc, qd, qe, List.length_map] at h1
  refine Qt rfl (Qt rfl (Qt rfl (Qt rfl (Qt rfl (Qm rfl rfl (Qa rfl ?_))))))
  refine hK _ _ (Qb (kp1 rfl) ?_)
  refine Qu (Qs rfl ?_)
  first | rfl | (rw [Qbr (by omega)]; done) | (rw [inW, decide_eq_true h1, Bool.true_and])
theorem Qdl {w : Qn} (hw : WSm w) {u : Int} : Ok Tryz.prog 63 [ZI w, .int .i64 u] (.int .i64 (Y0 w u)) := by
 refine Ok.ofT ZP Tryz.func63 QsW (Nat.le_of_ble_eq_true rfl) ?_
 show TW _ _ tf63.body _ _
 refine Qf fun K hK => Zr rfl rfl rfl (Qa rfl ?_)
 refine hK _ _ (Qb (kp2 rfl rfl) ?_)
 refine Qz ?_ -- 0
 refine Qf fun K hK => QG (cs := [_]) rfl rfl rfl rfl (Qa rfl (QH (Qlp hw) rfl rfl (.inr rfl) (Z9 rfl ?_)))
 refine hK _ _ (Qb (kp3 rfl rfl rfl) ?_)
 refine Qw rfl (fun h1 => ?_) (fun h1 => ?_)
 ·try rw [h1]
  try simp only [qa, qb, qc, qd, qe, List.length_map] at h1
  try have h1b := Qbq.1 h1
  refine Qf fun K hK => Qa rfl ?_
  refine hK _ _ (Qb (kp1 rfl) ?_)
  refine Qu (Qj (QD rfl ?_))
  rw [QfQ.2 h1]
 ·try rw [h1]
  try simp only [qa, qb, qc, qd, qe, List.length_map] at h1
  try have h1b := Qbq.1 h1
  refine Qv (Qd (kp2 rfl rfl) (Qf fun K hK => Qh rfl rfl (QC rfl rfl rfl (Qa rfl (QK rfl rfl rfl (by omega) (Zu (by omega) (by omega)) rfl (Q6 rfl rfl (QC rfl rfl rfl ?_)))))))
  first | refine QO rfl QP ?_ | refine QO rfl rfl ?_
  refine QH (Qlo (by omega) (by have := hw.cs _ (List.getElem_mem (show u.toNat < w.length by omega)); omega)) rfl rfl (.inr rfl) (Qas rfl rfl (Qjx (by have := hw.cs _ (List.getElem_mem (show u.toNat < w.length by omega)); omega)) (Qa rfl ?_))
  refine hK _ _ (Qb (kp1 rfl) ?_)
  refine Qu (QD rfl ?_)
  rw [QhU h1b.1 h1b.2, show min (w[u.toNat]'(by omega)).cs.length 16 = (w[u.toNat]'(by omega)).cs.length from Nat.min_eq_left (hw.cs _ (List.getElem_mem _)), QnH]
theorem Qix {w : Qn} (hw : WSm w) {l : List StepT} (hl : l.length <= 10000000) {u : Int} : Ok Tryz.prog 88 [ZI w, Zp l, .int .i64 u] (.int .i64 (Qcl w l u)) := by
 refine Ok.ofT ZP Tryz.func88 Qtl (Nat.le_of_ble_eq_true rfl) ?_
 show TW _ _ tf88.body _ _
 refine Qf fun K hK => Zr rfl rfl rfl (Qa rfl ?_)
 refine hK _ _ (Qb (kp3 rfl rfl rfl) ?_)
 refine Qz ?_ -- 0
 refine Qf fun K hK => Qa rfl ?_
 first | refine QO rfl QP ?_ | refine QO rfl rfl ?_
 refine Qas rfl rfl (by first | exact Qq (by omega) (by omega) | rfl) (Qa rfl ?_)
 refine hK _ _ (Qb (kp4 rfl rfl rfl rfl) ?_)
 refine Qy ?_
 refine Zi (ι := Nat) (fun i => ⟨[(1, Zp l), (2, .int .i64 u), (3, .ref 3 0 0), (7, .int .i64 ((i : Int) - 1))], [(3, ⟨[[.sl ((w).map Z8)]], 1, 26, true⟩)]⟩) (fun i => i <= l.length /\ Qcl w l u = Qcl w (l.take i) u) (fun i => i) l.length ?_ ?_ ?_
 ·exact QX (l := [1, 2, 3, 7]) (lH := [3]) (kp4 rfl rfl rfl rfl) (Qe rfl Ql) rfl rfl rfl
 ·exact ⟨Nat.le_refl _, by rw [List.take_length]⟩
 intro i hI
 try dsimp only
 refine Qz ?_ -- 1
 refine Qf fun K hK => Qa rfl (Qen rfl rfl ?_)
 refine hK _ _ (Qb (kp5 rfl rfl rfl rfl rfl) ?_)
 refine Qw rfl (fun h1 => ?_) (fun h1 => ?_)
 ·try rw [h1]
  try simp only [qa, qb, qc, qd, qe, List.length_map] at h1
  refine Qv (Qd (kp4 rfl rfl rfl rfl) ?_)
  refine Qz ?_ -- 2
  refine Qy (Qf fun K hK => Qa rfl (Qa rfl (QK rfl rfl rfl (by omega) (Zu (by omega) (by omega)) rfl (Q6 rfl rfl (QC rfl rfl rfl (Qa rfl (ZL rfl rfl ?_)))))))
  refine hK _ _ (Qb (kp5 rfl rfl rfl rfl rfl) ?_)
  refine Qw rfl (fun h2 => ?_) (fun h2 => ?_)
  ·try rw [h2]
   try simp only [qa, qb, qc, qd, qe, List.length_map] at h2
   refine Qf fun K hK => Qa rfl (Qa rfl (QK rfl rfl rfl (by omega) (Zu (by omega) (by omega)) rfl (Q6 rfl rfl (QC rfl rfl rfl (Qa rfl ?_)))))
   refine hK _ _ (Qb (kp1 rfl) ?_)
   refine Qu (Qr (Qj (QW (Qr (Qj (QD rfl ?_))))))
   rw [hI.2, QmH (k := ((i : Int) - 1).toNat) (by omega) (by omega) h2]
  ·try rw [h2]
   try simp only [qa, qb, qc, qd, qe, List.length_map] at h2
   refine Qv (Qg (Qd (kp4 rfl rfl rfl rfl) (QL fun K hK => Qa rfl (Qas rfl rfl (by first | exact Qq (by omega) (by omega) | rfl) (Qa rfl (hK _ ?_))))))
   refine Qi (i - 1) ?_ ?_ ?_
   ·exact QX (l := [1, 2, 3, 7]) (lH := [3]) (kp4 rfl rfl rfl rfl) (Qe rfl Ql) (by simp only [List.cons.injEq, Prod.mk.injEq, D.int.injEq, and_true, true_and]; omega) rfl rfl
   ·exact ⟨by omega, by rw [hI.2, QlF (k := ((i : Int) - 1).toNat) (by omega) (by omega) h2]⟩
   ·first | omega | (simp only; omega) | (dsimp only; omega)
 ·try rw [h1]
  try simp only [qa, qb, qc, qd, qe, List.length_map] at h1
  refine Za (QJ (Qx (QB (Qd (kp2 rfl rfl) (Qf fun K hK => QG (cs := [_]) rfl rfl rfl rfl (Qa rfl (QH (Qdl hw) rfl rfl (.inr rfl) (Qa rfl ?_))))))))
  refine hK _ _ (Qb (kp1 rfl) ?_)
  refine Qu (QD rfl ?_)
  rw [hI.2, show i = 0 by omega]; rfl
theorem Qiw {w : Qn} (hw : WSm w) {l : List StepT} (hl : l.length <= 10000000) {u : Int} : Ok Tryz.prog 65 [ZI w, Zp l, .int .i64 u] (.int .i64 (Zg w l u)) := by
 refine Ok.ofT ZP Tryz.func65 QsY (Nat.le_of_ble_eq_true rfl) ?_
 show TW _ _ tf65.body _ _
 refine Qf fun K hK => Zr rfl rfl rfl (Qa rfl ?_)
 refine hK _ _ (Qb (kp3 rfl rfl rfl) ?_)
 refine Qz ?_ -- 0
 refine Qf fun K hK => QG (cs := [_]) rfl rfl rfl rfl (Qa rfl (QH (Qdl hw) rfl rfl (.inr rfl) (ZL rfl rfl ?_)))
 refine hK _ _ (Qb (kp4 rfl rfl rfl rfl) ?_)
 refine Qw rfl (fun h1 => ?_) (fun h1 => ?_)
 ·try rw [h1]
  try simp only [qa, qb, qc, qd, qe, List.length_map] at h1
  refine Qf fun K hK => Qa rfl ?_
  refine hK _ _ (Qb (kp1 rfl) ?_)
  refine Qu (Qj (QD rfl ?_))
  rw [QdW (QfQ.1 h1)]
 ·try rw [h1]
  try simp only [qa, qb, qc, qd, qe, List.length_map] at h1
  refine Qv (Qd (kp3 rfl rfl rfl) (Qf fun K hK => QG (cs := [_]) rfl rfl rfl rfl (Qa rfl (Qa rfl (QH (Qix hw hl) rfl rfl (.inr rfl) (Qa rfl ?_))))))
  refine hK _ _ (Qb (kp1 rfl) ?_)
  refine Qu (QD rfl ?_)
  rw [Qol (by simpa using fun e => h1 (QfQ.2 e))]
theorem Qhw {l : List StepT} (hl : l.length <= 10000000) : Ok Tryz.prog 67 [Zp l] (.int .i64 (Xz l)) := by
 refine Ok.ofT ZP Tryz.func67 Qs0 (Nat.le_of_ble_eq_true rfl) ?_
 show TW _ _ tf67.body _ _
 refine Qf fun K hK => Qa rfl ?_
 refine hK _ _ (Qb (kp1 rfl) ?_)
 refine Qz ?_ -- 0
 refine Qf fun K hK => Qa rfl ?_
 first | refine QO rfl QP ?_ | refine QO rfl rfl ?_
 refine ZL rfl rfl ?_
 refine hK _ _ (Qb (kp2 rfl rfl) ?_)
 refine Qw rfl (fun h1 => ?_) (fun h1 => ?_)
 ·try rw [h1]
  try simp only [qa, qb, qc, qd, qe, List.length_map] at h1
  refine Qf fun K hK => Qa rfl ?_
  refine hK _ _ (Qb (kp1 rfl) ?_)
  refine Qu (Qj (QD rfl ?_))
  rw [QiU h1]
 ·try rw [h1]
  try simp only [qa, qb, qc, qd, qe, List.length_map] at h1
  refine Qv (Qd (kp1 rfl) (Qf fun K hK => Qa rfl (Qa rfl ?_)))
  first | refine QO rfl QP ?_ | refine QO rfl rfl ?_
  refine Qas rfl rfl (by first | exact Qq (by omega) (by omega) | rfl) (QK rfl rfl rfl (by omega) (Zu (by omega) (by omega)) rfl (Q6 rfl rfl (QC rfl rfl rfl (Qa rfl ?_))))
  refine hK _ _ (Qb (kp1 rfl) ?_)
  refine Qu (QD rfl ?_)
  rw [QkP (k := ((l.length : Int) - 1).toNat) (by omega)]
theorem Qlq {l : List StepT} (hl : l.length <= 10000000) {s : StepT} : Ok Tryz.prog 66 [Zp l, .agg (QfK s)] (Zp (l ++ [s])) := by
 refine Ok.ofT ZP Tryz.func66 QsZ (Nat.le_of_ble_eq_true rfl) ?_
 show TW _ _ tf66.body _ _
 refine Qf fun K hK => Zr rfl rfl rfl (Qa rfl ?_)
 refine hK _ _ (Qb (kp2 rfl rfl) ?_)
 refine Qf fun K hK => Qa rfl (Qa rfl ?_)
 first | refine QO rfl QP ?_ | refine QO rfl rfl ?_
 refine Qa rfl ?_
 first | refine QO rfl QP ?_ | refine QO rfl rfl ?_
 refine QnV rfl rfl rfl rfl rfl (by omega) (by omega) (by simp) Qjg (Qns rfl) (QN (ds0 := [2, 1, 0]) (cs := [_, _, _, _]) rfl rfl rfl rfl rfl rfl (QE rfl rfl (Qeo (ds0 := [0]) rfl rfl (fun _ h => YW rfl rfl rfl h) rfl (.inr (by simp)) Qjg (by simp; omega) (by simp; omega) rfl rfl (Qa rfl ?_))))
 refine hK _ _ (Qb (kp1 rfl) ?_)
 refine Qu ?_
 exact Qaa rfl rfl rfl (by simp) (by simp [Zp, QfK])
theorem Qgz {w : Qn} (hw : WSm w) {l : List StepT} (hl : l.length <= 10000000) (hp : Y8 w l) {t : TermT} {c : Int} : Ok Tryz.prog 43 [ZI w, Zp l, .agg (Qdm t), .int .i64 c] (dOS (Yn w l t c)) := by
 refine Ok.ofT ZP Tryz.func43 QsC (Nat.le_of_ble_eq_true rfl) ?_
 show TW _ _ tf43.body _ _
 refine Qf fun K hK => Zr rfl rfl rfl (Zr rfl rfl rfl (Qa rfl (Qa rfl ?_)))
 refine hK _ _ (Qb (kp4 rfl rfl rfl rfl) ?_)
 refine Qf fun K hK => QG (cs := [_]) rfl rfl rfl rfl (Qa rfl (Qh rfl rfl (QC rfl rfl rfl (QH (Qiw hw hl) rfl rfl (.inr rfl) (Qa rfl ?_)))))
 refine hK _ _ (Qb (kp4 rfl rfl rfl rfl) ?_)
 refine Qz ?_ -- 0
 refine Qf fun K hK => Qa rfl (ZW rfl rfl (Qa rfl ?_))
 refine QF (g := 18) rfl (fun h1 => ?_) (fun h1 => ?_)
 ·try rw [h1]
  try simp only [qa, qb, qc, qd, qe, List.length_map] at h1
  refine Qt rfl (Qt rfl (Qt rfl (Qt rfl (Qt rfl (Qm rfl rfl (Qa rfl (Qt rfl (Qt rfl (Qt rfl (Qt rfl (Qt rfl ?_)))))))))))
  refine Qm rfl rfl ?_
  refine hK _ _ (Qb (kp5 rfl rfl rfl rfl rfl) ?_)
  refine Zs rfl (Qf fun K hK => Qa rfl (Qa rfl ?_))
  refine hK _ _ (Qb (kp2 rfl rfl) ?_)
  refine Qu (Qj ?_)
  rw [Qcx (.inl h1)]
  exact QT rfl rfl ⟨rfl, rfl⟩
 ·try rw [h1]
  try simp only [qa, qb, qc, qd, qe, List.length_map] at h1
  refine Qk rfl (Qa rfl (Qk rfl (Qh rfl rfl (Qk rfl (QC rfl rfl rfl (Qk rfl (Qdy rfl rfl (Qk rfl (ZL rfl rfl (Qm rfl rfl (Qa rfl ?_)))))))))))
  refine QF (g := 25) rfl (fun h2 => ?_) (fun h2 => ?_)
  ·try rw [h2]
   try simp only [qa, qb, qc, qd, qe, List.length_map] at h2
   refine Qt rfl (Qt rfl (Qt rfl (Qt rfl (Qt rfl (Qm rfl rfl ?_)))))
   refine hK _ _ (Qb (kp5 rfl rfl rfl rfl rfl) ?_)
   refine Zs rfl (Qf fun K hK => Qa rfl (Qa rfl ?_))
   refine hK _ _ (Qb (kp2 rfl rfl) ?_)
   refine Qu (Qj ?_)
   rw [Qmi hp h2]
   exact QT rfl rfl ⟨rfl, rfl⟩
  ·try rw [h2]
   try simp only [qa, qb, qc, qd, qe, List.length_map] at h2
   refine Qk rfl (Qa rfl (Qk rfl (Qh rfl rfl (Qk rfl (QC rfl rfl rfl (Qk rfl (Qfc rfl rfl (Qk rfl (ZL rfl rfl (Qm rfl rfl ?_))))))))))
   refine hK _ _ (Qb (kp5 rfl rfl rfl rfl rfl) ?_)
   refine Qw rfl (fun h3 => ?_) (fun h3 => ?_)
   ·try rw [h3]
    try simp only [qa, qb, qc, qd, qe, List.length_map] at h3
    refine Qf fun K hK => Qa rfl (Qa rfl ?_)
    refine hK _ _ (Qb (kp2 rfl rfl) ?_)
    refine Qu (Qj ?_)
    rw [Qmj h3]
    exact QT rfl rfl ⟨rfl, rfl⟩
   ·try rw [h3]
    try simp only [qa, qb, qc, qd, qe, List.length_map] at h3
    refine Qv (Qd (kp4 rfl rfl rfl rfl) (Qf fun K hK => Qa rfl (Qh rfl rfl (QR (ds0 := [3, 2, 1]) rfl rfl rfl rfl rfl (Qa rfl (Qh rfl rfl (QR (ds0 := [7, 3, 2, 1]) rfl rfl rfl rfl rfl (Qfc rfl rfl (Qa rfl (QU (ds0 := [3, 2, 1]) (Qhw hl) rfl rfl (.inr rfl) rfl rfl ?_))))))))))
    refine Qa rfl (QZ rfl rfl (QU (ds0 := [1]) (Qlq (s := ⟨t.u, Qe4 (Zg w l t.u) t.m, Xz l, c⟩) hl) rfl rfl (.inl rfl) rfl rfl (Qa rfl (Qa rfl ?_))))
    refine hK _ _ (Qb (kp2 rfl rfl) ?_)
    refine Qu ?_
    rw [QiD hp (by omega) h2 h3]
    exact QT rfl rfl ⟨rfl, rfl⟩
end Go.Proofs
namespace M25
open Go Go.Abs M3
/-! ### prop: what is left of each unit, scans -/
def ZR (w : Qn) (l : List StepT) : List Int := (List.range w.length).map fun k => Zg w l ((k : Nat) : Int)
theorem Qa5 (w : Qn) (l : List StepT) : (ZR w l).length = w.length := by simp [ZR]
def Qdp (w : Qn) (i : Nat) : List Int := (List.range w.length).map fun k => if k < i then Y0 w ((k : Nat) : Int) else 0
theorem QiQ (w : Qn) (i : Nat) : (Qdp w i).length = w.length := by simp [Qdp]
theorem QlE (w : Qn) : Qdp w 0 = List.replicate w.length 0 := by
  refine List.ext_getElem (by simp [Qdp]) fun i h1 h2 => ?_
  simp [Qdp]
theorem QkK {w : Qn} {i : Nat} : Qdp w (i + 1) = (Qdp w i).set i (Y0 w ((i : Nat) : Int)) := by
  refine List.ext_getElem (by simp [Qdp]) fun k h1 h2 => ?_
  rw [List.getElem_set]
  simp only [Qdp, List.getElem_map, List.getElem_range]
  by_cases e : i = k
  · subst e; simp
  · rw [if_neg e]
    by_cases h : k < i
    · rw [if_pos h, if_pos (by omega)]
    · rw [if_neg h, if_neg (by omega)]
theorem QiP (w : Qn) {i : Nat} (h : w.length <= i) : Qdp w i = ZR w [] := by
  refine List.ext_getElem (by simp [Qdp, ZR]) fun k h1 h2 => ?_
  simp only [Qdp, ZR, List.getElem_map, List.getElem_range]
  rw [QiQ] at h1
  rw [if_pos (by omega)]; rfl
theorem QkN {w : Qn} {l : List StepT} {k : Nat} (h : k < (ZR w l).length) : (ZR w l)[k] = Zg w l ((k : Nat) : Int) := by simp [ZR]
theorem QgZ {w : Qn} {l : List StepT} {s : StepT} (h0 : 0 <= s.u) (h1 : s.u < w.length) : ZR w (l ++ [s]) = (ZR w l).set s.u.toNat s.m := by
  refine List.ext_getElem (by simp [ZR]) fun k q1 q2 => ?_
  rw [List.getElem_set]
  simp only [ZR, List.getElem_map, List.getElem_range]
  rw [Qa5] at q1
  rw [Qa4]
  by_cases e : s.u.toNat = k
  · rw [if_pos e, if_pos ⟨by omega, Qc7 (by omega) (by omega)⟩]
  · rw [if_neg e, if_neg (by intro h; exact e (by omega))]
theorem QlG {w : Qn} {l : List StepT} {s : StepT} (h : ¬ 0 <= s.u \/ ¬ s.u < w.length) : ZR w (l ++ [s]) = ZR w l := by
  refine List.ext_getElem (by simp [ZR]) fun k q1 q2 => ?_
  simp only [ZR, List.getElem_map, List.getElem_range]
  rw [Qa5] at q1
  rw [Qa4, if_neg]
  rintro ⟨h1, _⟩
  omega
theorem QkO {w : Qn} {l : List StepT} {i : Nat} (h : i < l.length) (h0 : 0 <= l[i].u) (h1 : l[i].u < w.length) : ZR w (l.take (i + 1)) = (ZR w (l.take i)).set l[i].u.toNat l[i].m := by
  rw [List.take_succ_eq_append_getElem h, QgZ h0 h1]
theorem Qfk {w : Qn} {l : List StepT} {i : Nat} (h : i < l.length) (hn : ¬ 0 <= l[i].u \/ ¬ l[i].u < w.length) : ZR w (l.take (i + 1)) = ZR w (l.take i) := by
  rw [List.take_succ_eq_append_getElem h, QlG hn]
def hAt (hv : List Int) (u : Int) : Int := if 0 <= u /\ u < hv.length then hv.getD u.toNat 0 else 0
theorem Qo8 {hv : List Int} {u : Int} (h0 : 0 <= u) (h1 : u < hv.length) : hAt hv u = hv[u.toNat]'(by omega) := by
  rw [hAt, if_pos ⟨h0, h1⟩, List.getD_eq_getElem?_getD, List.getElem?_eq_getElem (by omega)]; rfl
theorem QjT {hv : List Int} {u : Int} (h : ¬ 0 <= u \/ ¬ u < hv.length) : hAt hv u = 0 := by
  rw [hAt, if_neg]; omega
theorem Qmz (w : Qn) (l : List StepT) : hAt (ZR w l) = Zg w l := by
  funext u
  by_cases h : 0 <= u /\ u < w.length
  · rw [Qo8 h.1 (by rw [Qa5]; exact h.2), QkN, Int.toNat_of_nonneg h.1]
  · rw [QjT (by rw [Qa5]; omega), QdW]
    exact Qbr (by omega)
def X8 (h : Int -> Int) : List TermT -> Int -> Option Int
  | [], a => some a
  | t :: r, a => if QaO (h t.u) t.m = 0 then none else if QaO (h t.u) t.m = 1 then (if 0 <= a then none else X8 h r t.u) else X8 h r a
theorem Qfr {h : Int -> Int} {inc : List TermT} {a : Int} {i : Nat} (hi : i < inc.length) : X8 h (inc.drop i) a = if QaO (h inc[i].u) inc[i].m = 0 then none else if QaO (h inc[i].u) inc[i].m = 1 then (if 0 <= a then none else X8 h (inc.drop (i + 1)) inc[i].u) else X8 h (inc.drop (i + 1)) a := by
  rw [List.drop_eq_getElem_cons hi, X8]
theorem Qm4 {h : Int -> Int} {inc : List TermT} {a : Int} {i : Nat} (hi : inc.length <= i) : X8 h (inc.drop i) a = some a := by
  rw [List.drop_eq_nil_of_le hi, X8]
def Qdu (h : Int -> Int) : Nat -> List (List TermT) -> Int × Int
  | _, [] => (-1, -1)
  | i, x :: r => match X8 h x (-1) with
    | some u => ((i : Int), u)
    | none => Qdu h (i + 1) r
theorem Qno {h : Int -> Int} {db : List (List TermT)} {i : Nat} (hi : i < db.length) (ho : (X8 h db[i] (-1)).isSome = true) : Qdu h i (db.drop i) = ((i : Int), (X8 h db[i] (-1)).getD 0) := by
  rw [List.drop_eq_getElem_cons hi, Qdu]
  cases hc : X8 h db[i] (-1) with
  | none => rw [hc] at ho; cases ho
  | some u => rfl
theorem QoH {h : Int -> Int} {db : List (List TermT)} {i : Nat} (hi : i < db.length) (ho : (X8 h db[i] (-1)).isSome = false) : Qdu h i (db.drop i) = Qdu h (i + 1) (db.drop (i + 1)) := by
  rw [List.drop_eq_getElem_cons hi, Qdu]
  cases hc : X8 h db[i] (-1) with
  | none => rfl
  | some u => rw [hc] at ho; cases ho
theorem Qnn {h : Int -> Int} {db : List (List TermT)} {i : Nat} (hi : db.length <= i) : Qdu h i (db.drop i) = (-1, -1) := by rw [List.drop_eq_nil_of_le hi, Qdu]
theorem QeR (m : Int) : ZO 0 m = 2 := by
  rw [ZO, if_pos]
  exact Y5.2 fun i hi => by rw [Qgu] at hi; cases hi
theorem Qgv (x m : Int) : ZO x m = 0 \/ ZO x m = 1 \/ ZO x m = 2 := by
  unfold ZO
  split
  · exact .inr (.inr rfl)
  · split
    · exact .inl rfl
    · exact .inr (.inl rfl)
theorem QeL {h : Int -> Int} (hI : ∀ u, I64 (h u)) (hneg : ∀ u, u < 0 -> h u = 0) : ∀ (l : List TermT) (a : Int), (a = -1 \/ 0 <= a) ->
    (∀ b, X8 h l a = some b -> ZS h l a = b /\ (b = a \/ (a = -1 /\ 0 <= b)) /\ (b = a -> ∀ t ∈ l, ZO (h t.u) t.m = 2)) /\ (X8 h l a = none -> ZS h l a = -1 /\ ∃ t ∈ l, ZO (h t.u) t.m ≠ 2)
  | [], a, ha => ⟨fun b hb => by simp only [X8, Option.some.injEq] at hb; subst hb; exact ⟨rfl, .inl rfl, by simp⟩, fun hb => by simp [X8] at hb⟩
  | t :: r, a, ha => by
    rw [X8, ZS, QoP (hI t.u)]
    rcases Qgv (h t.u) t.m with e | e | e
    · simp only [show (ZO (h t.u) t.m = 0) = True from by rw [e]; simp, if_true]
      exact ⟨(fun b hb => by cases hb), fun _ => ⟨by first | rfl | trivial, t, by simp, by rw [e]; decide⟩⟩
    · simp only [show (ZO (h t.u) t.m = 0) = False from by rw [e]; simp, show (ZO (h t.u) t.m = 1) = True from by rw [e]; simp, if_true, if_false]
      have hu : 0 <= t.u := Classical.byContradiction fun hn => by
        rw [hneg t.u (by omega), QeR] at e; cases e
      by_cases h0 : 0 <= a
      · rw [if_pos h0, if_pos h0]
        exact ⟨(fun b hb => by cases hb), fun _ => ⟨rfl, t, by simp, by rw [e]; decide⟩⟩
      · rw [if_neg h0, if_neg h0]
        obtain ⟨q1, q2⟩ := QeL hI hneg r t.u (.inr hu)
        refine ⟨fun b hb => ?_, fun hb => ?_⟩
        · obtain ⟨p1, p2, _⟩ := q1 b hb
          rcases p2 with rfl | ⟨p2, _⟩
          · exact ⟨p1, .inr ⟨by omega, hu⟩, fun e2 => by omega⟩
          · omega
        · exact ⟨(q2 hb).1, t, by simp, by rw [e]; decide⟩
    · simp only [show (ZO (h t.u) t.m = 0) = False from by rw [e]; simp, show (ZO (h t.u) t.m = 1) = False from by rw [e]; simp, if_false]
      obtain ⟨q1, q2⟩ := QeL hI hneg r a ha
      refine ⟨fun b hb => ?_, fun hb => ?_⟩
      · obtain ⟨p1, p2, p3⟩ := q1 b hb
        refine ⟨p1, p2, fun e2 s hs => ?_⟩
        rcases List.mem_cons.1 hs with rfl | hs
        · exact e
        · exact p3 e2 s hs
      · obtain ⟨p1, s, hs, p2⟩ := q2 hb
        exact ⟨p1, s, by simp [hs], p2⟩
theorem QkM {w : Qn} {l : List StepT} {u : Int} (h : u < 0) : Zg w l u = 0 := QdW (Qbr (.inl h))
theorem Qfu {w : Qn} {l : List StepT} {inc : List TermT} : Qe9 w l inc = true ↔ ∀ t ∈ inc, ZO (Zg w l t.u) t.m = 2 := by simp [Qe9]
theorem Qlc {w : Qn} {l : List StepT} (hp : Y8 w l) : ∀ (db : List (List TermT)) (i : Nat), Qdu (Zg w l) i db = YJ w l i db
  | [], _ => rfl
  | x :: db, i => by
    rw [Qdu, YJ]
    obtain ⟨q1, q2⟩ := QeL (h := Zg w l) (fun u => (QaN hp u).i64) (fun u => QkM) x (-1) (.inl rfl)
    cases hc : X8 (Zg w l) x (-1) with
    | none =>
      obtain ⟨p1, t, ht, p2⟩ := q2 hc
      rw [if_neg (fun hs => p2 (Qfu.1 hs t ht)), if_neg (by show ¬ 0 <= ZS _ _ _; rw [p1]; omega)]
      exact Qlc hp db (i + 1)
    | some b =>
      obtain ⟨p1, p2, p3⟩ := q1 b hc
      by_cases hs : Qe9 w l x = true
      · rw [if_pos hs]
        simp only
        rcases p2 with rfl | ⟨_, p2⟩
        · rfl
        · exfalso
          have := Qfu.1 hs
          have key : ∀ (r : List TermT), (∀ t ∈ r, ZO (Zg w l t.u) t.m = 2) -> ZS (Zg w l) r (-1) = -1 := by
            intro r
            induction r with
            | nil => intro _; rfl
            | cons t r ih =>
              intro h
              rw [ZS, if_neg (by rw [h t (by simp)]; decide), if_neg (by rw [h t (by simp)]; decide)]
              exact ih fun s hs => h s (by simp [hs])
          rw [key x this] at p1
          omega
      · rw [if_neg hs]
        have hb : b ≠ -1 := fun e => hs (Qfu.2 (p3 e))
        have h0 : 0 <= b := by
          rcases p2 with e | ⟨_, e⟩
          · exact absurd e hb
          · exact e
        have hm : Qe8 w l x = b := p1
        rw [hm, if_pos h0]
theorem Qnm {w : Qn} {db : List (List TermT)} {l : List StepT} (hp : Y8 w l) : Qdu (hAt (ZR w l)) 0 db = ZD w db l := by rw [Qmz, Qlc hp]; rfl
theorem Qj4 {h : Int -> Int} (hneg : ∀ u, u < 0 -> h u = 0) : ∀ (l : List TermT) (a : Int), 0 <= ZS h l a -> (a = ZS h l a /\ ∀ t ∈ l, ZO (h t.u) t.m = 2) \/ (¬ 0 <= a /\ ∃ k, ∃ hk : k < l.length, l[k].u = ZS h l a /\ ZO (h l[k].u) l[k].m = 1 /\ ∀ j, ∀ hj : j < l.length, j ≠ k -> ZO (h l[j].u) l[j].m = 2)
  | [], a, _ => .inl ⟨rfl, by simp⟩
  | t :: r, a, h0 => by
    rw [ZS] at h0 ⊢
    rcases Qgv (h t.u) t.m with e | e | e
    · rw [if_pos e] at h0; omega
    · rw [if_neg (by rw [e]; decide), if_pos e] at h0 ⊢
      by_cases ha : 0 <= a
      · rw [if_pos ha] at h0; omega
      · rw [if_neg ha] at h0 ⊢
        rcases Qj4 hneg r t.u h0 with ⟨q1, q2⟩ | ⟨q1, k, hk, q2, q3, q4⟩
        · refine .inr ⟨ha, 0, by simp, by simpa using q1, by simpa using e, fun j hj hn => ?_⟩
          obtain ⟨i, rfl⟩ : ∃ i, j = i + 1 := ⟨j - 1, by omega⟩
          simp only [List.getElem_cons_succ]
          exact q2 _ (List.getElem_mem _)
        · rw [hneg t.u (by omega), QeR] at e; cases e
    · rw [if_neg (by rw [e]; decide), if_neg (by rw [e]; decide)] at h0 ⊢
      rcases Qj4 hneg r a h0 with ⟨q1, q2⟩ | ⟨q1, k, hk, q2, q3, q4⟩
      · exact .inl ⟨q1, fun s hs => by
          rcases List.mem_cons.1 hs with rfl | hs
          · exact e
          · exact q2 s hs⟩
      · refine .inr ⟨q1, k + 1, by simpa using hk, by simpa using q2, by simpa using q3, fun j hj hn => ?_⟩
        cases j with
        | zero => simpa using e
        | succ j => simp only [List.getElem_cons_succ]; exact q4 j (by simpa using hj) (by omega)
structure OpenAt (w : Qn) (db : List (List TermT)) (l : List StepT) (a : Nat) (k : Nat) : Prop where
  ha : a < db.length
  hk : k < db[a].length
  eq : ZD w db l = ((a : Int), db[a][k].u)
  one : ZO (Zg w l db[a][k].u) db[a][k].m = 1
  two : ∀ j, ∀ hj : j < db[a].length, j ≠ k -> ZO (Zg w l db[a][j].u) db[a][j].m = 2
theorem Qef {w : Qn} {db : List (List TermT)} {l : List StepT} (h : ¬ (ZD w db l).2 < 0) : ∃ a k, OpenAt w db l a k := by
  have h' := h
  unfold ZD at h
  rcases Qeg w l db 0 with e | ⟨a, _, ha, ⟨e, _⟩ | ⟨_, h0, e⟩⟩
  · rw [e] at h; simp at h
  · rw [e] at h; simp at h
  · simp only [Nat.sub_zero] at ha h0 e
    rcases Qj4 (fun u hu => QkM hu) db[a] (-1) h0 with ⟨q1, _⟩ | ⟨_, k, hk, q2, q3, q4⟩
    · have : (0 : Int) <= -1 := by rw [q1]; exact h0
      omega
    · exact ⟨a, k, ha, hk, by rw [ZD, e, q2]; rfl, q3, q4⟩
theorem QoJ {w : Qn} {db : List (List TermT)} {l : List StepT} (h : (ZD w db l).1 < 0) : (ZD w db l).2 < 0 := by
  refine Classical.byContradiction fun hn => ?_
  obtain ⟨a, k, ho⟩ := Qef hn
  rw [ho.eq] at h; simp only at h; omega
theorem Qju {x m : Int} (h : ZO x m = 1) : XQ x m ≠ 0 /\ ¬ XQ x m = x := by
  unfold ZO at h
  split at h
  · cases h
  · rename_i h1
    split at h
    · cases h
    · rename_i h2; exact ⟨h2, h1⟩
theorem Qjv {x m : Int} : ZO x m = 2 ↔ XQ x m = x := by
  unfold ZO
  split
  · rename_i h; exact ⟨fun _ => h, fun _ => rfl⟩
  · rename_i h
    split
    · exact ⟨(fun h2 => by cases h2), fun h2 => absurd h2 h⟩
    · exact ⟨(fun h2 => by cases h2), fun h2 => absurd h2 h⟩
theorem Qm2 {w : Qn} {l : List StepT} {u m : Int} (h : ZO (Zg w l u) m = 1) : inW w u = true := by
  cases hw : inW w u
  · rw [QdW hw, QeR] at h; cases h
  · rfl
theorem Qgf {f u : Int} : ∀ {l : List TermT} {k : Nat} (hk : k < l.length), l[k].u = u -> (∀ j, ∀ hj : j < k, (l[j]'(by omega)).u ≠ u) -> QbN f u l = l[k].m
  | t :: l, 0, _, h, _ => by rw [QbN, if_pos (by simpa using h)]; rfl
  | t :: l, k + 1, hk, h, hn => by
    have h0 := hn 0 (by omega)
    simp only [List.getElem_cons_zero] at h0
    rw [QbN, if_neg h0, List.getElem_cons_succ]
    exact Qgf (by simpa using hk) (by simpa using h) fun j hj => by
      have := hn (j + 1) (by omega)
      simpa using this
theorem IncOk.uniq {w : Qn} {l : List TermT} (h : IncOk w l) {i j : Nat} (hi : i < l.length) (hj : j < l.length) (e : l[i].u = l[j].u) : i = j := by
  have hp := List.pairwise_iff_getElem.1 h.1
  rcases Nat.lt_trichotomy i j with h1 | h1 | h1
  · have := hp i j hi hj h1; omega
  · exact h1
  · have := hp j i hj hi h1; omega
theorem OpenAt.mask {w : Qn} {db : List (List TermT)} {l : List StepT} {a k : Nat} (h : OpenAt w db l a k) (hi : ∀ x ∈ db, IncOk w x) : Qdq w (db[a]'h.ha) ((db[a]'h.ha)[k]'h.hk).u = ((db[a]'h.ha)[k]'h.hk).m :=
  Qgf h.hk rfl fun j hj e => by
    have := (hi _ (List.getElem_mem h.ha)).uniq (by have := h.hk; omega) h.hk e
    omega
theorem OpenAt.step {w : Qn} {db : List (List TermT)} {l : List StepT} {a k : Nat} (h : OpenAt w db l a k) (hp : Y8 w l) : Yn w l ((db[a]'h.ha)[k]'h.hk) a = some (l ++ [⟨((db[a]'h.ha)[k]'h.hk).u, Qe4 (Zg w l ((db[a]'h.ha)[k]'h.hk).u) ((db[a]'h.ha)[k]'h.hk).m, Xz l, a⟩]) := by
  obtain ⟨h1, h2⟩ := Qju h.one
  refine QiD hp (by omega) h1 fun e => h2 ?_
  rw [Xf (QaN hp _).i64, <- Qk3]; exact e
theorem Qhc {w : Qn} {l : List StepT} {s : StepT} (hp : Y8 w l) (hs : Lo s.m) : Y8 w (l ++ [s]) := fun t ht => by
  rcases List.mem_append.1 ht with ht | ht
  · exact hp t ht
  · simp only [List.mem_singleton] at ht; subst ht; exact hs
def Qfb (w : Qn) (l : List StepT) : Nat -> Nat
  | 0 => 0
  | k + 1 => Qfb w l k + (Qbx (Zg w l ((k : Nat) : Int))).length
def tot (w : Qn) (l : List StepT) : Nat := Qfb w l w.length
theorem QnG (w : Qn) (l : List StepT) : ∀ n, Qfb w l n <= 17 * n
  | 0 => Nat.le_refl _
  | n + 1 => by
    have := QnG w l n
    have h2 : (Qbx (Zg w l ((n : Nat) : Int))).length <= 17 := Qcy _ 17
    rw [Qfb]; omega
theorem Qlg {w : Qn} {l : List StepT} {u m lv c : Int} (hp : Y8 w l) (hu : inW w u = true) (hm : XQ (Zg w l u) m ≠ 0) : ∀ n, Qfb w (l ++ [⟨u, Qe4 (Zg w l u) m, lv, c⟩]) n <= Qfb w l n /\ (u < n -> Qfb w (l ++ [⟨u, Qe4 (Zg w l u) m, lv, c⟩]) n < Qfb w l n)
  | 0 => ⟨Nat.le_refl _, fun h => by rw [Qbq] at hu; omega⟩
  | n + 1 => by
    obtain ⟨h1, h2⟩ := Qlg (lv := lv) (c := c) hp hu hm n
    rw [Qfb, Qfb, Qa4]
    by_cases e : u = n
    · rw [if_pos ⟨e, by rw [<- e]; exact hu⟩]
      subst e
      have := QpP (QaN hp _) hm
      exact ⟨by simp only; omega, fun _ => by simp only; omega⟩
    · rw [if_neg (fun h => e h.1)]
      exact ⟨by omega, fun h => by have := h2 (by omega); omega⟩
theorem Qq4 {w : Qn} {l : List StepT} {u m lv c : Int} (hp : Y8 w l) (hu : inW w u = true) (hm : XQ (Zg w l u) m ≠ 0) : tot w (l ++ [⟨u, Qe4 (Zg w l u) m, lv, c⟩]) < tot w l :=
  (Qlg hp hu hm w.length).2 (by rw [Qbq] at hu; omega)
def QnM (w : Qn) (l : List StepT) (t : TermT) (c : Int) : StepT := ⟨t.u, Qe4 (Zg w l t.u) t.m, Xz l, c⟩
theorem OpenAt.step' {w : Qn} {db : List (List TermT)} {l : List StepT} {a k : Nat} (h : OpenAt w db l a k) (hp : Y8 w l) : Yn w l ((db[a]'h.ha)[k]'h.hk) a = some (l ++ [QnM w l ((db[a]'h.ha)[k]'h.hk) a]) := h.step hp
theorem OpenAt.inW {w : Qn} {db : List (List TermT)} {l : List StepT} {a k : Nat} (h : OpenAt w db l a k) : 0 <= ((db[a]'h.ha)[k]'h.hk).u /\ ((db[a]'h.ha)[k]'h.hk).u < w.length := Qbq.1 (Qm2 h.one)
theorem OpenAt.go {w : Qn} {db : List (List TermT)} {l : List StepT} {a k : Nat} (h : OpenAt w db l a k) (hp : Y8 w l) (hi : ∀ x ∈ db, IncOk w x) {n : Nat} (hn : 0 < n) : QbD w db n l = QbD w db (n - 1) (l ++ [QnM w l ((db[a]'h.ha)[k]'h.hk) a]) := by
  have h2 : ¬ (ZD w db l).2 < 0 := by rw [h.eq]; have := h.inW.1; simp only; omega
  have hd : (ZD w db l).1.toNat < db.length := by rw [h.eq]; simpa using h.ha
  rw [Qla h2 hn hd]
  have e1 : db[(ZD w db l).1.toNat]'hd = db[a]'h.ha := by
    congr 1; rw [h.eq]; simp
  rw [e1, h.eq]
  simp only
  rw [h.mask hi, h.step' hp]; rfl
theorem OpenAt.plain {w : Qn} {db : List (List TermT)} {l : List StepT} {a k : Nat} (h : OpenAt w db l a k) (hp : Y8 w l) : Y8 w (l ++ [QnM w l ((db[a]'h.ha)[k]'h.hk) a]) := Qhc hp (QqO (QaN hp _) _)
theorem OpenAt.tot {w : Qn} {db : List (List TermT)} {l : List StepT} {a k : Nat} (h : OpenAt w db l a k) (hp : Y8 w l) : M25.tot w (l ++ [QnM w l ((db[a]'h.ha)[k]'h.hk) a]) < M25.tot w l := Qq4 hp (Qm2 h.one) (Qju h.one).1
theorem QiT {w : Qn} {l : List StepT} {t : TermT} {c : Int} (h0 : 0 <= t.u) (h1 : t.u < w.length) (h2 : t.u.toNat < (ZR w l).length) : ZR w (l ++ [QnM w l t c]) = (ZR w l).set t.u.toNat (Qe4 ((ZR w l)[t.u.toNat]) t.m) := by
  rw [QgZ h0 h1, QkN, Int.toNat_of_nonneg h0]; rfl
end M25
namespace Go.Proofs
open Go Go.Abs M3 M25
set_option linter.unusedVariables false
set_option linter.unusedSimpArgs false
theorem QeU {w : Qn} (hw : WSm w) {l : List StepT} (hl : l.length <= 10000000) (et : Nat) (het : et = 3) : OkH Tryz.prog 41 [ZI w, Zp l] [] (.osl 500000 (ZR w l).length) [(500000, ⟨(ZR w l).map (fun x => [.int .i64 x]), 1, et, true⟩)] := by
 subst het
 refine OkH.new ZP Tryz.func41 QsA (Nat.le_of_ble_eq_true rfl) rfl ?_
 show TW _ _ tf41.body _ _
 have hn := hw.len
 refine Qf fun K hK => Zr rfl rfl rfl (Qa rfl ?_)
 refine hK _ _ (Qb (kp2 rfl rfl) ?_)
 refine Qf fun K hK => Qh rfl rfl (QC rfl rfl rfl ?_)
 first | refine QO rfl QP ?_ | refine QO rfl rfl ?_
 refine Qqw rfl rfl rfl (by omega) (by simp; omega) (by simp; omega) (Qa rfl ?_)
 refine hK _ _ (Qb (kp3 rfl rfl rfl) ?_)
 refine Qz ?_ -- 0
 refine Qf fun K hK => Qa rfl ?_
 first | refine QO rfl QP ?_ | refine QO rfl rfl ?_
 refine Qa rfl ?_
 refine hK _ _ (Qb (kp5 rfl rfl rfl rfl rfl) ?_)
 refine Qy ?_
 refine Zi (ι := Nat) (fun i => ⟨[(1, Zp l), (2, .ref 2 0 0), (5, .osl 500000 (Qdp w i).length), (14, .int .i64 w.length), (15, .int .i64 i)], [(2, ⟨[[.sl ((w).map Z8)]], 1, 26, true⟩), (500000, ⟨(Qdp w i).map (fun x => [.int .i64 x]), 1, 3, true⟩)]⟩) (fun i => i <= w.length) (fun i => w.length - i) 0 ?_ ?_ ?_
 ·exact le_trans (Qf0 (l := [1, 2, 14, 15]) (lH := [2]) 12 500000 5 (kp4 rfl rfl rfl rfl) (Qe rfl Ql) rfl rfl rfl rfl rfl rfl rfl) (QX (l := [1, 2, 5, 14, 15]) (lH := [2, 500000]) (kp5 rfl rfl rfl rfl rfl) (Qe rfl (Qe rfl Ql)) (by simp [Qdp]) (by rw [QlE]; simp; rfl) rfl)
 ·exact Nat.zero_le _
 intro i hI
 have hlen := QiQ w i
 try dsimp only
 refine Qf fun K hK => ZW rfl rfl ?_
 refine hK _ _ (Qb (kp6 rfl rfl rfl rfl rfl rfl) ?_)
 refine Qz ?_ -- 1
 refine Qw rfl (fun h1 => ?_) (fun h1 => ?_)
 ·try rw [h1]
  try simp only [qa, qb, qc, qd, qe, List.length_map] at h1
  refine Qv (Qd (kp5 rfl rfl rfl rfl rfl) ?_)
  refine Qz ?_ -- 2
  refine Qy (Qf fun K hK => Qa rfl (Qa rfl ?_))
  refine hK _ _ (Qb (kp6 rfl rfl rfl rfl rfl rfl) ?_)
  refine QL fun K hK => Qa rfl (Qa rfl (QG (cs := [_]) rfl rfl rfl rfl (Qa rfl (QH (Qdl hw) rfl rfl (.inr rfl) (Xk rfl rfl rfl (by simp) (by omega) (by omega) rfl (Q7 rfl rfl (QS (by omega)) rfl rfl rfl rfl rfl (hK _ ?_)))))))
  refine Qg (Qd (kp5 rfl rfl rfl rfl rfl) (QL fun K hK => QY rfl rfl (by first | exact Qq (by omega) (by omega) | rfl) (Qa rfl (hK _ ?_))))
  refine Qi (i + 1) ?_ ?_ ?_
  ·exact QX (l := [1, 2, 5, 14, 15]) (lH := [2, 500000]) (kp5 rfl rfl rfl rfl rfl) (Qe rfl (Qe rfl Ql)) (by rw [QkK, List.length_set] <;> rfl) (by rw [QkK, List.map_set] <;> rfl) rfl
  ·omega
  ·first | omega | (simp only; omega) | (dsimp only; omega)
 ·try rw [h1]
  try simp only [qa, qb, qc, qd, qe, List.length_map] at h1
  refine Za (QJ (Qx (QB (Qd (kp2 rfl rfl) ?_))))
  refine Qz ?_ -- 3
  refine Qf fun K hK => Qa rfl ?_
  first | refine QO rfl QP ?_ | refine QO rfl rfl ?_
  refine Qa rfl ?_
  refine hK _ _ (Qb (kp4 rfl rfl rfl rfl) ?_)
  refine Qy ?_
  refine Zi (ι := Nat) (fun j => ⟨[(5, .osl 500000 (ZR w (l.take j)).length), (25, Zp l), (26, .int .i64 l.length), (27, .int .i64 j)], [(500000, ⟨(ZR w (l.take j)).map (fun x => [.int .i64 x]), 1, 3, true⟩)]⟩) (fun j => j <= l.length) (fun j => l.length - j) 0 ?_ ?_ ?_
  ·exact QX (l := [5, 25, 26, 27]) (lH := [500000]) (kp4 rfl rfl rfl rfl) (Qe rfl Ql) (by rw [QiP w (by omega)] <;> rfl) (by rw [QiP w (by omega)] <;> rfl) rfl
  ·exact Nat.zero_le _
  intro j hJ
  have hlen := Qa5 w (l.take j)
  try dsimp only
  refine Qf fun K hK => ZW rfl rfl ?_
  refine hK _ _ (Qb (kp5 rfl rfl rfl rfl rfl) ?_)
  refine Qz ?_ -- 4
  refine Qw rfl (fun h2 => ?_) (fun h2 => ?_)
  ·try rw [h2]
   try simp only [qa, qb, qc, qd, qe, List.length_map] at h2
   refine Qv (Qd (kp4 rfl rfl rfl rfl) ?_)
   refine Qz ?_ -- 5
   refine Qy (Qf fun K hK => QK rfl rfl rfl (by omega) (QS (by omega)) rfl (QG (cs := [_, _, _, _]) rfl rfl rfl rfl (ZH rfl (Q7 rfl rfl rfl rfl rfl rfl rfl rfl ?_))))
   refine hK _ _ (Qb (kp5 rfl rfl rfl rfl rfl) ?_)
   refine Qf fun K hK => Qh rfl rfl (QC rfl rfl rfl (Qen rfl rfl (Qa rfl ?_)))
   refine QF (g := 34) rfl (fun h3 => ?_) (fun h3 => ?_)
   ·try rw [h3]
    try simp only [qa, qb, qc, qd, qe, List.length_map] at h3
    refine Qk rfl (Qh rfl rfl (Qk rfl (QC rfl rfl rfl (Qk rfl (Qa rfl (Qk rfl ?_))))))
    first | refine QO rfl QP ?_ | refine QO rfl rfl ?_
    refine Qk rfl (ZW rfl rfl (Qm rfl rfl ?_))
    refine hK _ _ (Qb (kp6 rfl rfl rfl rfl rfl rfl) ?_)
    refine Qw rfl (fun h4 => ?_) (fun h4 => ?_)
    ·try rw [h4]
     try simp only [qa, qb, qc, qd, qe, List.length_map] at h4
     refine QL fun K hK => Qa rfl (Qh rfl rfl (QC rfl rfl rfl (Qh rfl rfl (QC rfl rfl rfl (Xk rfl rfl rfl (by simp) (by omega) (by omega) rfl (Q7 rfl rfl (Zu (by omega) (by omega)) rfl rfl rfl rfl rfl (hK _ ?_)))))))
     refine Qg (Qd (kp4 rfl rfl rfl rfl) (QL fun K hK => QY rfl rfl (by first | exact Qq (by omega) (by omega) | rfl) (Qa rfl (hK _ ?_))))
     refine Qi (j + 1) ?_ ?_ ?_
     ·exact QX (l := [5, 25, 26, 27]) (lH := [500000]) (kp4 rfl rfl rfl rfl) (Qe rfl Ql) (by rw [QkO (by omega) h3 (by omega), List.length_set] <;> rfl) (by rw [QkO (by omega) h3 (by omega), List.map_set] <;> rfl) rfl
     ·omega
     ·first | omega | (simp only; omega) | (dsimp only; omega)
    ·try rw [h4]
     try simp only [qa, qb, qc, qd, qe, List.length_map] at h4
     refine Qv (Qg (Qd (kp4 rfl rfl rfl rfl) (QL fun K hK => QY rfl rfl (by first | exact Qq (by omega) (by omega) | rfl) (Qa rfl (hK _ ?_)))))
     refine Qi (j + 1) ?_ ?_ ?_
     ·exact QX (l := [5, 25, 26, 27]) (lH := [500000]) (kp4 rfl rfl rfl rfl) (Qe rfl Ql) (by rw [Qfk (by omega) (.inr (by omega))] <;> rfl) (by rw [Qfk (by omega) (.inr (by omega))] <;> rfl) rfl
     ·omega
     ·first | omega | (simp only; omega) | (dsimp only; omega)
   ·try rw [h3]
    try simp only [qa, qb, qc, qd, qe, List.length_map] at h3
    refine Qt rfl (Qt rfl (Qt rfl (Qt rfl (Qt rfl (Qm rfl rfl ?_)))))
    refine hK _ _ (Qb (kp6 rfl rfl rfl rfl rfl rfl) ?_)
    refine Zz rfl (Qv (Qg (Qd (kp4 rfl rfl rfl rfl) (QL fun K hK => QY rfl rfl (by first | exact Qq (by omega) (by omega) | rfl) (Qa rfl (hK _ ?_))))))
    refine Qi (j + 1) ?_ ?_ ?_
    ·exact QX (l := [5, 25, 26, 27]) (lH := [500000]) (kp4 rfl rfl rfl rfl) (Qe rfl Ql) (by rw [Qfk (by omega) (.inl h3)] <;> rfl) (by rw [Qfk (by omega) (.inl h3)] <;> rfl) rfl
    ·omega
    ·first | omega | (simp only; omega) | (dsimp only; omega)
  ·try rw [h2]
   try simp only [qa, qb, qc, qd, qe, List.length_map] at h2
   refine Za (QJ (Qx (QB (Qd (kp1 rfl) (Qf fun K hK => Qa rfl (Qa rfl ?_))))))
   refine hK _ _ (Qb (kp1 rfl) ?_)
   refine Qu ?_
   refine YA rfl ?_ (Qcu ?_)
   ·rw [List.take_of_length_le (show l.length <= j by omega)]; rfl
   ·rw [List.take_of_length_le (show l.length <= j by omega)]; rfl
theorem QjJ {hv : List Int} {inc : List TermT} (hi : inc.length <= 1000000) : Ok Tryz.prog 64 [Zl hv, ZC inc] (.tup [.int .i64 ((X8 (hAt hv) inc (-1)).getD 0), .bool (X8 (hAt hv) inc (-1)).isSome]) := by
 refine Ok.ofT ZP Tryz.func64 QsX (Nat.le_of_ble_eq_true rfl) ?_
 show TW _ _ tf64.body _ _
 refine Qf fun K hK => Qa rfl (Qa rfl ?_)
 refine hK _ _ (Qb (kp2 rfl rfl) ?_)
 refine Qf fun K hK => Qa rfl ?_
 refine hK _ _ (Qb (kp3 rfl rfl rfl) ?_)
 refine Qz ?_ -- 0
 refine Qf fun K hK => Qa rfl ?_
 first | refine QO rfl QP ?_ | refine QO rfl rfl ?_
 refine Qa rfl ?_
 refine hK _ _ (Qb (kp5 rfl rfl rfl rfl rfl) ?_)
 refine Qy ?_
 refine Zi (ι := Nat × Int) (fun ⟨i, a⟩ => ⟨[(0, Zl hv), (6, .int .i64 a), (11, ZC inc), (12, .int .i64 inc.length), (13, .int .i64 i)], []⟩) (fun ⟨i, a⟩ => i <= inc.length /\ X8 (hAt hv) inc (-1) = X8 (hAt hv) (inc.drop i) a) (fun ⟨i, a⟩ => inc.length - i) (0, -1) ?_ ?_ ?_
 ·exact Zd (kp5 rfl rfl rfl rfl rfl)
 ·exact ⟨Nat.zero_le _, by simp⟩
 intro ⟨i, a⟩ hI
 try dsimp only at hI
 try dsimp only
 refine Qf fun K hK => ZW rfl rfl ?_
 refine hK _ _ (Qb (kp6 rfl rfl rfl rfl rfl rfl) ?_)
 refine Qz ?_ -- 1
 refine Qw rfl (fun h1 => ?_) (fun h1 => ?_)
 ·try rw [h1]
  try simp only [qa, qb, qc, qd, qe, List.length_map] at h1
  refine Qv (Qd (kp5 rfl rfl rfl rfl rfl) ?_)
  refine Qz ?_ -- 2
  refine Qy (Qf fun K hK => QK rfl rfl rfl (by omega) (QS (by omega)) rfl (QG (cs := [_, _]) rfl rfl rfl rfl (ZH rfl (Q7 rfl rfl rfl rfl rfl rfl rfl rfl ?_))))
  refine hK _ _ (Qb (kp6 rfl rfl rfl rfl rfl rfl) ?_)
  refine Qf fun K hK => Qa rfl ?_
  refine hK _ _ (Qb (kp7 rfl rfl rfl rfl rfl rfl rfl) ?_)
  refine Qfy (ι := Unit) (fun _ => ⟨[(0, Zl hv), (6, .int .i64 a), (8, .ref 8 0 0), (9, .int .i64 (hAt hv (inc[i]'(by omega)).u)), (11, ZC inc), (12, .int .i64 inc.length), (13, .int .i64 i)], [(8, ⟨[Qdm (inc[i]'(by omega))], 2, 56, true⟩)]⟩) (fun _ => True) ?_ ?_
  ·skip
   refine Qf fun K hK => Qh rfl rfl (QC rfl rfl rfl (Qen rfl rfl (Qa rfl ?_)))
   refine QF (g := 20) rfl (fun h2 => ?_) (fun h2 => ?_)
   ·try rw [h2]
    try simp only [qa, qb, qc, qd, qe, List.length_map] at h2
    refine Qk rfl (Qh rfl rfl (Qk rfl (QC rfl rfl rfl (Qk rfl (Qa rfl (Qk rfl ?_))))))
    first | refine QO rfl QP ?_ | refine QO rfl rfl ?_
    refine Qk rfl (ZW rfl rfl (Qm rfl rfl ?_))
    refine hK _ _ (Qb (kp8 rfl rfl rfl rfl rfl rfl rfl rfl) ?_)
    refine Qw rfl (fun h3 => ?_) (fun h3 => ?_)
    ·try rw [h3]
     try simp only [qa, qb, qc, qd, qe, List.length_map] at h3
     refine QL fun K hK => Qa rfl (Qh rfl rfl (QC rfl rfl rfl (QK rfl rfl rfl (by omega) (Zu (by omega) (by omega)) rfl (QC rfl rfl rfl (Qa rfl (hK _ ?_))))))
     refine Z2 () ?_ ?_
     ·exact QX (l := [0, 6, 8, 9, 11, 12, 13]) (lH := [8]) (kp7 rfl rfl rfl rfl rfl rfl rfl) (Qe rfl Ql) (by rw [Qo8 h2 h3] <;> rfl) rfl rfl
     ·exact trivial
    ·try rw [h3]
     try simp only [qa, qb, qc, qd, qe, List.length_map] at h3
     refine Qv ?_
     refine Z2 () ?_ ?_
     ·exact QX (l := [0, 6, 8, 9, 11, 12, 13]) (lH := [8]) (kp7 rfl rfl rfl rfl rfl rfl rfl) (Qe rfl Ql) (by rw [QjT (.inr h3)] <;> rfl) rfl rfl
     ·exact trivial
   ·try rw [h2]
    try simp only [qa, qb, qc, qd, qe, List.length_map] at h2
    refine Qt rfl (Qt rfl (Qt rfl (Qt rfl (Qt rfl (Qm rfl rfl ?_)))))
    refine hK _ _ (Qb (kp8 rfl rfl rfl rfl rfl rfl rfl rfl) ?_)
    refine Zz rfl (Qv ?_)
    refine Z2 () ?_ ?_
    ·exact QX (l := [0, 6, 8, 9, 11, 12, 13]) (lH := [8]) (kp7 rfl rfl rfl rfl rfl rfl rfl) (Qe rfl Ql) (by rw [QjT (.inl h2)] <;> rfl) rfl rfl
    ·exact trivial
  intro _ hJ
  try dsimp only
  refine Qf fun K hK => Qa rfl (Qh rfl rfl (QC rfl rfl rfl (QH (Qiv) rfl rfl (.inr rfl) (Qa rfl ?_))))
  refine hK _ _ (Qb (kp7 rfl rfl rfl rfl rfl rfl rfl) ?_)
  refine Qy (Qf fun K hK => Qa rfl (ZL rfl rfl (Qa rfl ?_)))
  refine QF (g := 39) rfl (fun h4 => ?_) (fun h4 => ?_)
  ·try rw [h4]
   try simp only [qa, qb, qc, qd, qe, List.length_map] at h4
   refine Qt rfl (Qt rfl (Qt rfl (Zj rfl (Zj rfl (Qt rfl (Qm rfl rfl (Qa rfl ?_)))))))
   refine hK _ _ (Qb (kp8 rfl rfl rfl rfl rfl rfl rfl rfl) ?_)
   refine Zs rfl (Qf fun K hK => Qa rfl (Qa rfl ?_))
   refine hK _ _ (Qb (kp2 rfl rfl) ?_)
   refine Qu (Qr (Qr (Qj (QW (Qr (Qj ?_))))))
   rw [hI.2, Qfr (by omega), if_pos h4]
   exact QT rfl rfl ⟨rfl, rfl⟩
  ·try rw [h4]
   try simp only [qa, qb, qc, qd, qe, List.length_map] at h4
   refine Qk rfl (Qa rfl (Qk rfl (ZL rfl rfl (Qk rfl (Qa rfl ?_)))))
   refine QF (g := 42) rfl (fun h5 => ?_) (fun h5 => ?_)
   ·try rw [h5]
    try simp only [qa, qb, qc, qd, qe, List.length_map] at h5
    refine Qk rfl (Qa rfl (Qk rfl (Qen rfl rfl (Qk rfl (Qm rfl rfl (Qm rfl rfl (Qa rfl ?_)))))))
    refine hK _ _ (Qb (kp8 rfl rfl rfl rfl rfl rfl rfl rfl) ?_)
    refine Qw rfl (fun h6 => ?_) (fun h6 => ?_)
    ·try rw [h6]
     try simp only [qa, qb, qc, qd, qe, List.length_map] at h6
     refine Qf fun K hK => Qa rfl (Qa rfl ?_)
     refine hK _ _ (Qb (kp2 rfl rfl) ?_)
     refine Qu (Qr (Qr (Qj (QW (Qr (Qj ?_))))))
     rw [hI.2, Qfr (by omega), if_neg h4, if_pos h5, if_pos h6]
     exact QT rfl rfl ⟨rfl, rfl⟩
    ·try rw [h6]
     try simp only [qa, qb, qc, qd, qe, List.length_map] at h6
     refine Qf fun K hK => Qa rfl (ZL rfl rfl (Qa rfl ?_))
     refine hK _ _ (Qb (kp7 rfl rfl rfl rfl rfl rfl rfl) ?_)
     refine Qw rfl (fun h7 => ?_) (fun h7 => ?_)
     ·try rw [h7]
      try simp only [qa, qb, qc, qd, qe, List.length_map] at h7
      refine QL fun K hK => Qh rfl rfl (QC rfl rfl rfl (Qa rfl (hK _ ?_)))
      refine Qg (Qg (Qd (kp5 rfl rfl rfl rfl rfl) (QL fun K hK => QY rfl rfl (by first | exact Qq (by omega) (by omega) | rfl) (Qa rfl (hK _ ?_)))))
      refine Qi (i + 1, (inc[i]'(by omega)).u) ?_ ?_ ?_
      ·exact QX (l := [0, 6, 11, 12, 13]) (lH := []) (kp5 rfl rfl rfl rfl rfl) Ql rfl rfl rfl
      ·exact ⟨by omega, by rw [hI.2, Qfr (by omega), if_neg h4, if_pos h5, if_neg h6]⟩
      ·show inc.length - (i + 1) < inc.length - i; omega
     ·try rw [h7]
      try simp only [qa, qb, qc, qd, qe, List.length_map] at h7
      exact absurd h5 h7
   ·try rw [h5]
    try simp only [qa, qb, qc, qd, qe, List.length_map] at h5
    refine Qt rfl (Qt rfl (Qk rfl (Qm rfl rfl (Qm rfl rfl (Qa rfl ?_)))))
    refine hK _ _ (Qb (kp8 rfl rfl rfl rfl rfl rfl rfl rfl) ?_)
    refine Zz rfl (Qf fun K hK => Qa rfl (ZL rfl rfl (Qa rfl ?_)))
    refine hK _ _ (Qb (kp7 rfl rfl rfl rfl rfl rfl rfl) ?_)
    refine Qw rfl (fun h8 => ?_) (fun h8 => ?_)
    ·try rw [h8]
     try simp only [qa, qb, qc, qd, qe, List.length_map] at h8
     exact absurd h8 h5
    ·try rw [h8]
     try simp only [qa, qb, qc, qd, qe, List.length_map] at h8
     refine Qv (Qg (Qg (Qd (kp5 rfl rfl rfl rfl rfl) (QL fun K hK => QY rfl rfl (by first | exact Qq (by omega) (by omega) | rfl) (Qa rfl (hK _ ?_))))))
     refine Qi (i + 1, a) ?_ ?_ ?_
     ·exact QX (l := [0, 6, 11, 12, 13]) (lH := []) (kp5 rfl rfl rfl rfl rfl) Ql rfl rfl rfl
     ·exact ⟨by omega, by rw [hI.2, Qfr (by omega), if_neg h4, if_neg h5]⟩
     ·show inc.length - (i + 1) < inc.length - i; omega
 ·try rw [h1]
  try simp only [qa, qb, qc, qd, qe, List.length_map] at h1
  refine Za (QJ (Qx (QB (Qd (kp1 rfl) (Qf fun K hK => Qa rfl (Qa rfl (Qa rfl ?_)))))))
  refine hK _ _ (Qb (kp2 rfl rfl) ?_)
  refine Qu ?_
  rw [hI.2, Qm4 (by omega)]
  exact QT rfl rfl ⟨rfl, rfl⟩
theorem QjK {hv : List Int} {db : List (List TermT)} (hd : db.length <= 100000000) (hi : ∀ x ∈ db, x.length <= 1000000) : Ok Tryz.prog 42 [Zl hv, dDb db] (.tup [.int .i64 (Qdu (hAt hv) 0 db).1, .int .i64 (Qdu (hAt hv) 0 db).2]) := by
 refine Ok.ofT ZP Tryz.func42 QsB (Nat.le_of_ble_eq_true rfl) ?_
 show TW _ _ tf42.body _ _
 refine Qf fun K hK => Qa rfl (Qa rfl ?_)
 refine hK _ _ (Qb (kp2 rfl rfl) ?_)
 refine Qz ?_ -- 0
 refine Qf fun K hK => Qa rfl ?_
 first | refine QO rfl QP ?_ | refine QO rfl rfl ?_
 refine Qa rfl ?_
 refine hK _ _ (Qb (kp4 rfl rfl rfl rfl) ?_)
 refine Qy ?_
 refine Zi (ι := Nat) (fun i => ⟨[(0, Zl hv), (10, dDb db), (11, .int .i64 db.length), (12, .int .i64 i)], []⟩) (fun i => i <= db.length /\ Qdu (hAt hv) 0 db = Qdu (hAt hv) i (db.drop i)) (fun i => db.length - i) 0 ?_ ?_ ?_
 ·exact Zd (kp4 rfl rfl rfl rfl)
 ·exact ⟨Nat.zero_le _, by simp⟩
 intro i hI
 try dsimp only
 refine Qf fun K hK => ZW rfl rfl ?_
 refine hK _ _ (Qb (kp5 rfl rfl rfl rfl rfl) ?_)
 refine Qz ?_ -- 1
 refine Qw rfl (fun h1 => ?_) (fun h1 => ?_)
 ·try rw [h1]
  try simp only [qa, qb, qc, qd, qe, List.length_map] at h1
  refine Qv (Qd (kp4 rfl rfl rfl rfl) ?_)
  refine Qz ?_ -- 2
  refine Qy (Qf fun K hK => Qa rfl (QK rfl rfl rfl (by omega) (QS (by omega)) rfl (QC rfl rfl rfl (Qa rfl (Qa rfl ?_)))))
  refine hK _ _ (Qb (kp6 rfl rfl rfl rfl rfl rfl) ?_)
  refine Qf fun K hK => Qa rfl (Qa rfl (QH (QjJ (hi _ (List.getElem_mem (by omega)))) rfl rfl (.inl rfl) (Qa rfl (QV rfl rfl (QV rfl rfl (Qa rfl (Qa rfl ?_)))))))
  refine hK _ _ (Qb (kp7 rfl rfl rfl rfl rfl rfl rfl) ?_)
  refine Qf fun K hK => Qa rfl ?_
  refine hK _ _ (Qb (kp7 rfl rfl rfl rfl rfl rfl rfl) ?_)
  refine Qw rfl (fun h2 => ?_) (fun h2 => ?_)
  ·try rw [h2]
   try simp only [qa, qb, qc, qd, qe, List.length_map] at h2
   refine Qf fun K hK => Qa rfl (Qa rfl (Qa rfl (Qa rfl ?_)))
   refine hK _ _ (Qb (kp2 rfl rfl) ?_)
   refine Qu (Qr (Qj (QW (Qr (Qj ?_)))))
   rw [hI.2, Qno (by omega) h2]
   exact QT rfl rfl ⟨rfl, rfl⟩
  ·try rw [h2]
   try simp only [qa, qb, qc, qd, qe, List.length_map] at h2
   refine Qv (Qg (Qd (kp4 rfl rfl rfl rfl) (QL fun K hK => QY rfl rfl (by first | exact Qq (by omega) (by omega) | rfl) (Qa rfl (hK _ ?_)))))
   refine Qi (i + 1) ?_ ?_ ?_
   ·exact Zd (kp4 rfl rfl rfl rfl)
   ·exact ⟨by omega, by rw [hI.2, QoH (by omega) h2]⟩
   ·first | omega | (simp only; omega) | (dsimp only; omega)
 ·try rw [h1]
  try simp only [qa, qb, qc, qd, qe, List.length_map] at h1
  refine Za (QJ (Qx (QB (Qd (Q2) (Qf fun K hK => Qa rfl (Qa rfl ?_))))))
  refine hK _ _ (Qb (kp2 rfl rfl) ?_)
  refine Qu ?_
  rw [hI.2, Qnn (by omega)]
  exact QT rfl rfl ⟨rfl, rfl⟩
theorem Qm5 {w : Qn} {db : List (List TermT)} (hd : db.length <= 100000000) (hi : ∀ x ∈ db, x.length <= 1000000) {l : List StepT} (hp : Y8 w l) : Ok Tryz.prog 42 [Zl (ZR w l), dDb db] (.tup [.int .i64 (ZD w db l).1, .int .i64 (ZD w db l).2]) := by
 have h := QjK (hv := ZR w l) hd hi
 rw [Qnm hp] at h
 exact h
theorem QjI {w : Qn} (hw : WSm w) {db : List (List TermT)} (hd : db.length <= 100000000) (hi : ∀ x ∈ db, x.length <= 1000000) {l : List StepT} (hl : l.length <= 10000000) (hp : Y8 w l) : Ok Tryz.prog 16 [ZI w, dDb db, Zp l] (.tup [.int .i64 (ZD w db l).1, .int .i64 (ZD w db l).2]) := by
 refine Ok.ofT ZP Tryz.func16 Qsc (Nat.le_of_ble_eq_true rfl) ?_
 show TW _ _ tf16.body _ _
 refine Qf fun K hK => Zr rfl rfl rfl (Qa rfl (Qa rfl ?_))
 refine hK _ _ (Qb (kp3 rfl rfl rfl) ?_)
 refine Qf fun K hK => QG (cs := [_]) rfl rfl rfl rfl (Qa rfl (Yl (Qku rfl (by intro x hx; simp at hx; rcases hx with rfl | rfl <;> rfl) rfl rfl rfl (QeU hw hl _ rfl)) (Qa rfl (QH (Qm5 (l := l) hd hi hp) rfl (by simp [QbZ, D.fz, D.fzS, Qdb, lk, D.can, D.canS, Zl, dDb]) (.inr rfl) (QV rfl rfl (QV rfl rfl (Qa rfl (Qa rfl ?_))))))))
 refine hK _ _ (Qb (kp2 rfl rfl) ?_)
 refine Qu ?_
 exact QT rfl rfl ⟨rfl, rfl⟩
theorem QgM {w : Qn} (hw : WSm w) {db : List (List TermT)} (hd : db.length <= 100000000) (hi : ∀ x ∈ db, IncOk w x) {l : List StepT} (hl : l.length <= 1000000) (hp : Y8 w l) : Ok Tryz.prog 14 [ZI w, dDb db, Zp l] (.tup [Zp (Qa7 w db l).1, .int .i64 (Qa7 w db l).2]) := by
 refine Ok.ofT ZP Tryz.func14 Qsa (Nat.le_of_ble_eq_true rfl) ?_
 show TW _ _ tf14.body _ _
 have hn := hw.len
 have hii : ∀ x ∈ db, x.length <= 1000000 := fun x hx => Nat.le_trans (hi x hx).len (by omega)
 have ht0 := QnG w l w.length
 refine Qf fun K hK => Zr rfl rfl rfl (Qa rfl (Qa rfl ?_))
 refine hK _ _ (Qb (kp3 rfl rfl rfl) ?_)
 refine Qpz (Qf fun K hK => Qa rfl (Ql0 rfl rfl (fun _ h => Qlf Qjg h) rfl (.inl rfl) (by simp) (by simp; omega) (by simp; omega) (Qa rfl ?_)))
 refine hK _ _ (Qb (kp4 rfl rfl rfl rfl) ?_)
 refine Qf fun K hK => QG (cs := [_]) rfl rfl rfl rfl (Qa rfl (Yl (Qku rfl (by intro x hx; simp at hx; rcases hx with rfl | rfl <;> rfl) rfl rfl rfl (QeU hw (by omega) _ rfl)) (Qa rfl ?_)))
 refine hK _ _ (Qb (kp4 rfl rfl rfl rfl) ?_)
 refine Qz ?_ -- 0
 refine Qv (Qd (kp4 rfl rfl rfl rfl) (Qy ?_))
 refine Zi (ι := Nat × List StepT) (fun ⟨n, out⟩ => ⟨[(1, dDb db), (3, .ref 3 0 0), (8, Zp out), (9, .osl 500000 (ZR w out).length)], [(3, ⟨[[.sl ((w).map Z8)]], 1, 26, true⟩), (500000, ⟨(ZR w out).map (fun x => [.int .i64 x]), 1, 3, true⟩)]⟩) (fun ⟨n, out⟩ => Y8 w out /\ out.length <= l.length + n /\ Qa7 w db l = QbD w db (w.length * 18 + 1 - n) out /\ tot w out < w.length * 18 + 1 - n) (fun ⟨n, out⟩ => tot w out) (0, l) ?_ ?_ ?_
 ·exact le_trans (QfZ (l := [1, 3, 9]) (lH := [3, 500000]) 17 8 (kp3 rfl rfl rfl) (Qe rfl (Qe rfl Ql)) rfl rfl rfl (by simp) rfl rfl rfl rfl) (QX (l := [1, 3, 8, 9]) (lH := [3, 500000]) (kp4 rfl rfl rfl rfl) (Qe rfl (Qe rfl Ql)) rfl rfl rfl)
 ·exact ⟨hp, Nat.le_refl _, rfl, by show Qfb w l w.length < w.length * 18 + 1 - 0; omega⟩
 intro ⟨n, out⟩ hI
 obtain ⟨hI1, hI2, hI3, hI4⟩ := hI
 try dsimp only at hI1 hI2 hI3 hI4
 have hlen := Qa5 w out
 try dsimp only
 refine Qy (Qf fun K hK => Qa rfl (Qa rfl (QH (Qm5 (l := out) hd hii hI1) rfl (by simp [QbZ, D.fz, D.fzS, Qdb, lk, D.can, D.canS, Zl, dDb]) (.inr rfl) (Qa rfl (QV rfl rfl (QV rfl rfl (Qa rfl (Qa rfl ?_))))))))
 refine hK _ _ (Qb (kp6 rfl rfl rfl rfl rfl rfl) ?_)
 refine Qz ?_ -- 1
 refine Qf fun K hK => Qa rfl (ZW rfl rfl (Qa rfl ?_))
 refine QF (g := 29) rfl (fun h1 => ?_) (fun h1 => ?_)
 ·try rw [h1]
  try simp only [qa, qb, qc, qd, qe, List.length_map] at h1
  refine Qt rfl (Qt rfl (Qm rfl rfl ?_))
  refine hK _ _ (Qb (kp7 rfl rfl rfl rfl rfl rfl rfl) ?_)
  refine Zs rfl (Qf fun K hK => Qa rfl (Qa rfl (Qa rfl (Qa rfl ?_))))
  refine hK _ _ (Qb (kp2 rfl rfl) ?_)
  refine Qu (Qj (Qr (QW (Qr ?_))))
  rw [hI3, QcI (QoJ h1) (by omega)]
  exact QT rfl rfl ⟨rfl, rfl⟩
 ·try rw [h1]
  try simp only [qa, qb, qc, qd, qe, List.length_map] at h1
  refine Qk rfl (Qa rfl (Qk rfl (ZW rfl rfl (Qm rfl rfl ?_))))
  refine hK _ _ (Qb (kp7 rfl rfl rfl rfl rfl rfl rfl) ?_)
  refine Qw rfl (fun h2 => ?_) (fun h2 => ?_)
  ·try rw [h2]
   try simp only [qa, qb, qc, qd, qe, List.length_map] at h2
   try (obtain ⟨a, k, ho⟩ := Qef h2; have hin := ho.inW; have ha := ho.ha; rw [ho.eq]; dsimp only)
   refine Qf fun K hK => Qa rfl (Qa rfl (Qa rfl (Qa rfl ?_)))
   refine hK _ _ (Qb (kp2 rfl rfl) ?_)
   refine Qu (Qj (Qr (QW (Qr ?_))))
   rw [hI3, QcI h2 (by omega)]
   exact QT rfl rfl ⟨rfl, rfl⟩
  ·try rw [h2]
   try simp only [qa, qb, qc, qd, qe, List.length_map] at h2
   try (obtain ⟨a, k, ho⟩ := Qef h2; have hin := ho.inW; have ha := ho.ha; rw [ho.eq]; dsimp only)
   refine Qv (Qd (kp6 rfl rfl rfl rfl rfl rfl) ?_)
   refine Qz ?_ -- 2
   refine Qf fun K hK => Qa rfl (Qa rfl (QK rfl rfl rfl (by omega) (QS (by omega)) rfl (QC rfl rfl rfl ?_)))
   first | refine QO rfl QP ?_ | refine QO rfl rfl ?_
   refine Qa rfl ?_
   refine hK _ _ (Qb (kp9 rfl rfl rfl rfl rfl rfl rfl rfl rfl) ?_)
   refine Qy ?_
   refine Zi (ι := Nat) (fun j => ⟨[(1, dDb db), (3, .ref 3 0 0), (8, Zp out), (9, .osl 500000 (ZR w out).length), (10, .int .i64 a), (11, .int .i64 ((db[a]'ho.ha)[k]'ho.hk).u), (38, ZC (db[a]'ho.ha)), (39, .int .i64 (db[a]'ho.ha).length), (40, .int .i64 j)], [(3, ⟨[[.sl ((w).map Z8)]], 1, 26, true⟩), (500000, ⟨(ZR w out).map (fun x => [.int .i64 x]), 1, 3, true⟩)]⟩) (fun j => j <= k) (fun j => k - j) 0 ?_ ?_ ?_
   ·exact QX (l := [1, 3, 8, 9, 10, 11, 38, 39, 40]) (lH := [3, 500000]) (kp9 rfl rfl rfl rfl rfl rfl rfl rfl rfl) (Qe rfl (Qe rfl Ql)) rfl rfl rfl
   ·exact Nat.zero_le _
   intro j hJ
   have hk := ho.hk
   have hln := (hi _ (List.getElem_mem ho.ha)).len
   try dsimp only
   refine Qf fun K hK => ZW rfl rfl ?_
   refine hK _ _ (Qb (Qpb rfl rfl rfl rfl rfl rfl rfl rfl rfl rfl) ?_)
   refine Qz ?_ -- 3
   refine Qw rfl (fun h3 => ?_) (fun h3 => ?_)
   ·try rw [h3]
    try simp only [qa, qb, qc, qd, qe, List.length_map] at h3
    refine Qv (Qd (kp9 rfl rfl rfl rfl rfl rfl rfl rfl rfl) ?_)
    refine Qz ?_ -- 4
    refine Qy (Qf fun K hK => QK rfl rfl rfl (by omega) (QS (by omega)) rfl (QG (cs := [_, _]) rfl rfl rfl rfl (ZH rfl (Q7 rfl rfl rfl rfl rfl rfl rfl rfl ?_))))
    refine hK _ _ (Qb (Qpb rfl rfl rfl rfl rfl rfl rfl rfl rfl rfl) ?_)
    refine Qz ?_ -- 5
    refine Qf fun K hK => Qh rfl rfl (QC rfl rfl rfl (Qa rfl (X1 rfl rfl ?_)))
    refine hK _ _ (Qb (Qr5 rfl rfl rfl rfl rfl rfl rfl rfl rfl rfl rfl) ?_)
    refine Qw rfl (fun h4 => ?_) (fun h4 => ?_)
    ·try rw [h4]
     try simp only [qa, qb, qc, qd, qe, List.length_map] at h4
     try (have e := (hi _ (List.getElem_mem ho.ha)).uniq ho.hk (by omega) h4.symm; subst e)
     refine Za (QJ (QB (Qd (kp9 rfl rfl rfl rfl rfl rfl rfl rfl rfl) (QL fun K hK => QY rfl rfl (by first | exact Qq (by omega) (by omega) | rfl) (Qa rfl (hK _ ?_))))))
     refine Qi (j + 1) ?_ ?_ ?_
     ·exact QX (l := [1, 3, 8, 9, 10, 11, 38, 39, 40]) (lH := [3, 500000]) (kp9 rfl rfl rfl rfl rfl rfl rfl rfl rfl) (Qe rfl (Qe rfl Ql)) rfl rfl rfl
     ·show j + 1 <= k; have : j ≠ k := fun e => h4 (by subst e; rfl); omega
     ·show k - (j + 1) < k - j; have : j ≠ k := fun e => h4 (by subst e; rfl); omega
    ·try rw [h4]
     try simp only [qa, qb, qc, qd, qe, List.length_map] at h4
     try (have e := (hi _ (List.getElem_mem ho.ha)).uniq ho.hk (by omega) h4.symm; subst e)
     refine Qv (Qd (kp7 rfl rfl rfl rfl rfl rfl rfl) (Qf fun K hK => QG (cs := [_]) rfl rfl rfl rfl (Qa rfl (QG (cs := [_, _]) rfl rfl rfl rfl (Qa rfl ?_)))))
     have hcall := Qgz hw (l := out) (by omega) hI1 (t := ((db[a]'ho.ha)[k]'ho.hk)) (c := a)
     rw [ho.step' hI1] at hcall
     refine QH (hcall) rfl rfl (.inl rfl) (Qa rfl (QV rfl rfl (QV rfl rfl (Qa rfl (Qa rfl ?_)))))
     refine hK _ _ (Qb (kp8 rfl rfl rfl rfl rfl rfl rfl rfl) ?_)
     refine Qz ?_ -- 6
     refine Qf fun K hK => Qa rfl (Z9 rfl ?_)
     refine hK _ _ (Qb (kp8 rfl rfl rfl rfl rfl rfl rfl rfl) ?_)
     refine Qw rfl (fun h5 => ?_) (fun h5 => ?_)
     ·try rw [h5]
      try simp only [qa, qb, qc, qd, qe, List.length_map] at h5
      exact absurd h5 (by simp)
     ·try rw [h5]
      try simp only [qa, qb, qc, qd, qe, List.length_map] at h5
      refine Qv (Qd (kp6 rfl rfl rfl rfl rfl rfl) (Qf fun K hK => Qa rfl (Qa rfl (Qa rfl (Qa rfl (Qa rfl (XL (ds0 := [6, 3, 0]) rfl rfl rfl (by simp) (by omega) (by omega) rfl rfl rfl (QR (ds0 := [3, 0]) rfl (Ya rfl (Zu (by omega) (by omega))) rfl rfl rfl (Qh rfl rfl (QR (ds0 := [3, 0]) rfl rfl rfl rfl rfl ?_))))))))))
      refine Qfc rfl rfl (Qa rfl (XL (ds0 := [0]) rfl rfl rfl (by simp) (by omega) (by omega) rfl rfl rfl (Y4 (ds0 := []) rfl rfl (Zu (by omega) (by omega)) rfl rfl rfl rfl rfl rfl rfl ?_)))
      refine hK _ _ (Qb (kp4 rfl rfl rfl rfl) ?_)
      refine Za (Qep (by decide) (QJ (Qx (Qep (by decide) (QJ (QB ?_))))))
      refine Qi (n + 1, out ++ [QnM w out ((db[a]'ho.ha)[k]'ho.hk) a]) ?_ ?_ ?_
      ·exact QX (l := [1, 3, 8, 9]) (lH := [3, 500000]) (kp4 rfl rfl rfl rfl) (Qe rfl (Qe rfl Ql)) (by rw [QiT hin.1 hin.2 (by omega), List.length_set]; simp [Zp, QfK, QnM]) (by rw [QiT hin.1 hin.2 (by omega), List.map_set] <;> rfl) rfl
      ·exact ⟨ho.plain hI1, by simp only [List.length_append, List.length_singleton]; omega, by rw [hI3, ho.go hI1 hi (by omega), show w.length * 18 + 1 - (n + 1) = w.length * 18 + 1 - n - 1 by omega], by have := ho.tot hI1; show tot w (out ++ [QnM w out ((db[a]'ho.ha)[k]'ho.hk) a]) < w.length * 18 + 1 - (n + 1); omega⟩
      ·exact ho.tot hI1
   ·try rw [h3]
    try simp only [qa, qb, qc, qd, qe, List.length_map] at h3
    exfalso; omega
end Go.Proofs
namespace M25
open Go Go.Abs M3
/-! ### Sets that are made: moderate sizes -/
theorem Qob (l : List (Cu × Cu)) (x y : Cu) : (Qck l x y).length <= l.length + 1 := QiY l x y
theorem QhC (f : Cu -> Cu -> Bool) : ∀ (c : List Cu) (out : List (Cu × Cu)), (∀ x ∈ c, Cu.sm x) -> (∀ s ∈ out, Cu.sm s.1 /\ Cu.sm s.2) -> (Qcj f c out).length <= out.length + c.length /\ ∀ s ∈ Qcj f c out, Cu.sm s.1 /\ Cu.sm s.2
 | [], out, _, h => ⟨by simp [Qcj], by simpa [Qcj] using h⟩
 | [x], out, _, h => ⟨by simp [Qcj], by simpa [Qcj] using h⟩
 | x :: y :: r, out, hc, h => by
  rw [Qcj]
  have hxy := Qob out x y
  split
  ·obtain ⟨h1, h2⟩ := QhC f (y :: r) (Qck out x y) (fun z hz => hc z (by simp at hz ⊢; exact .inr hz)) (QkU h (hc x (by simp)) (hc y (by simp)))
   exact ⟨by simp only [List.length_cons] at h1 ⊢; omega, h2⟩
  ·obtain ⟨h1, h2⟩ := QhC f (y :: r) out (fun z hz => hc z (by simp at hz ⊢; exact .inr hz)) h
   exact ⟨by simp only [List.length_cons] at h1 ⊢; omega, h2⟩
def SmN (n : Nat) (l : List (Cu × Cu)) : Prop := l.length <= n /\ ∀ s ∈ l, Cu.sm s.1 /\ Cu.sm s.2
theorem SmN.sm {n : Nat} {l : List (Cu × Cu)} (h : SmN n l) (hn : n <= 1000000) : Sm l := ⟨Nat.le_trans h.1 hn, h.2⟩
theorem SmN.up {n m : Nat} {l : List (Cu × Cu)} (h : SmN n l) (hn : n <= m) : SmN m l := ⟨Nat.le_trans h.1 hn, h.2⟩
theorem SmN.nil (n : Nat) : SmN n [] := ⟨Nat.zero_le _, by simp⟩
theorem Qpi {a b : List (Cu × Cu)} {n m : Nat} (ha : SmN n a) (hb : SmN m b) (h : n + m <= 1000000) : SmN (2 + 2 * (n + m)) (Qpe a b) := by
 unfold Qpe
 split
 ·have hab : Sm (a ++ b) := (ha.sm (by omega)).app (hb.sm (by omega)) (by have := ha.1; have := hb.1; omega)
  unfold Qj1
  split
  ·obtain ⟨h1, h2⟩ := QhC (mIn (a ++ b)) (YU (a ++ b)) [] (Yy hab) (by simp)
   have := Qci (a ++ b)
   have := ha.1
   have := hb.1
   exact ⟨by simp only [List.length_nil, List.length_append] at *; omega, h2⟩
  ·exact SmN.nil _
 ·exact SmN.nil _
theorem QmZ {a : List (Cu × Cu)} {n : Nat} (ha : SmN n a) (h : n <= 1000000) : SmN (2 + 2 * n) (Qj2 a) := by
 unfold Qj2
 split
 ·obtain ⟨h1, h2⟩ := QhC (fun x y => !mIn a x y) (YU a) [] (Yy (ha.sm h)) (by simp)
  have := Qci a
  have := ha.1
  exact ⟨by simp only [List.length_nil] at *; omega, h2⟩
 ·exact SmN.nil _
def Qlm (n : Nat) (s : Qfd) : Prop := SmN n s.1 /\ SmN n s.2
theorem QqR {a b : Qfd} {n m : Nat} (ha : Qlm n a) (hb : Qlm m b) (h : n + m <= 1000000) : Qlm (2 + 2 * (n + m)) (Qpf a b) := by
 unfold Qpf
 split
 ·exact ⟨Qpi ha.1 hb.1 h, Qpi ha.2 hb.2 h⟩
 ·exact ⟨SmN.nil _, SmN.nil _⟩
theorem Qm0 {a : Qfd} {n : Nat} (ha : Qlm n a) (h : n <= 1000000) : Qlm (2 + 2 * n) (QhY a) := by
 unfold QhY
 split
 ·exact ⟨QmZ ha.1 h, QmZ ha.2 h⟩
 ·exact ⟨SmN.nil _, SmN.nil _⟩
theorem QcK (e a b c : Int) (f : Bool) : Cu.sm ⟨e, a, b, c, [], [], f⟩ := ⟨Nat.zero_le _, Nat.zero_le _⟩
theorem Qcz {a b c : Int} {p q : List UInt8} (hp : p.length <= 1000000) : Qlm 1 (Xh a b c p q) := by
 unfold Xh
 split
 ·exact ⟨SmN.nil _, SmN.nil _⟩
 ·split
  ·refine ⟨SmN.nil _, ⟨Nat.le_refl _, fun s hs => ?_⟩⟩
   simp only [List.mem_singleton] at hs; subst hs
   exact ⟨⟨hp, Nat.zero_le _⟩, ⟨hp, Nat.zero_le _⟩⟩
  ·refine ⟨⟨Nat.le_refl _, fun s hs => ?_⟩, SmN.nil _⟩
   simp only [List.mem_singleton] at hs; subst hs
   constructor
   ·unfold Qga; split
    ·exact QcK ..
    ·exact QcK ..
   ·unfold QdX; split
    ·exact QcK ..
    ·exact QcK ..
def Ql6 : Qfd := ([(QbM, Qe7)], [(QbM, Qe7)])
theorem QoZ : Qlm 1 Ql6 := by
 have h : SmN 1 [(QbM, Qe7)] := ⟨Nat.le_refl _, fun s hs => by simp only [List.mem_singleton] at hs; subst hs; exact ⟨QcK .., QcK ..⟩⟩
 exact ⟨h, h⟩
def bnd (i : Nat) : Nat := 4 * 2 ^ i
theorem Qo1 {i : Nat} (h : i <= 16) : bnd i <= 262144 := by
 have : 2 ^ i <= 2 ^ 16 := Nat.pow_le_pow_right (by omega) h
 have e : (2 : Nat) ^ 16 = 65536 := by decide
 unfold bnd; omega
theorem QqX {s : Qfd} {i : Nat} (h : Qlm (bnd i - 4) s) {a b c : Int} {p q : List UInt8} (hp : p.length <= 1000000) (hi : i <= 16) : Qlm (bnd (i + 1) - 4) (Qpf s (Xh a b c p q)) := by
 have h1 := Qo1 hi
 have h4 : 4 <= bnd i := by unfold bnd; have := Nat.one_le_two_pow (n := i); omega
 have := QqR h (Qcz (a := a) (b := b) (c := c) (q := q) hp) (by omega)
 have e : bnd (i + 1) = 2 * bnd i := by unfold bnd; rw [Nat.pow_succ]; omega
 exact ⟨this.1.up (by omega), this.2.up (by omega)⟩
theorem QoK {s : Qfd} {i : Nat} (h : Qlm (bnd i - 4) s) : Qlm (bnd (i + 1) - 4) s := by
 have e : bnd (i + 1) = 2 * bnd i := by unfold bnd; rw [Nat.pow_succ]; omega
 exact ⟨h.1.up (by omega), h.2.up (by omega)⟩
def SetOk (s : Qfd) : Prop := Qlm 600000 s
theorem SetOk.sm {s : Qfd} (h : SetOk s) : Sm s.1 /\ Sm s.2 := ⟨h.1.sm (by omega), h.2.sm (by omega)⟩
structure CR where
 v : Vr
 x : D
 y : D
 z : D
def dCR (r : CR) : List D := [.int .i64 r.v.a, .int .i64 r.v.b, .int .i64 r.v.c, .str r.v.p, .str r.v.q, r.x, r.y, r.z]
def CR.ren (r : CR) : CR := ⟨r.v, r.x.renS upN, r.y.renS upN, r.z.renS upN⟩
theorem Qme (l : List CR) : (l.map dCR).map (fun r => r.map (D.renS upN)) = (l.map CR.ren).map dCR := by
 rw [List.map_map, List.map_map]; rfl
structure UR where
 n : List UInt8
 f : List UInt8
 k : Nat
 cs : List CR
def dUR (u : UR) : List D := [.str u.n, .str u.f, .osl u.k u.cs.length]
def UR.ren (u : UR) : UR := ⟨u.n, u.f, upN u.k, u.cs.map CR.ren⟩
theorem QpN (l : List UR) : (l.map dUR).map (fun r => r.map (D.renS upN)) = (l.map UR.ren).map dUR := by
 rw [List.map_map, List.map_map]
 refine List.map_congr_left fun u _ => ?_
 simp [dUR, UR.ren, D.renS]
structure Fam (H : List (Nat × Box)) (kg ku eu ec : Nat) (us : List UR) : Prop where
 ne : ku ≠ kg
 u : ∃ pr, lk H ku = some ⟨us.map dUR, 3, eu, pr⟩
 c : ∀ y ∈ us, y.k ≠ kg /\ ∃ pr, lk H y.k = some ⟨y.cs.map dCR, 8, ec, pr⟩
 v : ∀ y ∈ us, y.cs.length <= 16 /\ ∀ z ∈ y.cs, QgI z.v
theorem Fam.up {H : List (Nat × Box)} {kg ku eu ec : Nat} {us : List UR} (h : Fam H kg ku eu ec us) : Fam (upH H) (upN kg) (upN ku) eu ec (us.map UR.ren) := by
 obtain ⟨h1, ⟨pu, h2⟩, h3, h4⟩ := h
 refine ⟨fun e => h1 (Qkk e), ⟨pu, ?_⟩, fun y hy => ?_, fun y hy => ?_⟩
 ·rw [QaH, h2, Option.map_some, Box.ren, QpN]
 ·obtain ⟨u, hu, rfl⟩ := List.mem_map.1 hy
  obtain ⟨q1, pr, q2⟩ := h3 u hu
  refine ⟨fun e => q1 (Qkk e), pr, ?_⟩
  show lk (upH H) (upN u.k) = _
  rw [QaH, q2, Option.map_some, Box.ren, Qme]; rfl
 ·obtain ⟨u, hu, rfl⟩ := List.mem_map.1 hy
  obtain ⟨q1, q2⟩ := h4 u hu
  refine ⟨by simpa [UR.ren] using q1, fun z hz => ?_⟩
  obtain ⟨z0, hz0, rfl⟩ := List.mem_map.1 hz
  exact q2 z0 hz0
theorem Fam.cons {H : List (Nat × Box)} {kg ku eu ec : Nat} {us : List UR} (h : Fam H kg ku eu ec us) {b : Box} : Fam ((kg, b) :: H) kg ku eu ec us := by
 obtain ⟨h1, ⟨pu, h2⟩, h3, h4⟩ := h
 exact ⟨h1, ⟨pu, Qp (Ne.symm h1) h2⟩, fun y hy => let ⟨q1, pr, q2⟩ := h3 y hy; ⟨q1, pr, Qp (Ne.symm q1) q2⟩, h4⟩
def WantIn (n : Nat) (x : WantT) : Prop := 1 <= x.u /\ x.u < n /\ SetOk x.s
def Qio (n : Nat) (r : List WantT) : Prop := r.length <= 2 /\ ∀ x ∈ r, WantIn n x
def Qfx (n : Nat) (m : Int) (ns : List (List WantT)) : Prop := (ns.length : Int) <= m /\ ∀ r ∈ ns, Qio n r
theorem Qp4 {n : Nat} {x : WantT} (h : WantIn n x) : Qio n [x] := ⟨by simp, by intro y hy; simp only [List.mem_singleton] at hy; subst hy; exact h⟩
theorem Qp5 {n : Nat} {x y : WantT} (h : WantIn n x) (h' : WantIn n y) : Qio n [x, y] := ⟨by simp, by
 intro z hz
 simp only [List.mem_cons, List.not_mem_nil, or_false] at hz
 rcases hz with rfl | rfl
 ·exact h
 ·exact h'⟩
theorem Qng {n : Nat} {ns : List (List WantT)} {r : List WantT} (h : ∀ r ∈ ns, Qio n r) (hr : Qio n r) : ∀ x ∈ ns ++ [r], Qio n x := fun x hx => by
 rcases List.mem_append.1 hx with hx | hx
 ·exact h x hx
 ·simp only [List.mem_singleton] at hx; subst hx; exact hr
end M25
namespace Go.Proofs
open Go Go.Abs M3 M25
set_option linter.unusedVariables false
set_option linter.unusedSimpArgs false
theorem Qcq {s : St} {args : List Opd} {kg : Nat} {L : List Int} {I n : Int} {et : Nat} (ha : ZY s args = some [.ref kg 0 0, .int .i64 n]) (hg : lk s.H kg = some (gB L I et)) (hL : ∀ x ∈ L, I64 x) (hn : n <= 9223372036854775807) : Qbh Tryz.prog 36 args s [(kg, gB L I et)] [] [(kg, gB L (nxI I) et)] (.int .i64 (nx L I n)) := by
 refine Qkv (b' := gB L (nxI I) et) (ds' := [.ref (upN kg) 0 0, .int .i64 n]) ha (fun j x h => ?_) (fun k b hk j hj => ?_) (fun x hx j hj => ?_) ?_ rfl rfl rfl rfl ?_
 ·obtain ⟨rfl, rfl⟩ := Xy h; exact hg
 ·obtain ⟨rfl, rfl⟩ := Xy hk; simp [Box.ids, gB] at hj
 ·simp only [List.mem_cons, List.not_mem_nil, or_false] at hx
  rcases hx with rfl | rfl
  ·simp [D.ids, D.sid] at hj; subst hj; rw [QA]; rfl
  ·simp [D.ids, D.sid] at hj
 ·rw [QA]; rfl
 ·exact XM (by unfold upN; omega) hL hn et
theorem QdF {H : List (Nat × Box)} {kg kc : Nat} {L : List Int} {I : Int} {eg ec : Nat} {pr : Bool} {zs : List CR} (hkg : 1000000 <= kg) (hg : lk H kg = some (gB L I eg)) (hc : lk H kc = some ⟨zs.map dCR, 8, ec, pr⟩) (hne : kg ≠ kc) (hB : Big H) (hC : Closed H) (hL : ∀ x ∈ L, I64 x) (hz : ∀ z ∈ zs, QgI z.v) (hn : zs.length <= 16) : ∃ d H2, (∃ s I2, SetOk s /\ d = Qhz s /\ H2 = (kg, gB L I2 eg) :: H) /\ OkH Tryz.prog 62 [.ref kg 0 0, .osl kc zs.length] H d H2 := by
 have hkc := hB _ _ hc
 refine OkH.ofX (R := fun d H2 => ∃ s I2, SetOk s /\ d = Qhz s /\ H2 = (kg, gB L I2 eg) :: H) ZP Tryz.func62 QsV (Nat.le_of_ble_eq_true rfl) ?_
 show TX _ _ tf62.body _ _
 refine Q8 fun K hK => ?_
 refine ZH (by repeat (first | exact hB.none (by decide) | refine Zv (by first | decide | omega) ?_)) ?_
 refine hK _ _ (QQ (kp3 rfl rfl rfl) ?_)
 refine Q8 fun K hK => Qa rfl (Yl (Qcq (I := I) rfl (Qp (by omega) hg) hL (by omega)) (Qa rfl ?_))
 refine hK _ _ (QQ (kp4 rfl rfl rfl rfl) ?_)
 refine Q8 fun K hK => QH (Yb) rfl rfl (.inl rfl) ?_
 refine ZH (by repeat (first | exact hB.none (by decide) | refine Zv (by first | decide | omega) ?_)) ?_
 refine Q7 rfl rfl rfl rfl rfl rfl rfl rfl ?_
 refine hK _ _ (QQ (kp5 rfl rfl rfl rfl rfl) ?_)
 refine Xu ?_ -- 0
 refine Q8 fun K hK => Qa rfl ?_
 refine hK _ _ (QQ (kp6 rfl rfl rfl rfl rfl rfl) ?_)
 refine Yt ?_
 refine Qdz (ι := Nat × Qfd) (fun ⟨i, s⟩ => ⟨[(0, .ref kg 0 0), (1, .osl kc zs.length), (4, .ref 4 0 0), (5, .int .i64 (nx L I 8)), (6, .ref 6 0 0), (7, .int .i64 i)], [(4, ⟨[[.fsl [], .fsl []]], 2, 74, true⟩), (6, ⟨[[ZG s.1, ZG s.2]], 2, 74, true⟩), (kg, gB L (nxI I) eg)] ++ H⟩) (fun ⟨i, s⟩ => i <= zs.length /\ Qlm (bnd i - 4) s) (fun ⟨i, s⟩ => zs.length - i) (0, ([], [])) ?_ ?_ ?_
 ·exact Qf3 (l := [0, 1, 4, 5, 6, 7]) (B := [_, _, _, _]) (kp6 rfl rfl rfl rfl rfl rfl) rfl (by intro p hp; simp only [List.mem_cons, List.not_mem_nil, or_false] at hp; rcases hp with rfl | rfl | rfl <;> exact ⟨by repeat (first | exact QA | refine Qp (by first | decide | omega) ?_), rfl⟩) rfl (by intro p hp h; simp only [List.mem_cons, List.not_mem_nil, or_false] at hp; rcases hp with rfl | rfl | rfl | rfl <;> first | (simp only at h; omega) | (repeat (first | exact Q4 | refine Q3 ?_))) hB hC (by intro p hp k hk; simp only [List.mem_cons, List.not_mem_nil, or_false] at hp; rcases hp with rfl | rfl | rfl | rfl | rfl | rfl <;> first | (simp [D.ids, D.sid, Q9, Q1, Zl] at hk; done) | (simp [D.ids, D.sid, Q9, Q1, Zl] at hk; subst hk; repeat (first | exact Q4 | exact Zt hg | exact Zt hc | refine Q3 ?_)))
 ·exact ⟨Nat.zero_le _, SmN.nil _, SmN.nil _⟩
 intro ⟨i, s⟩ hI
 try dsimp only at hI
 have hb16 := Qo1 (i := i) (by omega)
 try dsimp only
 refine Xu ?_ -- 1
 refine Q8 fun K hK => Qa rfl (Qa rfl ?_)
 first | refine QO rfl QP ?_ | refine QO rfl rfl ?_
 refine ZW rfl rfl ?_
 refine hK _ _ (QQ (kp7 rfl rfl rfl rfl rfl rfl rfl) ?_)
 refine YK rfl (fun h1 => ?_) (fun h1 => ?_)
 ·try rw [h1]
  try simp only [qa, qb, qc, qd, qe, List.length_map] at h1
  refine Y1 (Q5 (kp6 rfl rfl rfl rfl rfl rfl) ?_)
  refine Xu ?_ -- 2
  refine Yt (Q8 fun K hK => Qa rfl (Qa rfl (Qin rfl (Qfw (by omega) (by omega)) (Qqy rfl rfl (by omega) (Qdy rfl rfl (ZL rfl rfl ?_))))))
  refine hK _ _ (QQ (kp7 rfl rfl rfl rfl rfl rfl rfl) ?_)
  refine YK rfl (fun h2 => ?_) (fun h2 => ?_)
  ·try rw [h2]
   try simp only [qa, qb, qc, qd, qe, List.length_map] at h2
   have hvp := (hz _ (List.getElem_mem (show i < zs.length by omega))).1
   refine ZQ fun K hK => QN (ds0 := [1, 0]) (cs := [_, _]) rfl rfl rfl rfl (by simp [Dr.ok, Qb7]) rfl (Qa rfl (Qa rfl (XL (ds0 := [4, 3, 2, 1, 0]) rfl rfl (Qp (by omega) (Qp (by omega) (Qp (by omega) hc))) (by simp) (by omega) (by omega) rfl (by simp [Dr.ok, Qb7]) rfl (Qh rfl (Zt (Qp (by omega) (Qp (by omega) (Qp (by omega) hc)))) (QN (ds0 := [2, 1, 0]) (cs := [_, _, _, _, _]) rfl (Ya (Qp (by omega) (Qp (by omega) (Qp (by omega) hc))) (QS (by omega))) rfl rfl (by simp [Dr.ok, Qb7]) rfl (QU (ds0 := [1, 0]) (XX (hz _ (List.getElem_mem (by omega))).1 (hz _ (List.getElem_mem (by omega))).2) rfl rfl (.inl rfl) (by simp [Dr.ok, Qb7]) rfl (QU (ds0 := [0]) (Qer (a := s) (b := (Xh (zs[i]'(by omega)).v.a (zs[i]'(by omega)).v.b (zs[i]'(by omega)).v.c (zs[i]'(by omega)).v.p (zs[i]'(by omega)).v.q)) (hI.2.1.sm (by omega)) (hI.2.2.sm (by omega)) ((Qcz hvp).1.sm (by omega)) ((Qcz hvp).2.sm (by omega)) (by have := hI.2.1.1; have := (Qcz (a := (zs[i]'(by omega)).v.a) (b := (zs[i]'(by omega)).v.b) (c := (zs[i]'(by omega)).v.c) (q := (zs[i]'(by omega)).v.q) hvp).1.1; omega) (by have := hI.2.2.1; have := (Qcz (a := (zs[i]'(by omega)).v.a) (b := (zs[i]'(by omega)).v.b) (c := (zs[i]'(by omega)).v.c) (q := (zs[i]'(by omega)).v.q) hvp).2.1; omega)) rfl rfl (.inl rfl) (by simp [Dr.ok, Qb7]) rfl (Y4 (ds0 := []) rfl rfl rfl rfl rfl rfl rfl rfl (by simp [Dr.ok, Qb7]) rfl (hK _ ?_)))))))))
   refine Qg (Q5 (kp6 rfl rfl rfl rfl rfl rfl) (ZQ fun K hK => Qa rfl (QY rfl rfl (by first | exact Qq (by omega) (by omega) | rfl) (Qa rfl (hK _ ?_)))))
   refine Qi (i + 1, Qpf s (Xh (zs[i]'(by omega)).v.a (zs[i]'(by omega)).v.b (zs[i]'(by omega)).v.c (zs[i]'(by omega)).v.p (zs[i]'(by omega)).v.q)) ?_ ?_ ?_
   ·exact Qf3 (l := [0, 1, 4, 5, 6, 7]) (B := [_, _, _, _]) (kp6 rfl rfl rfl rfl rfl rfl) rfl (by intro p hp; simp only [List.mem_cons, List.not_mem_nil, or_false] at hp; rcases hp with rfl | rfl | rfl <;> exact ⟨by repeat (first | exact QA | refine Qp (by first | decide | omega) ?_), rfl⟩) rfl (by intro p hp h; simp only [List.mem_cons, List.not_mem_nil, or_false] at hp; rcases hp with rfl | rfl | rfl | rfl <;> first | (simp only at h; omega) | (repeat (first | exact Q4 | refine Q3 ?_))) hB hC (by intro p hp k hk; simp only [List.mem_cons, List.not_mem_nil, or_false] at hp; rcases hp with rfl | rfl | rfl | rfl | rfl | rfl <;> first | (simp [D.ids, D.sid, Q9, Q1, Zl] at hk; done) | (simp [D.ids, D.sid, Q9, Q1, Zl] at hk; subst hk; repeat (first | exact Q4 | exact Zt hg | exact Zt hc | refine Q3 ?_)))
   ·exact ⟨by show i + 1 <= _; omega, QqX hI.2 (hz _ (List.getElem_mem (by omega))).1 (by omega)⟩
   ·show zs.length - (i + 1) < zs.length - i; omega
  ·try rw [h2]
   try simp only [qa, qb, qc, qd, qe, List.length_map] at h2
   have hvp := (hz _ (List.getElem_mem (show i < zs.length by omega))).1
   refine Y1 (Qg (Q5 (kp6 rfl rfl rfl rfl rfl rfl) (ZQ fun K hK => Qa rfl (QY rfl rfl (by first | exact Qq (by omega) (by omega) | rfl) (Qa rfl (hK _ ?_))))))
   refine Qi (i + 1, s) ?_ ?_ ?_
   ·exact Qf3 (l := [0, 1, 4, 5, 6, 7]) (B := [_, _, _]) (kp6 rfl rfl rfl rfl rfl rfl) rfl (by intro p hp; simp only [List.mem_cons, List.not_mem_nil, or_false] at hp; rcases hp with rfl | rfl | rfl <;> exact ⟨by repeat (first | exact QA | refine Qp (by first | decide | omega) ?_), rfl⟩) rfl (by intro p hp h; simp only [List.mem_cons, List.not_mem_nil, or_false] at hp; rcases hp with rfl | rfl | rfl <;> first | (simp only at h; omega) | (repeat (first | exact Q4 | refine Q3 ?_))) hB hC (by intro p hp k hk; simp only [List.mem_cons, List.not_mem_nil, or_false] at hp; rcases hp with rfl | rfl | rfl | rfl | rfl | rfl <;> first | (simp [D.ids, D.sid, Q9, Q1, Zl] at hk; done) | (simp [D.ids, D.sid, Q9, Q1, Zl] at hk; subst hk; repeat (first | exact Q4 | exact Zt hg | exact Zt hc | refine Q3 ?_)))
   ·exact ⟨by show i + 1 <= _; omega, QoK hI.2⟩
   ·show zs.length - (i + 1) < zs.length - i; omega
 ·try rw [h1]
  try simp only [qa, qb, qc, qd, qe, List.length_map] at h1
  refine QbL (YB (Qx (QB (Q5 (kp3 rfl rfl rfl) ?_))))
  refine Xu ?_ -- 3
  refine Q8 fun K hK => Qa rfl (Yl (Qcq (I := nxI I) rfl (Qp (by omega) (Qp (by omega) QA)) hL (by omega)) ?_)
  refine hK _ _ (QQ (kp3 rfl rfl rfl) ?_)
  refine Yt (Q8 fun K hK => ZL rfl rfl (Qa rfl ?_))
  refine hK _ _ (QQ (kp4 rfl rfl rfl rfl) ?_)
  refine YK rfl (fun h3 => ?_) (fun h3 => ?_)
  ·try rw [h3]
   try simp only [qa, qb, qc, qd, qe, List.length_map] at h3
   refine Q8 fun K hK => QH (QaC) rfl rfl (.inl rfl) (Q7 rfl (Qp (by omega) rfl) rfl rfl rfl rfl rfl rfl ?_)
   refine hK _ _ (QQ (kp1 rfl) ?_)
   refine Qe3 (Qr (QaJ ?_))
   refine ⟨Qhz Ql6, (kg, gB L (nxI (nxI I)) eg) :: H, ⟨Ql6, _, ⟨QoZ.1.up (by omega), QoZ.2.up (by omega)⟩, rfl, rfl⟩, (XI hB hC hkg rfl).1, (XI hB hC hkg rfl).2, ?_⟩
   refine QcG (cs := [ZG Ql6.1, ZG Ql6.2]) rfl (Ya (by repeat (first | exact QA | refine Qp (by first | decide | omega) ?_)) rfl) rfl rfl rfl ?_
   exact QaG (B := [_, _, _, _, _]) hB (by repeat (first | exact QA | refine Qp (by first | decide | omega) ?_)) (by intro p hp h; simp only [List.mem_cons, List.not_mem_nil, or_false] at hp; rcases hp with rfl | rfl | rfl | rfl | rfl <;> first | rfl | (simp only at h; omega))
  ·try rw [h3]
   try simp only [qa, qb, qc, qd, qe, List.length_map] at h3
   refine Q8 fun K hK => ZL rfl rfl (Qa rfl ?_)
   refine hK _ _ (QQ (kp3 rfl rfl rfl) ?_)
   refine YK rfl (fun h4 => ?_) (fun h4 => ?_)
   ·try rw [h4]
    try simp only [qa, qb, qc, qd, qe, List.length_map] at h4
    refine Q8 fun K hK => QG (cs := [_, _]) rfl (Ya (Qp (by omega) rfl) rfl) rfl rfl (QH (QdJ (a := s) (hI.2.1.sm (by omega)) (hI.2.2.sm (by omega))) rfl rfl (.inl rfl) (Q7 rfl (Qp (by omega) rfl) rfl rfl rfl rfl rfl rfl ?_))
    refine hK _ _ (QQ (kp1 rfl) ?_)
    refine Qe3 (Qr (QaJ ?_))
    refine ⟨Qhz (QhY s), (kg, gB L (nxI (nxI I)) eg) :: H, ⟨(QhY s), _, ⟨(Qm0 hI.2 (by omega)).1.up (by omega), (Qm0 hI.2 (by omega)).2.up (by omega)⟩, rfl, rfl⟩, (XI hB hC hkg rfl).1, (XI hB hC hkg rfl).2, ?_⟩
    refine QcG (cs := [ZG (QhY s).1, ZG (QhY s).2]) rfl (Ya (by repeat (first | exact QA | refine Qp (by first | decide | omega) ?_)) rfl) rfl rfl rfl ?_
    exact QaG (B := [_, _, _, _, _]) hB (by repeat (first | exact QA | refine Qp (by first | decide | omega) ?_)) (by intro p hp h; simp only [List.mem_cons, List.not_mem_nil, or_false] at hp; rcases hp with rfl | rfl | rfl | rfl | rfl <;> first | rfl | (simp only at h; omega))
   ·try rw [h4]
    try simp only [qa, qb, qc, qd, qe, List.length_map] at h4
    refine Y1 (Qg (Q5 (kp2 rfl rfl) (Q8 fun K hK => QG (cs := [_, _]) rfl (Ya (Qp (by omega) rfl) rfl) rfl rfl (Q7 rfl (Qp (by omega) rfl) rfl rfl rfl rfl rfl rfl ?_))))
    refine hK _ _ (QQ (kp1 rfl) ?_)
    refine Qe3 ?_
    refine ⟨Qhz s, (kg, gB L (nxI (nxI I)) eg) :: H, ⟨s, _, ⟨hI.2.1.up (by omega), hI.2.2.up (by omega)⟩, rfl, rfl⟩, (XI hB hC hkg rfl).1, (XI hB hC hkg rfl).2, ?_⟩
    refine QcG (cs := [ZG s.1, ZG s.2]) rfl (Ya (by repeat (first | exact QA | refine Qp (by first | decide | omega) ?_)) rfl) rfl rfl rfl ?_
    exact QaG (B := [_, _, _, _, _]) hB (by repeat (first | exact QA | refine Qp (by first | decide | omega) ?_)) (by intro p hp h; simp only [List.mem_cons, List.not_mem_nil, or_false] at hp; rcases hp with rfl | rfl | rfl | rfl | rfl <;> first | rfl | (simp only at h; omega))
end Go.Proofs
namespace Go.Proofs
open Go Go.Abs M3 M25
set_option linter.unusedVariables false
set_option linter.unusedSimpArgs false
/-- The call of 'set', over boxes that are lent. -/
theorem Qru {H : List (Nat × Box)} {kg kc : Nat} {L : List Int} {I : Int} {eg ec : Nat} {pr : Bool} {zs : List CR} (hg : lk H kg = some (gB L I eg)) (hc : lk H kc = some ⟨zs.map dCR, 8, ec, pr⟩) (hne : kg ≠ kc) (hC : Closed H) (hL : ∀ x ∈ L, I64 x) (hz : ∀ z ∈ zs, QgI z.v) (hn : zs.length <= 16) :
  ∃ s I2, SetOk s /\ ∀ (st : St) (args : List Opd), ZY st args = some [.ref kg 0 0, .osl kc zs.length] -> (∀ j x, lk H j = some x -> lk st.H j = some x) -> Qbh Tryz.prog 62 args st H [] [(kg, gB L I2 eg)] (Qhz s) := by
 obtain ⟨d, H2, ⟨s, I2, hs, rfl, rfl⟩, hok⟩ := QdF (H := upH H) (kg := upN kg) (kc := upN kc) (L := L) (I := I) (eg := eg) (ec := ec) (pr := pr) (zs := zs.map CR.ren) (by unfold upN; omega) (by rw [QaH, hg]; rfl) (by rw [QaH, hc, Option.map_some, Box.ren, Qme]) (fun e => hne (Qkk e)) Qkj (QeS hC) hL
  (fun z hz' => by obtain ⟨z0, h0, rfl⟩ := List.mem_map.1 hz'; exact hz z0 h0) (by simpa using hn)
 refine ⟨s, I2, hs, fun st args ha hF => Qkv (b' := gB L I2 eg) (ds' := [.ref (upN kg) 0 0, .osl (upN kc) zs.length]) ha hF hC (fun x hx j hj => ?_) (Zt hg) rfl rfl rfl rfl ?_⟩
 ·simp only [List.mem_cons, List.not_mem_nil, or_false] at hx
  rcases hx with rfl | rfl
  ·simp [D.ids, D.sid] at hj; subst hj; exact Zt hg
  ·simp [D.ids, D.sid] at hj; subst hj; exact Zt hc
 ·rw [List.length_map] at hok; exact hok
theorem Qdd {H : List (Nat × Box)} {kg ku : Nat} {L : List Int} {I : Int} {eg eu ec : Nat} {us : List UR} (hkg : 1000000 <= kg) (hg : lk H kg = some (gB L I eg)) (hU : Fam H kg ku eu ec us) (hB : Big H) (hC : Closed H) (hL : ∀ x ∈ L, I64 x) (h2n : 2 <= us.length) (hn : us.length <= 48) : ∃ d H2, (∃ x I2, WantIn us.length x /\ d = .agg (Qe6 x) /\ H2 = (kg, gB L I2 eg) :: H) /\ OkH Tryz.prog 37 [.ref kg 0 0, .osl ku us.length] H d H2 := by
 obtain ⟨pu, hu⟩ := hU.u
 have hku := hB _ _ hu
 have hne := hU.ne
 have hx0 := Qi2 (v := QnN L (IntKind.i64.wrap (nxI I - 1))) (n := (us.length : Int) - 1)
 have hx1 := Qi1 (v := QnN L (IntKind.i64.wrap (nxI I - 1))) (n := (us.length : Int) - 1) (by omega)
 change 0 <= nx L I ((us.length : Int) - 1) at hx0
 change nx L I ((us.length : Int) - 1) < _ at hx1
 obtain ⟨hyk, pr, hy⟩ := hU.c (us[(1 + nx L I ((us.length : Int) - 1)).toNat]'(by omega)) (List.getElem_mem _)
 obtain ⟨hv1, hv2⟩ := hU.v (us[(1 + nx L I ((us.length : Int) - 1)).toNat]'(by omega)) (List.getElem_mem _)
 obtain ⟨s, I2, hs, hcall⟩ := Qru (H := (kg, gB L (nxI I) eg) :: H) QA (Qp (Ne.symm hyk) hy) (Ne.symm hyk) (hC.pr rfl) hL hv2 hv1
 refine OkH.ofX (R := fun d H2 => ∃ x I2, WantIn us.length x /\ d = .agg (Qe6 x) /\ H2 = (kg, gB L I2 eg) :: H) ZP Tryz.func37 Qsw (Nat.le_of_ble_eq_true rfl) ?_
 show TX _ _ tf37.body _ _
 refine Q8 fun K hK => ?_
 refine ZH (by repeat (first | exact hB.none (by decide) | refine Zv (by first | decide | omega) ?_)) ?_
 refine hK _ _ (QQ (kp3 rfl rfl rfl) ?_)
 refine Q8 fun K hK => Qa rfl (Qa rfl ?_)
 first | refine QO rfl QP ?_ | refine QO rfl rfl ?_
 refine Qas rfl rfl (by first | exact Qq (by omega) (by omega) | rfl) (Yl (Qcq (I := I) rfl (Qp (by omega) hg) hL (by omega)) (QY rfl rfl (by first | exact Qq (by omega) (by omega) | rfl) (Qa rfl ?_)))
 refine hK _ _ (QQ (kp4 rfl rfl rfl rfl) ?_)
 refine Q8 fun K hK => Qa rfl (Qa rfl (Qa rfl (Qa rfl (Xk rfl rfl (Qp (by omega) (Qp (by omega) hu)) (by simp) (by omega) (by omega) rfl (Qh rfl (Zt (Qp (by omega) (Qp (by omega) hu))) (QC rfl (Ya (Qp (by omega) (Qp (by omega) hu)) (Zu (by omega) (by omega))) rfl (Yl (hcall _ _ rfl (QaG (B := [_, _]) hB QA (by intro p hp h; simp only [List.mem_cons, List.not_mem_nil, or_false] at hp; rcases hp with rfl | rfl <;> first | rfl | (simp only at h; omega)))) (QZ rfl rfl (Q7 rfl (Qp (by omega) (Qp (by omega) rfl)) rfl rfl rfl rfl rfl rfl ?_)))))))))
 refine hK _ _ (QQ (kp1 rfl) ?_)
 refine Qe3 ?_
 refine ⟨.agg (Qe6 ⟨1 + nx L I ((us.length : Int) - 1), s⟩), (kg, gB L I2 eg) :: H, ⟨⟨1 + nx L I ((us.length : Int) - 1), s⟩, _, ⟨by show 1 <= 1 + _; omega, by show 1 + _ < (us.length : Int); omega, hs⟩, rfl, rfl⟩, (XI hB hC hkg rfl).1, (XI hB hC hkg rfl).2, ?_⟩
 refine QcG (cs := Qe6 ⟨1 + nx L I ((us.length : Int) - 1), s⟩) rfl (Ya (by repeat (first | exact QA | refine Qp (by first | decide | omega) ?_)) rfl) rfl rfl rfl ?_
 exact QaG (B := [_, _, _, _]) hB (by repeat (first | exact QA | refine Qp (by first | decide | omega) ?_)) (by intro p hp h; simp only [List.mem_cons, List.not_mem_nil, or_false] at hp; rcases hp with rfl | rfl | rfl | rfl <;> first | rfl | (simp only at h; omega))
/-- The call of 'want'. -/
theorem Qk4 {H : List (Nat × Box)} {kg ku : Nat} {L : List Int} {I : Int} {eg eu ec : Nat} {us : List UR} (hg : lk H kg = some (gB L I eg)) (hU : Fam H kg ku eu ec us) (hC : Closed H) (hL : ∀ x ∈ L, I64 x) (h2 : 2 <= us.length) (hn : us.length <= 48) :
  ∃ x I2, WantIn us.length x /\ ∀ (st : St) (args : List Opd), ZY st args = some [.ref kg 0 0, .osl ku us.length] -> (∀ j x, lk H j = some x -> lk st.H j = some x) -> Qbh Tryz.prog 37 args st H [] [(kg, gB L I2 eg)] (.agg (Qe6 x)) := by
 obtain ⟨d, H2, ⟨x, I2, hx, rfl, rfl⟩, hok⟩ := Qdd (H := upH H) (kg := upN kg) (ku := upN ku) (L := L) (I := I) (eg := eg) (eu := eu) (ec := ec) (us := us.map UR.ren) (by unfold upN; omega) (by rw [QaH, hg]; rfl) hU.up Qkj (QeS hC) hL (by simpa using h2) (by simpa using hn)
 obtain ⟨pu, hu⟩ := hU.u
 rw [List.length_map] at hx hok
 refine ⟨x, I2, hx, fun st args ha hF => Qkv (b' := gB L I2 eg) (ds' := [.ref (upN kg) 0 0, .osl (upN ku) us.length]) ha hF hC (fun x hx j hj => ?_) (Zt hg) rfl rfl rfl rfl hok⟩
 simp only [List.mem_cons, List.not_mem_nil, or_false] at hx
 rcases hx with rfl | rfl
 ·simp [D.ids, D.sid] at hj; subst hj; exact Zt hg
 ·simp [D.ids, D.sid] at hj; subst hj; exact Zt hu
end Go.Proofs
namespace Go.Proofs
open Go Go.Abs M3 M25
set_option linter.unusedVariables false
set_option linter.unusedSimpArgs false
theorem QcS {H : List (Nat × Box)} {kg ku : Nat} {L : List Int} {I most : Int} {eg eu ec : Nat} {us : List UR} (hkg : 1000000 <= kg) (hg : lk H kg = some (gB L I eg)) (hU : Fam H kg ku eu ec us) (hB : Big H) (hC : Closed H) (hL : ∀ x ∈ L, I64 x) (h2n : 2 <= us.length) (hn : us.length <= 48) (hm0 : 0 <= most) (hm1 : most <= 10) : ∃ d H2, (∃ ns I2, Qfx us.length most ns /\ d = Q1 ns /\ H2 = (kg, gB L I2 eg) :: H) /\ OkH Tryz.prog 34 [.ref kg 0 0, .osl ku us.length, .int .i64 most] H d H2 := by
 obtain ⟨pu, hu⟩ := hU.u
 have hku := hB _ _ hu
 have hne := hU.ne
 have hk0 : 0 <= nx L I (most + 1) := Qi2
 have hk1 : nx L I (most + 1) < most + 1 := Qi1 (by omega)
 refine OkH.ofX (R := fun d H2 => ∃ ns I2, Qfx us.length most ns /\ d = Q1 ns /\ H2 = (kg, gB L I2 eg) :: H) ZP Tryz.func34 Qst (Nat.le_of_ble_eq_true rfl) ?_
 show TX _ _ tf34.body _ _
 refine Q8 fun K hK => Qa rfl ?_
 refine hK _ _ (QQ (kp3 rfl rfl rfl) ?_)
 refine Q8 fun K hK => Qa rfl ?_
 refine hK _ _ (QQ (kp4 rfl rfl rfl rfl) ?_)
 refine Xu ?_ -- 0
 refine Q8 fun K hK => Qa rfl (Qa rfl (QY rfl rfl (by first | exact Qq (by omega) (by omega) | rfl) (Yl (Qcq (I := I) rfl hg hL (by omega)) (Qa rfl ?_))))
 refine hK _ _ (QQ (kp4 rfl rfl rfl rfl) ?_)
 refine Yt ?_
 refine Qdz (ι := Nat × List (List WantT) × Int) (fun ⟨k, ns, J⟩ => ⟨[(0, .ref kg 0 0), (1, .osl ku us.length), (7, .osl 7 ns.length), (8, .int .i64 k)], [(7, ⟨(ns).map (fun r => [Q9 r]), 1, 68, true⟩), (kg, gB L J eg)] ++ H⟩) (fun ⟨k, ns, J⟩ => (ns.length : Int) + k <= most /\ ∀ r ∈ ns, Qio us.length r) (fun ⟨k, ns, J⟩ => k) ((nx L I (most + 1)).toNat, [], nxI I) ?_ ?_ ?_
 ·exact le_trans (Yc 7 7 1 68 rfl (by repeat (first | exact hB.none (by decide) | refine Zv (by first | decide | omega) ?_))) (Qf3 (l := [0, 1, 7, 8]) (B := [_, _]) (kp4 rfl rfl rfl rfl) (by simp only [Int.toNat_of_nonneg hk0] <;> rfl) (by intro p hp; simp only [List.mem_cons, List.not_mem_nil, or_false] at hp; rcases hp with rfl | rfl <;> exact ⟨by repeat (first | exact QA | refine Qp (by first | decide | omega) ?_), rfl⟩) rfl (by intro p hp h; simp only [List.mem_cons, List.not_mem_nil, or_false] at hp; rcases hp with rfl | rfl <;> first | (simp only at h; omega) | (repeat (first | exact Q4 | refine Q3 ?_))) hB hC (by intro p hp k hk; simp only [List.mem_cons, List.not_mem_nil, or_false] at hp; rcases hp with rfl | rfl | rfl | rfl <;> first | (simp [D.ids, D.sid, Q9, Q1, Zl] at hk; done) | (simp [D.ids, D.sid, Q9, Q1, Zl] at hk; subst hk; repeat (first | exact Q4 | exact Zt hg | exact Zt hu | refine Q3 ?_))))
 ·exact ⟨by simp only [List.length_nil]; omega, by simp⟩
 intro ⟨k, ns, J⟩ hI
 try dsimp only at hI
 try dsimp only
 refine Xu ?_ -- 1
 refine Q8 fun K hK => Qa rfl (Qii rfl rfl ?_)
 refine hK _ _ (QQ (kp5 rfl rfl rfl rfl rfl) ?_)
 refine YK rfl (fun h1 => ?_) (fun h1 => ?_)
 ·try rw [h1]
  try simp only [qa, qb, qc, qd, qe, List.length_map] at h1
  refine Y1 (Q5 (kp4 rfl rfl rfl rfl) ?_)
  refine Xu ?_ -- 2
  refine Yt (Q8 fun K hK => Qa rfl (Qa rfl ?_))
  obtain ⟨x1, J1, hx1, hc1⟩ := Qk4 (I := J) (H := (kg, gB L (J) eg) :: H) QA hU.cons (hC.pr rfl) hL h2n hn
  refine Yl (hc1 _ _ rfl (QaG (B := [_, _]) hB (by repeat (first | exact QA | refine Qp (by first | decide | omega) ?_)) (by intro p hp h; simp only [List.mem_cons, List.not_mem_nil, or_false] at hp; rcases hp with rfl | rfl <;> first | rfl | (simp only at h; omega)))) ?_
  refine QE rfl (by repeat (first | exact hB.none (by decide) | refine Zv (by first | decide | omega) ?_)) ?_
  refine Qa rfl ?_
  refine hK _ _ (QQ (kp5 rfl rfl rfl rfl rfl) ?_)
  refine QqC (ι := List WantT × Int) (fun ⟨r, J4⟩ => ⟨[(0, .ref kg 0 0), (1, .osl ku us.length), (7, .osl 7 ns.length), (8, .int .i64 k), (9, Q9 r)], [(7, ⟨(ns).map (fun r => [Q9 r]), 1, 68, true⟩), (kg, gB L J4 eg)] ++ H⟩) (fun ⟨r, J4⟩ => Qio us.length r) ?_ ?_
  ·skip
   refine Q8 fun K hK => Qa rfl (Yl (Qcq (I := J1) rfl (Qp (by omega) QA) hL (by omega)) (ZL rfl rfl ?_))
   refine hK _ _ (QQ (kp6 rfl rfl rfl rfl rfl rfl) ?_)
   refine YK rfl (fun h2 => ?_) (fun h2 => ?_)
   ·try rw [h2]
    try simp only [qa, qb, qc, qd, qe, List.length_map] at h2
    refine ZQ fun K hK => Qa rfl (Qa rfl (Qa rfl ?_))
    obtain ⟨x2, J2, hx2, hc2⟩ := Qk4 (I := nxI J1) (H := (kg, gB L (nxI J1) eg) :: H) QA hU.cons (hC.pr rfl) hL h2n hn
    refine Yl (hc2 _ _ rfl (QaG (B := [_, _, _, _, _]) hB (by repeat (first | exact QA | refine Qp (by first | decide | omega) ?_)) (by intro p hp h; simp only [List.mem_cons, List.not_mem_nil, or_false] at hp; rcases hp with rfl | rfl | rfl | rfl | rfl <;> first | rfl | (simp only at h; omega)))) ?_
    refine QE rfl (by repeat (first | exact hB.none (by decide) | refine Zv (by first | decide | omega) ?_)) ?_
    refine Qpu rfl rfl (by simp [D.ids, D.sid]) ⟨_, rfl, rfl, rfl, rfl, rfl⟩ (by repeat (first | exact hB.none (by decide) | refine Zv (by first | decide | omega) ?_)) (Qp (by decide) (Qp (by omega) (Qp (by omega) rfl))) rfl rfl rfl (by simp) (by simp) ?_
    refine Qa rfl (hK _ ?_)
    refine Z2 ([x1, x2], J2) ?_ ?_
    ·exact le_trans (QjV (l := [0, 1, 7, 8]) (B := [_, _, _, _, _, _, _, _, _]) (A := [(7, ⟨(ns).map (fun r => [Q9 r]), 1, 68, true⟩), (kg, gB L J2 eg)]) 30 9 (kp4 rfl rfl rfl rfl) rfl rfl rfl (by first | (simp; done) | (simp; omega)) (by intro p hp hk; simp only [List.mem_cons, List.not_mem_nil, or_false] at hp; rcases hp with rfl | rfl | rfl | rfl <;> first | (simp [D.ids, D.sid, Q9, Q1, Zl] at hk; done) | (simp [D.ids, D.sid, Q9, Q1, Zl] at hk; omega)) (by intro p hp; simp only [List.mem_cons, List.not_mem_nil, or_false] at hp; rcases hp with rfl | rfl <;> exact ⟨by first | decide | (simp only; omega), by repeat (first | exact QA | refine Qp (by first | decide | omega) ?_), rfl⟩) (by intro p hp h; simp only [List.mem_cons, List.not_mem_nil, or_false] at hp; rcases hp with rfl | rfl | rfl | rfl | rfl | rfl | rfl | rfl | rfl <;> first | (simp only at h; omega) | (repeat (first | exact Q4 | refine Q3 ?_))) hB hC (by intro p hp k hk; simp only [List.mem_cons, List.not_mem_nil, or_false] at hp; rcases hp with rfl | rfl | rfl | rfl <;> first | (simp [D.ids, D.sid, Q9, Q1, Zl] at hk; done) | (simp [D.ids, D.sid, Q9, Q1, Zl] at hk; subst hk; repeat (first | exact Q4 | exact Zt hg | exact Zt hu | refine Q3 ?_)))) (Qf3 (l := [0, 1, 7, 8, 9]) (B := [_, _]) (kp5 rfl rfl rfl rfl rfl) rfl (by intro p hp; simp only [List.mem_cons, List.not_mem_nil, or_false] at hp; rcases hp with rfl | rfl <;> exact ⟨by repeat (first | exact QA | refine Qp (by first | decide | omega) ?_), rfl⟩) rfl (by intro p hp h; simp only [List.mem_cons, List.not_mem_nil, or_false] at hp; rcases hp with rfl | rfl <;> first | (simp only at h; omega) | (repeat (first | exact Q4 | refine Q3 ?_))) hB hC (by intro p hp k hk; simp only [List.mem_cons, List.not_mem_nil, or_false] at hp; rcases hp with rfl | rfl | rfl | rfl | rfl <;> first | (simp [D.ids, D.sid, Q9, Q1, Zl] at hk; done) | (simp [D.ids, D.sid, Q9, Q1, Zl] at hk; subst hk; repeat (first | exact Q4 | exact Zt hg | exact Zt hu | refine Q3 ?_))))
    ·exact Qp5 hx1 hx2
   ·try rw [h2]
    try simp only [qa, qb, qc, qd, qe, List.length_map] at h2
    refine Y1 ?_
    refine Z2 ([x1], nxI J1) ?_ ?_
    ·exact le_trans (QjV (l := [0, 1, 7, 8]) (B := [_, _, _, _, _]) (A := [(7, ⟨(ns).map (fun r => [Q9 r]), 1, 68, true⟩), (kg, gB L (nxI J1) eg)]) 21 9 (kp4 rfl rfl rfl rfl) rfl (Qp (by omega) rfl) rfl (by first | (simp; done) | (simp; omega)) (by intro p hp hk; simp only [List.mem_cons, List.not_mem_nil, or_false] at hp; rcases hp with rfl | rfl | rfl | rfl <;> first | (simp [D.ids, D.sid, Q9, Q1, Zl] at hk; done) | (simp [D.ids, D.sid, Q9, Q1, Zl] at hk; omega)) (by intro p hp; simp only [List.mem_cons, List.not_mem_nil, or_false] at hp; rcases hp with rfl | rfl <;> exact ⟨by first | decide | (simp only; omega), by repeat (first | exact QA | refine Qp (by first | decide | omega) ?_), rfl⟩) (by intro p hp h; simp only [List.mem_cons, List.not_mem_nil, or_false] at hp; rcases hp with rfl | rfl | rfl | rfl | rfl <;> first | (simp only at h; omega) | (repeat (first | exact Q4 | refine Q3 ?_))) hB hC (by intro p hp k hk; simp only [List.mem_cons, List.not_mem_nil, or_false] at hp; rcases hp with rfl | rfl | rfl | rfl <;> first | (simp [D.ids, D.sid, Q9, Q1, Zl] at hk; done) | (simp [D.ids, D.sid, Q9, Q1, Zl] at hk; subst hk; repeat (first | exact Q4 | exact Zt hg | exact Zt hu | refine Q3 ?_)))) (Qf3 (l := [0, 1, 7, 8, 9]) (B := [_, _]) (kp5 rfl rfl rfl rfl rfl) rfl (by intro p hp; simp only [List.mem_cons, List.not_mem_nil, or_false] at hp; rcases hp with rfl | rfl <;> exact ⟨by repeat (first | exact QA | refine Qp (by first | decide | omega) ?_), rfl⟩) rfl (by intro p hp h; simp only [List.mem_cons, List.not_mem_nil, or_false] at hp; rcases hp with rfl | rfl <;> first | (simp only at h; omega) | (repeat (first | exact Q4 | refine Q3 ?_))) hB hC (by intro p hp k hk; simp only [List.mem_cons, List.not_mem_nil, or_false] at hp; rcases hp with rfl | rfl | rfl | rfl | rfl <;> first | (simp [D.ids, D.sid, Q9, Q1, Zl] at hk; done) | (simp [D.ids, D.sid, Q9, Q1, Zl] at hk; subst hk; repeat (first | exact Q4 | exact Zt hg | exact Zt hu | refine Q3 ?_))))
    ·exact Qp4 hx1
  intro ⟨r, J4⟩ hJ
  try dsimp only at hJ
  try dsimp only
  refine ZQ fun K hK => Qa rfl (Qa rfl ?_)
  refine QE rfl (by repeat (first | exact hB.none (by decide) | refine Zv (by first | decide | omega) ?_)) ?_
  refine Xe rfl rfl (fun _ h => YW rfl rfl rfl h) rfl (by simp) rfl rfl rfl (by simp; omega) (by simp; omega) (Qa rfl (hK _ ?_))
  refine Qg (Q5 (kp4 rfl rfl rfl rfl) (ZQ fun K hK => Qa rfl (Qas rfl rfl (by first | exact Qq (by omega) (by omega) | rfl) (Qa rfl (hK _ ?_)))))
  refine Qi (k - 1, ns ++ [r], J4) ?_ ?_ ?_
  ·exact le_trans (QqN (B := [_, _, _, _]) 7 hB hC) (Qf3 (l := [0, 1, 7, 8]) (A := [(7, ⟨ns.map (fun r => [Q9 r]) ++ [[Q9 r]], 1, 68, true⟩), (kg, gB L J4 eg)]) (B := [_, _, _, _]) (kp4 rfl rfl rfl rfl) (by simp [D.scrub, show ¬ kg = 7 by omega, show ¬ ku = 7 by omega] <;> omega) (by intro p hp; simp only [List.mem_cons, List.not_mem_nil, or_false] at hp; rcases hp with rfl | rfl <;> exact ⟨by repeat (first | exact QA | refine Qp (by first | decide | omega) ?_), rfl⟩) (by simp) (by intro p hp h; simp only [List.mem_cons, List.not_mem_nil, or_false] at hp; rcases hp with rfl | rfl | rfl | rfl <;> first | (simp only at h; omega) | (repeat (first | exact Q4 | refine Q3 ?_))) hB hC (by intro p hp k hk; simp only [List.mem_cons, List.not_mem_nil, or_false] at hp; rcases hp with rfl | rfl | rfl | rfl <;> first | (simp [D.ids, D.sid, Q9, Q1, Zl] at hk; done) | (simp [D.ids, D.sid, Q9, Q1, Zl] at hk; subst hk; repeat (first | exact Q4 | exact Zt hg | exact Zt hu | refine Q3 ?_))))
  ·exact ⟨by simp only [List.length_append, List.length_singleton]; omega, Qng hI.2 hJ⟩
  ·show k - 1 < k; omega
 ·try rw [h1]
  try simp only [qa, qb, qc, qd, qe, List.length_map] at h1
  refine QbL (YB (Qx (QB (Q5 (kp1 rfl) (Q8 fun K hK => Qa rfl (Qa rfl ?_))))))
  refine hK _ _ (QQ (kp1 rfl) ?_)
  refine Qe3 ?_
  refine ⟨Q1 ns, (kg, gB L J eg) :: H, ⟨ns, _, ⟨by omega, hI.2⟩, rfl, rfl⟩, (XI hB hC hkg rfl).1, (XI hB hC hkg rfl).2, ?_⟩
  refine YA rfl (by simp [QlU, D.fz, D.fzS, Qgq, lk, D.can, D.canS, Q1]) ?_
  exact QaG (B := [_, _]) hB (by repeat (first | exact QA | refine Qp (by first | decide | omega) ?_)) (by intro p hp h; simp only [List.mem_cons, List.not_mem_nil, or_false] at hp; rcases hp with rfl | rfl <;> first | rfl | (simp only at h; omega))
end Go.Proofs
namespace M25
open Go Go.Abs M3
/-! ### The boxes of a world under way -/
def fbx (ec : Nat) (us : List UR) : List (Nat × Box) := us.map fun u => (u.k, ⟨u.cs.map dCR, 8, ec, true⟩)
def Ye (us : List UR) : Prop := ∀ j, ∀ h : j < us.length, us[j].k = 500001 + j
theorem QiR {us : List UR} {u : UR} (h : Ye us) (hu : u.k = 500001 + us.length) : Ye (us ++ [u]) := fun j hj => by
 rw [List.length_append, List.length_singleton] at hj
 by_cases e : j < us.length
 ·rw [List.getElem_append_left e]; exact h j e
 ·have : j = us.length := by omega
  subst this
  rw [List.getElem_append_right (Nat.le_refl _)]; simpa using hu
theorem QfO (ec : Nat) (us : List UR) : QnS (fbx ec us) := fun p hp => by
 obtain ⟨u, _, rfl⟩ := List.mem_map.1 hp; rfl
theorem Qg0 {ec : Nat} : ∀ {us : List UR} {k : Nat} {b : Box}, lk (fbx ec us) k = some b -> ∃ u ∈ us, k = u.k /\ b = ⟨u.cs.map dCR, 8, ec, true⟩
 | [], _, _, h => by cases h
 | u :: us, k, b, h => by
  simp only [fbx, List.map_cons] at h
  rw [Qo] at h
  split at h
  ·rename_i e; cases h; exact ⟨u, by simp, e.symm, rfl⟩
  ·obtain ⟨v, hv, q⟩ := Qg0 (us := us) h
   exact ⟨v, by simp [hv], q⟩
theorem Qbs {us : List UR} (h : Ye us) {u : UR} (hu : u ∈ us) : 500001 <= u.k /\ u.k < 500001 + us.length := by
 obtain ⟨j, hj, rfl⟩ := List.getElem_of_mem hu
 have := h j hj
 omega
theorem QhA {ec : Nat} {us : List UR} (h : Ye us) : QrX 500001 (fbx ec us) := fun k b hk => by
 obtain ⟨u, hu, rfl, _⟩ := Qg0 hk
 exact (Qbs h hu).1
theorem YR {ec : Nat} {us : List UR} (h : Ye us) {k : Nat} (hk : k < 500001 \/ 500001 + us.length <= k) : lk (fbx ec us) k = none := by
 cases hh : lk (fbx ec us) k with
 | none => rfl
 | some b =>
  obtain ⟨u, hu, rfl, _⟩ := Qg0 hh
  have := Qbs h hu
  omega
theorem Qmo {ec : Nat} : ∀ {us : List UR} {n : Nat}, (∀ j, ∀ h : j < us.length, us[j].k = n + j) -> ∀ j, ∀ h : j < us.length, lk (fbx ec us) (n + j) = some ⟨us[j].cs.map dCR, 8, ec, true⟩
 | [], _, _, j, hj => by simp at hj
 | u :: us, n, hk, 0, _ => by
  have := hk 0 (by simp)
  simp only [List.getElem_cons_zero, Nat.add_zero] at this
  simp only [fbx, List.map_cons, Nat.add_zero]
  rw [Qo, if_pos this]; rfl
 | u :: us, n, hk, j + 1, hj => by
  have h0 := hk 0 (by simp)
  simp only [List.getElem_cons_zero, Nat.add_zero] at h0
  simp only [fbx, List.map_cons]
  rw [Qo, if_neg (by omega)]
  have := Qmo (ec := ec) (us := us) (n := n + 1) (fun i hi => by
   have := hk (i + 1) (by simpa using hi)
   simp only [List.getElem_cons_succ] at this
   omega) j (by simpa using hj)
  rw [show n + 1 + j = n + (j + 1) by omega] at this
  simp only [List.getElem_cons_succ]
  exact this
theorem Qmn {ec : Nat} {us : List UR} (h : Ye us) {j : Nat} (hj : j < us.length) : lk (fbx ec us) (500001 + j) = some ⟨us[j].cs.map dCR, 8, ec, true⟩ := Qmo h j hj
theorem QkE (ec : Nat) (us : List UR) (u : UR) : fbx ec (us ++ [u]) = fbx ec us ++ [(u.k, ⟨u.cs.map dCR, 8, ec, true⟩)] := by simp [fbx]
theorem Qn4 {ec : Nat} {us : List UR} (h : Ye us) {kg : Nat} {x y : Box} {u : UR} (hu : u.k = 500001 + us.length) (hkg : u.k ≠ kg) (k : Nat) :
  lk ((u.k, ⟨u.cs.map dCR, 8, ec, true⟩) :: (500000, x) :: (kg, y) :: fbx ec us) k = lk ((500000, x) :: (kg, y) :: fbx ec (us ++ [u])) k := by
 rw [QkE]
 by_cases e : u.k = k
 ·subst e
  rw [QA, Qo, if_neg (by omega), Qo, if_neg (Ne.symm hkg), YS (YR h (.inr (by omega))), QA]
 ·rw [Qo, if_neg e, Qo, Qo, Qo, Qo]
  split
  ·rfl
  ·split
   ·rfl
   ·rw [ZU]
    cases h2 : lk (fbx ec us) k with
    | some v => rfl
    | none => rw [Qo, if_neg e]; rfl
def zr (v : Vr) (sh : Int) : CR := ⟨v, .int .i64 sh, .fsl [], .fsl []⟩
def Qqt (u : UR) : Prop := u.cs.length <= 4 /\ ∀ z ∈ u.cs, ∃ v sh, z = zr v sh /\ QgI v
theorem Qpa {u : UR} : (dUR u).flatMap D.sid = [u.k] := by simp [dUR, D.sid]
theorem QbI {us : List UR} {e et : Nat} {k : Nat} (h : k ∈ (Box.ids ⟨us.map dUR, e, et, false⟩)) : ∃ u ∈ us, k = u.k := by
 simp only [Box.ids, Bool.false_eq_true, if_false, List.mem_flatMap, List.mem_map] at h
 obtain ⟨r, ⟨u, hu, rfl⟩, hk⟩ := h
 have : k ∈ (dUR u).flatMap D.sid := List.mem_flatMap.2 hk
 rw [Qpa] at this
 exact ⟨u, hu, by simpa using this⟩
theorem Qqe {us : List UR} (h : Ye us) : ∀ r ∈ us.map dUR, ∀ d ∈ r, 500000 ∉ d.sid := fun r hr d hd hk => by
 obtain ⟨u, hu, rfl⟩ := List.mem_map.1 hr
 have : 500000 ∈ (dUR u).flatMap D.sid := List.mem_flatMap.2 ⟨d, hd, hk⟩
 rw [Qpa] at this
 have h2 := Qbs h hu
 simp only [List.mem_singleton] at this
 omega
theorem Qhs {B F : List (Nat × Box)} {j : Nat} (h : (lk F j).isSome = true) : (lk (B ++ F) j).isSome = true := by
 rw [ZU]; split
 ·rfl
 ·exact h
theorem QdN {ec : Nat} {us : List UR} (h : Ye us) {u : UR} (hu : u ∈ us) : (lk (fbx ec us) u.k).isSome = true := by
 obtain ⟨j, hj, rfl⟩ := List.getElem_of_mem hu
 rw [h j hj, Qmn h hj]; rfl
theorem QhB {ec : Nat} {us : List UR} {u : UR} (h : Ye us) (hu : u.k = 500001 + us.length) : lk (fbx ec (us ++ [u])) (500001 + us.length) = some ⟨u.cs.map dCR, 8, ec, true⟩ := by
 rw [QkE, YS (YR h (.inr (Nat.le_refl _))), <- hu, QA]
section
variable {l : List Nat} {fr fr1 fr' : List (Nat × D)} {B : List (Nat × Box)} {kg eg eu ec : Nat} {L : List Int} {J : Int} {us : List UR}
theorem Qr0 (hf : Zc l fr = fr1) (ef : fr1 = fr') (hK : Ye us) (hu : lk B 500000 = some ⟨us.map dUR, 3, eu, false⟩) (hg : lk B kg = some (gB L J eg)) (hB : ∀ p ∈ B, 500001 <= p.1 -> p.1 = kg) (hkg : kg ≠ 500000)
  (hfr : ∀ p ∈ fr', ∀ k ∈ p.2.ids, k = 500000 \/ k = kg \/ ∃ u ∈ us, k = u.k) : St.le ⟨fr, B ++ fbx ec us⟩ ⟨fr', [(500000, ⟨us.map dUR, 3, eu, false⟩), (kg, gB L J eg)] ++ fbx ec us⟩ := by
 have s0 : ∀ k, (k = 500000 \/ k = kg \/ ∃ u ∈ us, k = u.k) -> (lk ([(500000, (⟨us.map dUR, 3, eu, false⟩ : Box)), (kg, gB L J eg)] ++ fbx ec us) k).isSome = true := fun k hk => by
  rcases hk with rfl | rfl | ⟨u, hu, rfl⟩
  ·exact Q4
  ·exact Q3 Q4
  ·exact Qhs (QdN hK hu)
 refine QjW (N := 500001) hf ef (fun p hp => ?_) rfl (fun p hp j hj => s0 j ?_) (fun p hp h => ?_) (QhA hK) (QfO ec us) (fun p hp k hk => s0 k (hfr p hp k hk))
 ·simp only [List.mem_cons, List.not_mem_nil, or_false] at hp
  rcases hp with rfl | rfl
  ·exact hu
  ·exact hg
 ·simp only [List.mem_cons, List.not_mem_nil, or_false] at hp
  rcases hp with rfl | rfl
  ·exact .inr (.inr (QbI hj))
  ·simp [Box.ids, gB] at hj
 ·rw [hB p hp h]; exact Q3 Q4
theorem Qqr {cs : List CR} (hf : Zc l fr = fr1) (ef : fr1 = fr') (hK : Ye us) (hc : lk B (500001 + us.length) = some ⟨cs.map dCR, 8, ec, true⟩) (hu : lk B 500000 = some ⟨us.map dUR, 3, eu, false⟩) (hg : lk B kg = some (gB L J eg)) (hB : ∀ p ∈ B, 500001 <= p.1 -> p.1 = kg \/ p.1 = 500001 + us.length)
  (hfr : ∀ p ∈ fr', ∀ k ∈ p.2.ids, k = 500000 \/ k = kg \/ k = 500001 + us.length \/ ∃ u ∈ us, k = u.k) : St.le ⟨fr, B ++ fbx ec us⟩ ⟨fr', [(500001 + us.length, ⟨cs.map dCR, 8, ec, true⟩), (500000, ⟨us.map dUR, 3, eu, false⟩), (kg, gB L J eg)] ++ fbx ec us⟩ := by
 have s0 : ∀ k, (k = 500000 \/ k = kg \/ k = 500001 + us.length \/ ∃ u ∈ us, k = u.k) -> (lk ([(500001 + us.length, (⟨cs.map dCR, 8, ec, true⟩ : Box)), (500000, (⟨us.map dUR, 3, eu, false⟩ : Box)), (kg, gB L J eg)] ++ fbx ec us) k).isSome = true := fun k hk => by
  rcases hk with rfl | rfl | rfl | ⟨u, hu, rfl⟩
  ·exact Q3 Q4
  ·exact Q3 (Q3 Q4)
  ·exact Q4
  ·exact Qhs (QdN hK hu)
 refine QjW (N := 500001) hf ef (fun p hp => ?_) rfl (fun p hp j hj => s0 j ?_) (fun p hp h => ?_) (QhA hK) (QfO ec us) (fun p hp k hk => s0 k (hfr p hp k hk))
 ·simp only [List.mem_cons, List.not_mem_nil, or_false] at hp
  rcases hp with rfl | rfl | rfl
  ·exact hc
  ·exact hu
  ·exact hg
 ·simp only [List.mem_cons, List.not_mem_nil, or_false] at hp
  rcases hp with rfl | rfl | rfl
  ·simp [Box.ids] at hj
  ·exact .inr (.inr (.inr (QbI hj)))
  ·simp [Box.ids, gB] at hj
 ·rcases hB p hp h with e | e
  ·rw [e]; exact Q3 (Q3 Q4)
  ·rw [e]; exact Q4
theorem Qq3 {u : UR} (hf : Zc l fr = fr1) (ef : fr1 = fr') (hK : Ye us) (huk : u.k = 500001 + us.length) (hc : lk B (500001 + us.length) = some ⟨u.cs.map dCR, 8, ec, true⟩) (hu : lk B 500000 = some ⟨(us ++ [u]).map dUR, 3, eu, false⟩) (hg : lk B kg = some (gB L J eg)) (hB : ∀ p ∈ B, 500001 <= p.1 -> p.1 = kg \/ p.1 = 500001 + us.length) (hkg : 1000000 <= kg) (hlen : us.length <= 100)
  (hfr : ∀ p ∈ fr', ∀ k ∈ p.2.ids, k = 500000 \/ k = kg \/ ∃ v ∈ us ++ [u], k = v.k) : St.le ⟨fr, B ++ fbx ec us⟩ ⟨fr', [(500000, ⟨(us ++ [u]).map dUR, 3, eu, false⟩), (kg, gB L J eg)] ++ fbx ec (us ++ [u])⟩ := by
 have hK1 := QiR hK huk
 have mv := fun k => Qn4 (ec := ec) hK (kg := kg) (x := ⟨(us ++ [u]).map dUR, 3, eu, false⟩) (y := gB L J eg) huk (by omega) k
 have s0 : ∀ k, (k = 500000 \/ k = kg \/ ∃ v ∈ us ++ [u], k = v.k) -> (lk ([(u.k, (⟨u.cs.map dCR, 8, ec, true⟩ : Box)), (500000, (⟨(us ++ [u]).map dUR, 3, eu, false⟩ : Box)), (kg, gB L J eg)] ++ fbx ec us) k).isSome = true := fun k hk => by
  show (lk ((u.k, _) :: (500000, _) :: (kg, _) :: fbx ec us) k).isSome = true
  rw [mv]
  rcases hk with rfl | rfl | ⟨v, hv, rfl⟩
  ·exact Q4
  ·exact Q3 Q4
  ·exact Q3 (Q3 (QdN hK1 hv))
 refine le_trans (QjW (N := 500001) (A' := [(u.k, ⟨u.cs.map dCR, 8, ec, true⟩), (500000, ⟨(us ++ [u]).map dUR, 3, eu, false⟩), (kg, gB L J eg)]) hf ef (fun p hp => ?_) rfl (fun p hp j hj => s0 j ?_) (fun p hp h => ?_) (QhA hK) (QfO ec us) (fun p hp k hk => s0 k (hfr p hp k hk))) (QhO ⟨fun _ => rfl, mv⟩)
 ·simp only [List.mem_cons, List.not_mem_nil, or_false] at hp
  rcases hp with rfl | rfl | rfl
  ·rw [huk]; exact hc
  ·exact hu
  ·exact hg
 ·simp only [List.mem_cons, List.not_mem_nil, or_false] at hp
  rcases hp with rfl | rfl | rfl
  ·simp [Box.ids] at hj
  ·exact .inr (.inr (QbI hj))
  ·simp [Box.ids, gB] at hj
 ·rcases hB p hp h with e | e
  ·rw [e]; exact Q3 (Q3 Q4)
  ·rw [e, <- huk]; exact Q4
end
def u0 (v : Vr) : UR := ⟨[], [], 500001, [zr v (-1)]⟩
def v0 : Vr := ⟨0, 0, 0, [], []⟩
theorem QoO {kg a b : Nat} (h : 1000000 <= kg) (ha : a < 1000000) (hb : b < 1000000) : Qav a b kg = kg := by
 unfold Qav; rw [if_neg (by omega), if_neg (by omega)]
theorem QmG {l : List Nat} {fr fr1 fr' : List (Nat × D)} {kg eg eu ec : Nat} {L : List Int} {I : Int} (hkg : 1000000 <= kg) (hf : Zc l fr = fr1) (ef : fr1.map (fun p => (p.1, (p.2.ren (Qav 18 500000)).ren (Qav 16 500001))) = fr') :
  St.le ⟨fr, [(18, ⟨[[.str [], .str [], .osl 16 1]], 3, eu, false⟩), (16, ⟨[dCR (zr v0 (-1))], 8, ec, true⟩), (kg, gB L I eg)]⟩ ⟨fr', [(500000, ⟨[u0 v0].map dUR, 3, eu, false⟩), (kg, gB L I eg)] ++ fbx ec [u0 v0]⟩ := by
 subst hf ef
 have k1 := QoO (a := 18) (b := 500000) hkg (by decide) (by decide)
 have k2 := QoO (a := 16) (b := 500001) hkg (by decide) (by decide)
 refine le_trans (Qce l fr _) (le_trans (QhQ 18 500000 (by decide) (by decide) _) (le_trans (QhQ 16 500001 (by decide) (by decide) _) ?_))
 have hH : ∀ k, lk ([(500000, (⟨[u0 v0].map dUR, 3, eu, false⟩ : Box)), (kg, gB L I eg)] ++ fbx ec [u0 v0]) k = lk (Qhf (Qav 16 500001) (Qhf (Qav 18 500000) [(18, ⟨[[.str [], .str [], .osl 16 1]], 3, eu, false⟩), (16, ⟨[dCR (zr v0 (-1))], 8, ec, true⟩), (kg, gB L I eg)])) k := fun k => by
  have e : Qhf (Qav 16 500001) (Qhf (Qav 18 500000) [(18, (⟨[[.str [], .str [], .osl 16 1]], 3, eu, false⟩ : Box)), (16, ⟨[dCR (zr v0 (-1))], 8, ec, true⟩), (kg, gB L I eg)]) = [(500000, ⟨[u0 v0].map dUR, 3, eu, false⟩), (500001, ⟨[dCR (zr v0 (-1))], 8, ec, true⟩), (kg, gB L I eg)] := by
   simp only [Qhf, List.map_cons, List.map_nil, k1, k2]; rfl
  rw [e]
  show lk ((500000, _) :: (kg, _) :: (500001, _) :: []) k = _
  rw [Qo, Qo, Qo, Qo, Qo, Qo]
  by_cases h1 : 500000 = k
  ·rw [if_pos h1, if_pos h1]
  ·rw [if_neg h1, if_neg h1]
   by_cases h2 : kg = k
   ·rw [if_pos h2, if_neg (by omega), if_pos h2]
   ·rw [if_neg h2, if_neg h2]; rfl
 refine Qbt (by simp only [St.ren, List.map_map]; rfl) fun k => (hH k).symm
def names5 : List (List UInt8) := [[97, 110, 116], [98, 101, 101], [99, 111, 119], [100, 111, 103], [101, 108, 107]]
theorem Ze : names5.length = 5 := rfl
theorem Qqf : versions.length = 4 := rfl
theorem Qq6 {i : Nat} (h : i < versions.length) : QgI versions[i] := by
 have := Qkl _ (List.getElem_mem h)
 exact ⟨Nat.le_trans this.1 (by omega), Nat.le_trans this.2 (by omega)⟩
structure UnitsIn (us : List UR) : Prop where
 keys : Ye us
 fresh : ∀ u ∈ us, Qqt u
 first : ∃ z rest, us = ⟨[], [], 500001, [z]⟩ :: rest
theorem UnitsIn.zero : UnitsIn [u0 v0] := by
 refine ⟨fun j hj => ?_, fun u hu => ?_, ⟨zr v0 (-1), [], rfl⟩⟩
 ·have : j = 0 := by simp at hj; exact hj
  subst this; rfl
 ·simp only [List.mem_singleton] at hu; subst hu
  refine ⟨by simp [u0], fun z hz => ?_⟩
  simp only [u0, List.mem_singleton] at hz; subst hz
  exact ⟨v0, -1, rfl, ⟨Nat.zero_le _, Nat.zero_le _⟩⟩
theorem UnitsIn.snoc {us : List UR} (h : UnitsIn us) {n f : List UInt8} {cs : List CR} (hc : cs.length <= 4) (hz : ∀ z ∈ cs, ∃ v sh, z = zr v sh /\ QgI v) : UnitsIn (us ++ [⟨n, f, 500001 + us.length, cs⟩]) := by
 obtain ⟨h1, h2, z, rest, h3⟩ := h
 refine ⟨QiR h1 rfl, fun u hu => ?_, z, rest ++ [⟨n, f, 500001 + us.length, cs⟩], by rw [h3]; rfl⟩
 rcases List.mem_append.1 hu with hu | hu
 ·exact h2 u hu
 ·simp only [List.mem_singleton] at hu; subst hu; exact ⟨hc, hz⟩
def CsIn (n : Nat) (cs : List CR) : Prop := cs.length <= n /\ ∀ z ∈ cs, ∃ v sh, z = zr v sh /\ QgI v
theorem CsIn.nil (n : Nat) : CsIn n [] := ⟨Nat.zero_le _, by simp⟩
theorem CsIn.keep {n : Nat} {cs : List CR} (h : CsIn n cs) : CsIn (n + 1) cs := ⟨Nat.le_succ_of_le h.1, h.2⟩
theorem CsIn.snoc {n : Nat} {cs : List CR} (h : CsIn n cs) {v : Vr} (hv : QgI v) {sh : Int} : CsIn (n + 1) (cs ++ [zr v sh]) := by
 refine ⟨by simp; exact h.1, fun z hz => ?_⟩
 rcases List.mem_append.1 hz with hz | hz
 ·exact h.2 z hz
 ·simp only [List.mem_singleton] at hz; subst hz; exact ⟨v, sh, rfl, hv⟩
theorem CsIn.at {n : Nat} {cs : List CR} (h : CsIn n cs) {i : Nat} (hi : i < cs.length) : QgI cs[i].v := by
 obtain ⟨v, sh, e, hv⟩ := h.2 _ (List.getElem_mem hi)
 rw [e]; exact hv
theorem QkR {α : Type} {k : Nat} {v v' : α} {l : List (Nat × α)} (h : v = v') : lk ((k, v) :: l) k = some v' := by rw [QA, h]
theorem Qjm {us : List UR} {e et : Nat} (h : Ye us) : Box.scrub (500001 + us.length) ⟨us.map dUR, e, et, false⟩ = ⟨us.map dUR, e, et, false⟩ := Qjl fun hk => by
 obtain ⟨u, hu, e⟩ := QbI hk
 have := Qbs h hu
 omega
theorem Qlh {us : List UR} (h : Ye us) {n f : List UInt8} {k m : Nat} (hk : k ≠ 500000) : ∀ r ∈ us.map dUR ++ [[D.str n, D.str f, D.osl k m]], ∀ d ∈ r, 500000 ∉ d.sid := fun r hr d hd => by
 rcases List.mem_append.1 hr with hr | hr
 ·exact Qqe h r hr d hd
 ·simp only [List.mem_singleton] at hr; subst hr
  simp only [List.mem_cons, List.not_mem_nil, or_false] at hd
  rcases hd with rfl | rfl | rfl <;> simp [D.sid]
  exact Ne.symm hk
theorem Qqd {us : List UR} {u : UR} : (us ++ [u]).map dUR = us.map dUR ++ [dUR u] := by simp
theorem QpK {cs : List CR} {z : CR} : (cs ++ [z]).map dCR = cs.map dCR ++ [dCR z] := by simp
theorem Qbc {us : List UR} (h : Ye us) {kg eu ec : Nat} {g1 g2 g3 : Box} (hkg : 1000000 <= kg) (h1 : g1.pr = true) (h2 : g2.pr = true) (hlen : us.length <= 100) :
  (∀ k, 1000000 <= k -> (lk [(kg, g1)] k).isSome = true -> (lk (((500000, (⟨us.map dUR, 3, eu, false⟩ : Box)) :: fbx ec us) ++ [(kg, g2), (kg, g1)]) k).isSome = true) /\
  (∀ k b, lk (((500000, (⟨us.map dUR, 3, eu, false⟩ : Box)) :: fbx ec us) ++ [(kg, g2), (kg, g1)]) k = some b -> 500000 <= k /\ ∀ j ∈ b.ids, (lk (((500000, (⟨us.map dUR, 3, eu, false⟩ : Box)) :: fbx ec us) ++ [(kg, g2), (kg, g1)]) j).isSome = true) /\
  (∀ k b, lk (((500000, (⟨us.map dUR, 3, eu, false⟩ : Box)) :: fbx ec us) ++ [(kg, g2), (kg, g1)]) k = some b -> lk ((kg, g2) :: (500000, ⟨us.map dUR, 3, eu, false⟩) :: (kg, g3) :: fbx ec us) k = some b) := by
 have cs : ∀ k b, lk (((500000, (⟨us.map dUR, 3, eu, false⟩ : Box)) :: fbx ec us) ++ [(kg, g2), (kg, g1)]) k = some b -> (k = 500000 /\ b = ⟨us.map dUR, 3, eu, false⟩) \/ (∃ u ∈ us, k = u.k /\ b = ⟨u.cs.map dCR, 8, ec, true⟩) \/ (k = kg /\ b = g2) := fun k b hk => by
  rw [List.cons_append, Qo] at hk
  split at hk
  ·rename_i e; cases hk; exact .inl ⟨e.symm, rfl⟩
  ·rw [ZU] at hk
   cases hh : lk (fbx ec us) k with
   | some v =>
    rw [hh] at hk; cases hk
    exact .inr (.inl (Qg0 hh))
   | none =>
    rw [hh] at hk
    simp only at hk
    rw [Qo] at hk
    split at hk
    ·rename_i e; cases hk; exact .inr (.inr ⟨e.symm, rfl⟩)
    ·rename_i e
     rw [Qo, if_neg e] at hk; cases hk
 refine ⟨fun k _ hk => ?_, fun k b hk => ?_, fun k b hk => ?_⟩
 ·obtain ⟨b, hb⟩ := Option.isSome_iff_exists.1 hk
  obtain ⟨rfl, _⟩ := Xy hb
  exact Qhs Q4
 ·rcases cs k b hk with ⟨rfl, rfl⟩ | ⟨u, hu, rfl, rfl⟩ | ⟨rfl, rfl⟩
  ·refine ⟨Nat.le_refl _, fun j hj => ?_⟩
   obtain ⟨u, hu, rfl⟩ := QbI hj
   rw [List.cons_append]
   refine Q3 ?_
   obtain ⟨b, hb⟩ := Option.isSome_iff_exists.1 (QdN (ec := ec) h hu)
   rw [Yv hb]; rfl
  ·have := Qbs h hu
   exact ⟨by omega, fun j hj => by simp [Box.ids] at hj⟩
  ·exact ⟨by omega, fun j hj => by rw [X9 h2] at hj; cases hj⟩
 ·rcases cs k b hk with ⟨rfl, rfl⟩ | ⟨u, hu, rfl, rfl⟩ | ⟨rfl, rfl⟩
  ·exact Qp (by omega) QA
  ·have hm := Qbs h hu
   obtain ⟨j, hj, rfl⟩ := List.getElem_of_mem hu
   refine Qp (by omega) (Qp (by omega) (Qp (by omega) ?_))
   rw [h j hj]; exact Qmn h hj
  ·exact QA
end M25
namespace Go.Proofs
open Go Go.Abs M3 M25
set_option linter.unusedVariables false
set_option linter.unusedSimpArgs false
theorem QcT {kg : Nat} {L : List Int} {I most : Int} {eg eu ec : Nat} (heu : eu = 48) (hec : ec = 70) (hkg : 1000000 <= kg) (hL : ∀ x ∈ L, I64 x) (hm0 : 1 <= most) (hm1 : most <= 5) : ∃ d H2, (∃ us I2, (UnitsIn us /\ 2 <= us.length /\ us.length <= 11) /\ d = .osl 500000 us.length /\ H2 = ((500000, ⟨us.map dUR, 3, eu, false⟩) :: fbx ec us) ++ [(kg, gB L I2 eg), (kg, gB L I eg)]) /\ OkH Tryz.prog 33 [.ref kg 0 0, .int .i64 most] [(kg, gB L I eg)] d H2 := by
 subst heu hec
 have e3 : ¬ kg = 500000 := by omega
 have k1 := QoO (a := 18) (b := 500000) hkg (by decide) (by decide)
 have k2 := QoO (a := 16) (b := 500001) hkg (by decide) (by decide)
 refine OkH.ofX (R := fun d H2 => ∃ us I2, (UnitsIn us /\ 2 <= us.length /\ us.length <= 11) /\ d = .osl 500000 us.length /\ H2 = ((500000, ⟨us.map dUR, 3, 48, false⟩) :: fbx 70 us) ++ [(kg, gB L I2 eg), (kg, gB L I eg)]) ZP Tryz.func33 Qss (Nat.le_of_ble_eq_true rfl) ?_
 show TX _ _ tf33.body _ _
 refine Q8 fun K hK => Qa rfl ?_
 refine hK _ _ (QQ (kp2 rfl rfl) ?_)
 refine Q8 fun K hK => ?_
 refine QE rfl (by repeat (first | exact rfl | refine Zv (by first | decide | omega) ?_)) ?_
 refine Qa rfl ?_
 refine hK _ _ (QQ (kp3 rfl rfl rfl) ?_)
 refine Ql5 (QjV (l := [0, 1]) (B := [_]) (A := []) (H0 := [(kg, gB L I eg)]) 14 5 (kp2 rfl rfl) rfl rfl rfl rfl (by intro p hp hk; simp only [List.mem_cons, List.not_mem_nil, or_false] at hp; rcases hp with rfl | rfl <;> first | (simp [D.ids, D.sid, Q9, Q1, Zl] at hk; done) | (simp [D.ids, D.sid, Q9, Q1, Zl] at hk; omega)) (by intro p hp; cases hp) (by intro p hp h; simp only [List.mem_singleton] at hp; subst hp; simp only at h; omega) (fun k b h => by obtain ⟨rfl, rfl⟩ := Xy h; exact hkg) (fun k b h j hj => by obtain ⟨rfl, rfl⟩ := Xy h; simp [Box.ids, gB] at hj) (by intro p hp k hk; simp only [List.mem_cons, List.not_mem_nil, or_false] at hp; rcases hp with rfl | rfl <;> first | (simp [D.ids, D.sid, Q9, Q1, Zl] at hk; done) | (simp [D.ids, D.sid, Q9, Q1, Zl] at hk; subst hk; repeat (first | exact Q4 | refine Q3 ?_)))) ?_
 refine Q8 fun K hK => QZ rfl rfl ?_
 refine QE rfl (by repeat (first | exact rfl | refine Zv (by first | decide | omega) ?_)) ?_
 refine QZ rfl rfl ?_
 refine QE rfl (by repeat (first | exact rfl | refine Zv (by first | decide | omega) ?_)) ?_
 refine Qa rfl ?_
 refine hK _ _ (QQ (kp4 rfl rfl rfl rfl) ?_)
 refine Q8 fun K hK => QH (Xn) rfl rfl (.inl rfl) (Qa rfl ?_)
 refine hK _ _ (QQ (kp5 rfl rfl rfl rfl rfl) ?_)
 refine Xu ?_ -- 0
 refine Q8 fun K hK => Qa rfl ?_
 refine hK _ _ (QQ (kp6 rfl rfl rfl rfl rfl rfl) ?_)
 refine Yt ?_
 refine Qdz (ι := List UR × Int × Nat) (fun ⟨us, J, n⟩ => ⟨[(0, .ref kg 0 0), (1, .int .i64 most), (5, .sl (Qa1 names5)), (6, .osl 500000 us.length), (7, .sl (versions.map dVr)), (8, .int .i64 n)], [(500000, ⟨(us).map dUR, 3, 48, false⟩), (kg, gB L (J) eg)] ++ fbx 70 (us)⟩) (fun ⟨us, J, n⟩ => UnitsIn us /\ us.length <= 1 + 2 * n /\ n <= 5 /\ 1 + n <= us.length) (fun ⟨us, J, n⟩ => 5 - n) ([u0 v0], I, 0) ?_ ?_ ?_
 ·refine QmG (l := [0, 1, 5, 6, 7, 8]) hkg (kp6 rfl rfl rfl rfl rfl rfl) ?_; simp only [List.map_cons, List.map_nil, D.ren, D.renS, k1, k2]; rfl
 ·exact ⟨UnitsIn.zero, by simp, by omega, by simp⟩
 intro ⟨us, J, n⟩ hI
 try dsimp only at hI
 have e1 : ¬ kg = 500001 + us.length := by omega
 have e2 : ¬ 500000 = 500001 + us.length := by omega
 have e4 : ¬ 500001 + us.length = 500000 := by omega
 have hx0 : 0 <= nx L J most := Qi2
 have hx1 : nx L J most < most := Qi1 (by omega)
 have hn5 := Ze
 have hv4 := Qqf
 try dsimp only
 refine Xu ?_ -- 1
 refine Q8 fun K hK => Qa rfl (Qa rfl (Qa rfl ?_))
 refine Yl (Qcq (I := J) rfl (by repeat (first | exact QA | refine Qp (by omega) ?_)) hL (by omega)) ?_
 refine QY rfl rfl (by first | exact Qq (by omega) (by omega) | rfl) (ZW rfl rfl (Qa rfl ?_))
 refine QF (g := 26) rfl (fun h1 => ?_) (fun h1 => ?_)
 ·try rw [h1]
  try simp only [qa, qb, qc, qd, qe, List.length_map] at h1
  refine Qk rfl (Qa rfl (Qk rfl (Qa rfl (Qk rfl ?_))))
  first | refine QO rfl QP ?_ | refine QO rfl rfl ?_
  refine Qk rfl (ZW rfl rfl (Qm rfl rfl ?_))
  refine hK _ _ (QQ (kp7 rfl rfl rfl rfl rfl rfl rfl) ?_)
  refine YK rfl (fun h2 => ?_) (fun h2 => ?_)
  ·try rw [h2]
   try simp only [qa, qb, qc, qd, qe, List.length_map] at h2
   refine Y1 (Q5 (kp6 rfl rfl rfl rfl rfl rfl) ?_)
   refine Xu ?_ -- 2
   refine Yt (Q8 fun K hK => Qa rfl ?_)
   refine hK _ _ (QQ (kp7 rfl rfl rfl rfl rfl rfl rfl) ?_)
   refine Q8 fun K hK => Qa rfl ?_
   refine Yl (Qcq (I := nxI J) rfl (by repeat (first | exact QA | refine Qp (by omega) ?_)) hL (by omega)) ?_
   refine Qa rfl ?_
   refine hK _ _ (QQ (kp8 rfl rfl rfl rfl rfl rfl rfl rfl) ?_)
   refine Xu ?_ -- 3
   refine Q8 fun K hK => Qa rfl ?_
   refine hK _ _ (QQ (kp9 rfl rfl rfl rfl rfl rfl rfl rfl rfl) ?_)
   refine Yt ?_
   refine Qdz (ι := List CR × Nat) (fun ⟨cs, i⟩ => ⟨[(0, .ref kg 0 0), (1, .int .i64 most), (5, .sl (Qa1 names5)), (6, .osl 500000 us.length), (7, .sl (versions.map dVr)), (8, .int .i64 n), (9, .osl (500001 + us.length) cs.length), (10, .int .i64 (nx L (nxI J) 16)), (11, .int .i64 i)], [(500001 + (us).length, ⟨(cs).map dCR, 8, 70, true⟩), (500000, ⟨(us).map dUR, 3, 48, false⟩), (kg, gB L (nxI (nxI J)) eg)] ++ fbx 70 (us)⟩) (fun ⟨cs, i⟩ => i <= 4 /\ CsIn i cs) (fun ⟨cs, i⟩ => 4 - i) ([], 0) ?_ ?_ ?_
   ·exact le_trans (Yc 9 (500001 + us.length) 8 70 rfl (by repeat (first | exact YR hI.1.keys (.inr (by omega)) | refine Zv (by omega) ?_))) (Qqr (l := [0, 1, 5, 6, 7, 8, 9, 10, 11]) (B := [_, _, _, _, _]) (kp9 rfl rfl rfl rfl rfl rfl rfl rfl rfl) rfl hI.1.keys (by repeat (first | exact QA | refine Qp (by omega) ?_)) (by repeat (first | exact QA | refine Qp (by omega) ?_)) (by repeat (first | exact QA | refine Qp (by omega) ?_)) (by intro p hp h; simp only [List.mem_cons, List.not_mem_nil, or_false] at hp; rcases hp with rfl | rfl | rfl | rfl | rfl <;> first | (simp only at h; omega) | exact .inl rfl | exact .inr rfl) (by intro p hp k hk; simp only [List.mem_cons, List.not_mem_nil, or_false] at hp; rcases hp with rfl | rfl | rfl | rfl | rfl | rfl | rfl | rfl | rfl <;> first | (simp [D.ids, D.sid, Q9, Q1, Zl] at hk; done) | (simp [D.ids, D.sid, Q9, Q1, Zl] at hk; subst hk; first | exact .inl rfl | exact .inr (.inl rfl) | exact .inr (.inr (.inl rfl)) | (refine .inr (.inr (.inl ?_)); simp; done) | (first | exact .inr (.inr ⟨_, List.mem_append_right _ (List.mem_singleton.2 rfl), rfl⟩) | exact .inr (.inr (.inr ⟨_, List.mem_append_right _ (List.mem_singleton.2 rfl), rfl⟩))))))
   ·exact ⟨by omega, CsIn.nil _⟩
   intro ⟨cs, i⟩ hC
   try dsimp only at hC
   have hcl := hC.2.1
   try dsimp only
   refine Xu ?_ -- 4
   refine Q8 fun K hK => Qa rfl (Qa rfl ?_)
   first | refine QO rfl QP ?_ | refine QO rfl rfl ?_
   refine ZW rfl rfl ?_
   refine hK _ _ (QQ (Qpb rfl rfl rfl rfl rfl rfl rfl rfl rfl rfl) ?_)
   refine YK rfl (fun h3 => ?_) (fun h3 => ?_)
   ·try rw [h3]
    try simp only [qa, qb, qc, qd, qe, List.length_map] at h3
    refine Y1 (Q5 (kp9 rfl rfl rfl rfl rfl rfl rfl rfl rfl) ?_)
    refine Xu ?_ -- 5
    refine Yt (Q8 fun K hK => Qa rfl (Qa rfl (Qin rfl (Qfw (by omega) (by omega)) (Qqy rfl rfl (by omega) (Qdy rfl rfl (ZL rfl rfl ?_))))))
    refine hK _ _ (QQ (Qpb rfl rfl rfl rfl rfl rfl rfl rfl rfl rfl) ?_)
    refine YK rfl (fun h4 => ?_) (fun h4 => ?_)
    ·try rw [h4]
     try simp only [qa, qb, qc, qd, qe, List.length_map] at h4
     refine ZQ fun K hK => Qa rfl (Qa rfl (Qa rfl (QK rfl rfl rfl (by omega) (QS (by omega)) rfl (QG (cs := [_, _, _, _, _]) rfl rfl rfl rfl (QZ rfl rfl ?_)))))
     refine QE rfl (by repeat (first | exact YR hI.1.keys (.inl (by omega)) | exact YR hK1.keys (.inl (by omega)) | refine Zv (by first | decide | omega) ?_)) ?_
     refine Xe (hk0 := by omega) rfl rfl (fun _ h => YW rfl rfl rfl h) (Qp (by omega) QA) (by simp) rfl rfl rfl (by simp; omega) (by simp; omega) (Qa rfl (hK _ ?_))
     refine Qg (Q5 (kp9 rfl rfl rfl rfl rfl rfl rfl rfl rfl) (ZQ fun K hK => Qa rfl (QY rfl rfl (by first | exact Qq (by omega) (by omega) | rfl) (Qa rfl (hK _ ?_)))))
     refine Qi (cs ++ [zr (versions[i]'(by omega)) 0], i + 1) ?_ ?_ ?_
     ·exact le_trans (QhP (B := [_, _, _, _, _]) (500001 + us.length) (QfO _ _)) (Qqr (l := [0, 1, 5, 6, 7, 8, 9, 10, 11]) (B := [_, _, _, _, _]) (kp9 rfl rfl rfl rfl rfl rfl rfl rfl rfl) (by simp [D.scrub, e1, e2, e3, e4] <;> omega) hI.1.keys (by rw [List.map_append]; exact QA) (by repeat (first | exact QA | exact QkR (Qjm hI.1.keys) | refine Qp (by omega) ?_)) (by repeat (first | exact QA | refine Qp (by omega) ?_)) (by intro p hp h; simp only [List.mem_cons, List.not_mem_nil, or_false] at hp; rcases hp with rfl | rfl | rfl | rfl | rfl <;> first | (simp only at h; omega) | exact .inl rfl | exact .inr rfl) (by intro p hp k hk; simp only [List.mem_cons, List.not_mem_nil, or_false] at hp; rcases hp with rfl | rfl | rfl | rfl | rfl | rfl | rfl | rfl | rfl <;> first | (simp [D.ids, D.sid, Q9, Q1, Zl] at hk; done) | (simp [D.ids, D.sid, Q9, Q1, Zl] at hk; subst hk; first | exact .inl rfl | exact .inr (.inl rfl) | exact .inr (.inr (.inl rfl)) | (refine .inr (.inr (.inl ?_)); simp; done) | (first | exact .inr (.inr ⟨_, List.mem_append_right _ (List.mem_singleton.2 rfl), rfl⟩) | exact .inr (.inr (.inr ⟨_, List.mem_append_right _ (List.mem_singleton.2 rfl), rfl⟩))))))
     ·try dsimp only
      exact ⟨by omega, hC.2.snoc (Qq6 (by omega))⟩
     ·show 4 - (i + 1) < 4 - i; omega
    ·try rw [h4]
     try simp only [qa, qb, qc, qd, qe, List.length_map] at h4
     refine Y1 (Qg (Q5 (kp9 rfl rfl rfl rfl rfl rfl rfl rfl rfl) (ZQ fun K hK => Qa rfl (QY rfl rfl (by first | exact Qq (by omega) (by omega) | rfl) (Qa rfl (hK _ ?_))))))
     refine Qi (cs, i + 1) ?_ ?_ ?_
     ·exact Qqr (l := [0, 1, 5, 6, 7, 8, 9, 10, 11]) (B := [_, _, _]) (kp9 rfl rfl rfl rfl rfl rfl rfl rfl rfl) rfl hI.1.keys (by repeat (first | exact QA | refine Qp (by omega) ?_)) (by repeat (first | exact QA | refine Qp (by omega) ?_)) (by repeat (first | exact QA | refine Qp (by omega) ?_)) (by intro p hp h; simp only [List.mem_cons, List.not_mem_nil, or_false] at hp; rcases hp with rfl | rfl | rfl <;> first | (simp only at h; omega) | exact .inl rfl | exact .inr rfl) (by intro p hp k hk; simp only [List.mem_cons, List.not_mem_nil, or_false] at hp; rcases hp with rfl | rfl | rfl | rfl | rfl | rfl | rfl | rfl | rfl <;> first | (simp [D.ids, D.sid, Q9, Q1, Zl] at hk; done) | (simp [D.ids, D.sid, Q9, Q1, Zl] at hk; subst hk; first | exact .inl rfl | exact .inr (.inl rfl) | exact .inr (.inr (.inl rfl)) | (refine .inr (.inr (.inl ?_)); simp; done) | (first | exact .inr (.inr ⟨_, List.mem_append_right _ (List.mem_singleton.2 rfl), rfl⟩) | exact .inr (.inr (.inr ⟨_, List.mem_append_right _ (List.mem_singleton.2 rfl), rfl⟩)))))
     ·try dsimp only
      exact ⟨by omega, hC.2.keep⟩
     ·show 4 - (i + 1) < 4 - i; omega
   ·try rw [h3]
    try simp only [qa, qb, qc, qd, qe, List.length_map] at h3
    refine QbL (YB (Qx (QB (Q5 (kp7 rfl rfl rfl rfl rfl rfl rfl) (Q8 fun K hK => Qa rfl (Qa rfl (Qa rfl (QK rfl rfl rfl (by omega) (QS (by omega)) rfl (QC rfl rfl rfl (Qa rfl ?_))))))))))
    refine QZ rfl rfl ?_
    refine QE rfl (by repeat (first | exact YR hI.1.keys (.inl (by omega)) | exact YR hK1.keys (.inl (by omega)) | refine Zv (by first | decide | omega) ?_)) ?_
    refine QjB (hk0 := by decide) rfl rfl (fun _ h => YW rfl rfl rfl h) (Qp (by omega) (Qp (by omega) QA)) (by simp) rfl rfl (.inr (Qlh hI.1.keys (by omega))) (by simp; omega) (by simp; omega) (Qa rfl ?_)
    refine hK _ _ (QQ (kp7 rfl rfl rfl rfl rfl rfl rfl) ?_)
    have hc4 : CsIn 4 cs := ⟨by omega, hC.2.2⟩
    refine Ql5 (le_trans (QhP (B := [_, _, _, _, _]) 500000 (QfO _ _)) (Qq3 (u := (UR.mk (names5[n]'(by have := Ze; omega)) [] (500001 + us.length) cs)) (l := [0, 1, 5, 6, 7, 8, 9]) (fr' := [(0, .ref kg 0 0), (1, .int .i64 most), (5, .sl (Qa1 names5)), (6, .osl 500000 (us ++ [(UR.mk (names5[n]'(by have := Ze; omega)) [] (500001 + us.length) cs)]).length), (7, .sl (versions.map dVr)), (8, .int .i64 n), (9, .osl (500001 + us.length) cs.length)]) (B := [_, _, _, _, _]) (kp7 rfl rfl rfl rfl rfl rfl rfl) (by simp [D.scrub, e1, e2, e3, e4]) hI.1.keys rfl (by repeat (first | exact QA | refine Qp (by omega) ?_)) (by rw [List.map_append]; exact QA) (by repeat (first | exact QA | refine Qp (by omega) ?_)) (by intro p hp h; simp only [List.mem_cons, List.not_mem_nil, or_false] at hp; rcases hp with rfl | rfl | rfl | rfl | rfl <;> first | (simp only at h; omega) | exact .inl rfl | exact .inr rfl) hkg (by omega) (by intro p hp k hk; simp only [List.mem_cons, List.not_mem_nil, or_false] at hp; rcases hp with rfl | rfl | rfl | rfl | rfl | rfl | rfl <;> first | (simp [D.ids, D.sid, Q9, Q1, Zl] at hk; done) | (simp [D.ids, D.sid, Q9, Q1, Zl] at hk; subst hk; first | exact .inl rfl | exact .inr (.inl rfl) | (first | exact .inr (.inr ⟨_, List.mem_append_right _ (List.mem_singleton.2 rfl), rfl⟩) | exact .inr (.inr (.inr ⟨_, List.mem_append_right _ (List.mem_singleton.2 rfl), rfl⟩))))))) ?_
    have hK1 := hI.1.snoc (n := (names5[n]'(by have := Ze; omega))) (f := []) hc4.1 hc4.2
    have hl1 : (us ++ [(UR.mk (names5[n]'(by have := Ze; omega)) [] (500001 + us.length) cs)]).length = us.length + 1 := by simp
    have f1 : ¬ kg = 500001 + (us ++ [(UR.mk (names5[n]'(by have := Ze; omega)) [] (500001 + us.length) cs)]).length := by omega
    have f2 : ¬ 500000 = 500001 + (us ++ [(UR.mk (names5[n]'(by have := Ze; omega)) [] (500001 + us.length) cs)]).length := by omega
    have f4 : ¬ 500001 + (us ++ [(UR.mk (names5[n]'(by have := Ze; omega)) [] (500001 + us.length) cs)]).length = 500000 := by omega
    have f5 : ¬ 500001 + us.length = 500001 + (us ++ [(UR.mk (names5[n]'(by have := Ze; omega)) [] (500001 + us.length) cs)]).length := by omega
    refine Q8 fun K hK => Qa rfl (ZW rfl rfl (Qa rfl ?_))
    refine QF (g := 67) rfl (fun h5 => ?_) (fun h5 => ?_)
    ·try rw [h5]
     try simp only [qa, qb, qc, qd, qe, List.length_map] at h5
     refine Qk rfl (Qa rfl (Qk rfl ?_))
     refine Yl (Qcq (I := nxI (nxI J)) rfl (by repeat (first | exact QA | refine Qp (by omega) ?_)) hL (by omega)) ?_
     refine Qk rfl (ZL rfl rfl (Qm rfl rfl ?_))
     refine hK _ _ (QQ (kp8 rfl rfl rfl rfl rfl rfl rfl rfl) ?_)
     refine YK rfl (fun h6 => ?_) (fun h6 => ?_)
     ·try rw [h6]
      try simp only [qa, qb, qc, qd, qe, List.length_map] at h6
      refine Q8 fun K hK => Qa rfl ?_
      refine hK _ _ (QQ (kp8 rfl rfl rfl rfl rfl rfl rfl rfl) ?_)
      refine Xu ?_ -- 6
      refine Q8 fun K hK => Qa rfl ?_
      refine hK _ _ (QQ (kp9 rfl rfl rfl rfl rfl rfl rfl rfl rfl) ?_)
      refine Yt ?_
      refine Qdz (ι := List CR × Nat × Int) (fun ⟨c2, m, J3⟩ => ⟨[(0, .ref kg 0 0), (1, .int .i64 most), (5, .sl (Qa1 names5)), (6, .osl 500000 (us ++ [(UR.mk (names5[n]'(by have := Ze; omega)) [] (500001 + us.length) cs)]).length), (7, .sl (versions.map dVr)), (8, .int .i64 n), (9, .osl (500001 + us.length) cs.length), (12, .osl (500001 + (us ++ [(UR.mk (names5[n]'(by have := Ze; omega)) [] (500001 + us.length) cs)]).length) c2.length), (13, .int .i64 m)], [(500001 + (us ++ [(UR.mk (names5[n]'(by have := Ze; omega)) [] (500001 + us.length) cs)]).length, ⟨(c2).map dCR, 8, 70, true⟩), (500000, ⟨(us ++ [(UR.mk (names5[n]'(by have := Ze; omega)) [] (500001 + us.length) cs)]).map dUR, 3, 48, false⟩), (kg, gB L (J3) eg)] ++ fbx 70 (us ++ [(UR.mk (names5[n]'(by have := Ze; omega)) [] (500001 + us.length) cs)])⟩) (fun ⟨c2, m, J3⟩ => m <= cs.length /\ CsIn m c2) (fun ⟨c2, m, J3⟩ => cs.length - m) ([], 0, nxI (nxI (nxI J))) ?_ ?_ ?_
      ·exact le_trans (Yc 12 (500001 + (us ++ [(UR.mk (names5[n]'(by have := Ze; omega)) [] (500001 + us.length) cs)]).length) 8 70 rfl (by repeat (first | exact YR hK1.keys (.inr (by omega)) | refine Zv (by omega) ?_))) (Qqr (l := [0, 1, 5, 6, 7, 8, 9, 12, 13]) (B := [_, _, _, _]) (kp9 rfl rfl rfl rfl rfl rfl rfl rfl rfl) rfl hK1.keys (by repeat (first | exact QA | refine Qp (by omega) ?_)) (by repeat (first | exact QA | refine Qp (by omega) ?_)) (by repeat (first | exact QA | refine Qp (by omega) ?_)) (by intro p hp h; simp only [List.mem_cons, List.not_mem_nil, or_false] at hp; rcases hp with rfl | rfl | rfl | rfl <;> first | (simp only at h; omega) | exact .inl rfl | exact .inr rfl) (by intro p hp k hk; simp only [List.mem_cons, List.not_mem_nil, or_false] at hp; rcases hp with rfl | rfl | rfl | rfl | rfl | rfl | rfl | rfl | rfl <;> first | (simp [D.ids, D.sid, Q9, Q1, Zl] at hk; done) | (simp [D.ids, D.sid, Q9, Q1, Zl] at hk; subst hk; first | exact .inl rfl | exact .inr (.inl rfl) | exact .inr (.inr (.inl rfl)) | (refine .inr (.inr (.inl ?_)); simp; done) | (first | exact .inr (.inr ⟨_, List.mem_append_right _ (List.mem_singleton.2 rfl), rfl⟩) | exact .inr (.inr (.inr ⟨_, List.mem_append_right _ (List.mem_singleton.2 rfl), rfl⟩))))))
      ·exact ⟨by omega, CsIn.nil _⟩
      intro ⟨c2, m, J3⟩ hM
      try dsimp only at hM
      have hcl2 := hM.2.1
      try dsimp only
      refine Xu ?_ -- 7
      refine Q8 fun K hK => Qa rfl (Qa rfl ?_)
      first | refine QO rfl QP ?_ | refine QO rfl rfl ?_
      refine ZW rfl rfl ?_
      refine hK _ _ (QQ (Qpb rfl rfl rfl rfl rfl rfl rfl rfl rfl rfl) ?_)
      refine YK rfl (fun h7 => ?_) (fun h7 => ?_)
      ·try rw [h7]
       try simp only [qa, qb, qc, qd, qe, List.length_map] at h7
       refine Y1 (Q5 (kp9 rfl rfl rfl rfl rfl rfl rfl rfl rfl) ?_)
       refine Xu ?_ -- 8
       refine Yt (Q8 fun K hK => Qa rfl ?_)
       refine Yl (Qcq (I := J3) rfl (by repeat (first | exact QA | refine Qp (by omega) ?_)) hL (by omega)) ?_
       refine Qii rfl rfl ?_
       refine hK _ _ (QQ (Qpb rfl rfl rfl rfl rfl rfl rfl rfl rfl rfl) ?_)
       refine YK rfl (fun h8 => ?_) (fun h8 => ?_)
       ·try rw [h8]
        try simp only [qa, qb, qc, qd, qe, List.length_map] at h8
        refine ZQ fun K hK => Qa rfl (Qa rfl (Qa rfl (Xk rfl rfl (Qp (by omega) (Qp (by omega) (Qp (by omega) (Qp (by omega) (QhB (u := (UR.mk (names5[n]'(by have := Ze; omega)) [] (500001 + us.length) cs)) hI.1.keys rfl))))) (by simp) (by omega) (by omega) rfl (Qh rfl (Zt (Qp (by omega) (Qp (by omega) (Qp (by omega) (Qp (by omega) (QhB (u := (UR.mk (names5[n]'(by have := Ze; omega)) [] (500001 + us.length) cs)) hI.1.keys rfl)))))) (QG (cs := [_, _, _, _, _]) rfl (Ya (Qp (by omega) (Qp (by omega) (Qp (by omega) (Qp (by omega) (QhB (u := (UR.mk (names5[n]'(by have := Ze; omega)) [] (500001 + us.length) cs)) hI.1.keys rfl))))) (QS (l := cs) (by omega))) rfl rfl (QZ rfl rfl ?_))))))
        refine QE rfl (by repeat (first | exact YR hI.1.keys (.inl (by omega)) | exact YR hK1.keys (.inl (by omega)) | refine Zv (by first | decide | omega) ?_)) ?_
        refine Xe (hk0 := by omega) rfl rfl (fun _ h => YW rfl rfl rfl h) (Qp (by omega) (Qp (by omega) QA)) (by simp) rfl rfl rfl (by simp; omega) (by simp; omega) (Qa rfl (hK _ ?_))
        refine Qg (Q5 (kp9 rfl rfl rfl rfl rfl rfl rfl rfl rfl) (ZQ fun K hK => Qa rfl (QY rfl rfl (by first | exact Qq (by omega) (by omega) | rfl) (Qa rfl (hK _ ?_)))))
        refine Qi (c2 ++ [zr (cs[m]'(by omega)).v 0], m + 1, nxI J3) ?_ ?_ ?_
        ·exact le_trans (QhP (B := [_, _, _, _, _, _]) (500001 + (us ++ [(UR.mk (names5[n]'(by have := Ze; omega)) [] (500001 + us.length) cs)]).length) (QfO _ _)) (Qqr (l := [0, 1, 5, 6, 7, 8, 9, 12, 13]) (B := [_, _, _, _, _, _]) (kp9 rfl rfl rfl rfl rfl rfl rfl rfl rfl) (by simp [D.scrub, f1, f2, f4, f5] <;> omega) hK1.keys (by rw [QpK (cs := c2)]; exact QA) (by repeat (first | exact QA | exact QkR (Qjm hK1.keys) | refine Qp (by omega) ?_)) (by repeat (first | exact QA | refine Qp (by omega) ?_)) (by intro p hp h; simp only [List.mem_cons, List.not_mem_nil, or_false] at hp; rcases hp with rfl | rfl | rfl | rfl | rfl | rfl <;> first | (simp only at h; omega) | exact .inl rfl | exact .inr rfl) (by intro p hp k hk; simp only [List.mem_cons, List.not_mem_nil, or_false] at hp; rcases hp with rfl | rfl | rfl | rfl | rfl | rfl | rfl | rfl | rfl <;> first | (simp [D.ids, D.sid, Q9, Q1, Zl] at hk; done) | (simp [D.ids, D.sid, Q9, Q1, Zl] at hk; subst hk; first | exact .inl rfl | exact .inr (.inl rfl) | exact .inr (.inr (.inl rfl)) | (refine .inr (.inr (.inl ?_)); simp; done) | (first | exact .inr (.inr ⟨_, List.mem_append_right _ (List.mem_singleton.2 rfl), rfl⟩) | exact .inr (.inr (.inr ⟨_, List.mem_append_right _ (List.mem_singleton.2 rfl), rfl⟩))))))
        ·try dsimp only
         exact ⟨by omega, hM.2.snoc (hC.2.at (by omega))⟩
        ·show cs.length - (m + 1) < cs.length - m; omega
       ·try rw [h8]
        try simp only [qa, qb, qc, qd, qe, List.length_map] at h8
        refine Y1 (Qg (Q5 (kp9 rfl rfl rfl rfl rfl rfl rfl rfl rfl) (ZQ fun K hK => Qa rfl (QY rfl rfl (by first | exact Qq (by omega) (by omega) | rfl) (Qa rfl (hK _ ?_))))))
        refine Qi (c2, m + 1, nxI J3) ?_ ?_ ?_
        ·exact Qqr (l := [0, 1, 5, 6, 7, 8, 9, 12, 13]) (B := [_, _, _, _]) (kp9 rfl rfl rfl rfl rfl rfl rfl rfl rfl) rfl hK1.keys (by repeat (first | exact QA | refine Qp (by omega) ?_)) (by repeat (first | exact QA | refine Qp (by omega) ?_)) (by repeat (first | exact QA | refine Qp (by omega) ?_)) (by intro p hp h; simp only [List.mem_cons, List.not_mem_nil, or_false] at hp; rcases hp with rfl | rfl | rfl | rfl <;> first | (simp only at h; omega) | exact .inl rfl | exact .inr rfl) (by intro p hp k hk; simp only [List.mem_cons, List.not_mem_nil, or_false] at hp; rcases hp with rfl | rfl | rfl | rfl | rfl | rfl | rfl | rfl | rfl <;> first | (simp [D.ids, D.sid, Q9, Q1, Zl] at hk; done) | (simp [D.ids, D.sid, Q9, Q1, Zl] at hk; subst hk; first | exact .inl rfl | exact .inr (.inl rfl) | exact .inr (.inr (.inl rfl)) | (refine .inr (.inr (.inl ?_)); simp; done) | (first | exact .inr (.inr ⟨_, List.mem_append_right _ (List.mem_singleton.2 rfl), rfl⟩) | exact .inr (.inr (.inr ⟨_, List.mem_append_right _ (List.mem_singleton.2 rfl), rfl⟩)))))
        ·try dsimp only
         exact ⟨by omega, hM.2.keep⟩
        ·show cs.length - (m + 1) < cs.length - m; omega
      ·try rw [h7]
       try simp only [qa, qb, qc, qd, qe, List.length_map] at h7
       refine QbL (YB (Qx (QB (Q5 (kp7 rfl rfl rfl rfl rfl rfl rfl) (ZQ fun K hK => Qa rfl (Qa rfl (Qa rfl (QK rfl rfl rfl (by omega) (QS (by omega)) rfl (QC rfl rfl rfl (Qa rfl ?_))))))))))
       refine QZ rfl rfl ?_
       refine QE rfl (by repeat (first | exact YR hI.1.keys (.inl (by omega)) | exact YR hK1.keys (.inl (by omega)) | refine Zv (by first | decide | omega) ?_)) ?_
       refine QjB (hk0 := by decide) rfl rfl (fun _ h => YW rfl rfl rfl h) (Qp (by omega) (Qp (by omega) QA)) (by simp) rfl rfl (.inr (Qlh hK1.keys (by omega))) (by simp; omega) (by simp; omega) (Qa rfl (hK _ ?_))
       refine Qg (Q5 (kp6 rfl rfl rfl rfl rfl rfl) (ZQ fun K hK => Qa rfl (QY rfl rfl (by first | exact Qq (by omega) (by omega) | rfl) (Qa rfl (hK _ ?_)))))
       refine Qi (us ++ [(UR.mk (names5[n]'(by have := Ze; omega)) [] (500001 + us.length) cs)] ++ [(UR.mk (names5[n]'(by have := Ze; omega)) [102] (500001 + (us ++ [(UR.mk (names5[n]'(by have := Ze; omega)) [] (500001 + us.length) cs)]).length) c2)], J3, n + 1) ?_ ?_ ?_
       ·exact le_trans (QhP (B := [_, _, _, _, _]) 500000 (QfO _ _)) (Qq3 (u := (UR.mk (names5[n]'(by have := Ze; omega)) [102] (500001 + (us ++ [(UR.mk (names5[n]'(by have := Ze; omega)) [] (500001 + us.length) cs)]).length) c2)) (l := [0, 1, 5, 6, 7, 8]) (B := [_, _, _, _, _]) (kp6 rfl rfl rfl rfl rfl rfl) (by simp [D.scrub, f1, f2, e3, f4, e4] <;> omega) hK1.keys rfl (by repeat (first | exact QA | refine Qp (by omega) ?_)) (by rw [Qqd (u := (UR.mk (names5[n]'(by have := Ze; omega)) [102] (500001 + (us ++ [(UR.mk (names5[n]'(by have := Ze; omega)) [] (500001 + us.length) cs)]).length) c2))]; exact QA) (by repeat (first | exact QA | refine Qp (by omega) ?_)) (by intro p hp h; simp only [List.mem_cons, List.not_mem_nil, or_false] at hp; rcases hp with rfl | rfl | rfl | rfl | rfl <;> first | (simp only at h; omega) | exact .inl rfl | exact .inr rfl) hkg (by omega) (by intro p hp k hk; simp only [List.mem_cons, List.not_mem_nil, or_false] at hp; rcases hp with rfl | rfl | rfl | rfl | rfl | rfl <;> first | (simp [D.ids, D.sid, Q9, Q1, Zl] at hk; done) | (simp [D.ids, D.sid, Q9, Q1, Zl] at hk; subst hk; first | exact .inl rfl | exact .inr (.inl rfl) | (first | exact .inr (.inr ⟨_, List.mem_append_right _ (List.mem_singleton.2 rfl), rfl⟩) | exact .inr (.inr (.inr ⟨_, List.mem_append_right _ (List.mem_singleton.2 rfl), rfl⟩))))))
       ·try dsimp only
        exact ⟨hK1.snoc (by omega) hM.2.2, by simp; omega, by omega, by simp; omega⟩
       ·show 5 - (n + 1) < 5 - n; omega
     ·try rw [h6]
      try simp only [qa, qb, qc, qd, qe, List.length_map] at h6
      refine Y1 (Qg (Q5 (kp6 rfl rfl rfl rfl rfl rfl) (ZQ fun K hK => Qa rfl (QY rfl rfl (by first | exact Qq (by omega) (by omega) | rfl) (Qa rfl (hK _ ?_))))))
      refine Qi (us ++ [(UR.mk (names5[n]'(by have := Ze; omega)) [] (500001 + us.length) cs)], nxI (nxI (nxI J)), n + 1) ?_ ?_ ?_
      ·exact Qr0 (l := [0, 1, 5, 6, 7, 8]) (B := [_, _, _]) (kp6 rfl rfl rfl rfl rfl rfl) rfl hK1.keys (by repeat (first | exact QA | refine Qp (by omega) ?_)) (by repeat (first | exact QA | refine Qp (by omega) ?_)) (by intro p hp h; simp only [List.mem_cons, List.not_mem_nil, or_false] at hp; rcases hp with rfl | rfl | rfl <;> first | (simp only at h; omega) | rfl) (by omega) (by intro p hp k hk; simp only [List.mem_cons, List.not_mem_nil, or_false] at hp; rcases hp with rfl | rfl | rfl | rfl | rfl | rfl <;> first | (simp [D.ids, D.sid, Q9, Q1, Zl] at hk; done) | (simp [D.ids, D.sid, Q9, Q1, Zl] at hk; subst hk; first | exact .inl rfl | exact .inr (.inl rfl) | (first | exact .inr (.inr ⟨_, List.mem_append_right _ (List.mem_singleton.2 rfl), rfl⟩) | exact .inr (.inr (.inr ⟨_, List.mem_append_right _ (List.mem_singleton.2 rfl), rfl⟩)))))
      ·try dsimp only
       exact ⟨hK1, by simp; omega, by omega, by simp; omega⟩
      ·show 5 - (n + 1) < 5 - n; omega
    ·try rw [h5]
     try simp only [qa, qb, qc, qd, qe, List.length_map] at h5
     refine Qt rfl (Qt rfl (Qt rfl (Qm rfl rfl ?_)))
     refine hK _ _ (QQ (kp8 rfl rfl rfl rfl rfl rfl rfl rfl) ?_)
     refine QjD rfl (Y1 (Qg (Q5 (kp6 rfl rfl rfl rfl rfl rfl) (ZQ fun K hK => Qa rfl (QY rfl rfl (by first | exact Qq (by omega) (by omega) | rfl) (Qa rfl (hK _ ?_)))))))
     refine Qi (us ++ [(UR.mk (names5[n]'(by have := Ze; omega)) [] (500001 + us.length) cs)], nxI (nxI J), n + 1) ?_ ?_ ?_
     ·exact Qr0 (l := [0, 1, 5, 6, 7, 8]) (B := [_, _]) (kp6 rfl rfl rfl rfl rfl rfl) rfl hK1.keys (by repeat (first | exact QA | refine Qp (by omega) ?_)) (by repeat (first | exact QA | refine Qp (by omega) ?_)) (by intro p hp h; simp only [List.mem_cons, List.not_mem_nil, or_false] at hp; rcases hp with rfl | rfl <;> first | (simp only at h; omega) | rfl) (by omega) (by intro p hp k hk; simp only [List.mem_cons, List.not_mem_nil, or_false] at hp; rcases hp with rfl | rfl | rfl | rfl | rfl | rfl <;> first | (simp [D.ids, D.sid, Q9, Q1, Zl] at hk; done) | (simp [D.ids, D.sid, Q9, Q1, Zl] at hk; subst hk; first | exact .inl rfl | exact .inr (.inl rfl) | (first | exact .inr (.inr ⟨_, List.mem_append_right _ (List.mem_singleton.2 rfl), rfl⟩) | exact .inr (.inr (.inr ⟨_, List.mem_append_right _ (List.mem_singleton.2 rfl), rfl⟩)))))
     ·try dsimp only
      exact ⟨hK1, by simp; omega, by omega, by simp; omega⟩
     ·show 5 - (n + 1) < 5 - n; omega
  ·try rw [h2]
   try simp only [qa, qb, qc, qd, qe, List.length_map] at h2
   refine QbL (YB (Qx (QB (Q5 (kp1 rfl) (Q8 fun K hK => Qa rfl (Qa rfl ?_))))))
   refine hK _ _ (QQ (kp1 rfl) ?_)
   refine Qe3 ?_
   refine ⟨.osl 500000 us.length, ((500000, ⟨us.map dUR, 3, 48, false⟩) :: fbx 70 us) ++ [(kg, gB L (nxI J) eg), (kg, gB L I eg)], ⟨us, _, ⟨hI.1, by omega, by omega⟩, rfl, rfl⟩, (Qbc (g3 := gB L J eg) hI.1.keys hkg rfl rfl (by omega)).1, (Qbc (g3 := gB L J eg) hI.1.keys hkg rfl rfl (by omega)).2.1, YA rfl rfl (Qbc (g3 := gB L J eg) hI.1.keys hkg rfl rfl (by omega)).2.2⟩
 ·try rw [h1]
  try simp only [qa, qb, qc, qd, qe, List.length_map] at h1
  refine Qt rfl (Qt rfl (Qt rfl (Qt rfl (Qm rfl rfl ?_))))
  refine hK _ _ (QQ (kp7 rfl rfl rfl rfl rfl rfl rfl) ?_)
  refine QjD rfl (QbL (YB (Qx (QB (Q5 (kp1 rfl) (Q8 fun K hK => Qa rfl (Qa rfl ?_)))))))
  refine hK _ _ (QQ (kp1 rfl) ?_)
  refine Qe3 ?_
  refine ⟨.osl 500000 us.length, ((500000, ⟨us.map dUR, 3, 48, false⟩) :: fbx 70 us) ++ [(kg, gB L (nxI J) eg), (kg, gB L I eg)], ⟨us, _, ⟨hI.1, by omega, by omega⟩, rfl, rfl⟩, (Qbc (g3 := gB L J eg) hI.1.keys hkg rfl rfl (by omega)).1, (Qbc (g3 := gB L J eg) hI.1.keys hkg rfl rfl (by omega)).2.1, YA rfl rfl (Qbc (g3 := gB L J eg) hI.1.keys hkg rfl rfl (by omega)).2.2⟩
end Go.Proofs
namespace M25
open Go Go.Abs M3
/-! ### A world under way: one candidate after the other is filled -/
def PureC (z : CR) : Prop := z.x.sid = [] /\ z.y.sid = [] /\ z.z.sid = []
theorem PureC.all {z : CR} (h : PureC z) : ∀ d ∈ dCR z, d.sid = [] := fun d hd => by
 simp only [dCR, List.mem_cons, List.not_mem_nil, or_false] at hd
 rcases hd with rfl | rfl | rfl | rfl | rfl | rfl | rfl | rfl
 ·rfl
 ·rfl
 ·rfl
 ·rfl
 ·rfl
 ·exact h.1
 ·exact h.2.1
 ·exact h.2.2
def QeQ (u : UR) (k : Nat) (z : CR) : UR := { u with cs := u.cs.set k z }
def QcJ (us : List UR) (i k : Nat) (z : CR) : List UR := us.modify i fun u => QeQ u k z
theorem Zw (us : List UR) (i k : Nat) (z : CR) : (QcJ us i k z).length = us.length := List.length_modify ..
theorem Qld (us : List UR) (i k : Nat) (z : CR) : (QcJ us i k z).map dUR = us.map dUR := by
 refine List.ext_getElem (by simp [QcJ]) fun j h1 h2 => ?_
 simp only [List.getElem_map, QcJ, List.getElem_modify]
 split <;> simp [dUR, QeQ]
theorem QaT {us : List UR} {i k : Nat} {z : CR} {j : Nat} (h : j < us.length) : (QcJ us i k z)[j]'(by rw [Zw]; exact h) = if i = j then QeQ us[j] k z else us[j] := by
 simp only [QcJ, List.getElem_modify]
theorem Qeh {us : List UR} {i k : Nat} {z : CR} (h : Ye us) : Ye (QcJ us i k z) := fun j hj => by
 rw [Zw] at hj
 rw [QaT hj]
 split
 ·exact h j hj
 ·exact h j hj
def wA (us : List UR) (eu ec eg : Nat) (L : List Int) (J : Int) (b4 : Box) : List (Nat × Box) := [(500000, ⟨us.map dUR, 3, eu, false⟩), (12, gB L J eg), (4, b4)] ++ fbx ec us
theorem QbJ {us : List UR} {eu ec eg : Nat} {L : List Int} {J : Int} {b4 : Box} (h : Ye us) {k : Nat} {b : Box} (hk : lk (wA us eu ec eg L J b4) k = some b) : (k = 500000 /\ b = ⟨us.map dUR, 3, eu, false⟩) \/ (k = 12 /\ b = gB L J eg) \/ (k = 4 /\ b = b4) \/ ∃ j, ∃ hj : j < us.length, k = 500001 + j /\ b = ⟨us[j].cs.map dCR, 8, ec, true⟩ := by
 unfold wA at hk
 rcases Qf6 hk with hk | ⟨_, hk⟩
 ·simp only [List.mem_cons, List.not_mem_nil, or_false, Prod.mk.injEq] at hk
  rcases hk with h | h | h
  ·exact .inl h
  ·exact .inr (.inl h)
  ·exact .inr (.inr (.inl h))
 ·obtain ⟨u, hu, e1, e2⟩ := Qg0 hk
  obtain ⟨j, hj, rfl⟩ := List.getElem_of_mem hu
  exact .inr (.inr (.inr ⟨j, hj, e1.trans (h j hj), e2⟩))
section
variable {us : List UR} {eu ec eg : Nat} {L : List Int} {J : Int} {b4 : Box}
theorem Qfv : lk (wA us eu ec eg L J b4) 500000 = some ⟨us.map dUR, 3, eu, false⟩ := rfl
theorem Qe2 : lk (wA us eu ec eg L J b4) 12 = some (gB L J eg) := rfl
theorem Qgy : lk (wA us eu ec eg L J b4) 4 = some b4 := rfl
theorem Qdx (h : Ye us) {j : Nat} (hj : j < us.length) : lk (wA us eu ec eg L J b4) (500001 + j) = some ⟨us[j].cs.map dCR, 8, ec, true⟩ := by
 show lk ((500000, _) :: (12, _) :: (4, _) :: fbx ec us) _ = _
 rw [Qo, if_neg (by omega), Qo, if_neg (by omega), Qo, if_neg (by omega)]
 exact Qmn h hj
theorem Z3 (h : Ye us) {k : Nat} (h1 : k ≠ 500000) (h2 : k ≠ 12) (h3 : k ≠ 4) (h4 : k < 500001 \/ 500001 + us.length <= k) : lk (wA us eu ec eg L J b4) k = none := by
 show lk ((500000, _) :: (12, _) :: (4, _) :: fbx ec us) _ = _
 rw [Qo, if_neg (Ne.symm h1), Qo, if_neg (Ne.symm h2), Qo, if_neg (Ne.symm h3)]
 exact YR h h4
theorem Qkm (h : Ye us) {k : Nat} (hk : k = 500000 \/ k = 12 \/ k = 4 \/ ∃ u ∈ us, k = u.k) : (lk (wA us eu ec eg L J b4) k).isSome = true := by
 rcases hk with rfl | rfl | rfl | ⟨u, hu, rfl⟩
 ·rfl
 ·rfl
 ·rfl
 ·obtain ⟨j, hj, rfl⟩ := List.getElem_of_mem hu
  rw [h j hj, Qdx h hj]; rfl
theorem Qar (h : Ye us) (h4 : b4.pr = true) : Closed (wA us eu ec eg L J b4) := fun k b hk j hj => by
 rcases QbJ h hk with ⟨rfl, rfl⟩ | ⟨rfl, rfl⟩ | ⟨rfl, rfl⟩ | ⟨i, hi, rfl, rfl⟩
 ·exact Qkm h (.inr (.inr (.inr (QbI hj))))
 ·simp [Box.ids, gB] at hj
 ·rw [X9 h4] at hj; cases hj
 ·simp [Box.ids] at hj
theorem QeF {α : Type} : ∀ {l : List α} {k : Nat} {a x : α}, x ∈ l.set k a -> x = a \/ x ∈ l
 | [], k, a, x, h => by simp at h
 | b :: l, 0, a, x, h => by
  simp only [List.set_cons_zero, List.mem_cons] at h ⊢
  rcases h with h | h
  ·exact .inl h
  ·exact .inr (.inr h)
 | b :: l, k + 1, a, x, h => by
  simp only [List.set_cons_succ, List.mem_cons] at h ⊢
  rcases h with h | h
  ·exact .inr (.inl h)
  ·rcases QeF h with h | h
   ·exact .inl h
   ·exact .inr (.inr h)
theorem Qf2 {l : List Nat} {fr fr1 fr' : List (Nat × D)} {H : List (Nat × Box)} {i k : Nat} {row : List D} {p : Bool} (kk : Nat) (z' : CR) (hf : Zc l fr = fr1) (ef : fr1 = fr') (hK : Ye us) (hi : i < us.length) (hk : k < us[i].cs.length)
  (hKi : lk H (500001 + i) = some ⟨(us[i].cs.map dCR).set k row, 8, ec, p⟩) (hp : p = true -> row.map (D.fzS H (· == kk)) = row) (hrow : (row.map (D.fzS H (· == kk))).map D.canS = dCR z') (hoth : ∀ z ∈ us[i].cs, PureC z) (hz : PureC z')
  (hF : ∀ j, ∀ hj : j < us.length, j ≠ i -> lk H (500001 + j) = some ⟨us[j].cs.map dCR, 8, ec, true⟩) (hu : lk H 500000 = some ⟨us.map dUR, 3, eu, false⟩) (hg : lk H 12 = some (gB L J eg)) (h4 : lk H 4 = some b4) (hb4 : b4.pr = true) (hkk : kk < 500000 /\ kk ≠ 12 /\ kk ≠ 4) (hsm : ∀ j, 1000000 <= j -> lk H j = none) (hlen : us.length <= 100)
  (hfr : ∀ p ∈ fr', ∀ j ∈ p.2.ids, j = 500000 \/ j = 12 \/ j = 4 \/ ∃ u ∈ us, j = u.k) : St.le ⟨fr, H⟩ ⟨fr', wA (QcJ us i k z') eu ec eg L J b4⟩ := by
 subst hf ef
 have nokk : ∀ j, (j = 500000 \/ j = 12 \/ j = 4 \/ ∃ u ∈ us, j = u.k) -> j ≠ kk := fun j hj e => by
  subst e
  rcases hj with rfl | rfl | rfl | ⟨u, hu, rfl⟩
  ·omega
  ·exact hkk.2.1 rfl
  ·exact hkk.2.2 rfl
  ·have := (Qbs hK hu).1; omega
 have eqkk : ∀ j, j ≠ kk -> (j == kk) = false := fun j hj => by simp [hj]
 have some1 : ∀ b j, (j = 500000 \/ j = 12 \/ j = 4 \/ ∃ u ∈ us, j = u.k) -> (lk ((500001 + i, b) :: wA us eu ec eg L J b4) j).isSome = true := fun b j hj => Q3 (Qkm hK hj)
 have rowsz : ∀ r ∈ us[i].cs.map dCR, r.map (D.fzS H (· == kk)) = r := fun r hr => by
  obtain ⟨z, hzm, rfl⟩ := List.mem_map.1 hr
  exact Yq fun d hd => Qey fun j hj => by rw [(hoth z hzm).all d hd] at hj; cases hj
 have mapz : ((us[i].cs.map dCR).set k row).map (fun r => r.map (D.fzS H (· == kk))) = (us[i].cs.map dCR).set k (row.map (D.fzS H (· == kk))) := by
  refine List.ext_getElem (by simp) fun j h1 h2 => ?_
  simp only [List.getElem_map, List.getElem_set]
  split
  ·rfl
  ·exact rowsz _ (List.mem_map_of_mem (List.getElem_mem _))
 refine le_trans (Qce l fr H) (le_trans (QmF kk (H' := (500001 + i, ⟨(us[i].cs.map dCR).set k (row.map (D.fzS H (· == kk))), 8, ec, p⟩) :: wA us eu ec eg L J b4) (by omega) (fr' := Zc l fr) (fun t d h => ⟨d, h, QgU fun j hj => eqkk j (nokk j (hfr (t, d) (ZV h) j hj))⟩) (fun j b h => ?_) (fun t d h j hj => some1 _ j (hfr (t, d) (ZV h) j hj)) (fun j b h j2 hj2 => ?_) fun j hj hs => ?_) ?_)
 ·rw [Qo] at h
  split at h
  ·rename_i e; cases h; subst e
   refine ⟨by omega, _, hKi, ?_⟩
   cases p with
   | true => rw [hp rfl]; rfl
   | false => show Box.mk _ _ _ _ = _; rw [mapz]
  ·rename_i e
   rcases QbJ hK h with ⟨rfl, rfl⟩ | ⟨rfl, rfl⟩ | ⟨rfl, rfl⟩ | ⟨i2, hi2, rfl, rfl⟩
   ·refine ⟨by omega, _, hu, Xm (.inr fun j hj => eqkk j (nokk j (.inr (.inr (.inr (QbI hj))))))⟩
   ·exact ⟨Ne.symm hkk.2.1, _, hg, rfl⟩
   ·exact ⟨Ne.symm hkk.2.2, _, h4, Xm (.inl hb4)⟩
   ·exact ⟨by omega, _, hF i2 hi2 (fun e2 => e (by omega)), rfl⟩
 ·rw [Qo] at h
  split at h
  ·cases h
   cases hpp : p with
   | true => rw [X9 hpp] at hj2; cases hj2
   | false =>
   simp only [Box.ids, hpp, Bool.false_eq_true, if_false, List.mem_flatMap] at hj2
   obtain ⟨r, hr, d, hd, hj3⟩ := hj2
   rcases QeF hr with rfl | hr
   ·have : (d.canS).sid = [] := hz.all _ (by rw [<- hrow]; exact List.mem_map_of_mem hd)
    rw [Qcv] at this
    rw [this] at hj3; cases hj3
   ·obtain ⟨z, hzm, rfl⟩ := List.mem_map.1 hr
    rw [(hoth z hzm).all d hd] at hj3; cases hj3
  ·exact Q3 (Qar hK hb4 j b h j2 hj2)
 ·rw [hsm j hj] at hs; cases hs
 ·refine le_trans (QhN k QA) (le_trans (Qf1 QA (fun e => ?_) (fun r hr d hd => ?_)) (Qbt rfl fun j => ?_))
  ·have := congrArg List.length e
   simp only [List.length_modify, List.length_set, List.length_map, List.length_nil] at this
   omega
  ·rcases Qa9 hr with h | ⟨y, hy, rfl⟩
   ·rcases QeF h with rfl | h
    ·have : (d.canS).sid = [] := hz.all _ (by rw [<- hrow]; exact List.mem_map_of_mem hd)
     rwa [Qcv] at this
    ·obtain ⟨z, hzm, rfl⟩ := List.mem_map.1 h
     exact (hoth z hzm).all d hd
   ·obtain ⟨d0, hd0, rfl⟩ := List.mem_map.1 hd
    rw [Qcv]
    rcases QeF hy with rfl | h
    ·have : (d0.canS).sid = [] := hz.all _ (by rw [<- hrow]; exact List.mem_map_of_mem hd0)
     rwa [Qcv] at this
    ·obtain ⟨z, hzm, rfl⟩ := List.mem_map.1 h
     exact (hoth z hzm).all d0 hd0
  ·have erows : ((us[i].cs.map dCR).set k (row.map (D.fzS H (· == kk)))).modify k (fun r => r.map D.canS) = ((us[i].cs.set k z').map dCR) := by
    refine List.ext_getElem (by simp) fun m h1 h2 => ?_
    simp only [List.getElem_modify, List.getElem_set, List.getElem_map]
    by_cases e : k = m
    ·subst e
     simp only [if_true]
     exact hrow
    ·simp only [if_neg e]
   have hK' := Qeh (i := i) (k := k) (z := z') hK
   by_cases e : 500001 + i = j
   ·subst e
    rw [QA, Qdx hK' (by rw [Zw]; exact hi)]
    simp only [QaT hi, if_true, erows]; rfl
   ·rw [Qo, if_neg e, Qo, if_neg e, Qo, if_neg e]
    cases h : lk (wA us eu ec eg L J b4) j with
    | none =>
     cases h' : lk (wA (QcJ us i k z') eu ec eg L J b4) j with
     | none => rfl
     | some b =>
      have : (lk (wA us eu ec eg L J b4) j).isSome = true := by
       rcases QbJ hK' h' with ⟨rfl, _⟩ | ⟨rfl, _⟩ | ⟨rfl, _⟩ | ⟨m, hm, rfl, _⟩
       ·rfl
       ·rfl
       ·rfl
       ·rw [Zw] at hm; rw [Qdx hK hm]; rfl
      rw [h] at this; cases this
    | some b =>
     rcases QbJ hK h with ⟨rfl, rfl⟩ | ⟨rfl, rfl⟩ | ⟨rfl, rfl⟩ | ⟨m, hm, rfl, rfl⟩
     ·rw [Qfv, Qld]
     ·rfl
     ·rfl
     ·rw [Qdx hK' (by rw [Zw]; exact hm)]
      simp only [QaT hm, if_neg (show ¬ i = m by omega)]
end
theorem QdV : ∀ {H : List (Nat × Box)} {j : Nat}, j ∈ H.map Prod.fst -> (lk H j).isSome = true
 | [], _, h => by cases h
 | (k, b) :: H, j, h => by
  by_cases e : k = j
  ·subst e; exact Q4
  ·refine Q3 (QdV ?_)
   simp only [List.map_cons, List.mem_cons] at h
   exact h.resolve_left (Ne.symm e)
theorem QoR {us : List UR} (h : Ye us) {i : Nat} (hi : i < us.length) : (us.map dUR)[((i : Nat) : Int).toNat]? = some [.str us[i].n, .str us[i].f, .osl (500001 + i) us[i].cs.length] := by
 rw [Int.toNat_natCast, List.getElem?_map, List.getElem?_eq_getElem hi, Option.map_some, dUR, h i hi]
theorem Qrp {cs : List CR} {k : Nat} (hk : k < cs.length) : (cs.map dCR)[((k : Nat) : Int).toNat]? = some (dCR cs[k]) := by
 rw [Int.toNat_natCast, List.getElem?_map, List.getElem?_eq_getElem hk]; rfl
theorem Qki {us : List UR} {eu ec eg : Nat} {L : List Int} {J : Int} {b4 g1 : Box} (h : Ye us) (k : Nat) : lk (((500000, (⟨us.map dUR, 3, eu, false⟩ : Box)) :: fbx ec us) ++ ([(12, gB L J eg)] ++ [(12, g1), (4, b4)])) k = lk (wA us eu ec eg L J b4) k := by
 show lk ((500000, _) :: (fbx ec us ++ [(12, gB L J eg), (12, g1), (4, b4)])) k = lk ((500000, _) :: (12, _) :: (4, _) :: fbx ec us) k
 rw [Qo, Qo]
 split
 ·rfl
 ·rw [ZU]
  cases hh : lk (fbx ec us) k with
  | some v =>
   have := QhA h k v hh
   simp only
   rw [Qo, if_neg (by omega), Qo, if_neg (by omega), hh]
  | none =>
   simp only [Qo, hh]
   by_cases e : 12 = k
   ·rw [if_pos e, if_pos e]
   ·rw [if_neg e, if_neg e, if_neg e]; rfl
theorem Qlj {us : List UR} {eu ec eg : Nat} {L : List Int} {J : Int} {b4 : Box} (h : Ye us) (hv : ∀ y ∈ us, y.cs.length <= 16 /\ ∀ z ∈ y.cs, QgI z.v) : Fam (wA us eu ec eg L J b4) 12 500000 eu ec us := by
 refine ⟨by decide, ⟨false, rfl⟩, fun y hy => ?_, hv⟩
 obtain ⟨j, hj, rfl⟩ := List.getElem_of_mem hy
 refine ⟨by rw [h j hj]; omega, true, by rw [h j hj]; exact Qdx h hj⟩
/-! ### Filled candidates -/
def QpA (n : Nat) (x : WantT) : Prop := 0 <= x.u /\ x.u < n /\ SetOk x.s
theorem WantIn.w {n : Nat} {x : WantT} (h : WantIn n x) : QpA n x := ⟨by have := h.1; omega, h.2.1, h.2.2⟩
structure XR (n : Nat) (c : CandT) : Prop where
 v : QgI c.v
 nl : c.ns.length <= 10
 nr : ∀ r ∈ c.ns, r.length <= 2 /\ ∀ x ∈ r, QpA n x
 bl : c.bs.length <= 1
 bw : ∀ x ∈ c.bs, QpA n x
def Qij (c : CandT) : CR := ⟨c.v, .int .i64 c.sh, Q1 c.ns, Q9 c.bs⟩
def DoneC (n : Nat) (z : CR) : Prop := ∃ c, z = Qij c /\ XR n c
def FreshC (z : CR) : Prop := ∃ v sh, z = zr v sh /\ QgI v
theorem DoneC.pure {n : Nat} {z : CR} (h : DoneC n z) : PureC z := by obtain ⟨c, rfl, _⟩ := h; exact ⟨rfl, rfl, rfl⟩
theorem FreshC.pure {z : CR} (h : FreshC z) : PureC z := by obtain ⟨v, sh, rfl, _⟩ := h; exact ⟨rfl, rfl, rfl⟩
theorem DoneC.vr {n : Nat} {z : CR} (h : DoneC n z) : QgI z.v := by obtain ⟨c, rfl, q⟩ := h; exact q.v
theorem FreshC.vr {z : CR} (h : FreshC z) : QgI z.v := by obtain ⟨v, sh, rfl, q⟩ := h; exact q
structure Prog (n : Nat) (us : List UR) (i k : Nat) : Prop where
 keys : Ye us
 len : us.length = n /\ 2 <= n /\ n <= 11
 cl : ∀ u ∈ us, u.cs.length <= 4
 done : ∀ j, ∀ hj : j < us.length, ∀ m, ∀ hm : m < us[j].cs.length, (j < i \/ (j = i /\ m < k)) -> DoneC n us[j].cs[m]
 fresh : ∀ j, ∀ hj : j < us.length, ∀ m, ∀ hm : m < us[j].cs.length, ¬ (j < i \/ (j = i /\ m < k)) -> FreshC us[j].cs[m]
theorem Prog.pure {n : Nat} {us : List UR} {i k : Nat} (h : Prog n us i k) {j : Nat} (hj : j < us.length) : ∀ z ∈ us[j].cs, PureC z /\ QgI z.v := fun z hz => by
 obtain ⟨m, hm, rfl⟩ := List.getElem_of_mem hz
 by_cases hd : j < i \/ (j = i /\ m < k)
 ·exact ⟨(h.done j hj m hm hd).pure, (h.done j hj m hm hd).vr⟩
 ·exact ⟨(h.fresh j hj m hm hd).pure, (h.fresh j hj m hm hd).vr⟩
theorem Prog.fam {n : Nat} {us : List UR} {i k : Nat} (h : Prog n us i k) : ∀ y ∈ us, y.cs.length <= 16 /\ ∀ z ∈ y.cs, QgI z.v := fun y hy => by
 obtain ⟨j, hj, rfl⟩ := List.getElem_of_mem hy
 exact ⟨Nat.le_trans (h.cl _ hy) (by omega), fun z hz => (h.pure hj z hz).2⟩
theorem Prog.put {n : Nat} {us : List UR} {i k : Nat} (h : Prog n us i k) (hi : i < us.length) (hk : k < us[i].cs.length) {z : CR} (hz : DoneC n z) : Prog n (QcJ us i k z) i (k + 1) := by
 have at' := fun (j : Nat) (hj : j < us.length) => QaT (i := i) (k := k) (z := z) hj
 refine ⟨Qeh h.keys, by rw [Zw]; exact h.len, fun u hu => ?_, fun j hj m hm hd => ?_, fun j hj m hm hd => ?_⟩
 ·obtain ⟨j, hj, rfl⟩ := List.getElem_of_mem hu
  rw [Zw] at hj
  rw [at' j hj]
  split
  ·simp only [QeQ, List.length_set]; exact h.cl _ (List.getElem_mem _)
  ·exact h.cl _ (List.getElem_mem _)
 ·rw [Zw] at hj
  have e := at' j hj
  by_cases hij : i = j
  ·subst hij
   rw [if_pos rfl] at e
   have hm' : m < (QeQ us[i] k z).cs.length := by rw [<- e]; exact hm
   have e2 : (QcJ us i k z)[i].cs[m] = (QeQ us[i] k z).cs[m]'hm' := by congr 1; rw [e]
   rw [e2]
   simp only [QeQ, List.getElem_set]
   split
   ·exact hz
   ·simp only [QeQ, List.length_set] at hm'
    exact h.done i hi m hm' (by omega)
  ·rw [if_neg hij] at e
   have hm' : m < us[j].cs.length := by rw [<- e]; exact hm
   have e2 : (QcJ us i k z)[j].cs[m] = us[j].cs[m]'hm' := by congr 1; rw [e]
   rw [e2]; exact h.done j hj m hm' (by omega)
 ·rw [Zw] at hj
  have e := at' j hj
  by_cases hij : i = j
  ·subst hij
   rw [if_pos rfl] at e
   have hm' : m < (QeQ us[i] k z).cs.length := by rw [<- e]; exact hm
   have e2 : (QcJ us i k z)[i].cs[m] = (QeQ us[i] k z).cs[m]'hm' := by congr 1; rw [e]
   rw [e2]
   simp only [QeQ, List.length_set] at hm'
   simp only [QeQ, List.getElem_set]
   rw [if_neg (by omega)]
   exact h.fresh i hi m hm' (by omega)
  ·rw [if_neg hij] at e
   have hm' : m < us[j].cs.length := by rw [<- e]; exact hm
   have e2 : (QcJ us i k z)[j].cs[m] = us[j].cs[m]'hm' := by congr 1; rw [e]
   rw [e2]; exact h.fresh j hj m hm' (by omega)
theorem Prog.next {n : Nat} {us : List UR} {i k : Nat} (h : Prog n us i k) (hi : i < us.length) (hk : us[i].cs.length <= k) : Prog n us (i + 1) 0 := by
 refine ⟨h.keys, h.len, h.cl, fun j hj m hm hd => h.done j hj m hm ?_, fun j hj m hm hd => h.fresh j hj m hm (by omega)⟩
 by_cases e : j = i
 ·subst e; exact .inr ⟨rfl, by omega⟩
 ·exact .inl (by omega)
theorem DoneC.setBars {n : Nat} {c : CandT} (h : XR n c) (hb : c.bs = []) {x : WantT} (hx : WantIn n x) : XR n { c with bs := [x] } := ⟨h.v, h.nl, h.nr, by simp, by intro y hy; simp only [List.mem_singleton] at hy; subst hy; exact hx.w⟩
theorem Prog.again {n : Nat} {us : List UR} {i k : Nat} (h : Prog n us i (k + 1)) (hi : i < us.length) (hk : k < us[i].cs.length) {z : CR} (hz : DoneC n z) : Prog n (QcJ us i k z) i (k + 1) := by
 have at' := fun (j : Nat) (hj : j < us.length) => QaT (i := i) (k := k) (z := z) hj
 refine ⟨Qeh h.keys, by rw [Zw]; exact h.len, fun u hu => ?_, fun j hj m hm hd => ?_, fun j hj m hm hd => ?_⟩
 ·obtain ⟨j, hj, rfl⟩ := List.getElem_of_mem hu
  rw [Zw] at hj
  rw [at' j hj]
  split
  ·simp only [QeQ, List.length_set]; exact h.cl _ (List.getElem_mem _)
  ·exact h.cl _ (List.getElem_mem _)
 ·rw [Zw] at hj
  have e := at' j hj
  by_cases hij : i = j
  ·subst hij
   rw [if_pos rfl] at e
   have hm' : m < (QeQ us[i] k z).cs.length := by rw [<- e]; exact hm
   have e2 : (QcJ us i k z)[i].cs[m] = (QeQ us[i] k z).cs[m]'hm' := by congr 1; rw [e]
   rw [e2]
   simp only [QeQ, List.getElem_set]
   split
   ·exact hz
   ·simp only [QeQ, List.length_set] at hm'
    exact h.done i hi m hm' (by omega)
  ·rw [if_neg hij] at e
   have hm' : m < us[j].cs.length := by rw [<- e]; exact hm
   have e2 : (QcJ us i k z)[j].cs[m] = us[j].cs[m]'hm' := by congr 1; rw [e]
   rw [e2]; exact h.done j hj m hm' (by omega)
 ·rw [Zw] at hj
  have e := at' j hj
  by_cases hij : i = j
  ·subst hij
   rw [if_pos rfl] at e
   have hm' : m < (QeQ us[i] k z).cs.length := by rw [<- e]; exact hm
   have e2 : (QcJ us i k z)[i].cs[m] = (QeQ us[i] k z).cs[m]'hm' := by congr 1; rw [e]
   rw [e2]
   simp only [QeQ, List.length_set] at hm'
   simp only [QeQ, List.getElem_set]
   rw [if_neg (by omega)]
   exact h.fresh i hi m hm' (by omega)
  ·rw [if_neg hij] at e
   have hm' : m < us[j].cs.length := by rw [<- e]; exact hm
   have e2 : (QcJ us i k z)[j].cs[m] = us[j].cs[m]'hm' := by congr 1; rw [e]
   rw [e2]; exact h.fresh j hj m hm' (by omega)
theorem QmE {l : List Nat} {fr fr1 fr' : List (Nat × D)} {us : List UR} {eu ec eg e1 e3 : Nat} {L : List Int} {J : Int} {b4 bK : Box} {i : Nat} {x : WantT} (hf : Zc l fr = fr1) (ef : fr1 = fr') (hK : Ye us) (hi : i < us.length) (hb4 : b4.pr = true) (hbK : ∀ j ∈ bK.ids, j = 64)
  (hfr : ∀ p ∈ fr', ∀ j ∈ p.2.ids, j = 500000 \/ j = 12 \/ j = 4 \/ ∃ u ∈ us, j = u.k) :
  St.le ⟨fr, (500001 + i, bK) :: (64, ⟨[[.osl 63 1]], 1, e1, false⟩) :: (63, ⟨[Qe6 x], 3, e3, true⟩) :: wA us eu ec eg L J b4⟩ ⟨fr', (500001 + i, bK) :: (64, ⟨[[Q9 [x]]], 1, e1, true⟩) :: wA us eu ec eg L J b4⟩ := by
 subst hf ef
 have no63 : ∀ j, (j = 500000 \/ j = 12 \/ j = 4 \/ ∃ u ∈ us, j = u.k) -> j ≠ 63 := fun j hj e => by
  subst e
  rcases hj with h | h | h | ⟨u, hu, h⟩
  ·cases h
  ·cases h
  ·cases h
  ·have := (Qbs hK hu).1; omega
 have eq63 : ∀ j, j ≠ 63 -> (j == 63) = false := fun j hj => by simp [hj]
 have up : ∀ b b' j, (lk (wA us eu ec eg L J b4) j).isSome = true -> (lk ((500001 + i, b) :: (64, b') :: wA us eu ec eg L J b4) j).isSome = true := fun b b' j hj => Q3 (Q3 hj)
 refine le_trans (Qce l fr _) (le_trans (QmF 63 (H' := (500001 + i, bK) :: (64, ⟨[[Q9 [x]]], 1, e1, false⟩) :: wA us eu ec eg L J b4) (by decide) (fr' := Zc l fr) (fun t d h => ⟨d, h, QgU fun j hj => eq63 j (no63 j (hfr (t, d) (ZV h) j hj))⟩) (fun j b h => ?_) (fun t d h j hj => up _ _ j (Qkm hK (hfr (t, d) (ZV h) j hj))) (fun j b h j2 hj2 => ?_) fun j hj hs => ?_) ?_)
 ·rw [Qo] at h
  split at h
  ·rename_i e; cases h; subst e
   refine ⟨by omega, _, QA, Xm (.inr fun j hj => ?_)⟩
   rw [hbK j hj]; rfl
  ·rename_i e
   rw [Qo] at h
   split at h
   ·rename_i e2; cases h; subst e2
    refine ⟨by decide, _, Qp e QA, ?_⟩
    have h63 : lk ((500001 + i, bK) :: (64, (⟨[[.osl 63 1]], 1, e1, false⟩ : Box)) :: (63, ⟨[Qe6 x], 3, e3, true⟩) :: wA us eu ec eg L J b4) 63 = some ⟨[Qe6 x], 3, e3, true⟩ := Qp (by omega) (Qp (by decide) QA)
    simp only [Box.fz, Bool.false_eq_true, if_false, List.map_cons, List.map_nil, D.fzS, beq_self_eq_true, if_true, h63, List.length_singleton, and_self, Q9]
   ·rename_i e2
    have h2 : lk ((500001 + i, bK) :: (64, (⟨[[.osl 63 1]], 1, e1, false⟩ : Box)) :: (63, ⟨[Qe6 x], 3, e3, true⟩) :: wA us eu ec eg L J b4) j = some b := by
     have hj : j ≠ 63 := by
      rcases QbJ hK h with ⟨rfl, _⟩ | ⟨rfl, _⟩ | ⟨rfl, _⟩ | ⟨m, _, rfl, _⟩ <;> omega
     exact Qp e (Qp e2 (Qp (Ne.symm hj) h))
    rcases QbJ hK h with ⟨rfl, rfl⟩ | ⟨rfl, rfl⟩ | ⟨rfl, rfl⟩ | ⟨m, hm, rfl, rfl⟩
    ·exact ⟨by decide, _, h2, Xm (.inr fun j hj => eq63 j (no63 j (.inr (.inr (.inr (QbI hj))))))⟩
    ·exact ⟨by decide, _, h2, rfl⟩
    ·exact ⟨by decide, _, h2, Xm (.inl hb4)⟩
    ·exact ⟨by omega, _, h2, rfl⟩
 ·rw [Qo] at h
  split at h
  ·cases h
   rw [hbK j2 hj2]; exact Q3 Q4
  ·rw [Qo] at h
   split at h
   ·cases h; simp [Box.ids, D.sid, Q9] at hj2
   ·exact up _ _ j2 (Qar hK hb4 j b h j2 hj2)
 ·by_cases e : 500001 + i = j
  ·subst e; exact Q4
  ·rw [Qo, if_neg e, Qo, if_neg (by omega), Qo, if_neg (by omega)] at hs
   exact up _ _ j hs
 ·have h64 : lk ((500001 + i, bK) :: (64, (⟨[[Q9 [x]]], 1, e1, false⟩ : Box)) :: wA us eu ec eg L J b4) 64 = some ⟨[[Q9 [x]]], 1, e1, false⟩ := Qp (by omega) QA
  refine le_trans (Qf1 h64 (by simp) (by intro r hr d hd; simp only [List.mem_singleton] at hr; subst hr; simp only [List.mem_singleton] at hd; subst hd; rfl)) (Qbt rfl fun j => ?_)
  by_cases e : 64 = j
  ·subst e; rw [QA, Qo, if_neg (by omega), QA]
  ·by_cases eK : 500001 + i = j
   ·subst eK; rw [Qo, if_neg e, QA, QA]
   ·rw [Qo, if_neg e, Qo, if_neg eK, Qo, if_neg e, Qo, if_neg eK, Qo, if_neg e]
theorem Qmk {n : Nat} : ∀ {cs : List CR}, (∀ z ∈ cs, DoneC n z) -> ∃ l : List CandT, cs = l.map Qij /\ ∀ c ∈ l, XR n c
 | [], _ => ⟨[], rfl, by simp⟩
 | z :: cs, h => by
  obtain ⟨l, h1, h2⟩ := Qmk (cs := cs) fun y hy => h y (by simp [hy])
  obtain ⟨c, rfl, hc⟩ := h z (by simp)
  exact ⟨c :: l, by rw [h1]; rfl, fun y hy => by
   rcases List.mem_cons.1 hy with rfl | hy
   ·exact hc
   ·exact h2 y hy⟩
def QqB (n : Nat) (u : UR) (x : Ql4) : Prop := x.n = u.n /\ x.f = u.f /\ u.cs = x.cs.map Qij /\ ∀ c ∈ x.cs, XR n c
theorem Qml {n : Nat} : ∀ {us : List UR}, (∀ u ∈ us, ∀ z ∈ u.cs, DoneC n z) -> ∃ w : Qn, w.length = us.length /\ ∀ j, ∀ h : j < us.length, ∀ h' : j < w.length, QqB n us[j] w[j]
 | [], _ => ⟨[], rfl, fun j h => by simp at h⟩
 | u :: us, h => by
  obtain ⟨w, h1, h2⟩ := Qml (us := us) fun y hy => h y (by simp [hy])
  obtain ⟨l, q1, q2⟩ := Qmk (h u (by simp))
  refine ⟨⟨u.n, u.f, l⟩ :: w, by simp [h1], fun j hj hj' => ?_⟩
  cases j with
  | zero => exact ⟨rfl, rfl, q1, q2⟩
  | succ j => simp only [List.getElem_cons_succ]; exact h2 j (by simpa using hj) (by simpa using hj')
structure QnW (w : Qn) : Prop where
 sm : WSm w
 len : 2 <= w.length /\ w.length <= 11
 cs : ∀ u ∈ w, u.cs.length <= 4
 cand : ∀ u ∈ w, ∀ c ∈ u.cs, XR w.length c
theorem QpZ {w : Qn} (h2 : 2 <= w.length) (h11 : w.length <= 11) (hc : ∀ u ∈ w, u.cs.length <= 4) (hd : ∀ u ∈ w, ∀ c ∈ u.cs, XR w.length c) : QnW w := by
 refine ⟨⟨by omega, fun u hu => Nat.le_trans (hc u hu) (by omega), fun u hu c hcm => (hd u hu c hcm).v, fun u hu c hcm => ⟨Nat.le_trans (hd u hu c hcm).nl (by omega), Nat.le_trans (hd u hu c hcm).bl (by omega)⟩, fun u hu c hcm r hr => Nat.le_trans ((hd u hu c hcm).nr r hr).1 (by omega), fun u hu c hcm r hr x hx => (((hd u hu c hcm).nr r hr).2 x hx).2.2.sm, fun u hu c hcm x hx => ((hd u hu c hcm).bw x hx).2.2.sm⟩, ⟨h2, h11⟩, hc, hd⟩
theorem Qoj {n : Nat} {us : List UR} {eu ec eg : Nat} {L : List Int} {J : Int} {b4 : Box} {k : Nat} (h : Prog n us us.length k) (hb4 : b4.pr = true) :
  ∃ w : Qn, w.length = us.length /\ QnW w /\ ∀ {l : List Nat} {fr fr1 fr' : List (Nat × D)}, Zc l fr = fr1 -> fr1 = fr' -> (∀ p ∈ fr', ∀ j ∈ p.2.ids, j = 500000 \/ j = 4) -> St.le ⟨fr, wA us eu ec eg L J b4⟩ ⟨fr', [(500000, ⟨w.map Z8, 3, eu, true⟩), (4, b4)]⟩ := by
 obtain ⟨w, hw1, hw2⟩ := Qml (n := n) (us := us) fun u hu z hz => by
  obtain ⟨j, hj, rfl⟩ := List.getElem_of_mem hu
  obtain ⟨m, hm, rfl⟩ := List.getElem_of_mem hz
  exact h.done j hj m hm (.inl hj)
 have hcs : ∀ u ∈ w, u.cs.length <= 4 /\ ∀ c ∈ u.cs, XR n c := fun u hu => by
  obtain ⟨j, hj, rfl⟩ := List.getElem_of_mem hu
  obtain ⟨_, _, q3, q4⟩ := hw2 j (by omega) hj
  have := h.cl us[j] (List.getElem_mem _)
  rw [q3, List.length_map] at this
  exact ⟨this, q4⟩
 have hlen := h.len
 refine ⟨w, hw1, QpZ (by omega) (by omega) (fun u hu => (hcs u hu).1) (fun u hu c hc => by have := (hcs u hu).2 c hc; rwa [show w.length = n by omega]), ?_⟩
 intro l fr fr1 fr' hf ef hfr
 subst hf ef
 have hK := h.keys
 let S : Nat -> Bool := fun k => decide (500001 <= k) && decide (k < 1000000)
 have hS1 : ∀ k, k < 500001 -> S k = false := fun k hk => by
  show (decide (500001 <= k) && decide (k < 1000000)) = false
  rw [decide_eq_false (by omega)]; rfl
 have hS2 : ∀ k, 500001 <= k -> k < 1000000 -> S k = true := fun k h1 h2 => by
  show (decide (500001 <= k) && decide (k < 1000000)) = true
  rw [decide_eq_true h1, decide_eq_true h2]; rfl
 have hrow : ∀ j, ∀ h1 : j < us.length, ∀ h2 : j < w.length, (dUR us[j]).map (D.fzS (wA us eu ec eg L J b4) S) = Z8 w[j] := fun j h1 h2 => by
  obtain ⟨q1, q2, q3, q4⟩ := hw2 j h1 h2
  have hk := hK j h1
  have hc := Qdx (eu := eu) (ec := ec) (eg := eg) (L := L) (J := J) (b4 := b4) hK h1
  generalize us[j] = u at q1 q2 q3 hk hc
  generalize w[j] = x at q1 q2 q3 q4
  obtain ⟨un, uf, uk, ucs⟩ := u
  simp only at q1 q2 q3 hk hc
  subst hk q3
  simp only [dUR, Z8, List.map_cons, List.map_nil, D.fzS]
  rw [hS2 _ (by omega) (by omega), hc]
  simp only [if_true, true_and, List.length_map, q1, q2, Qkx, List.map_map]
  rfl
 have hrows : (us.map dUR).map (fun r => r.map (D.fzS (wA us eu ec eg L J b4) S)) = w.map Z8 := by
  refine List.ext_getElem (by simp [hw1]) fun j h1 h2 => ?_
  simp only [List.getElem_map]
  exact hrow j (by simpa using h1) (by simpa using h2)
 refine le_trans (Qce l fr _) (le_trans (QpT S (fun k hk => by
  simp only [S, Bool.and_eq_true, decide_eq_true_eq] at hk; exact hk.2) (fr' := Zc l fr) (H' := [(500000, ⟨w.map Z8, 3, eu, false⟩), (4, b4)]) (fun t d hd => ⟨d, hd, QgU fun j hj => ?_⟩) (fun j b hj => ?_) (fun t d hd j hj => ?_) (fun j b hb i hi => ?_) fun j hj hs => ?_) (le_trans (Qf1 (k := 500000) (b := ⟨w.map Z8, 3, eu, false⟩) rfl (fun e => ?_) (fun r hr d hd => ?_)) (Qbt rfl fun j => ?_)))
 ·rcases hfr (t, d) (ZV hd) j hj with rfl | rfl
  ·exact hS1 _ (by decide)
  ·exact hS1 _ (by decide)
 ·rw [Qo] at hj
  split at hj
  ·rename_i e; cases hj; subst e
   refine ⟨hS1 _ (by decide), _, Qfv, ?_⟩
   simp only [Box.fz, Bool.false_eq_true, if_false, hrows]
  ·rw [Qo] at hj
   split at hj
   ·rename_i e; cases hj; subst e
    exact ⟨hS1 _ (by decide), _, Qgy, Xm (.inl hb4)⟩
   ·cases hj
 ·rcases hfr (t, d) (ZV hd) j hj with rfl | rfl
  ·rfl
  ·rfl
 ·rw [Qo] at hb
  split at hb
  ·cases hb
   simp only [Box.ids, Bool.false_eq_true, if_false, List.mem_flatMap, List.mem_map] at hi
   obtain ⟨r, ⟨u, _, rfl⟩, d, hd, hi⟩ := hi
   simp only [Z8, List.mem_cons, List.not_mem_nil, or_false] at hd
   rcases hd with rfl | rfl | rfl <;> simp [D.sid, Qkx] at hi
  ·rw [Qo] at hb
   split at hb
   ·cases hb; rw [X9 hb4] at hi; cases hi
   ·cases hb
 ·obtain ⟨b, hb⟩ := Option.isSome_iff_exists.1 hs
  rcases QbJ hK hb with ⟨rfl, _⟩ | ⟨rfl, _⟩ | ⟨rfl, _⟩ | ⟨m, hm, rfl, _⟩ <;> omega
 ·have := congrArg List.length e
  simp only [List.length_map, List.length_nil] at this
  omega
 ·obtain ⟨u, _, rfl⟩ := List.mem_map.1 hr
  simp only [Z8, List.mem_cons, List.not_mem_nil, or_false] at hd
  rcases hd with rfl | rfl | rfl <;> rfl
 ·by_cases e : 500000 = j
  ·subst e; rfl
  ·rw [Qo, if_neg e, Qo, if_neg e]; rw [Qo (k := 500000), if_neg e]
def QjP (us : List UR) (i : Nat) : Nat := match us[i]? with
 | some u => u.cs.length
 | none => 0
theorem QaM {us : List UR} {i : Nat} (h : i < us.length) : QjP us i = us[i].cs.length := by rw [QjP, List.getElem?_eq_getElem h]
theorem QaD (us : List UR) (i k : Nat) (z : CR) : QjP (QcJ us i k z) i = QjP us i := by
 by_cases h : i < us.length
 ·rw [QaM h, QaM (by rw [Zw]; exact h), QaT h, if_pos rfl]
  simp [QeQ]
 ·have e : (QcJ us i k z).length = us.length := Zw ..
  rw [QjP, QjP, List.getElem?_eq_none (show us.length <= i by omega), List.getElem?_eq_none (show (QcJ us i k z).length <= i by omega)]
theorem Qjn {us : List UR} {i k : Nat} {z : CR} (hi : i < us.length) (hk : k < us[i].cs.length) {us2 : List UR} (e : us2 = QcJ us i k z) (hi2 : i < us2.length) (hk2 : k < us2[i].cs.length) : us2[i].cs[k] = z := by
 subst e
 have e1 := QaT (i := i) (k := k) (z := z) hi
 rw [if_pos rfl] at e1
 have e2 : (QcJ us i k z)[i].cs[k] = (QeQ us[i] k z).cs[k]'(by simpa [QeQ] using hk) := by congr 1; rw [e1]
 rw [e2]; simp [QeQ]
theorem QpJ {cs : List CR} {k : Nat} {z : CR} (hk : k < cs.length) (hz : cs[k] = z) : (cs.map dCR)[((k : Nat) : Int).toNat]? = some (dCR z) := by rw [Qrp hk, hz]
theorem Qpn {cs : List CR} {k : Nat} {row : List D} (hk : k < cs.length) : ((cs.map dCR).set ((k : Nat) : Int).toNat row)[((k : Nat) : Int).toNat]? = some row := by
 rw [Int.toNat_natCast, List.getElem?_set_self (by simpa using hk)]
theorem QiV {K k e t : Nat} {L : List (List D)} {r1 r2 : List D} {p : Bool} {H : List (Nat × Box)} : lk ((K, (⟨(L.set k r1).set k r2, e, t, p⟩ : Box)) :: H) K = some ⟨L.set k r2, e, t, p⟩ := by rw [QA, List.set_set]
theorem Qfj {H : List (Nat × Box)} {kk m e t : Nat} {ys : List (List D)} {v : Vr} {sh : Int} (h : lk H kk = some ⟨ys, e, t, true⟩) (hm : m = ys.length) : ([D.int .i64 v.a, .int .i64 v.b, .int .i64 v.c, .str v.p, .str v.q, .int .i64 sh, .osl kk m, .fsl []].map (D.fzS H (· == kk))).map D.canS = [.int .i64 v.a, .int .i64 v.b, .int .i64 v.c, .str v.p, .str v.q, .int .i64 sh, .sl ys, .sl []] := by
 simp only [List.map_cons, List.map_nil, D.fzS, beq_self_eq_true, if_true, h, hm, and_self, D.canS]
theorem Qmq {H : List (Nat × Box)} {kk m e t : Nat} {ys : List (List D)} {v : Vr} {sh : Int} {ns : List (List WantT)} (h : lk H kk = some ⟨ys, e, t, true⟩) (hm : m = ys.length) : ([D.int .i64 v.a, .int .i64 v.b, .int .i64 v.c, .str v.p, .str v.q, .int .i64 sh, Q1 ns, .osl kk m].map (D.fzS H (· == kk))).map D.canS = [.int .i64 v.a, .int .i64 v.b, .int .i64 v.c, .str v.p, .str v.q, .int .i64 sh, Q1 ns, .sl ys] := by
 simp only [Q1, List.map_cons, List.map_nil, D.fzS, beq_self_eq_true, if_true, h, hm, and_self, D.canS]
theorem Qq7 {us : List UR} {eu ec eg : Nat} {L : List Int} {J J2 : Int} {b4 : Box} (k : Nat) : lk ((12, gB L J2 eg) :: wA us eu ec eg L J b4) k = lk (wA us eu ec eg L J2 b4) k := by
 show lk ((12, _) :: (500000, _) :: (12, _) :: (4, _) :: fbx ec us) k = lk ((500000, _) :: (12, _) :: (4, _) :: fbx ec us) k
 by_cases e : 12 = k
 ·subst e; rfl
 ·rw [Qo, if_neg e, Qo, Qo (k := 500000)]
  split
  ·rfl
  ·rw [Qo, if_neg e, Qo (k := 12), if_neg e]
theorem Qka {cs : List CR} {k e t : Nat} {row : List D} (h : ∀ z ∈ cs, PureC z) (hr : ∀ d ∈ row, ∀ j ∈ d.sid, j = 64) : ∀ j ∈ Box.ids ⟨(cs.map dCR).set k row, e, t, false⟩, j = 64 := fun j hj => by
 simp only [Box.ids, Bool.false_eq_true, if_false, List.mem_flatMap] at hj
 obtain ⟨r, hrm, d, hd, hj⟩ := hj
 rcases QeF hrm with rfl | hrm
 ·exact hr d hd j hj
 ·obtain ⟨z, hz, rfl⟩ := List.mem_map.1 hrm
  rw [(h z hz).all d hd] at hj; cases hj
theorem Qr4 {us : List UR} {eu ec eg : Nat} {L : List Int} {J : Int} {b4 b64 : Box} {n i k : Nat} (h : Prog n us i k) (hi : i < us.length) (hk : k < us[i].cs.length) {zx : CR} (hv : QgI zx.v) (hrow : zx.x.sid = [] /\ zx.y.sid = [64] /\ zx.z.sid = []) (hb4 : b4.pr = true) (h64 : b64.pr = true) :
  Fam ((500001 + i, ⟨(us[i].cs.map dCR).set k (dCR zx), 8, ec, false⟩) :: (64, b64) :: wA us eu ec eg L J b4) 12 500000 eu ec (QcJ us i k zx) /\ Closed ((500001 + i, ⟨(us[i].cs.map dCR).set k (dCR zx), 8, ec, false⟩) :: (64, b64) :: wA us eu ec eg L J b4) := by
 refine ⟨⟨by decide, ⟨false, ?_⟩, fun y hy => ?_, fun y hy => ?_⟩, ?_⟩
 ·rw [Qo, if_neg (by omega), Qo, if_neg (by decide), Qfv, Qld]
 ·obtain ⟨j, hj, rfl⟩ := List.getElem_of_mem hy
  have hK' := Qeh (i := i) (k := k) (z := zx) h.keys
  have hj' := hj
  rw [Zw] at hj'
  refine ⟨by rw [hK' j hj]; omega, ?_⟩
  rw [hK' j hj]
  by_cases e : i = j
  ·subst e
   refine ⟨false, ?_⟩
   rw [QA, QaT hj', if_pos rfl, QeQ, List.map_set]
  ·refine ⟨true, ?_⟩
   rw [Qo, if_neg (by omega), Qo, if_neg (by omega), Qdx h.keys hj', QaT hj', if_neg e]
 ·obtain ⟨j, hj, rfl⟩ := List.getElem_of_mem hy
  have hj' := hj
  rw [Zw] at hj'
  rw [QaT hj']
  have hfam := h.fam us[j] (List.getElem_mem _)
  split
  ·refine ⟨by simpa [QeQ] using hfam.1, fun z hz => ?_⟩
   rcases QeF hz with rfl | hz
   ·exact hv
   ·exact hfam.2 z hz
  ·exact hfam
 ·refine ((Qar h.keys hb4).pr h64).cons fun j hj => ?_
  have := Qka (e := 8) (t := ec) (k := k) (row := dCR zx) (fun z hz => (h.pure hi z hz).1) (fun d hd j hj => by
   simp only [dCR, List.mem_cons, List.not_mem_nil, or_false] at hd
   rcases hd with rfl | rfl | rfl | rfl | rfl | rfl | rfl | rfl
   ·cases hj
   ·cases hj
   ·cases hj
   ·cases hj
   ·cases hj
   ·rw [hrow.1] at hj; cases hj
   ·rw [hrow.2.1] at hj; simpa using hj
   ·rw [hrow.2.2] at hj; cases hj) j hj
  subst this; exact Q4
theorem Prog.start {us : List UR} (h : UnitsIn us) (h2 : 2 <= us.length) (h11 : us.length <= 11) : Prog us.length us 0 0 := by
 refine ⟨h.keys, ⟨rfl, h2, h11⟩, fun u hu => (h.fresh u hu).1, fun j hj m hm hd => by omega, fun j hj m hm _ => ?_⟩
 obtain ⟨v, sh, e, hv⟩ := (h.fresh _ (List.getElem_mem hj)).2 _ (List.getElem_mem hm)
 exact ⟨v, sh, e, hv⟩
theorem Qeu {n : Nat} {m : Int} {v : Vr} {sh : Int} {ns : List (List WantT)} (hv : QgI v) (h : Qfx n m ns) (hm : m <= 3) : XR n ⟨v, sh, ns, []⟩ :=
 ⟨hv, by show ns.length <= 10; have := h.1; omega, fun r hr => ⟨(h.2 r hr).1, fun x hx => ((h.2 r hr).2 x hx).w⟩, Nat.zero_le _, fun x hx => by cases hx⟩
theorem QiA {n i : Nat} {m : Int} {v : Vr} {sh : Int} {ns : List (List WantT)} (hv : QgI v) (h : Qfx n m ns) (hm : m <= 3) (h1 : 1 <= i) (hi : i < n) : XR n ⟨v, sh, [⟨(i : Int) - 1, Xh v.a v.b v.c v.p v.q⟩] :: ns, []⟩ := by
 refine ⟨hv, by show (_ :: ns).length <= 10; have := h.1; simp only [List.length_cons]; omega, fun r hr => ?_, Nat.zero_le _, fun x hx => by cases hx⟩
 rcases List.mem_cons.1 hr with rfl | hr
 ·refine ⟨by simp, fun x hx => ?_⟩
  simp only [List.mem_singleton] at hx; subst hx
  have := Qcz (a := v.a) (b := v.b) (c := v.c) (q := v.q) hv.1
  exact ⟨by show 0 <= (i : Int) - 1; omega, by show (i : Int) - 1 < n; omega, this.1.up (by omega), this.2.up (by omega)⟩
 ·exact ⟨(h.2 r hr).1, fun x hx => ((h.2 r hr).2 x hx).w⟩
theorem Qiz {n : Nat} {v : Vr} {sh : Int} {ns : List (List WantT)} (h : XR n ⟨v, sh, ns, []⟩) {x : WantT} (hx : WantIn n x) : XR n ⟨v, sh, ns, [x]⟩ := ⟨h.v, h.nl, h.nr, by simp, by intro y hy; simp only [List.mem_singleton] at hy; subst hy; exact hx.w⟩
theorem Qjo {us : List UR} {i k : Nat} {z : CR} (hi : i < us.length) (hk : k < us[i].cs.length) {us2 : List UR} (e : QcJ us i k z = us2) (hi2 : i < us2.length) : k < us2[i].cs.length := by
 rw [<- QaM hi2, <- e, QaD, QaM hi]; exact hk
theorem Qpk {l : List (List WantT)} : ∀ r ∈ l.map (fun r => [Q9 r]), r.length = 1 := fun r hr => by obtain ⟨x, _, rfl⟩ := List.mem_map.1 hr; rfl
end M25
namespace Go.Proofs
open Go Go.Abs M3 M25
set_option linter.unusedVariables false
set_option linter.unusedSimpArgs false
theorem Qp1 {kg : Nat} {L : List Int} {I most : Int} {eg eu ec : Nat} (heu : eu = 48) (hec : ec = 70) (hL : ∀ x ∈ L, I64 x) (hm0 : 1 <= most) (hm1 : most <= 5) :
  ∃ us I2, (UnitsIn us /\ 2 <= us.length /\ us.length <= 11) /\ ∀ (st : St) (args : List Opd), ZY st args = some [.ref kg 0 0, .int .i64 most] -> lk st.H kg = some (gB L I eg) -> (∀ j, 500000 <= j -> lk st.H j = none) -> Qbh Tryz.prog 33 args st [(kg, gB L I eg)] ((500000, ⟨us.map dUR, 3, eu, false⟩) :: fbx ec us) [(kg, gB L I2 eg)] (.osl 500000 us.length) := by
 obtain ⟨d, H2, ⟨us, I2, hus, rfl, rfl⟩, hok⟩ := QcT (kg := upN kg) (I := I) (eg := eg) heu hec (by unfold upN; omega) hL hm0 hm1
 refine ⟨us, I2, hus, fun st args ha hg hs => ⟨_, ha, fun k b h => ?_, fun k b h j hj => ?_, fun x hx j hj => ?_, fun k b h => ?_, fun k b h => ?_, fun k hk => ?_, hok⟩⟩
 ·obtain ⟨rfl, rfl⟩ := Xy h; exact hg
 ·obtain ⟨rfl, rfl⟩ := Xy h; simp [Box.ids, gB] at hj
 ·simp only [List.mem_cons, List.not_mem_nil, or_false] at hx
  rcases hx with rfl | rfl
  ·simp [D.ids, D.sid] at hj; subst hj; exact Q4
  ·simp [D.ids, D.sid] at hj
 ·obtain ⟨rfl, rfl⟩ := Xy h
  exact ⟨Q4, fun j hj => by simp [Box.ids, gB] at hj⟩
 ·have hK := hus.1.keys
  rw [Qo] at h
  split at h
  ·rename_i e; cases h; subst e
   refine ⟨by decide, hs _ (Nat.le_refl _), fun j hj => ?_⟩
   obtain ⟨u, hu, rfl⟩ := QbI hj
   exact Q3 (QdN hK hu)
  ·obtain ⟨u, hu, rfl, rfl⟩ := Qg0 h
   have := Qbs hK hu
   exact ⟨by omega, hs _ (by omega), fun j hj => by simp [Box.ids] at hj⟩
 ·simp [D.ids, D.sid] at hk; subst hk; exact Q4
theorem Qj6 {H : List (Nat × Box)} {kg ku : Nat} {L : List Int} {I most : Int} {eg eu ec : Nat} {us : List UR} (hg : lk H kg = some (gB L I eg)) (hU : Fam H kg ku eu ec us) (hC : Closed H) (hL : ∀ x ∈ L, I64 x) (h2 : 2 <= us.length) (hn : us.length <= 48) (hm0 : 0 <= most) (hm1 : most <= 10) :
  ∃ ns I2, Qfx us.length most ns /\ ∀ (st : St) (args : List Opd), ZY st args = some [.ref kg 0 0, .osl ku us.length, .int .i64 most] -> (∀ j x, lk H j = some x -> lk st.H j = some x) -> Qbh Tryz.prog 34 args st H [] [(kg, gB L I2 eg)] (Q1 ns) := by
 obtain ⟨d, H2, ⟨ns, I2, hx, rfl, rfl⟩, hok⟩ := QcS (H := upH H) (kg := upN kg) (ku := upN ku) (L := L) (I := I) (most := most) (eg := eg) (eu := eu) (ec := ec) (us := us.map UR.ren) (by unfold upN; omega) (by rw [QaH, hg]; rfl) hU.up Qkj (QeS hC) hL (by simpa using h2) (by simpa using hn) hm0 hm1
 obtain ⟨pu, hu⟩ := hU.u
 rw [List.length_map] at hx hok
 refine ⟨ns, I2, hx, fun st args ha hF => Qkv (b' := gB L I2 eg) (ds' := [.ref (upN kg) 0 0, .osl (upN ku) us.length, .int .i64 most]) ha hF hC (fun x hx j hj => ?_) (Zt hg) rfl rfl rfl rfl hok⟩
 simp only [List.mem_cons, List.not_mem_nil, or_false] at hx
 rcases hx with rfl | rfl | rfl
 ·simp [D.ids, D.sid] at hj; subst hj; exact Zt hg
 ·simp [D.ids, D.sid] at hj; subst hj; exact Zt hu
 ·simp [D.ids, D.sid] at hj
theorem QcR {ws : List Int} (hL : ∀ x ∈ ws, I64 x) {most : Int} (hm0 : 1 <= most) (hm1 : most <= 5) : ∃ d, (∃ w, QnW w /\ d = ZI w) /\ Ok Tryz.prog 10 [Zl ws, .int .i64 most] d := by
 refine Ok.ofX (R := fun d => (∃ w, QnW w /\ d = ZI w)) ZP Tryz.func10 Qr7 (Nat.le_of_ble_eq_true rfl) ?_
 show TX _ _ tf10.body _ _
 obtain ⟨us0, J0, ⟨hU, hu2, hu11⟩, hc0⟩ := Qp1 (kg := 12) (L := ws) (I := 0) (most := most) (eg := 62) rfl rfl hL hm0 hm1
 have hU0 := Prog.start hU hu2 hu11
 obtain ⟨z0, rest0, hfirst⟩ := hU.first
 have hi0 : 0 < us0.length := by omega
 have hcl0 : us0[0].cs = [z0] := by subst hfirst; rfl
 have hk0 : 0 < us0[0].cs.length := by rw [hcl0]; exact Nat.zero_lt_one
 obtain ⟨va, sha, hza, hva⟩ := hU0.fresh 0 hi0 0 hk0 (by omega)
 obtain ⟨ns0, J00, hns0, hc00⟩ := Qj6 (H := wA (us0) 48 70 62 ws (J0) ⟨[[.fsl []]], 1, 26, true⟩) (most := 3) Qe2 (Qlj hU.keys hU0.fam) (Qar hU.keys rfl) hL hu2 (by omega) (by decide) (by decide)
 refine Q8 fun K hK => ZH rfl ?_
 refine hK _ _ (QQ (kp3 rfl rfl rfl) ?_)
 refine Q8 fun K hK => Qa rfl (QZ rfl rfl (Zr rfl rfl rfl (Qa rfl ?_)))
 refine hK _ _ (QQ (kp3 rfl rfl rfl) ?_)
 refine Q8 fun K hK => Qa rfl (Qa rfl (Yl (hc0 _ _ rfl rfl (by intro j hj; rw [Qo, if_neg (by omega), Qo, if_neg (by omega)]; rfl)) (Qa rfl ?_)))
 refine hK _ _ (QQ (kp3 rfl rfl rfl) ?_)
 refine Ql5 (Qbt rfl (Qki hU.keys)) (Q8 fun K hK => Qa rfl (XL (ds0 := [7, 6, 2, 1, 0]) rfl rfl rfl (by simp) (by omega) (by omega) rfl (by first | rfl | ((try simp only [Q1, D.ids, D.sid]); simp only [Dr.ok, Zm, Zn, Zo, List.all_append, List.all_cons, List.all_nil, Bool.and_true, Bool.true_and]; (try rw [ZB (by rfl)]); simp [D.ids, D.sid]; done) | ((try simp only [Q1, D.ids, D.sid]); simp only [Dr.ok, Zm, Zn, Zo, List.all_append, List.all_cons, List.all_nil, Bool.and_true, Bool.true_and]; (try rw [ZB (by rfl)]); simp [D.ids, D.sid]; omega)) rfl (Qh rfl rfl (QR (ds0 := [2, 1, 0]) rfl (Ya rfl (QoR (i := 0) hU.keys hi0)) rfl (by first | rfl | ((try simp only [Q1, D.ids, D.sid]); simp only [Dr.ok, Zm, Zn, Zo, List.all_append, List.all_cons, List.all_nil, Bool.and_true, Bool.true_and]; (try rw [ZB (by rfl)]); simp [D.ids, D.sid]; done) | ((try simp only [Q1, D.ids, D.sid]); simp only [Dr.ok, Zm, Zn, Zo, List.all_append, List.all_cons, List.all_nil, Bool.and_true, Bool.true_and]; (try rw [ZB (by rfl)]); simp [D.ids, D.sid]; omega)) rfl (Qa rfl (Qa rfl (QjC (ds0 := [0]) (hc00 _ _ rfl (fun _ _ h => h)) (fun j hj => QdV hj) (by first | rfl | ((try simp only [Q1, D.ids, D.sid]); simp only [Dr.ok, Zm, Zn, Zo, List.all_append, List.all_cons, List.all_nil, Bool.and_true, Bool.true_and]; (try rw [ZB (by rfl)]); simp [D.ids, D.sid]; done) | ((try simp only [Q1, D.ids, D.sid]); simp only [Dr.ok, Zm, Zn, Zo, List.all_append, List.all_cons, List.all_nil, Bool.and_true, Bool.true_and]; (try rw [ZB (by rfl)]); simp [D.ids, D.sid]; omega)) rfl (XL (ds0 := [1, 0]) rfl rfl (Qp (by omega) (Qdx (j := 0) hU.keys hi0)) (by simp) (by omega) (by omega) rfl (by first | rfl | ((try simp only [Q1, D.ids, D.sid]); simp only [Dr.ok, Zm, Zn, Zo, List.all_append, List.all_cons, List.all_nil, Bool.and_true, Bool.true_and]; (try rw [ZB (by rfl)]); simp [D.ids, D.sid]; done) | ((try simp only [Q1, D.ids, D.sid]); simp only [Dr.ok, Zm, Zn, Zo, List.all_append, List.all_cons, List.all_nil, Bool.and_true, Bool.true_and]; (try rw [ZB (by rfl)]); simp [D.ids, D.sid]; omega)) rfl (Qh rfl (Zt (Qp (by omega) (Qdx (j := 0) hU.keys hi0))) (Y4 (ds0 := []) rfl (Qp (by omega) (Qdx (j := 0) hU.keys hi0)) (QpJ (k := 0) hk0 hza) rfl rfl rfl rfl rfl (by first | rfl | ((try simp only [Q1, D.ids, D.sid]); simp only [Dr.ok, Zm, Zn, Zo, List.all_append, List.all_cons, List.all_nil, Bool.and_true, Bool.true_and]; (try rw [ZB (by rfl)]); simp [D.ids, D.sid]; done) | ((try simp only [Q1, D.ids, D.sid]); simp only [Dr.ok, Zm, Zn, Zo, List.all_append, List.all_cons, List.all_nil, Bool.and_true, Bool.true_and]; (try rw [ZB (by rfl)]); simp [D.ids, D.sid]; omega)) rfl ?_))))))))))
 refine hK _ _ (QQ (kp3 rfl rfl rfl) ?_)
 refine Xu ?_ -- 0
 refine Q8 fun K hK => Qa rfl ?_
 refine hK _ _ (QQ (kp4 rfl rfl rfl rfl) ?_)
 refine Yt ?_
 have hPs : Prog us0.length (QcJ us0 0 0 (Qij (CandT.mk va sha ns0 []))) 1 0 := (hU0.put hi0 hk0 ⟨_, rfl, Qeu hva hns0 (by decide)⟩).next (by rw [Zw]; exact hi0) (by rw [<- QaM (by rw [Zw]; exact hi0), QaD, QaM hi0, hcl0]; exact Nat.le_refl 1)
 refine Qdz (ι := List UR × Int × Nat) (fun ⟨usA, JA, i⟩ => ⟨[(4, .ref 4 0 0), (5, .ref 12 0 0), (6, .osl 500000 usA.length), (7, .int .i64 i)], wA (usA) 48 70 62 ws (JA) ⟨[[.fsl []]], 1, 26, true⟩⟩) (fun ⟨usA, JA, i⟩ => Prog us0.length usA i 0 /\ 1 <= i /\ i <= us0.length) (fun ⟨usA, JA, i⟩ => us0.length - i) (QcJ us0 0 0 (Qij (CandT.mk va sha ns0 [])), J00, 1) ?_ ?_ ?_
 ·exact Qf2 (l := [4, 5, 6, 7]) (i := 0) (k := 0) (row := [.int .i64 va.a, .int .i64 va.b, .int .i64 va.c, .str va.p, .str va.q, .int .i64 sha, Q1 ns0, .fsl []]) (p := true) 13 (Qij (CandT.mk va sha ns0 [])) (kp4 rfl rfl rfl rfl) (by rw [Zw] <;> rfl) hU.keys hi0 hk0 QA (fun _ => rfl) rfl (fun z hz => (hU0.pure hi0 z hz).1) ⟨rfl, rfl, rfl⟩ (fun j hj hne => (Qp (by omega) (Qp (by omega) (Qdx hU.keys hj)))) (by repeat (first | exact QA | exact Qfv | exact Qe2 | exact Qgy | refine Qp (by omega) ?_)) (by repeat (first | exact QA | exact Qfv | exact Qe2 | exact Qgy | refine Qp (by omega) ?_)) (by repeat (first | exact QA | exact Qfv | exact Qe2 | exact Qgy | refine Qp (by omega) ?_)) rfl (by decide) (by intro j hj; repeat (first | exact Z3 hU.keys (by omega) (by omega) (by omega) (.inr (by omega)) | refine Zv (by omega) ?_)) (by omega) (by intro p hp j hj; simp only [List.mem_cons, List.not_mem_nil, or_false] at hp; rcases hp with rfl | rfl | rfl | rfl <;> first | (simp [D.ids, D.sid] at hj; done) | (simp [D.ids, D.sid] at hj; subst hj; first | exact .inl rfl | exact .inr (.inl rfl) | exact .inr (.inr (.inl rfl)) | exact .inr (.inr (.inr ⟨us0[0], List.getElem_mem hi0, rfl⟩))))
 ·exact ⟨hPs, Nat.le_refl _, by omega⟩
 intro ⟨usA, JA, i⟩ hPA
 try dsimp only at hPA
 have hlA := hPA.1.len.1
 try dsimp only
 refine Xu ?_ -- 1
 refine Q8 fun K hK => Qa rfl (Qa rfl ?_)
 first | refine QO rfl QP ?_ | refine QO rfl rfl ?_
 refine ZW rfl rfl ?_
 refine hK _ _ (QQ (kp5 rfl rfl rfl rfl rfl) ?_)
 refine YK rfl (fun h1 => ?_) (fun h1 => ?_)
 ·try rw [h1]
  try simp only [qa, qb, qc, qd, qe, List.length_map] at h1
  refine Y1 (Q5 (kp4 rfl rfl rfl rfl) ?_)
  refine Xu ?_ -- 2
  refine Yt (Q8 fun K hK => Qa rfl ?_)
  refine hK _ _ (QQ (kp5 rfl rfl rfl rfl rfl) ?_)
  refine Yt ?_
  refine Qdz (ι := List UR × Int × Nat) (fun ⟨us, J, k⟩ => ⟨[(4, .ref 4 0 0), (5, .ref 12 0 0), (6, .osl 500000 us.length), (7, .int .i64 i), (8, .int .i64 k)], wA (us) 48 70 62 ws (J) ⟨[[.fsl []]], 1, 26, true⟩⟩) (fun ⟨us, J, k⟩ => Prog us0.length us i k) (fun ⟨us, J, k⟩ => QjP us i - k) (usA, JA, 0) ?_ ?_ ?_
  ·exact Zd (l := [4, 5, 6, 7, 8]) (kp5 rfl rfl rfl rfl rfl)
  ·exact hPA.1
  intro ⟨us, J, k⟩ hP
  try dsimp only at hP
  have hl := hP.len.1
  have hi : i < us.length := by omega
  have h1i := hPA.2.1
  have hcl4 := hP.cl us[i] (List.getElem_mem hi)
  try dsimp only
  refine Xu ?_ -- 3
  refine Q8 fun K hK => Qa rfl (Qa rfl (Qa rfl (Xk rfl rfl rfl (by simp) (by omega) (by omega) rfl (Qh rfl rfl (QC rfl (Ya rfl (QoR hP.keys hi)) rfl ?_)))))
  first | refine QO rfl QP ?_ | refine QO rfl rfl ?_
  refine ZW rfl rfl ?_
  refine hK _ _ (QQ (kp6 rfl rfl rfl rfl rfl rfl) ?_)
  refine YK rfl (fun h2 => ?_) (fun h2 => ?_)
  ·try rw [h2]
   try simp only [qa, qb, qc, qd, qe, List.length_map] at h2
   try (have hk : k < us[i].cs.length := (by omega); obtain ⟨v, sh, hz, hv⟩ := hP.fresh i hi k hk (by omega))
   refine Y1 (Q5 (kp5 rfl rfl rfl rfl rfl) ?_)
   refine Xu ?_ -- 4
   refine Yt (Q8 fun K hK => Qa rfl (Qa rfl (Xk rfl rfl rfl (by simp) (by omega) (by omega) rfl (Qh rfl rfl (QC rfl (Ya rfl (QoR hP.keys hi)) rfl (Qa rfl (Xk rfl rfl (Qdx hP.keys hi) (by simp) (by omega) (by omega) rfl (Qa rfl ?_))))))))
   refine hK _ _ (QQ (kp6 rfl rfl rfl rfl rfl rfl) ?_)
   refine Xu ?_ -- 5
   refine Q8 fun K hK => Qa rfl (Qa rfl (Xk rfl rfl rfl (by simp) (by omega) (by omega) rfl (Qh rfl rfl (QC rfl (Ya rfl (QoR hP.keys hi)) rfl (QnU rfl rfl ?_)))))
   refine hK _ _ (QQ (kp7 rfl rfl rfl rfl rfl rfl rfl) ?_)
   refine YK rfl (fun h3 => ?_) (fun h3 => ?_)
   ·try rw [h3]
    try simp only [qa, qb, qc, qd, qe, List.length_map] at h3
    refine ZQ fun K hK => Qa rfl (Qa rfl (Qas rfl rfl (by first | exact Qq (by omega) (by omega) | rfl) (Qa rfl (Yf rfl rfl (Qh rfl (Zt (Qdx hP.keys hi)) (QG (cs := [_, _, _, _, _]) rfl (Ya (Qdx hP.keys hi) (QpJ hk hz)) rfl rfl (QH (XX hv.1 hv.2) rfl rfl (.inl rfl) (QZ rfl rfl ?_))))))))
    refine QE rfl (by repeat (first | exact Z3 hU.keys (by omega) (by omega) (by omega) (.inl (by omega)) | exact Z3 hP.keys (by omega) (by omega) (by omega) (.inl (by omega)) | exact Z3 hP2.keys (by omega) (by omega) (by omega) (.inl (by omega)) | refine Zv (by omega) ?_)) ?_
    refine QE rfl (by repeat (first | exact Z3 hU.keys (by omega) (by omega) (by omega) (.inl (by omega)) | exact Z3 hP.keys (by omega) (by omega) (by omega) (.inl (by omega)) | exact Z3 hP2.keys (by omega) (by omega) (by omega) (.inl (by omega)) | refine Zv (by omega) ?_)) ?_
    refine Yf rfl rfl (Qh rfl (Zt (Qp (by omega) (Qp (by omega) (Qdx hP.keys hi)))) (Q7 rfl (Qp (by omega) (Qp (by omega) (Qdx hP.keys hi))) (QpJ hk hz) rfl rfl rfl rfl rfl (hK _ ?_)))
    refine Q5 (kp6 rfl rfl rfl rfl rfl rfl) ?_
    first | (refine Ql5 (QmE (l := [4, 5, 6, 7, 8, 9]) (fr' := [(4, .ref 4 0 0), (5, .ref 12 0 0), (6, .osl 500000 us.length), (7, .int .i64 i), (8, .int .i64 k), (9, .ref (500001 + i) k 0)]) (x := (WantT.mk ((i : Int) - 1) (Xh v.a v.b v.c v.p v.q))) (kp6 rfl rfl rfl rfl rfl rfl) rfl hP.keys hi rfl (Qka (fun z hz => (hP.pure hi z hz).1) (by intro d hd j hj; simp [dCR, setRow, zr] at hd; rcases hd with rfl | rfl | rfl | rfl | rfl | rfl | rfl | rfl <;> simp [D.sid] at hj <;> exact hj)) (by intro p hp j hj; simp only [List.mem_cons, List.not_mem_nil, or_false] at hp; rcases hp with rfl | rfl | rfl | rfl | rfl | rfl <;> first | (simp [D.ids, D.sid] at hj; done) | (simp [D.ids, D.sid] at hj; subst hj; first | exact .inl rfl | exact .inr (.inl rfl) | exact .inr (.inr (.inl rfl)) | exact .inr (.inr (.inr ⟨us[i], List.getElem_mem hi, (hP.keys i hi).symm⟩))))) ?_) | skip
    refine Q8 fun K hK => Qa rfl (Qa rfl (Yf rfl rfl (Qh rfl Q4 (QR (ds0 := [3, 0]) rfl (Ya QA (Qpn hk)) rfl (by first | rfl | ((try simp only [Q1, D.ids, D.sid]); simp only [Dr.ok, Zm, Zn, Zo, List.all_append, List.all_cons, List.all_nil, Bool.and_true, Bool.true_and]; (try rw [ZB (by rfl)]); simp [D.ids, D.sid]; done) | ((try simp only [Q1, D.ids, D.sid]); simp only [Dr.ok, Zm, Zn, Zo, List.all_append, List.all_cons, List.all_nil, Bool.and_true, Bool.true_and]; (try rw [ZB (by rfl)]); simp [D.ids, D.sid]; omega)) rfl (Qa rfl (Qa rfl ?_))))))
    have hfx := Qr4 (eu := 48) (ec := 70) (eg := 62) (L := ws) (J := J) (b4 := ⟨[[.fsl []]], 1, 26, true⟩) (b64 := ⟨[[Q9 [(WantT.mk ((i : Int) - 1) (Xh v.a v.b v.c v.p v.q))]]], 1, 68, true⟩) (zx := (CR.mk v (.int .i64 sh) (.osl 64 1) (.fsl []))) hP hi hk hv ⟨rfl, rfl, rfl⟩ rfl rfl
    obtain ⟨ns, J1, hns, hc1⟩ := Qj6 (H := (500001 + i, ⟨(us[i].cs.map dCR).set k (dCR (CR.mk v (.int .i64 sh) (.osl 64 1) (.fsl []))), 8, 70, false⟩) :: (64, ⟨[[Q9 [(WantT.mk ((i : Int) - 1) (Xh v.a v.b v.c v.p v.q))]]], 1, 68, true⟩) :: wA (us) 48 70 62 ws (J) ⟨[[.fsl []]], 1, 26, true⟩) (most := 2) (Qp (by omega) (Qp (by omega) Qe2)) hfx.1 hfx.2 hL (by first | omega | (rw [Zw]; omega)) (by first | omega | (rw [Zw]; omega)) (by decide) (by decide)
    rw [Zw] at hns
    refine QjC (ds0 := [3, 0]) (hc1 _ _ (by rw [Zw]; rfl) (fun _ _ h => h)) (fun j hj => QdV hj) (by first | rfl | ((try simp only [Q1, D.ids, D.sid]); simp only [Dr.ok, Zm, Zn, Zo, List.all_append, List.all_cons, List.all_nil, Bool.and_true, Bool.true_and]; (try rw [ZB (by rfl)]); simp [D.ids, D.sid]; done) | ((try simp only [Q1, D.ids, D.sid]); simp only [Dr.ok, Zm, Zn, Zo, List.all_append, List.all_cons, List.all_nil, Bool.and_true, Bool.true_and]; (try rw [ZB (by rfl)]); simp [D.ids, D.sid]; omega)) rfl ?_
    refine Qbd (ds0 := [0]) rfl rfl (by simp [D.ids, D.sid, Q1]) ⟨rfl, Qpk, rfl⟩ (by repeat (first | exact Z3 hU.keys (by omega) (by omega) (by omega) (.inl (by omega)) | exact Z3 hP.keys (by omega) (by omega) (by omega) (.inl (by omega)) | exact Z3 hP2.keys (by omega) (by omega) (by omega) (.inl (by omega)) | refine Zv (by omega) ?_)) (Qp (by omega) (Qp (by omega) QA)) rfl rfl rfl (by have := hns.1; simp; omega) (by have := hns.1; simp; omega) (by first | rfl | ((try simp only [Q1, D.ids, D.sid]); simp only [Dr.ok, Zm, Zn, Zo, List.all_append, List.all_cons, List.all_nil, Bool.and_true, Bool.true_and]; (try rw [ZB (by rfl)]); simp [D.ids, D.sid]; done) | ((try simp only [Q1, D.ids, D.sid]); simp only [Dr.ok, Zm, Zn, Zo, List.all_append, List.all_cons, List.all_nil, Bool.and_true, Bool.true_and]; (try rw [ZB (by rfl)]); simp [D.ids, D.sid]; omega)) rfl ?_
    refine Yf rfl rfl (Qh rfl (Zt (Qp (by omega) (Qp (by omega) (Qp (by omega) QA)))) (Y4 (ds0 := []) rfl (Qp (by omega) (Qp (by omega) (Qp (by omega) QA))) (Qpn hk) rfl rfl rfl rfl rfl (by first | rfl | ((try simp only [Q1, D.ids, D.sid]); simp only [Dr.ok, Zm, Zn, Zo, List.all_append, List.all_cons, List.all_nil, Bool.and_true, Bool.true_and]; (try rw [ZB (by rfl)]); simp [D.ids, D.sid]; done) | ((try simp only [Q1, D.ids, D.sid]); simp only [Dr.ok, Zm, Zn, Zo, List.all_append, List.all_cons, List.all_nil, Bool.and_true, Bool.true_and]; (try rw [ZB (by rfl)]); simp [D.ids, D.sid]; omega)) rfl ?_))
    refine hK _ _ (QQ (kp6 rfl rfl rfl rfl rfl rfl) ?_)
    first | (refine Ql5 (Qf2 (l := [4, 5, 6, 7, 8, 9]) (eu := 48) (ec := 70) (eg := 62) (L := ws) (J := J1) (b4 := ⟨[[.fsl []]], 1, 26, true⟩) (fr' := [(4, .ref 4 0 0), (5, .ref 12 0 0), (6, .osl 500000 us.length), (7, .int .i64 i), (8, .int .i64 k), (9, .ref (500001 + i) k 0)]) (row := [.int .i64 v.a, .int .i64 v.b, .int .i64 v.c, .str v.p, .str v.q, .int .i64 sh, .osl 75 (1 + (ns.map (fun r => [Q9 r])).length), .fsl []]) (p := false) 75 (Qij (CandT.mk v sh ([(WantT.mk ((i : Int) - 1) (Xh v.a v.b v.c v.p v.q))] :: ns) [])) (kp6 rfl rfl rfl rfl rfl rfl) rfl hP.keys hi hk QiV (fun h => by cases h) (Qfj (Qp (by omega) QA) (by first | (simp; done) | (simp; omega))) (fun z hz => (hP.pure hi z hz).1) ⟨rfl, rfl, rfl⟩ (fun j hj hne => (Qp (by omega) (Qp (by omega) (Qp (by omega) (Qp (by omega) (Qp (by omega) (Qp (by omega) (Qdx hP.keys hj)))))))) (by repeat (first | exact QA | exact Qfv | exact Qe2 | exact Qgy | refine Qp (by omega) ?_)) (by repeat (first | exact QA | exact Qfv | exact Qe2 | exact Qgy | refine Qp (by omega) ?_)) (by repeat (first | exact QA | exact Qfv | exact Qe2 | exact Qgy | refine Qp (by omega) ?_)) rfl (by decide) (by intro j hj; repeat (first | exact Z3 hP.keys (by omega) (by omega) (by omega) (.inr (by omega)) | refine Zv (by omega) ?_)) (by omega) (by intro p hp j hj; simp only [List.mem_cons, List.not_mem_nil, or_false] at hp; rcases hp with rfl | rfl | rfl | rfl | rfl | rfl <;> first | (simp [D.ids, D.sid] at hj; done) | (simp [D.ids, D.sid] at hj; subst hj; first | exact .inl rfl | exact .inr (.inl rfl) | exact .inr (.inr (.inl rfl)) | exact .inr (.inr (.inr ⟨us[i], List.getElem_mem hi, (hP.keys i hi).symm⟩))))) ?_; have hc2 : XR us0.length (CandT.mk v sh ([(WantT.mk ((i : Int) - 1) (Xh v.a v.b v.c v.p v.q))] :: ns) []) := (by rw [<- hl]; exact QiA hv hns (by decide) h1i hi); generalize hns2 : ([(WantT.mk ((i : Int) - 1) (Xh v.a v.b v.c v.p v.q))] :: ns) = ns2 at hc2 ⊢) | (refine Ql5 (Qf2 (l := [4, 5, 6, 7, 8, 9]) (eu := 48) (ec := 70) (eg := 62) (L := ws) (J := J1) (b4 := ⟨[[.fsl []]], 1, 26, true⟩) (fr' := [(4, .ref 4 0 0), (5, .ref 12 0 0), (6, .osl 500000 us.length), (7, .int .i64 i), (8, .int .i64 k), (9, .ref (500001 + i) k 0)]) (row := [.int .i64 v.a, .int .i64 v.b, .int .i64 v.c, .str v.p, .str v.q, .int .i64 sh, .osl 75 (0 + (ns.map (fun r => [Q9 r])).length), .fsl []]) (p := false) 75 (Qij (CandT.mk v sh ns [])) (kp6 rfl rfl rfl rfl rfl rfl) rfl hP.keys hi hk QA (fun h => by cases h) (Qfj (Qp (by omega) QA) (by first | (simp; done) | (simp; omega))) (fun z hz => (hP.pure hi z hz).1) ⟨rfl, rfl, rfl⟩ (fun j hj hne => (Qp (by omega) (Qp (by omega) (Qp (by omega) (Qdx hP.keys hj))))) (by repeat (first | exact QA | exact Qfv | exact Qe2 | exact Qgy | refine Qp (by omega) ?_)) (by repeat (first | exact QA | exact Qfv | exact Qe2 | exact Qgy | refine Qp (by omega) ?_)) (by repeat (first | exact QA | exact Qfv | exact Qe2 | exact Qgy | refine Qp (by omega) ?_)) rfl (by decide) (by intro j hj; repeat (first | exact Z3 hP.keys (by omega) (by omega) (by omega) (.inr (by omega)) | refine Zv (by omega) ?_)) (by omega) (by intro p hp j hj; simp only [List.mem_cons, List.not_mem_nil, or_false] at hp; rcases hp with rfl | rfl | rfl | rfl | rfl | rfl <;> first | (simp [D.ids, D.sid] at hj; done) | (simp [D.ids, D.sid] at hj; subst hj; first | exact .inl rfl | exact .inr (.inl rfl) | exact .inr (.inr (.inl rfl)) | exact .inr (.inr (.inr ⟨us[i], List.getElem_mem hi, (hP.keys i hi).symm⟩))))) ?_; have hc2 : XR us0.length (CandT.mk v sh ns []) := (by rw [<- hl]; exact Qeu hv hns (by decide)); generalize hns2 : ns = ns2 at hc2 ⊢)
    generalize hus2 : QcJ us i k (Qij (CandT.mk v sh ns2 [])) = us2
    have hP2 : Prog us0.length us2 i (k + 1) := hus2 ▸ hP.put hi hk ⟨_, rfl, hc2⟩
    have hl2 : us2.length = us.length := by rw [<- hus2, Zw]
    have hi2 : i < us2.length := by omega
    have hk2 : k < us2[i].cs.length := Qjo hi hk hus2 hi2
    have hz2 : us2[i].cs[k] = Qij (CandT.mk v sh ns2 []) := Qjn hi hk hus2.symm hi2 hk2
    refine Q8 fun K hK => Qa rfl (Yl (Qcq (I := J1) rfl Qe2 hL (by omega)) (ZL rfl rfl ?_))
    refine hK _ _ (QQ (kp7 rfl rfl rfl rfl rfl rfl rfl) ?_)
    refine YK rfl (fun h4 => ?_) (fun h4 => ?_)
    ·try rw [h4]
     try simp only [qa, qb, qc, qd, qe, List.length_map] at h4
     refine ZQ fun K hK => Qa rfl (Qa rfl (Qa rfl ?_))
     obtain ⟨xb, J3, hxb, hcb⟩ := Qk4 (H := (12, gB ws (nxI J1) 62) :: wA (us2) 48 70 62 ws (J1) ⟨[[.fsl []]], 1, 26, true⟩) QA (Qlj hP2.keys hP2.fam).cons ((Qar hP2.keys rfl).pr rfl) hL (by omega) (by omega)
     refine Yl (hcb _ _ (by rw [hl2]; rfl) (fun _ _ h => h)) ?_
     refine QE rfl (by repeat (first | exact Z3 hU.keys (by omega) (by omega) (by omega) (.inl (by omega)) | exact Z3 hP.keys (by omega) (by omega) (by omega) (.inl (by omega)) | exact Z3 hP2.keys (by omega) (by omega) (by omega) (.inl (by omega)) | refine Zv (by omega) ?_)) ?_
     refine Yf rfl rfl (Qh rfl (Zt (Qp (by omega) (Qp (by omega) (Qp (by omega) (Qdx hP2.keys hi2))))) (Q7 rfl (Qp (by omega) (Qp (by omega) (Qp (by omega) (Qdx hP2.keys hi2)))) (QpJ hk2 hz2) rfl rfl rfl rfl rfl (hK _ ?_)))
     refine Qg (Q5 (kp5 rfl rfl rfl rfl rfl) (ZQ fun K hK => Qa rfl (QY rfl rfl (by first | exact Qq (by omega) (by omega) | rfl) (Qa rfl (hK _ ?_)))))
     refine Qi (QcJ us2 i k (Qij (CandT.mk v sh ns2 [xb])), J3, k + 1) ?_ ?_ ?_
     ·exact Qf2 (l := [4, 5, 6, 7, 8]) (row := [.int .i64 v.a, .int .i64 v.b, .int .i64 v.c, .str v.p, .str v.q, .int .i64 sh, Q1 ns2, .osl 85 1]) (p := false) 85 (Qij (CandT.mk v sh ns2 [xb])) (kp5 rfl rfl rfl rfl rfl) (by rw [Zw, hl2] <;> rfl) hP2.keys hi2 hk2 QA (fun h => by cases h) (Qmq (Qp (by omega) QA) rfl) (fun z hz => (hP2.pure hi2 z hz).1) ⟨rfl, rfl, rfl⟩ (fun j hj hne => (Qp (by omega) (Qp (by omega) (Qp (by omega) (Qp (by omega) (Qdx hP2.keys hj)))))) (by repeat (first | exact QA | exact Qfv | exact Qe2 | exact Qgy | refine Qp (by omega) ?_)) (by repeat (first | exact QA | exact Qfv | exact Qe2 | exact Qgy | refine Qp (by omega) ?_)) (by repeat (first | exact QA | exact Qfv | exact Qe2 | exact Qgy | refine Qp (by omega) ?_)) rfl (by decide) (by intro j hj; repeat (first | exact Z3 hP2.keys (by omega) (by omega) (by omega) (.inr (by omega)) | refine Zv (by omega) ?_)) (by omega) (by intro p hp j hj; simp only [List.mem_cons, List.not_mem_nil, or_false] at hp; rcases hp with rfl | rfl | rfl | rfl | rfl <;> first | (simp [D.ids, D.sid] at hj; done) | (simp [D.ids, D.sid] at hj; subst hj; first | exact .inl rfl | exact .inr (.inl rfl) | exact .inr (.inr (.inl rfl)) | exact .inr (.inr (.inr ⟨us2[i], List.getElem_mem hi2, (hP2.keys i hi2).symm⟩))))
     ·exact hP2.again hi2 hk2 ⟨_, rfl, Qiz hc2 (by have := hxb; rwa [hl2, hl] at this)⟩
     ·show QjP (QcJ us2 i k _) i - (k + 1) < QjP us i - k; rw [QaD, <- hus2, QaD, QaM hi]; omega
    ·try rw [h4]
     try simp only [qa, qb, qc, qd, qe, List.length_map] at h4
     refine Y1 (Qg (Q5 (kp5 rfl rfl rfl rfl rfl) (ZQ fun K hK => Qa rfl (QY rfl rfl (by first | exact Qq (by omega) (by omega) | rfl) (Qa rfl (hK _ ?_))))))
     refine Qi (us2, nxI J1, k + 1) ?_ ?_ ?_
     ·exact le_trans (Zd (l := [4, 5, 6, 7, 8]) (kp5 rfl rfl rfl rfl rfl)) (Qbt (by rw [hl2] <;> rfl) Qq7)
     ·exact hP2
     ·show QjP us2 i - (k + 1) < QjP us i - k; rw [<- hus2, QaD, QaM hi]; omega
   ·try rw [h3]
    try simp only [qa, qb, qc, qd, qe, List.length_map] at h3
    refine Y1 (Q5 (kp6 rfl rfl rfl rfl rfl rfl) ?_)
    first | (refine Ql5 (QmE (l := [4, 5, 6, 7, 8, 9]) (fr' := [(4, .ref 4 0 0), (5, .ref 12 0 0), (6, .osl 500000 us.length), (7, .int .i64 i), (8, .int .i64 k), (9, .ref (500001 + i) k 0)]) (x := (WantT.mk ((i : Int) - 1) (Xh v.a v.b v.c v.p v.q))) (kp6 rfl rfl rfl rfl rfl rfl) rfl hP.keys hi rfl (Qka (fun z hz => (hP.pure hi z hz).1) (by intro d hd j hj; simp [dCR, setRow, zr] at hd; rcases hd with rfl | rfl | rfl | rfl | rfl | rfl | rfl | rfl <;> simp [D.sid] at hj <;> exact hj)) (by intro p hp j hj; simp only [List.mem_cons, List.not_mem_nil, or_false] at hp; rcases hp with rfl | rfl | rfl | rfl | rfl | rfl <;> first | (simp [D.ids, D.sid] at hj; done) | (simp [D.ids, D.sid] at hj; subst hj; first | exact .inl rfl | exact .inr (.inl rfl) | exact .inr (.inr (.inl rfl)) | exact .inr (.inr (.inr ⟨us[i], List.getElem_mem hi, (hP.keys i hi).symm⟩))))) ?_) | skip
    refine Q8 fun K hK => Qa rfl (Qa rfl (Yf rfl rfl (Qh rfl (Zt (Qdx hP.keys hi)) (QR (ds0 := [3, 0]) rfl (Ya (Qdx hP.keys hi) (QpJ hk hz)) rfl (by first | rfl | ((try simp only [Q1, D.ids, D.sid]); simp only [Dr.ok, Zm, Zn, Zo, List.all_append, List.all_cons, List.all_nil, Bool.and_true, Bool.true_and]; (try rw [ZB (by rfl)]); simp [D.ids, D.sid]; done) | ((try simp only [Q1, D.ids, D.sid]); simp only [Dr.ok, Zm, Zn, Zo, List.all_append, List.all_cons, List.all_nil, Bool.and_true, Bool.true_and]; (try rw [ZB (by rfl)]); simp [D.ids, D.sid]; omega)) rfl (Qa rfl (Qa rfl ?_))))))
    obtain ⟨ns, J1, hns, hc1⟩ := Qj6 (H := wA (us) 48 70 62 ws (J) ⟨[[.fsl []]], 1, 26, true⟩) (most := 2) Qe2 (Qlj hP.keys hP.fam) (Qar hP.keys rfl) hL (by first | omega | (rw [Zw]; omega)) (by first | omega | (rw [Zw]; omega)) (by decide) (by decide)
    refine QjC (ds0 := [3, 0]) (hc1 _ _ rfl (fun _ _ h => h)) (fun j hj => QdV hj) (by first | rfl | ((try simp only [Q1, D.ids, D.sid]); simp only [Dr.ok, Zm, Zn, Zo, List.all_append, List.all_cons, List.all_nil, Bool.and_true, Bool.true_and]; (try rw [ZB (by rfl)]); simp [D.ids, D.sid]; done) | ((try simp only [Q1, D.ids, D.sid]); simp only [Dr.ok, Zm, Zn, Zo, List.all_append, List.all_cons, List.all_nil, Bool.and_true, Bool.true_and]; (try rw [ZB (by rfl)]); simp [D.ids, D.sid]; omega)) rfl ?_
    refine Qeo (ds0 := [0]) rfl rfl (fun _ h => ⟨Qpk, h⟩) (by repeat (first | exact Z3 hU.keys (by omega) (by omega) (by omega) (.inl (by omega)) | exact Z3 hP.keys (by omega) (by omega) (by omega) (.inl (by omega)) | exact Z3 hP2.keys (by omega) (by omega) (by omega) (.inl (by omega)) | refine Zv (by omega) ?_)) (.inl rfl) (by simp) (by have := hns.1; simp; omega) (by have := hns.1; simp; omega) (by first | rfl | ((try simp only [Q1, D.ids, D.sid]); simp only [Dr.ok, Zm, Zn, Zo, List.all_append, List.all_cons, List.all_nil, Bool.and_true, Bool.true_and]; (try rw [ZB (by rfl)]); simp [D.ids, D.sid]; done) | ((try simp only [Q1, D.ids, D.sid]); simp only [Dr.ok, Zm, Zn, Zo, List.all_append, List.all_cons, List.all_nil, Bool.and_true, Bool.true_and]; (try rw [ZB (by rfl)]); simp [D.ids, D.sid]; omega)) rfl ?_
    refine Yf rfl rfl (Qh rfl (Zt (Qp (by omega) (Qp (by omega) (Qdx hP.keys hi)))) (Y4 (ds0 := []) rfl (Qp (by omega) (Qp (by omega) (Qdx hP.keys hi))) (QpJ hk hz) rfl rfl rfl rfl rfl (by first | rfl | ((try simp only [Q1, D.ids, D.sid]); simp only [Dr.ok, Zm, Zn, Zo, List.all_append, List.all_cons, List.all_nil, Bool.and_true, Bool.true_and]; (try rw [ZB (by rfl)]); simp [D.ids, D.sid]; done) | ((try simp only [Q1, D.ids, D.sid]); simp only [Dr.ok, Zm, Zn, Zo, List.all_append, List.all_cons, List.all_nil, Bool.and_true, Bool.true_and]; (try rw [ZB (by rfl)]); simp [D.ids, D.sid]; omega)) rfl ?_))
    refine hK _ _ (QQ (kp6 rfl rfl rfl rfl rfl rfl) ?_)
    first | (refine Ql5 (Qf2 (l := [4, 5, 6, 7, 8, 9]) (eu := 48) (ec := 70) (eg := 62) (L := ws) (J := J1) (b4 := ⟨[[.fsl []]], 1, 26, true⟩) (fr' := [(4, .ref 4 0 0), (5, .ref 12 0 0), (6, .osl 500000 us.length), (7, .int .i64 i), (8, .int .i64 k), (9, .ref (500001 + i) k 0)]) (row := [.int .i64 v.a, .int .i64 v.b, .int .i64 v.c, .str v.p, .str v.q, .int .i64 sh, .osl 75 (1 + (ns.map (fun r => [Q9 r])).length), .fsl []]) (p := false) 75 (Qij (CandT.mk v sh ([(WantT.mk ((i : Int) - 1) (Xh v.a v.b v.c v.p v.q))] :: ns) [])) (kp6 rfl rfl rfl rfl rfl rfl) rfl hP.keys hi hk QiV (fun h => by cases h) (Qfj (Qp (by omega) QA) (by first | (simp; done) | (simp; omega))) (fun z hz => (hP.pure hi z hz).1) ⟨rfl, rfl, rfl⟩ (fun j hj hne => (Qp (by omega) (Qp (by omega) (Qp (by omega) (Qp (by omega) (Qp (by omega) (Qp (by omega) (Qdx hP.keys hj)))))))) (by repeat (first | exact QA | exact Qfv | exact Qe2 | exact Qgy | refine Qp (by omega) ?_)) (by repeat (first | exact QA | exact Qfv | exact Qe2 | exact Qgy | refine Qp (by omega) ?_)) (by repeat (first | exact QA | exact Qfv | exact Qe2 | exact Qgy | refine Qp (by omega) ?_)) rfl (by decide) (by intro j hj; repeat (first | exact Z3 hP.keys (by omega) (by omega) (by omega) (.inr (by omega)) | refine Zv (by omega) ?_)) (by omega) (by intro p hp j hj; simp only [List.mem_cons, List.not_mem_nil, or_false] at hp; rcases hp with rfl | rfl | rfl | rfl | rfl | rfl <;> first | (simp [D.ids, D.sid] at hj; done) | (simp [D.ids, D.sid] at hj; subst hj; first | exact .inl rfl | exact .inr (.inl rfl) | exact .inr (.inr (.inl rfl)) | exact .inr (.inr (.inr ⟨us[i], List.getElem_mem hi, (hP.keys i hi).symm⟩))))) ?_; have hc2 : XR us0.length (CandT.mk v sh ([(WantT.mk ((i : Int) - 1) (Xh v.a v.b v.c v.p v.q))] :: ns) []) := (by rw [<- hl]; exact QiA hv hns (by decide) h1i hi); generalize hns2 : ([(WantT.mk ((i : Int) - 1) (Xh v.a v.b v.c v.p v.q))] :: ns) = ns2 at hc2 ⊢) | (refine Ql5 (Qf2 (l := [4, 5, 6, 7, 8, 9]) (eu := 48) (ec := 70) (eg := 62) (L := ws) (J := J1) (b4 := ⟨[[.fsl []]], 1, 26, true⟩) (fr' := [(4, .ref 4 0 0), (5, .ref 12 0 0), (6, .osl 500000 us.length), (7, .int .i64 i), (8, .int .i64 k), (9, .ref (500001 + i) k 0)]) (row := [.int .i64 v.a, .int .i64 v.b, .int .i64 v.c, .str v.p, .str v.q, .int .i64 sh, .osl 75 (0 + (ns.map (fun r => [Q9 r])).length), .fsl []]) (p := false) 75 (Qij (CandT.mk v sh ns [])) (kp6 rfl rfl rfl rfl rfl rfl) rfl hP.keys hi hk QA (fun h => by cases h) (Qfj (Qp (by omega) QA) (by first | (simp; done) | (simp; omega))) (fun z hz => (hP.pure hi z hz).1) ⟨rfl, rfl, rfl⟩ (fun j hj hne => (Qp (by omega) (Qp (by omega) (Qp (by omega) (Qdx hP.keys hj))))) (by repeat (first | exact QA | exact Qfv | exact Qe2 | exact Qgy | refine Qp (by omega) ?_)) (by repeat (first | exact QA | exact Qfv | exact Qe2 | exact Qgy | refine Qp (by omega) ?_)) (by repeat (first | exact QA | exact Qfv | exact Qe2 | exact Qgy | refine Qp (by omega) ?_)) rfl (by decide) (by intro j hj; repeat (first | exact Z3 hP.keys (by omega) (by omega) (by omega) (.inr (by omega)) | refine Zv (by omega) ?_)) (by omega) (by intro p hp j hj; simp only [List.mem_cons, List.not_mem_nil, or_false] at hp; rcases hp with rfl | rfl | rfl | rfl | rfl | rfl <;> first | (simp [D.ids, D.sid] at hj; done) | (simp [D.ids, D.sid] at hj; subst hj; first | exact .inl rfl | exact .inr (.inl rfl) | exact .inr (.inr (.inl rfl)) | exact .inr (.inr (.inr ⟨us[i], List.getElem_mem hi, (hP.keys i hi).symm⟩))))) ?_; have hc2 : XR us0.length (CandT.mk v sh ns []) := (by rw [<- hl]; exact Qeu hv hns (by decide)); generalize hns2 : ns = ns2 at hc2 ⊢)
    generalize hus2 : QcJ us i k (Qij (CandT.mk v sh ns2 [])) = us2
    have hP2 : Prog us0.length us2 i (k + 1) := hus2 ▸ hP.put hi hk ⟨_, rfl, hc2⟩
    have hl2 : us2.length = us.length := by rw [<- hus2, Zw]
    have hi2 : i < us2.length := by omega
    have hk2 : k < us2[i].cs.length := Qjo hi hk hus2 hi2
    have hz2 : us2[i].cs[k] = Qij (CandT.mk v sh ns2 []) := Qjn hi hk hus2.symm hi2 hk2
    refine Q8 fun K hK => Qa rfl (Yl (Qcq (I := J1) rfl Qe2 hL (by omega)) (ZL rfl rfl ?_))
    refine hK _ _ (QQ (kp7 rfl rfl rfl rfl rfl rfl rfl) ?_)
    refine YK rfl (fun h5 => ?_) (fun h5 => ?_)
    ·try rw [h5]
     try simp only [qa, qb, qc, qd, qe, List.length_map] at h5
     refine ZQ fun K hK => Qa rfl (Qa rfl (Qa rfl ?_))
     obtain ⟨xb, J3, hxb, hcb⟩ := Qk4 (H := (12, gB ws (nxI J1) 62) :: wA (us2) 48 70 62 ws (J1) ⟨[[.fsl []]], 1, 26, true⟩) QA (Qlj hP2.keys hP2.fam).cons ((Qar hP2.keys rfl).pr rfl) hL (by omega) (by omega)
     refine Yl (hcb _ _ (by rw [hl2]; rfl) (fun _ _ h => h)) ?_
     refine QE rfl (by repeat (first | exact Z3 hU.keys (by omega) (by omega) (by omega) (.inl (by omega)) | exact Z3 hP.keys (by omega) (by omega) (by omega) (.inl (by omega)) | exact Z3 hP2.keys (by omega) (by omega) (by omega) (.inl (by omega)) | refine Zv (by omega) ?_)) ?_
     refine Yf rfl rfl (Qh rfl (Zt (Qp (by omega) (Qp (by omega) (Qp (by omega) (Qdx hP2.keys hi2))))) (Q7 rfl (Qp (by omega) (Qp (by omega) (Qp (by omega) (Qdx hP2.keys hi2)))) (QpJ hk2 hz2) rfl rfl rfl rfl rfl (hK _ ?_)))
     refine Qg (Q5 (kp5 rfl rfl rfl rfl rfl) (ZQ fun K hK => Qa rfl (QY rfl rfl (by first | exact Qq (by omega) (by omega) | rfl) (Qa rfl (hK _ ?_)))))
     refine Qi (QcJ us2 i k (Qij (CandT.mk v sh ns2 [xb])), J3, k + 1) ?_ ?_ ?_
     ·exact Qf2 (l := [4, 5, 6, 7, 8]) (row := [.int .i64 v.a, .int .i64 v.b, .int .i64 v.c, .str v.p, .str v.q, .int .i64 sh, Q1 ns2, .osl 85 1]) (p := false) 85 (Qij (CandT.mk v sh ns2 [xb])) (kp5 rfl rfl rfl rfl rfl) (by rw [Zw, hl2] <;> rfl) hP2.keys hi2 hk2 QA (fun h => by cases h) (Qmq (Qp (by omega) QA) rfl) (fun z hz => (hP2.pure hi2 z hz).1) ⟨rfl, rfl, rfl⟩ (fun j hj hne => (Qp (by omega) (Qp (by omega) (Qp (by omega) (Qp (by omega) (Qdx hP2.keys hj)))))) (by repeat (first | exact QA | exact Qfv | exact Qe2 | exact Qgy | refine Qp (by omega) ?_)) (by repeat (first | exact QA | exact Qfv | exact Qe2 | exact Qgy | refine Qp (by omega) ?_)) (by repeat (first | exact QA | exact Qfv | exact Qe2 | exact Qgy | refine Qp (by omega) ?_)) rfl (by decide) (by intro j hj; repeat (first | exact Z3 hP2.keys (by omega) (by omega) (by omega) (.inr (by omega)) | refine Zv (by omega) ?_)) (by omega) (by intro p hp j hj; simp only [List.mem_cons, List.not_mem_nil, or_false] at hp; rcases hp with rfl | rfl | rfl | rfl | rfl <;> first | (simp [D.ids, D.sid] at hj; done) | (simp [D.ids, D.sid] at hj; subst hj; first | exact .inl rfl | exact .inr (.inl rfl) | exact .inr (.inr (.inl rfl)) | exact .inr (.inr (.inr ⟨us2[i], List.getElem_mem hi2, (hP2.keys i hi2).symm⟩))))
     ·exact hP2.again hi2 hk2 ⟨_, rfl, Qiz hc2 (by have := hxb; rwa [hl2, hl] at this)⟩
     ·show QjP (QcJ us2 i k _) i - (k + 1) < QjP us i - k; rw [QaD, <- hus2, QaD, QaM hi]; omega
    ·try rw [h5]
     try simp only [qa, qb, qc, qd, qe, List.length_map] at h5
     refine Y1 (Qg (Q5 (kp5 rfl rfl rfl rfl rfl) (ZQ fun K hK => Qa rfl (QY rfl rfl (by first | exact Qq (by omega) (by omega) | rfl) (Qa rfl (hK _ ?_))))))
     refine Qi (us2, nxI J1, k + 1) ?_ ?_ ?_
     ·exact le_trans (Zd (l := [4, 5, 6, 7, 8]) (kp5 rfl rfl rfl rfl rfl)) (Qbt (by rw [hl2] <;> rfl) Qq7)
     ·exact hP2
     ·show QjP us2 i - (k + 1) < QjP us i - k; rw [<- hus2, QaD, QaM hi]; omega
  ·try rw [h2]
   try simp only [qa, qb, qc, qd, qe, List.length_map] at h2
   try (have hk : k < us[i].cs.length := (by omega); obtain ⟨v, sh, hz, hv⟩ := hP.fresh i hi k hk (by omega))
   refine QbL (YB (Qx (QB (Qg (Q5 (kp4 rfl rfl rfl rfl) (ZQ fun K hK => Qa rfl (QY rfl rfl (by first | exact Qq (by omega) (by omega) | rfl) (Qa rfl (hK _ ?_)))))))))
   refine Qi (us, J, i + 1) ?_ ?_ ?_
   ·exact Zd (l := [4, 5, 6, 7]) (kp4 rfl rfl rfl rfl)
   ·try dsimp only
    exact ⟨hP.next hi (by omega), by omega, by omega⟩
   ·show us0.length - (i + 1) < us0.length - i; omega
 ·try rw [h1]
  try simp only [qa, qb, qc, qd, qe, List.length_map] at h1
  refine QbL (YB (Qx (QB (Q5 (kp2 rfl rfl) ?_))))
  have hend : i = usA.length := by have := hPA.1.len.1; omega
  obtain ⟨w, hwl, hwm, hle⟩ := Qoj (eu := 48) (ec := 70) (eg := 62) (L := ws) (J := JA) (b4 := ⟨[[.fsl []]], 1, 26, true⟩) (hend ▸ hPA.1) rfl
  refine Ql5 (hle (fr' := [(4, .ref 4 0 0), (6, .osl 500000 usA.length)]) (l := [4, 6]) (kp2 rfl rfl) rfl (by intro p hp j hj; simp only [List.mem_cons, List.not_mem_nil, or_false] at hp; rcases hp with rfl | rfl <;> (simp [D.ids, D.sid] at hj; subst hj; first | exact .inl rfl | exact .inr rfl))) (Q8 fun K hK => Qa rfl (QZ rfl rfl (Q7 rfl rfl rfl rfl rfl rfl rfl rfl ?_)))
  refine hK _ _ (QQ (kp1 rfl) ?_)
  refine Qe3 ?_
  refine ⟨_, ⟨w, hwm, rfl⟩, ?_⟩
  exact ZF (cs := [.osl 500000 usA.length]) (ds := [.sl (w.map Z8)]) rfl rfl rfl rfl (by simp [QbZ, D.fz, D.fzS, Qdb, lk, D.can, D.canS, hwl])
end Go.Proofs
namespace M25
open Go Go.Abs M3
/-! ### Trails that may be -/
theorem Qgg {w : Qn} {l : List StepT} {s : StepT} : Qdr w (l ++ [s]) = (Qdr w l && Qd4 w l s) := by
 rw [Qfn, Qfn, List.length_append, List.length_singleton, List.range_succ, List.all_append]
 congr 1
 ·rw [Bool.eq_iff_iff, List.all_eq_true, List.all_eq_true]
  refine forall_congr' fun i => ?_
  constructor
  ·intro h hi
   have := h hi
   rw [List.mem_range] at hi
   rw [Qbz (by simp; omega)] at this
   rw [Qbz hi]
   rw [List.take_append_of_le_length (by omega), List.getElem_append_left hi] at this
   exact this
  ·intro h hi
   have := h hi
   rw [List.mem_range] at hi
   rw [Qbz hi] at this
   rw [Qbz (by simp; omega), List.take_append_of_le_length (by omega), List.getElem_append_left hi]
   exact this
 ·simp only [List.all_cons, List.all_nil, Bool.and_true]
  rw [Qbz (by simp), List.take_append_of_le_length (Nat.le_refl _), List.take_length, List.getElem_append_right (Nat.le_refl _)]
  simp
theorem Qny {w : Qn} {l : List StepT} {s : StepT} (h : Qd4 w l s = true) : XQ s.m (Zg w l s.u) = s.m := by
 unfold Qd4 at h
 simp only [Bool.and_eq_true, decide_eq_true_eq] at h
 exact h.1.2
theorem QlH {x y : Int} (h : XQ x y = x) (hy : Lo y) : Lo x := by
 have hx : I64 x := by rw [<- h]; exact QjU x y
 refine Lo.of hx fun i hi => ?_
 cases ht : tb x i
 ·rfl
 ·have := (Xf hx).1 h i ht
  rw [hy.hi hi] at this; cases this
theorem QeE {w : Qn} : ∀ (n : Nat) (l : List StepT), l.length = n -> Qdr w l = true -> Y8 w l
 | 0, l, hl, _ => by rw [List.eq_nil_of_length_eq_zero hl]; intro s hs; cases hs
 | n + 1, l, hl, h => by
  have hne : l ≠ [] := by intro e; subst e; simp at hl
  have e := (List.dropLast_concat_getLast hne).symm
  rw [e, Qgg, Bool.and_eq_true] at h
  have hp := QeE n l.dropLast (by simp [hl]) h.1
  rw [e]
  exact Qhc hp (QlH (Qny h.2) (QaN hp _))
theorem Qlv {w : Qn} {l l' : List StepT} {t : TermT} {c : Int} (h : Qdr w l = true) (hd : Yn w l t c = some l') : Qdr w l' = true := by
 have hp := QeE _ l rfl h
 unfold Yn at hd
 split at hd
 ·cases hd
 ·rename_i h1
  split at hd
  ·cases hd
  ·rename_i h2
   cases hd
   rw [Qgg, h, Bool.true_and]
   have hin : inW w t.u = true := by
    cases e : inW w t.u
    ·exact absurd (.inr e) h1
    ·rfl
   have hc : ¬ c < 0 := fun e => h1 (.inl e)
   rw [Qbq] at hin
   rw [Yd hin.1 hin.2 (by show -1 <= c; omega)]
   simp only
   rw [if_neg (by omega), Qdw]
   rw [Qdw] at h2
   have hx := QaN hp t.u
   have hb : XQ (Qe4 (Zg w l t.u) t.m) (Zg w l t.u) = Qe4 (Zg w l t.u) t.m := (Xf (QfX _ _)).2 fun i hi => by
    rw [Qe1] at hi; simp at hi; exact hi.1
   rw [decide_eq_true hb, decide_eq_false (fun e => h2 (.inl e)), decide_eq_false (fun e => h2 (.inr e))]
   simp
theorem Qlt {w : Qn} {l l' : List StepT} {u p : Int} (h : Qdr w l = true) (hd : Xp w l u p = some l') : Qdr w l' = true := by
 unfold Xp at hd
 split at hd
 ·cases hd
 ·split at hd
  ·cases hd
  ·split at hd
   ·rename_i hs
    cases hd
    rw [Qgg, h, Bool.true_and]; exact hs
   ·cases hd
theorem Qls {w : Qn} {l : List StepT} {u p : Int} : ((Xp w l u p).getD []).length <= l.length + 1 := by
 unfold Xp
 split
 ·simp
 ·split
  ·simp
  ·split <;> simp
theorem Qkc {w : Qn} {db : List (List TermT)} : ∀ (n : Nat) {l : List StepT}, Qdr w l = true -> Qdr w (QbD w db n l).1 = true
 | 0, l, h => h
 | n + 1, l, h => by
  rw [QbD]
  split
  ·exact h
  ·refine Qkc n ?_
   cases hd : Yn w l ⟨(ZD w db l).2, Qdq w (db.getD (ZD w db l).1.toNat []) (ZD w db l).2⟩ (ZD w db l).1 with
   | none => rfl
   | some l' => exact Qlv h hd
def TrOk (w : Qn) (t : List StepT) : Prop := Qdr w t = true /\ t.length <= 20000
theorem TrOk.plain {w : Qn} {t : List StepT} (h : TrOk w t) : Y8 w t := QeE _ t rfl h.1
theorem Qlb {w : Qn} (hw : w.length <= 48) {db : List (List TermT)} {l : List StepT} : (Qa7 w db l).1.length <= l.length + 865 := by
 have := Qnj (w := w) (db := db) (w.length * 18 + 1) l
 unfold Qa7; omega
theorem getD_some {α : Type} {o : Option (List α)} (h : o.isSome = true) : o = some (o.getD []) := by
 cases o with
 | none => cases h
 | some x => rfl
theorem Qie {a : Int} {n : Nat} (h0 : 0 <= a) (hn : 0 < n) : 0 <= a.tmod (n : Int) /\ a.tmod (n : Int) < n :=
 ⟨Int.tmod_nonneg _ h0, Int.tmod_lt_of_pos a (by omega)⟩
end M25
namespace Go.Proofs
open Go Go.Abs M3 M25
set_option linter.unusedVariables false
set_option linter.unusedSimpArgs false
theorem QcQ {w : Qn} (hw : WSm w) (h0 : 0 < w.length) {db : List (List TermT)} (hd : db.length <= 100000000) (hi : ∀ x ∈ db, x.length <= 1000000) {l : List Int} (hL : ∀ x ∈ l, I64 x) (hl : l.length <= 1000000) : ∃ d, (∃ t a, TrOk w t /\ d = .tup [Zp t, .int .i64 a]) /\ Ok Tryz.prog 12 [ZI w, dDb db, Zl l] d := by
 refine Ok.ofX (R := fun d => (∃ t a, TrOk w t /\ d = .tup [Zp t, .int .i64 a])) ZP Tryz.func12 Qr9 (Nat.le_of_ble_eq_true rfl) ?_
 show TX _ _ tf12.body _ _
 have hn := hw.len
 refine Q8 fun K hK => Zr rfl rfl rfl (Qa rfl (Qa rfl ?_))
 refine hK _ _ (QQ (kp3 rfl rfl rfl) ?_)
 refine Q8 fun K hK => Qa rfl ?_
 refine hK _ _ (QQ (kp4 rfl rfl rfl rfl) ?_)
 refine Xu ?_ -- 0
 refine Q8 fun K hK => Qa rfl ?_
 refine hK _ _ (QQ (kp5 rfl rfl rfl rfl rfl) ?_)
 refine Yt ?_
 refine Qdz (ι := Nat × List StepT) (fun ⟨i, t⟩ => ⟨[(1, dDb db), (2, Zl l), (3, .ref 3 0 0), (8, Zp t), (9, .int .i64 i)], [(3, ⟨[[.sl ((w).map Z8)]], 1, 26, true⟩)]⟩) (fun ⟨i, t⟩ => i <= 12 /\ Qdr w t = true /\ t.length <= i * 1000) (fun ⟨i, t⟩ => 12 - i) (0, []) ?_ ?_ ?_
 ·exact le_trans (QpU 8 rfl) (QX (l := [1, 2, 3, 8, 9]) (lH := [3]) (kp5 rfl rfl rfl rfl rfl) (Qe rfl Ql) rfl rfl rfl)
 ·exact ⟨by decide, rfl, Nat.le_refl _⟩
 intro ⟨i, t⟩ hI
 try dsimp only at hI
 obtain ⟨hI1, hI2, hI3⟩ := hI
 have hrl := Qlb hn (db := db) (l := t)
 have hrm : Qdr w (Qa7 w db t).1 = true := Qkc _ hI2
 try dsimp only
 refine Xu ?_ -- 1
 refine Q8 fun K hK => Qa rfl (Qa rfl ?_)
 first | refine QO rfl QP ?_ | refine QO rfl rfl ?_
 refine QoW rfl rfl (Qa rfl ?_)
 refine QF (g := 21) rfl (fun h1 => ?_) (fun h1 => ?_)
 ·try rw [h1]
  try simp only [qa, qb, qc, qd, qe, List.length_map] at h1
  refine Qk rfl (Qa rfl (Qk rfl (ZW rfl rfl (Qm rfl rfl ?_))))
  refine hK _ _ (QQ (kp6 rfl rfl rfl rfl rfl rfl) ?_)
  refine YK rfl (fun h2 => ?_) (fun h2 => ?_)
  ·try rw [h2]
   try simp only [qa, qb, qc, qd, qe, List.length_map] at h2
   refine Y1 (Q5 (kp5 rfl rfl rfl rfl rfl) ?_)
   refine Xu ?_ -- 2
   refine Yt (Q8 fun K hK => QG (cs := [_]) rfl rfl rfl rfl (Qa rfl (Qa rfl (QH (Qdg hw hd hi (by omega)) rfl rfl (.inl rfl) (Qa rfl (QV rfl rfl (QV rfl rfl (Qa rfl (Qa rfl ?_)))))))))
   refine hK _ _ (QQ (kp6 rfl rfl rfl rfl rfl rfl) ?_)
   refine Q8 fun K hK => Qa rfl (Qa rfl ?_)
   refine hK _ _ (QQ (kp6 rfl rfl rfl rfl rfl rfl) ?_)
   refine Xu ?_ -- 3
   refine Q8 fun K hK => Qa rfl (Qen rfl rfl (Qa rfl ?_))
   refine QF (g := 37) rfl (fun h3 => ?_) (fun h3 => ?_)
   ·try rw [h3]
    try simp only [qa, qb, qc, qd, qe, List.length_map] at h3
    refine Qt rfl (Qt rfl (Qt rfl (Qt rfl (Qm rfl rfl ?_))))
    refine hK _ _ (QQ (kp7 rfl rfl rfl rfl rfl rfl rfl) ?_)
    refine QpB rfl (Q8 fun K hK => Qa rfl (Qa rfl (Qa rfl (Qa rfl ?_))))
    refine hK _ _ (QQ (kp2 rfl rfl) ?_)
    refine Qe3 (QaJ (Qr (QaJ (QW (Qr (QaJ ?_))))))
    refine ⟨_, ⟨(Qa7 w db t).1, (Qa7 w db t).2, ⟨hrm, by omega⟩, rfl⟩, ?_⟩
    exact QT rfl rfl ⟨rfl, rfl⟩
   ·try rw [h3]
    try simp only [qa, qb, qc, qd, qe, List.length_map] at h3
    refine Qk rfl (Qa rfl (Qk rfl (Qa rfl (Qk rfl ?_))))
    first | refine QO rfl QP ?_ | refine QO rfl rfl ?_
    refine Qk rfl (ZL rfl rfl (Qm rfl rfl ?_))
    refine hK _ _ (QQ (kp7 rfl rfl rfl rfl rfl rfl rfl) ?_)
    refine YK rfl (fun h4 => ?_) (fun h4 => ?_)
    ·try rw [h4]
     try simp only [qa, qb, qc, qd, qe, List.length_map] at h4
     refine Q8 fun K hK => Qa rfl (Qa rfl (Qa rfl (Qa rfl ?_)))
     refine hK _ _ (QQ (kp2 rfl rfl) ?_)
     refine Qe3 (QaJ (Qr (QaJ (QW (Qr (QaJ ?_))))))
     refine ⟨_, ⟨(Qa7 w db t).1, (Qa7 w db t).2, ⟨hrm, by omega⟩, rfl⟩, ?_⟩
     exact QT rfl rfl ⟨rfl, rfl⟩
    ·try rw [h4]
     try simp only [qa, qb, qc, qd, qe, List.length_map] at h4
     refine Y1 (Q5 (kp5 rfl rfl rfl rfl rfl) (Q8 fun K hK => Qa rfl (Qa rfl (QK rfl rfl rfl (by omega) (QS (by omega)) rfl (QR (ds0 := [1, 0]) rfl rfl rfl rfl rfl (Qh rfl rfl (QR (ds0 := [2, 1, 0]) rfl rfl rfl rfl rfl ?_)))))))
     first | refine QO rfl QP ?_ | refine QO rfl rfl ?_
     refine QU (ds0 := [0]) (Z4 (by omega) (hL _ (List.getElem_mem (by omega)))) rfl rfl (.inr rfl) rfl rfl (Qa rfl ?_)
     refine hK _ _ (QQ (kp6 rfl rfl rfl rfl rfl rfl) ?_)
     refine Q8 fun K hK => QG (cs := [_]) rfl rfl rfl rfl (Qa rfl (Qa rfl (QH (ZM hw (by omega)) rfl rfl (.inr rfl) (QH (XT) rfl rfl (.inl rfl) (Qa rfl ?_)))))
     refine hK _ _ (QQ (kp7 rfl rfl rfl rfl rfl rfl rfl) ?_)
     refine Q8 fun K hK => Qa rfl ?_
     refine hK _ _ (QQ (kp8 rfl rfl rfl rfl rfl rfl rfl rfl) ?_)
     refine Yt ?_
     refine Qdz (ι := Nat) (fun k => ⟨[(1, dDb db), (2, Zl l), (3, .ref 3 0 0), (8, Zp (Qa7 w db t).1), (9, .int .i64 i), (12, .int .i64 (mPl (l[i]'(by omega)) w.length)), (13, Zl (Qbx (Zg w (Qa7 w db t).1 (mPl (l[i]'(by omega)) w.length)))), (14, .int .i64 k)], [(3, ⟨[[.sl ((w).map Z8)]], 1, 26, true⟩)]⟩) (fun k => k <= (Qbx (Zg w (Qa7 w db t).1 (mPl (l[i]'(by omega)) w.length))).length) (fun k => (Qbx (Zg w (Qa7 w db t).1 (mPl (l[i]'(by omega)) w.length))).length - k) 0 ?_ ?_ ?_
     ·exact QX (l := [1, 2, 3, 8, 9, 12, 13, 14]) (lH := [3]) (kp8 rfl rfl rfl rfl rfl rfl rfl rfl) (Qe rfl Ql) rfl rfl rfl
     ·exact Nat.zero_le _
     intro k hK0
     have hel : (Qbx (Zg w (Qa7 w db t).1 (mPl (l[i]'(by omega)) w.length))).length <= 17 := Qcy _ 17
     have hp0 := Qi2 (v := l[i]'(by omega)) (n := 7)
     have hp7 := Qi1 (v := l[i]'(by omega)) (n := 7) (by omega)
     try dsimp only
     refine Xu ?_ -- 4
     refine Q8 fun K hK => Qa rfl (Qa rfl ?_)
     first | refine QO rfl QP ?_ | refine QO rfl rfl ?_
     refine ZW rfl rfl ?_
     refine hK _ _ (QQ (kp9 rfl rfl rfl rfl rfl rfl rfl rfl rfl) ?_)
     refine YK rfl (fun h5 => ?_) (fun h5 => ?_)
     ·try rw [h5]
      try simp only [qa, qb, qc, qd, qe, List.length_map] at h5
      refine Y1 (Q5 (kp8 rfl rfl rfl rfl rfl rfl rfl rfl) ?_)
      refine Xu ?_ -- 5
      refine Yt (Q8 fun K hK => QN (ds0 := [5, 4, 3, 2, 1, 0]) (cs := [_]) rfl rfl rfl rfl rfl rfl (Qa rfl (Qa rfl (Qa rfl (Qa rfl (Qa rfl (Qa rfl (QK rfl rfl rfl (by omega) (QS (by omega)) rfl (QR (ds0 := [12, 11, 8, 7, 6, 5, 4, 3, 2, 1, 0]) rfl rfl rfl rfl rfl (QU (ds0 := [11, 8, 7, 6, 5, 4, 3, 2, 1, 0]) (Z4 (by omega) (hL _ (List.getElem_mem (by omega)))) rfl rfl (.inr rfl) rfl rfl ?_))))))))))
      refine QY rfl rfl (by first | exact Qq (by omega) (by omega) | rfl) (Qa rfl ?_)
      first | refine QO rfl QP ?_ | refine QO rfl rfl ?_
      refine Ql3 rfl rfl (by omega) (QK rfl rfl rfl (by exact (Qie (by omega) (by omega)).1) (Zu (Qie (by omega) (by omega)).1 (Qie (by omega) (by omega)).2) rfl (QR (ds0 := [5, 4, 3, 2, 1, 0]) rfl rfl rfl rfl rfl (QU (ds0 := [4, 3, 2, 1, 0]) (QbS hw (by omega)) rfl rfl (.inl rfl) rfl rfl (Qa rfl (QV rfl rfl (QV rfl rfl (Qa rfl (Qa rfl ?_))))))))
      refine hK _ _ (QQ (Qpb rfl rfl rfl rfl rfl rfl rfl rfl rfl rfl) ?_)
      refine Q8 fun K hK => Qa rfl ?_
      refine hK _ _ (QQ (Qpb rfl rfl rfl rfl rfl rfl rfl rfl rfl rfl) ?_)
      refine YK rfl (fun h6 => ?_) (fun h6 => ?_)
      ·try rw [h6]
       try simp only [qa, qb, qc, qd, qe, List.length_map] at h6
       refine Q8 fun K hK => Qa rfl (Qa rfl ?_)
       refine hK _ _ (QQ (kp5 rfl rfl rfl rfl rfl) ?_)
       refine QbL (Qep (by decide) (YB (Qx (QB (Qg (Q5 (kp5 rfl rfl rfl rfl rfl) (ZQ fun K hK => Qa rfl (QY rfl rfl (by first | exact Qq (by omega) (by omega) | rfl) (Qa rfl (hK _ ?_))))))))))
       refine Qi (i + 1, ((Xp w (Qa7 w db t).1 (mPl (l[i]'(by omega)) w.length) ((Qbx (Zg w (Qa7 w db t).1 (mPl (l[i]'(by omega)) w.length)))[((k : Int) + (mPl (l[i]'(by omega)) 7)).tmod ((Qbx (Zg w (Qa7 w db t).1 (mPl (l[i]'(by omega)) w.length))).length : Int) |>.toNat]'(by have := Qie (a := (k : Int) + (mPl (l[i]'(by omega)) 7)) (n := (Qbx (Zg w (Qa7 w db t).1 (mPl (l[i]'(by omega)) w.length))).length) (by omega) (by omega); omega)))).getD []) ?_ ?_ ?_
       ·exact QX (l := [1, 2, 3, 8, 9]) (lH := [3]) (kp5 rfl rfl rfl rfl rfl) (Qe rfl Ql) rfl rfl rfl
       ·exact ⟨by show i + 1 <= 12; omega, Qlt hrm (getD_some h6), Nat.le_trans Qls (by omega)⟩
       ·show 12 - (i + 1) < 12 - i; omega
      ·try rw [h6]
       try simp only [qa, qb, qc, qd, qe, List.length_map] at h6
       refine Y1 (Qg (Q5 (kp8 rfl rfl rfl rfl rfl rfl rfl rfl) (ZQ fun K hK => Qa rfl (QY rfl rfl (by first | exact Qq (by omega) (by omega) | rfl) (Qa rfl (hK _ ?_))))))
       refine Qi (k + 1) ?_ ?_ ?_
       ·exact QX (l := [1, 2, 3, 8, 9, 12, 13, 14]) (lH := [3]) (kp8 rfl rfl rfl rfl rfl rfl rfl rfl) (Qe rfl Ql) rfl rfl rfl
       ·show k + 1 <= _; omega
       ·show (Qbx (Zg w (Qa7 w db t).1 (mPl (l[i]'(by omega)) w.length))).length - (k + 1) < (Qbx (Zg w (Qa7 w db t).1 (mPl (l[i]'(by omega)) w.length))).length - k; omega
     ·try rw [h5]
      try simp only [qa, qb, qc, qd, qe, List.length_map] at h5
      refine QbL (YB (Qx (QB (Qg (Q5 (kp5 rfl rfl rfl rfl rfl) (ZQ fun K hK => Qa rfl (QY rfl rfl (by first | exact Qq (by omega) (by omega) | rfl) (Qa rfl (hK _ ?_)))))))))
      refine Qi (i + 1, (Qa7 w db t).1) ?_ ?_ ?_
      ·exact QX (l := [1, 2, 3, 8, 9]) (lH := [3]) (kp5 rfl rfl rfl rfl rfl) (Qe rfl Ql) rfl rfl rfl
      ·exact ⟨by show i + 1 <= 12; omega, hrm, by show (Qa7 w db t).1.length <= (i + 1) * 1000; omega⟩
      ·show 12 - (i + 1) < 12 - i; omega
  ·try rw [h2]
   try simp only [qa, qb, qc, qd, qe, List.length_map] at h2
   refine QbL (YB (Qx (QB (Q5 (kp1 rfl) (Q8 fun K hK => Qa rfl (Qa rfl (Qa rfl ?_)))))))
   refine hK _ _ (QQ (kp2 rfl rfl) ?_)
   refine Qe3 ?_
   refine ⟨_, ⟨t, -1, ⟨hI2, by omega⟩, rfl⟩, ?_⟩
   exact QT rfl rfl ⟨rfl, rfl⟩
 ·try rw [h1]
  try simp only [qa, qb, qc, qd, qe, List.length_map] at h1
  refine Qt rfl (Qt rfl (Qm rfl rfl ?_))
  refine hK _ _ (QQ (kp6 rfl rfl rfl rfl rfl rfl) ?_)
  refine QjD rfl (QbL (YB (Qx (QB (Q5 (kp1 rfl) (Q8 fun K hK => Qa rfl (Qa rfl (Qa rfl ?_))))))))
  refine hK _ _ (QQ (kp2 rfl rfl) ?_)
  refine Qe3 ?_
  refine ⟨_, ⟨t, -1, ⟨hI2, by omega⟩, rfl⟩, ?_⟩
  exact QT rfl rfl ⟨rfl, rfl⟩
end Go.Proofs
namespace M25
open Go Go.Abs M3
/-! ### What every program says -/
def QnX : Qfd := ([(QbM, Qe7)], [(QbM, Qe7)])
def QbP : Qn := [⟨[], [], [⟨⟨0, 0, 0, [], []⟩, -1, [[⟨1, QnX⟩]], []⟩]⟩, ⟨[97, 110, 116], [], [⟨versions.head (by decide), 0, [], []⟩]⟩]
theorem Qnv : Qa7 QbP (mDB QbP) [] = ([⟨0, 2, 0, 0⟩, ⟨1, 2, 0, 1⟩], -1) := by decide +kernel
theorem QlS : ZD QbP (mDB QbP) [] = (0, 0) := by decide +kernel
theorem QcL : WSm QbP := by
 have hs : Sm QnX.1 /\ Sm QnX.2 := by constructor <;> exact ⟨by decide, fun x hx => by simp only [QnX, List.mem_cons, List.not_mem_nil, or_false] at hx; subst hx; exact ⟨⟨by decide, by decide⟩, ⟨by decide, by decide⟩⟩⟩
 refine ⟨by decide, ?_, ?_, ?_, ?_, ?_, ?_⟩ <;> intro u hu <;> simp only [QbP, List.mem_cons, List.not_mem_nil, or_false] at hu <;> rcases hu with rfl | rfl
 all_goals first | decide | (intro c hc; simp only [List.mem_cons, List.not_mem_nil, or_false] at hc; subst hc; first | (constructor <;> decide) | skip)
 all_goals first | (intro r hr; simp only [List.mem_cons, List.not_mem_nil, or_false] at hr; done) | (intro r hr; simp only [List.mem_cons, List.not_mem_nil, or_false] at hr; subst hr; first | decide | skip)
 all_goals first | (intro x hx; simp only [List.mem_cons, List.not_mem_nil, or_false] at hx; done) | (intro x hx; simp only [List.mem_cons, List.not_mem_nil, or_false] at hx; subst hx; exact hs)
theorem Qle : ∀ x ∈ mDB QbP, IncOk QbP x := QmM QcL (by decide)
theorem Qjp : (mDB QbP).length <= 1600000 := QhT QcL (by decide)
/-! ### A world's facts, and more -/
def Qpg (w : Qn) (ks : List Int) (j : Nat) : List TermT := Qos w ((ks.drop (4 * j)).take 4)
def QaI (w : Qn) (ks : List Int) : Nat -> List (List TermT)
 | 0 => mDB w
 | j + 1 => QaI w ks j ++ if 0 < (Qpg w ks j).length then [Qpg w ks j] else []
def Qcm (w : Qn) (ks : List Int) : List (List TermT) := QaI w ks (min 6 (ks.length / 4))
theorem QeG (w : Qn) (ks : List Int) : ∀ j, (QaI w ks j).length <= (mDB w).length + j
 | 0 => Nat.le_refl _
 | j + 1 => by
  have := QeG w ks j
  rw [QaI, List.length_append]; split <;> simp <;> omega
theorem Qk0 {w : Qn} {ks : List Int} {j : Nat} (h : 0 < ((Qos w ((ks.drop (4 * j)).take 4)).length : Int)) : QaI w ks (j + 1) = QaI w ks j ++ [Qos w ((ks.drop (4 * j)).take 4)] := by rw [QaI, if_pos (by show 0 < (Qos w ((ks.drop (4 * j)).take 4)).length; omega)]; rfl
theorem QmY {w : Qn} {ks : List Int} {j : Nat} (h : ¬ 0 < ((Qos w ((ks.drop (4 * j)).take 4)).length : Int)) : QaI w ks (j + 1) = QaI w ks j := by rw [QaI, if_neg (by show ¬ 0 < (Qos w ((ks.drop (4 * j)).take 4)).length; omega), List.append_nil]
theorem Qi5 {w : Qn} (hw : WSm w) (h0 : 0 < w.length) (ks : List Int) : ∀ j, ∀ x ∈ QaI w ks j, IncOk w x
 | 0 => QmM hw h0
 | j + 1 => fun x hx => by
  rw [QaI, List.mem_append] at hx
  rcases hx with hx | hx
  ·exact Qi5 hw h0 ks j x hx
  ·split at hx
   ·simp only [List.mem_singleton] at hx; subst hx; exact QpX w _
   ·cases hx
theorem QmR {w : Qn} (hw : WSm w) (h0 : 0 < w.length) (ks : List Int) : (Qcm w ks).length <= 1600006 := by
 have := QeG w ks (min 6 (ks.length / 4))
 have := QhT hw h0
 unfold Qcm; omega
theorem Qot {w : Qn} (hw : WSm w) (h0 : 0 < w.length) (ks : List Int) : ∀ x ∈ Qcm w ks, IncOk w x := Qi5 hw h0 ks _
theorem QlR {α : Type} {f : α -> List D} {l : List α} {j : Nat} : ((l.map f).take (4 * (j : Int) + 4).toNat).drop (4 * (j : Int)).toNat = ((l.drop (4 * j)).take 4).map f := by
 rw [show (4 * (j : Int) + 4).toNat = 4 * j + 4 by omega, show (4 * (j : Int)).toNat = 4 * j by omega, List.drop_take, show 4 * j + 4 - 4 * j = 4 by omega, List.map_take, List.map_drop]
def X5 (w : Qn) (l : List StepT) (c : List Int) : Bool := (List.range w.length).all fun k => !decide (XQ (Yz w c ((k : Nat) : Int)) (Zg w l ((k : Nat) : Int)) = 0)
def QlJ (w : Qn) (db : List (List TermT)) (c : List Int) : Bool := db.all fun x => !QgD w x c
theorem QgL {w : Qn} {l : List StepT} {c : List Int} {i : Nat} (h : i < w.length) (h2 : XQ (Yz w c ((i : Nat) : Int)) (Zg w l ((i : Nat) : Int)) = 0) : X5 w l c = false := by
 unfold X5
 rw [Bool.eq_false_iff]
 intro hh
 rw [List.all_eq_true] at hh
 have := hh i (List.mem_range.2 h)
 simp [h2] at this
theorem QfC {w : Qn} {l : List StepT} {c : List Int} (h : ∀ i, i < w.length -> ¬ XQ (Yz w c ((i : Nat) : Int)) (Zg w l ((i : Nat) : Int)) = 0) : X5 w l c = true := by
 unfold X5
 rw [List.all_eq_true]
 intro i hi
 simp [h i (List.mem_range.1 hi)]
theorem QjE {w : Qn} {l : List StepT} {c : List Int} : X5 w l c = true ↔ ∀ i, i < w.length -> ¬ XQ (Yz w c ((i : Nat) : Int)) (Zg w l ((i : Nat) : Int)) = 0 := by
 constructor
 ·intro h i hi h2
  rw [QgL hi h2] at h; cases h
 ·exact QfC
theorem QpS {w : Qn} {db : List (List TermT)} {c : List Int} {i : Nat} (h : i < db.length) (h2 : QgD w db[i] c = true) : QlJ w db c = false := by
 unfold QlJ
 rw [Bool.eq_false_iff]
 intro hh
 rw [List.all_eq_true] at hh
 have := hh db[i] (List.getElem_mem h)
 simp [h2] at this
theorem Qoi {w : Qn} {db : List (List TermT)} {c : List Int} : QlJ w db c = true ↔ ∀ x ∈ db, QgD w x c = false := by
 unfold QlJ; rw [List.all_eq_true]
 exact forall_congr' fun x => by simp
theorem Qrw {α : Type} {f : α -> D} {l : List α} : ∀ r ∈ l.map (fun x => [f x]), r.length = 1 := fun r hr => by obtain ⟨x, _, rfl⟩ := List.mem_map.1 hr; rfl
end M25
namespace M25
open Go Go.Abs M3
/-! ### What a run is: steps, one open after the other -/
inductive Steps (w : Qn) (db : List (List TermT)) : List StepT -> List StepT -> Prop
 | nil (l : List StepT) : Steps w db l l
 | cons {l x : List StepT} (a k : Nat) (ho : OpenAt w db l a k) (h : Steps w db (l ++ [QnM w l ((db[a]'ho.ha)[k]'ho.hk) a]) x) : Steps w db l x
theorem Qhi {w : Qn} {db : List (List TermT)} (hi : ∀ x ∈ db, IncOk w x) : ∀ (n : Nat) (l : List StepT), Y8 w l -> tot w l < n -> Steps w db l (QbD w db n l).1 /\ (ZD w db (QbD w db n l).1).2 < 0 /\ (QbD w db n l).2 = (ZD w db (QbD w db n l).1).1
 | 0, _, _, h => by omega
 | n + 1, l, hp, h => by
  by_cases hs : (ZD w db l).2 < 0
  ·rw [QcI hs (by omega)]
   exact ⟨.nil l, hs, rfl⟩
  ·obtain ⟨a, k, ho⟩ := Qef hs
   rw [ho.go hp hi (by omega)]
   have ht := ho.tot hp
   obtain ⟨q1, q2, q3⟩ := Qhi hi n _ (ho.plain hp) (by omega)
   exact ⟨.cons a k ho q1, q2, q3⟩
theorem Qia {w : Qn} {db : List (List TermT)} (hi : ∀ x ∈ db, IncOk w x) {l : List StepT} (hp : Y8 w l) : Steps w db l (Qa7 w db l).1 /\ (ZD w db (Qa7 w db l).1).2 < 0 /\ (Qa7 w db l).2 = (ZD w db (Qa7 w db l).1).1 := by
 have := QnG w l w.length
 exact Qhi hi _ l hp (by show Qfb w l w.length < _; omega)
section
variable {w : Qn} {db : List (List TermT)}
theorem Steps.plain {l x : List StepT} (h : Steps w db l x) : Y8 w l -> Y8 w x := by
 induction h with
 | nil l => exact id
 | cons a k ho _ ih => exact fun hp => ih (ho.plain hp)
theorem Steps.pre {l x : List StepT} (h : Steps w db l x) : ∃ s, x = l ++ s := by
 induction h with
 | nil l => exact ⟨[], by simp⟩
 | cons a k ho _ ih =>
  obtain ⟨s, e⟩ := ih
  exact ⟨_, by rw [e, List.append_assoc]⟩
theorem scan_second {l : List StepT} (h : (ZD w db l).2 < 0) : (ZD w db l).2 = -1 := by
 unfold ZD at h ⊢
 rcases Qeg w l db 0 with e | ⟨k, _, hk, ⟨e, _⟩ | ⟨_, h0, e⟩⟩
 ·rw [e]
 ·rw [e]
 ·rw [e] at h; simp only at h; omega
theorem Qnp {l : List StepT} (h : (ZD w db l).2 < 0) (h1 : 0 <= (ZD w db l).1) : ∃ x ∈ db, Qe9 w l x = true := by
 unfold ZD at h h1
 rcases Qeg w l db 0 with e | ⟨k, _, hk, ⟨e, hs⟩ | ⟨_, h0, e⟩⟩
 ·rw [e] at h1; simp at h1
 ·exact ⟨_, List.getElem_mem hk, hs⟩
 ·rw [e] at h; simp only at h; omega
def Below (w : Qn) (b l : List StepT) : Prop := ∀ u i, tb (Zg w b u) i = true -> tb (Zg w l u) i = true
theorem Qom {l : List StepT} {t : TermT} {c : Int} (hin : inW w t.u = true) (u : Int) : Zg w (l ++ [QnM w l t c]) u = if t.u = u then Qe4 (Zg w l t.u) t.m else Zg w l u := by
 rw [Qa4]
 show (if t.u = u /\ inW w u = true then Qe4 (Zg w l t.u) t.m else _) = _
 by_cases e : t.u = u
 ·subst e; rw [if_pos ⟨rfl, hin⟩, if_pos rfl]
 ·rw [if_neg (fun h => e h.1), if_neg e]
/-! ### Sound: a choice stays -/
theorem QnJ (w : Qn) (c : List Int) (u : Int) : Yz w c u = 0 \/ ∃ p, p <= 16 /\ Yz w c u = 2 ^ p := by
 unfold Yz
 cases uAt w u with
 | none => exact .inl rfl
 | some un =>
  simp only
  split
  ·exact .inl rfl
  ·split
   ·exact .inl rfl
   ·rename_i h
    refine .inr ⟨_, ?_, rfl⟩
    have := Nat.min_le_right un.cs.length 16
    omega
theorem Qhm {c : List Int} {u : Int} {x m : Int} (h : ¬ XQ (Yz w c u) x = 0) (hs : ∀ i, tb x i = true -> tb m i = true) : ¬ XQ (Yz w c u) m = 0 := by
 intro h2
 refine h (Y5.2 fun i hi => ?_)
 cases hx : tb x i
 ·rfl
 ·have := Y5.1 h2 i hi
  rw [hs i hx] at this; cases this
theorem QnI {c : List Int} {u : Int} {x m : Int} (h : ¬ XQ (Yz w c u) x = 0) (h2 : XQ (Yz w c u) m = 0) : ¬ XQ (Yz w c u) (Qe4 x m) = 0 := by
 rcases QnJ w c u with e | ⟨p, hp, e⟩
 ·exact absurd (Y5.2 fun i hi => by rw [e, Qgu] at hi; cases hi) h
 ·rw [e] at h h2 ⊢
  intro h3
  refine h (Y5.2 fun i hi => ?_)
  have q := Y5.1 h3 i hi
  rw [Qe1, Y5.1 h2 i hi] at q
  simpa using q
theorem QkI {c : List Int} {l : List TermT} : QgD w l c = true ↔ ∀ t ∈ l, ¬ XQ (Yz w c t.u) t.m = 0 := by
 simp [QgD, QhX]
theorem Steps.sound {l x : List StepT} (h : Steps w db l x) (hi : ∀ y ∈ db, IncOk w y) {c : List Int} (hk : ∀ y ∈ db, QgD w y c = false) : Y8 w l -> (∀ u, inW w u = true -> ¬ XQ (Yz w c u) (Zg w l u) = 0) -> ∀ u, inW w u = true -> ¬ XQ (Yz w c u) (Zg w x u) = 0 := by
 induction h with
 | nil l => exact fun _ h => h
 | @cons l x a k ho _ ih =>
  intro hp hl
  refine ih (ho.plain hp) fun u hu => ?_
  rw [Qom (Qm2 ho.one)]
  split
  ·rename_i e
   subst e
   refine QnI (hl _ hu) ?_
   have hnot := hk _ (List.getElem_mem ho.ha)
   refine Classical.byContradiction fun hne => ?_
   rw [QkI.2 fun t ht => ?_] at hnot
   ·cases hnot
   obtain ⟨j, hj, rfl⟩ := List.getElem_of_mem ht
   by_cases ej : j = k
   ·subst ej; exact hne
   ·have h2 := Qjv.1 (ho.two j hj ej)
    have hin := (hi _ (List.getElem_mem ho.ha)).2 _ (List.getElem_mem hj)
    exact Qhm (hl _ (Qc7 hin.1 hin.2)) ((Xf (QaN hp _).i64).1 h2)
  ·exact hl u hu
theorem QgK {l : List StepT} {c : List Int} : X5 w l c = true ↔ ∀ u, inW w u = true -> ¬ XQ (Yz w c u) (Zg w l u) = 0 := by
 rw [QjE]
 constructor
 ·intro h u hu
  rw [Qbq] at hu
  have := h u.toNat (by omega)
  rwa [Int.toNat_of_nonneg hu.1] at this
 ·exact fun h i hi => h _ (Qc7 (by omega) (by omega))
theorem Qji (hi : ∀ y ∈ db, IncOk w y) {l : List StepT} (hp : Y8 w l) {c : List Int} (h1 : X5 w l c = true) (h2 : QlJ w db c = true) : (Qa7 w db l).2 < 0 /\ X5 w (Qa7 w db l).1 c = true := by
 obtain ⟨s1, d1, e1⟩ := Qia hi hp
 rw [Qoi] at h2
 have hx := s1.sound hi h2 hp (QgK.1 h1)
 refine ⟨Classical.byContradiction fun hn => ?_, QgK.2 hx⟩
 rw [e1] at hn
 obtain ⟨y, hy, hs⟩ := Qnp d1 (by omega)
 have := h2 y hy
 rw [QkI.2 fun t ht => ?_] at this
 ·cases this
 have hin := (hi y hy).2 t ht
 exact Qhm (hx _ (Qc7 hin.1 hin.2)) ((Xf (QaN (s1.plain hp) _).i64).1 (Qjv.1 (Qfu.1 hs t ht)))
end
end M25
namespace M25
open Go Go.Abs M3
end M25
namespace Go.Proofs
open Go Go.Abs M3 M25
set_option linter.unusedVariables false
set_option linter.unusedSimpArgs false
theorem QcP {w : Qn} (hw : WSm w) (h0 : 0 < w.length) (et : Nat) (het : et = 39) : OkH Tryz.prog 30 [ZI w, Zl []] [] (.osl 500000 (mDB w).length) [(500000, ⟨(mDB w).map (fun t => [ZC t]), 1, et, true⟩)] := by
 subst het
 refine OkH.new ZP Tryz.func30 Qr1 (Nat.le_of_ble_eq_true rfl) rfl ?_
 show TW _ _ tf30.body _ _
 have hn := Qkp hw h0
 refine Qf fun K hK => Zr rfl rfl rfl (Qa rfl ?_)
 refine hK _ _ (Qb (kp2 rfl rfl) ?_)
 refine Qf fun K hK => QG (cs := [_]) rfl rfl rfl rfl (QH (Qah hw) rfl rfl (.inl rfl) (Qa rfl ?_))
 refine hK _ _ (Qb (kp3 rfl rfl rfl) ?_)
 refine Qf fun K hK => Qa rfl ?_
 refine hK _ _ (Qb (kp4 rfl rfl rfl rfl) ?_)
 refine Qz ?_ -- 0
 refine Qf fun K hK => Qa rfl ?_
 refine hK _ _ (Qb (kp5 rfl rfl rfl rfl rfl) ?_)
 refine Qy ?_
 refine Zi (ι := Nat) (fun i => ⟨[(1, Zl []), (2, .ref 2 0 0), (5, QpM (Qch w)), (6, .osl 500000 (Qmg w i).length), (7, .int .i64 i)], [(2, ⟨[[.sl ((w).map Z8)]], 1, 26, true⟩), (500000, ⟨(Qmg w i).map (fun t => [ZC t]), 1, 39, true⟩)]⟩) (fun i => i <= (Qch w).length) (fun i => (Qch w).length - i) 0 ?_ ?_ ?_
 ·exact le_trans (Yc 6 500000 1 39 rfl rfl) (QX (l := [1, 2, 5, 6, 7]) (lH := [2, 500000]) (kp5 rfl rfl rfl rfl rfl) (Qe rfl (Qe rfl Ql)) rfl rfl rfl)
 ·exact Nat.zero_le _
 intro i hI
 have hlen := Qky w i
 try dsimp only
 refine Qz ?_ -- 1
 refine Qf fun K hK => Qa rfl (Qa rfl ?_)
 first | refine QO rfl QP ?_ | refine QO rfl rfl ?_
 refine ZW rfl rfl ?_
 refine hK _ _ (Qb (kp6 rfl rfl rfl rfl rfl rfl) ?_)
 refine Qw rfl (fun h1 => ?_) (fun h1 => ?_)
 ·try rw [h1]
  try simp only [qa, qb, qc, qd, qe, List.length_map, List.length_nil] at h1
  refine Qv (Qd (kp5 rfl rfl rfl rfl rfl) ?_)
  refine Qz ?_ -- 2
  refine Qy (QL fun K hK => Qa rfl (Qa rfl (Qa rfl (QK rfl rfl rfl (by omega) (QS (by omega)) rfl (Q6 rfl rfl (QC rfl rfl rfl (QE rfl rfl (Xe rfl rfl (fun _ h => YW rfl rfl rfl h) rfl (by simp) rfl rfl rfl (by simp; omega) (by simp; omega) (Qa rfl (hK _ ?_))))))))))
  refine Qg (Qd (kp5 rfl rfl rfl rfl rfl) (QL fun K hK => Qa rfl (QY rfl rfl (by first | exact Qq (by omega) (by omega) | rfl) (Qa rfl (hK _ ?_)))))
  refine Qi (i + 1) ?_ ?_ ?_
  ·exact QX (l := [1, 2, 5, 6, 7]) (lH := [2, 500000]) (kp5 rfl rfl rfl rfl rfl) (Qe rfl (Qe rfl Ql)) (by first | (rw [QbU (by omega)]; done) | (rw [QbU (by omega)]; rfl) | (rw [QbU (by omega), List.length_append]; rfl) | (simp [QbU (by omega)]; done) | (simp [QbU (by omega)]; omega) | rfl) (by first | (rw [QbU (by omega)]; done) | (rw [QbU (by omega)]; rfl) | (rw [QbU (by omega), List.map_append]; rfl) | (simp [QbU (by omega)]; done) | rfl) rfl
  ·omega
  ·first | omega | (simp only; omega) | (dsimp only; omega)
 ·try rw [h1]
  try simp only [qa, qb, qc, qd, qe, List.length_map, List.length_nil] at h1
  refine Za (QJ (Qx (QB (Qd (kp3 rfl rfl rfl) ?_))))
  refine Qz ?_ -- 3
  refine Qf fun K hK => Qa rfl ?_
  refine hK _ _ (Qb (kp4 rfl rfl rfl rfl) ?_)
  refine Qy ?_
  refine Zi (ι := Unit) (fun _ => ⟨[(1, Zl []), (2, .ref 2 0 0), (6, .osl 500000 (mDB w).length), (8, .int .i64 0)], [(2, ⟨[[.sl ((w).map Z8)]], 1, 26, true⟩), (500000, ⟨(mDB w).map (fun t => [ZC t]), 1, 39, true⟩)]⟩) (fun _ => True) (fun _ => 0) () ?_ ?_ ?_
  ·exact QX (l := [1, 2, 6, 8]) (lH := [2, 500000]) (kp4 rfl rfl rfl rfl) (Qe rfl (Qe rfl Ql)) (by rw [Qkz (by omega)]) (by rw [Qkz (by omega)]) rfl
  ·trivial
  intro _ hJ
  try dsimp only
  refine Qz ?_ -- 4
  refine Qf fun K hK => Qa rfl (Qa rfl ?_)
  first | refine QO rfl QP ?_ | refine QO rfl rfl ?_
  refine ZW rfl rfl (Qa rfl ?_)
  refine QF (g := 31) rfl (fun h2 => ?_) (fun h2 => ?_)
  ·try rw [h2]
   try simp only [qa, qb, qc, qd, qe, List.length_map, List.length_nil] at h2
   exact absurd h2 (by decide)
  ·try rw [h2]
   try simp only [qa, qb, qc, qd, qe, List.length_map, List.length_nil] at h2
   refine Qt rfl (Qt rfl (Qt rfl (Qt rfl (Qt rfl (Qm rfl rfl ?_)))))
   refine hK _ _ (Qb (kp5 rfl rfl rfl rfl rfl) ?_)
   refine Zz rfl (Za (QJ (Qx (QB (Qd (kp1 rfl) (Qf fun K hK => Qa rfl (Qa rfl ?_)))))))
   refine hK _ _ (Qb (kp1 rfl) ?_)
   refine Qu ?_
   refine YA rfl ?_ (Qcu ?_)
   ·rfl
   ·rfl
theorem QcO {w : Qn} (hw : WSm w) (h0 : 0 < w.length) {ks : List Int} (hk : ks.length <= 1000000) (hkI : ∀ x ∈ ks, I64 x) : Ok Tryz.prog 11 [ZI w, Zl ks] (dDb (Qcm w ks)) := by
 refine Ok.ofT ZP Tryz.func11 Qr8 (Nat.le_of_ble_eq_true rfl) ?_
 show TW _ _ tf11.body _ _
 have hn := QhT hw h0
 refine Qf fun K hK => Zr rfl rfl rfl (Qa rfl ?_)
 refine hK _ _ (Qb (kp2 rfl rfl) ?_)
 refine Qf fun K hK => QG (cs := [_]) rfl rfl rfl rfl (Yl (Qku rfl (by intro x hx; simp at hx; rcases hx with rfl | rfl <;> rfl) rfl rfl rfl (QcP hw h0 _ rfl)) (Qa rfl ?_))
 refine hK _ _ (Qb (kp3 rfl rfl rfl) ?_)
 refine Qz ?_ -- 0
 refine Qf fun K hK => Qa rfl ?_
 refine hK _ _ (Qb (kp4 rfl rfl rfl rfl) ?_)
 refine Qy ?_
 refine Zi (ι := Nat) (fun j => ⟨[(1, Zl ks), (2, .ref 2 0 0), (5, .osl 500000 (QaI w ks j).length), (6, .int .i64 (4 * (j : Int)))], [(2, ⟨[[.sl ((w).map Z8)]], 1, 26, true⟩), (500000, ⟨(QaI w ks j).map (fun t => [ZC t]), 1, 39, true⟩)]⟩) (fun j => j <= min 6 (ks.length / 4)) (fun j => min 6 (ks.length / 4) - j) 0 ?_ ?_ ?_
 ·exact QX (l := [1, 2, 5, 6]) (lH := [2, 500000]) (kp4 rfl rfl rfl rfl) (Qe rfl (Qe rfl Ql)) rfl rfl rfl
 ·exact Nat.zero_le _
 intro j hI
 have hlen := QeG w ks j
 try dsimp only
 refine Qz ?_ -- 1
 refine Qf fun K hK => Qa rfl (QY rfl rfl (by first | exact Qq (by omega) (by omega) | rfl) (Qa rfl ?_))
 first | refine QO rfl QP ?_ | refine QO rfl rfl ?_
 refine QoW rfl rfl (Qa rfl ?_)
 refine QF (g := 15) rfl (fun h1 => ?_) (fun h1 => ?_)
 ·try rw [h1]
  try simp only [qa, qb, qc, qd, qe, List.length_map] at h1
  refine Qk rfl (Qa rfl (Qk rfl (ZW rfl rfl (Qm rfl rfl ?_))))
  refine hK _ _ (Qb (kp5 rfl rfl rfl rfl rfl) ?_)
  refine Qw rfl (fun h2 => ?_) (fun h2 => ?_)
  ·try rw [h2]
   try simp only [qa, qb, qc, qd, qe, List.length_map] at h2
   refine Qv (Qd (kp4 rfl rfl rfl rfl) ?_)
   refine Qz ?_ -- 2
   refine Qy (Qf fun K hK => QN (ds0 := [1, 0]) (cs := [_]) rfl rfl rfl rfl rfl rfl (Qa rfl (Qa rfl (Qa rfl (QY rfl rfl (by first | exact Qq (by omega) (by omega) | rfl) (QbW rfl rfl rfl rfl (by omega) (by omega) (by simp; omega) Qrw QlR (QU (ds0 := [0]) (QdE hw (fun x hx => hkI x (List.mem_of_mem_drop (List.mem_of_mem_take hx))) (by have := List.length_take_le 4 (ks.drop (4 * j)); omega)) rfl rfl (.inl rfl) rfl rfl (Qa rfl ?_))))))))
   refine hK _ _ (Qb (kp5 rfl rfl rfl rfl rfl) ?_)
   refine Qf fun K hK => Qa rfl ?_
   first | refine QO rfl QP ?_ | refine QO rfl rfl ?_
   refine Qii rfl rfl ?_
   refine hK _ _ (Qb (kp6 rfl rfl rfl rfl rfl rfl) ?_)
   refine Qw rfl (fun h3 => ?_) (fun h3 => ?_)
   ·try rw [h3]
    try simp only [qa, qb, qc, qd, qe, List.length_map] at h3
    refine QL fun K hK => Qa rfl (Qa rfl (QE rfl rfl (Xe rfl rfl (fun _ h => YW rfl rfl rfl h) rfl (by simp) rfl rfl rfl (by simp; omega) (by simp; omega) (Qa rfl (hK _ ?_)))))
    refine Qg (Qd (kp4 rfl rfl rfl rfl) (QL fun K hK => Qa rfl (QY rfl rfl (by first | exact Qq (by omega) (by omega) | rfl) (Qa rfl (hK _ ?_)))))
    refine Qi (j + 1) ?_ ?_ ?_
    ·exact QX (l := [1, 2, 5, 6]) (lH := [2, 500000]) (kp4 rfl rfl rfl rfl) (Qe rfl (Qe rfl Ql)) (by rw [Qk0 h3, List.length_append, show (4 * ((j + 1 : Nat) : Int)) = 4 * (j : Int) + 4 by omega]; rfl) (by rw [Qk0 h3, List.map_append]; rfl) rfl
    ·show j + 1 <= _; omega
    ·show min 6 (ks.length / 4) - (j + 1) < min 6 (ks.length / 4) - j; omega
   ·try rw [h3]
    try simp only [qa, qb, qc, qd, qe, List.length_map] at h3
    refine Qv (Qg (Qd (kp4 rfl rfl rfl rfl) (QL fun K hK => Qa rfl (QY rfl rfl (by first | exact Qq (by omega) (by omega) | rfl) (Qa rfl (hK _ ?_))))))
    refine Qi (j + 1) ?_ ?_ ?_
    ·exact QX (l := [1, 2, 5, 6]) (lH := [2, 500000]) (kp4 rfl rfl rfl rfl) (Qe rfl (Qe rfl Ql)) (by rw [QmY h3, show (4 * ((j + 1 : Nat) : Int)) = 4 * (j : Int) + 4 by omega]) (by rw [QmY h3]) rfl
    ·show j + 1 <= _; omega
    ·show min 6 (ks.length / 4) - (j + 1) < min 6 (ks.length / 4) - j; omega
  ·try rw [h2]
   try simp only [qa, qb, qc, qd, qe, List.length_map] at h2
   refine Za (QJ (Qx (QB (Qd (kp1 rfl) (Qf fun K hK => Qa rfl (Qa rfl ?_))))))
   refine hK _ _ (Qb (kp1 rfl) ?_)
   refine Qu ?_
   exact Qaa rfl rfl rfl (by simp) (by rw [Qcm, show min 6 (ks.length / 4) = j by omega]; rfl)
 ·try rw [h1]
  try simp only [qa, qb, qc, qd, qe, List.length_map] at h1
  refine Qt rfl (Qt rfl (Qm rfl rfl ?_))
  refine hK _ _ (Qb (kp5 rfl rfl rfl rfl rfl) ?_)
  refine Zz rfl (Za (QJ (Qx (QB (Qd (kp1 rfl) (Qf fun K hK => Qa rfl (Qa rfl ?_)))))))
  refine hK _ _ (Qb (kp1 rfl) ?_)
  refine Qu ?_
  exact Qaa rfl rfl rfl (by simp) (by rw [Qcm, show min 6 (ks.length / 4) = j by omega]; rfl)
theorem XS {w : Qn} (hw : WSm w) {l : List StepT} (hl : l.length <= 1000000) {c : List Int} : Ok Tryz.prog 23 [ZI w, Zp l, Zl c] (.bool (X5 w l c)) := by
 refine Ok.ofT ZP Tryz.func23 Qsj (Nat.le_of_ble_eq_true rfl) ?_
 show TW _ _ tf23.body _ _
 have hn := hw.len
 refine Qf fun K hK => Zr rfl rfl rfl (Qa rfl ?_)
 refine hK _ _ (Qb (kp3 rfl rfl rfl) ?_)
 refine Qz ?_ -- 0
 refine Qf fun K hK => Qa rfl ?_
 refine hK _ _ (Qb (kp4 rfl rfl rfl rfl) ?_)
 refine Qy ?_
 refine Zi (ι := Nat) (fun i => ⟨[(1, Zp l), (2, Zl c), (3, .ref 3 0 0), (7, .int .i64 i)], [(3, ⟨[[.sl ((w).map Z8)]], 1, 26, true⟩)]⟩) (fun i => i <= w.length /\ ∀ k, k < i -> ¬ XQ (Yz w c ((k : Nat) : Int)) (Zg w l ((k : Nat) : Int)) = 0) (fun i => w.length - i) 0 ?_ ?_ ?_
 ·exact QX (l := [1, 2, 3, 7]) (lH := [3]) (kp4 rfl rfl rfl rfl) (Qe rfl Ql) rfl rfl rfl
 ·exact ⟨Nat.zero_le _, by intro k hk; omega⟩
 intro i hI
 try dsimp only
 refine Qz ?_ -- 1
 refine Qf fun K hK => Qa rfl (Qh rfl rfl (QC rfl rfl rfl ?_))
 first | refine QO rfl QP ?_ | refine QO rfl rfl ?_
 refine ZW rfl rfl ?_
 refine hK _ _ (Qb (kp5 rfl rfl rfl rfl rfl) ?_)
 refine Qw rfl (fun h1 => ?_) (fun h1 => ?_)
 ·try rw [h1]
  try simp only [qa, qb, qc, qd, qe, List.length_map] at h1
  refine Qv (Qd (kp4 rfl rfl rfl rfl) ?_)
  refine Qz ?_ -- 2
  refine Qy (Qf fun K hK => QN (ds0 := [6, 1, 0]) (cs := [_]) rfl rfl rfl rfl rfl rfl (Qa rfl (Qa rfl (QU (ds0 := [1, 0]) (XO hw) rfl rfl (.inr rfl) rfl rfl (QN (ds0 := [2, 1, 0]) (cs := [_]) rfl rfl rfl rfl rfl rfl (Qa rfl (Qa rfl (QU (ds0 := [1, 0]) (ZM hw (by omega)) rfl rfl (.inr rfl) rfl rfl (Qdy rfl rfl (ZL rfl rfl ?_))))))))))
  refine hK _ _ (Qb (kp5 rfl rfl rfl rfl rfl) ?_)
  refine Qw rfl (fun h2 => ?_) (fun h2 => ?_)
  ·try rw [h2]
   try simp only [qa, qb, qc, qd, qe, List.length_map] at h2
   refine Qf fun K hK => Qa rfl ?_
   refine hK _ _ (Qb (kp1 rfl) ?_)
   refine Qu (Qr (Qj (QW (Qr (Qj (Qs rfl ?_))))))
   rw [QgL (i := i) (by omega) h2]
  ·try rw [h2]
   try simp only [qa, qb, qc, qd, qe, List.length_map] at h2
   refine Qv (Qg (Qd (kp4 rfl rfl rfl rfl) (QL fun K hK => Qa rfl (QY rfl rfl (by first | exact Qq (by omega) (by omega) | rfl) (Qa rfl (hK _ ?_))))))
   refine Qi (i + 1) ?_ ?_ ?_
   ·exact QX (l := [1, 2, 3, 7]) (lH := [3]) (kp4 rfl rfl rfl rfl) (Qe rfl Ql) rfl rfl rfl
   ·exact ⟨by omega, (fun k hk => if e : k = i then by subst e; exact h2 else hI.2 k (by omega))⟩
   ·first | omega | (simp only; omega) | (dsimp only; omega)
 ·try rw [h1]
  try simp only [qa, qb, qc, qd, qe, List.length_map] at h1
  refine Za (QJ (Qx (QB (Qd (Q2) (Qf fun K hK => Qa rfl ?_)))))
  refine hK _ _ (Qb (kp1 rfl) ?_)
  refine Qu (Qs rfl ?_)
  rw [QfC fun k hk => hI.2 k (by omega)]
theorem QcN {w : Qn} (hw : WSm w) {db : List (List TermT)} (hd : db.length <= 100000000) (hi : ∀ x ∈ db, x.length <= 1000000) {c : List Int} : Ok Tryz.prog 24 [ZI w, dDb db, Zl c] (.bool (QlJ w db c)) := by
 refine Ok.ofT ZP Tryz.func24 Qsk (Nat.le_of_ble_eq_true rfl) ?_
 show TW _ _ tf24.body _ _
 have hn := hw.len
 refine Qf fun K hK => Zr rfl rfl rfl (Qa rfl ?_)
 refine hK _ _ (Qb (kp3 rfl rfl rfl) ?_)
 refine Qz ?_ -- 0
 refine Qf fun K hK => Qa rfl ?_
 refine hK _ _ (Qb (kp4 rfl rfl rfl rfl) ?_)
 refine Qy ?_
 refine Zi (ι := Nat) (fun i => ⟨[(1, dDb db), (2, Zl c), (3, .ref 3 0 0), (7, .int .i64 i)], [(3, ⟨[[.sl ((w).map Z8)]], 1, 26, true⟩)]⟩) (fun i => i <= db.length /\ (db.take i).all (fun x => !QgD w x c) = true) (fun i => db.length - i) 0 ?_ ?_ ?_
 ·exact QX (l := [1, 2, 3, 7]) (lH := [3]) (kp4 rfl rfl rfl rfl) (Qe rfl Ql) rfl rfl rfl
 ·exact ⟨Nat.zero_le _, by simp⟩
 intro i hI
 try dsimp only
 refine Qz ?_ -- 1
 refine Qf fun K hK => Qa rfl (Qa rfl ?_)
 first | refine QO rfl QP ?_ | refine QO rfl rfl ?_
 refine ZW rfl rfl ?_
 refine hK _ _ (Qb (kp5 rfl rfl rfl rfl rfl) ?_)
 refine Qw rfl (fun h1 => ?_) (fun h1 => ?_)
 ·try rw [h1]
  try simp only [qa, qb, qc, qd, qe, List.length_map] at h1
  refine Qv (Qd (kp4 rfl rfl rfl rfl) ?_)
  refine Qz ?_ -- 2
  refine Qy (Qf fun K hK => QN (ds0 := [0]) (cs := [_]) rfl rfl rfl rfl rfl rfl (Qa rfl (Qa rfl (QK rfl rfl rfl (by omega) (QS (by omega)) rfl (QR (ds0 := [0]) rfl rfl rfl rfl rfl (Qa rfl (QU (ds0 := []) (QcV hw (hi _ (List.getElem_mem (by omega)))) rfl rfl (.inr rfl) rfl rfl ?_)))))))
  refine hK _ _ (Qb (kp5 rfl rfl rfl rfl rfl) ?_)
  refine Qw rfl (fun h2 => ?_) (fun h2 => ?_)
  ·try rw [h2]
   try simp only [qa, qb, qc, qd, qe, List.length_map] at h2
   refine Qf fun K hK => Qa rfl ?_
   refine hK _ _ (Qb (kp1 rfl) ?_)
   refine Qu (Qr (Qj (QW (Qr (Qj (Qs rfl ?_))))))
   rw [QpS (i := i) (by omega) h2]
  ·try rw [h2]
   try simp only [qa, qb, qc, qd, qe, List.length_map] at h2
   refine Qv (Qg (Qd (kp4 rfl rfl rfl rfl) (QL fun K hK => Qa rfl (QY rfl rfl (by first | exact Qq (by omega) (by omega) | rfl) (Qa rfl (hK _ ?_))))))
   refine Qi (i + 1) ?_ ?_ ?_
   ·exact QX (l := [1, 2, 3, 7]) (lH := [3]) (kp4 rfl rfl rfl rfl) (Qe rfl Ql) rfl rfl rfl
   ·exact ⟨by omega, Z0 (by omega) hI.2 (by simpa using h2)⟩
   ·first | omega | (simp only; omega) | (dsimp only; omega)
 ·try rw [h1]
  try simp only [qa, qb, qc, qd, qe, List.length_map] at h1
  refine Za (QJ (Qx (QB (Qd (Q2) (Qf fun K hK => Qa rfl ?_)))))
  refine hK _ _ (Qb (kp1 rfl) ?_)
  refine Qu (Qs rfl ?_)
  rw [List.take_of_length_le (by omega)] at hI; exact hI.2.symm
end Go.Proofs
namespace Go.Proofs
open Go Go.Abs M3 M25
set_option linter.unusedVariables false
set_option linter.unusedSimpArgs false
theorem Qh9 {rows : List (List D)} (h : (rows.all fun r => r.all fun d => d.sid.isEmpty) = true) : ∀ r ∈ rows, ∀ d ∈ r, d.sid = [] := fun r hr d hd => by
 have := List.all_eq_true.1 (List.all_eq_true.1 h r hr) d hd
 simpa using this
theorem Qb0  : Ok Tryz.prog 32 [] (ZI QbP) := by
 refine Ok.ofT ZP Tryz.func32 Qsr (Nat.le_of_ble_eq_true rfl) ?_
 show TW _ _ tf32.body _ _
 refine Qf fun K hK => ZH rfl ?_
 refine hK _ _ (Qb (kp1 rfl) ?_)
 refine Qf fun K hK => QH (Xn) rfl rfl (.inl rfl) (Qa rfl ?_)
 refine hK _ _ (Qb (kp2 rfl rfl) ?_)
 refine Qf fun K hK => QU (ds0 := [14, 13, 12, 11, 10, 9, 2, 1, 0]) (QaC) rfl rfl (.inl rfl) rfl rfl (QZ rfl rfl (QE rfl rfl (QE rfl rfl (QZ rfl rfl (QE rfl rfl (QZ rfl rfl (Qa rfl (QK rfl rfl rfl (by decide) rfl rfl (QN (ds0 := [5, 4, 3, 2, 1, 0]) (cs := [_, _, _, _, _]) rfl rfl rfl rfl rfl rfl (QZ rfl rfl ?_))))))))))
 refine QE rfl rfl (QZ rfl rfl (QE rfl rfl (QZ rfl rfl (Y4 (ds0 := []) rfl rfl rfl rfl rfl rfl rfl rfl rfl rfl ?_))))
 refine hK _ _ (Qb (kp1 rfl) ?_)
 refine QoX (Qok (l := [0]) (lH := [0, 8, 14, 16]) 6 5 true (kp1 rfl) (Qe rfl (Qe rfl (Qe rfl (Qe rfl Ql)))) rfl rfl rfl rfl rfl (fun _ => ⟨List.cons_ne_nil _ _, Qh9 rfl⟩) (by decide) rfl rfl rfl rfl) (QoX (Qok (l := [0]) (lH := [0, 14, 16]) 8 6 true (kp1 rfl) (Qe rfl (Qe rfl (Qe rfl Ql))) rfl rfl rfl rfl rfl (fun _ => ⟨List.cons_ne_nil _ _, Qh9 rfl⟩) (by decide) rfl rfl rfl rfl) (QoX (QhN 0 (k := 8) rfl) (QoX (QhN 0 (k := 14) rfl) (QoX (Qok (l := [0]) (lH := [0, 14]) 16 8 false (kp1 rfl) (Qe rfl (Qe rfl Ql)) rfl rfl rfl rfl rfl (by simp) (by decide) rfl rfl rfl rfl) (QoX (Qok (l := [0]) (lH := [0]) 16 14 true (kp1 rfl) (Qe rfl Ql) rfl rfl rfl rfl rfl (fun _ => ⟨List.cons_ne_nil _ _, Qh9 rfl⟩) (by decide) rfl rfl rfl rfl) (Qu (ZF (cs := [_]) rfl rfl rfl rfl ?_)))))))
 rfl
end Go.Proofs
namespace Go.Proofs
open Go Go.Abs M3 M25
set_option linter.unusedVariables false
set_option linter.unusedSimpArgs false
theorem Qgr : Y8 QbP [] := fun _ h => by cases h
theorem Qnu : ∀ x ∈ mDB QbP, x.length <= 1000000 := fun x hx => Nat.le_trans (Qle x hx).len (by decide)
theorem Yg  : Ok Tryz.prog 9 [] (.bool true) := by
  refine Ok.ofT ZP Tryz.func9 tp9 (Nat.le_of_ble_eq_true rfl) ?_
  show TW _ _ tf9.body _ _
  refine Qf fun K hK => Qa rfl ?_
  refine hK _ _ (Qb (Q2) ?_)
  refine Qf fun K hK => QH (Qb0) rfl rfl (.inl rfl) (ZH rfl (Q7 rfl rfl rfl rfl rfl rfl rfl rfl ?_))
  refine hK _ _ (Qb (kp1 rfl) ?_)
  refine Qf fun K hK => QN (ds0 := [5, 4, 3, 2, 1, 0]) (cs := [_]) rfl rfl rfl rfl rfl rfl (QN (ds0 := [6, 5, 4, 3, 2, 1, 0]) (cs := [_]) rfl rfl rfl rfl rfl rfl (QU (ds0 := [5, 4, 3, 2, 1, 0]) (QaX QcL (by decide)) rfl rfl (.inl rfl) rfl rfl ?_))
  have hcall := QgM QcL (Nat.le_trans Qjp (by decide)) Qle (l := []) (Nat.zero_le _) Qgr
  rw [Qnv] at hcall
  refine QU (ds0 := [4, 3, 2, 1, 0]) (hcall) rfl rfl (.inl rfl) rfl rfl (Qa rfl (QV rfl rfl (QV rfl rfl (Qa rfl (Qa rfl ?_)))))
  refine hK _ _ (Qb (kp3 rfl rfl rfl) ?_)
  refine Qf fun K hK => QN (ds0 := [5, 4, 3, 2, 1, 0]) (cs := [_]) rfl rfl rfl rfl rfl rfl (QN (ds0 := [6, 5, 4, 3, 2, 1, 0]) (cs := [_]) rfl rfl rfl rfl rfl rfl (QU (ds0 := [5, 4, 3, 2, 1, 0]) (QaX QcL (by decide)) rfl rfl (.inl rfl) rfl rfl ?_))
  have hcall2 := QjI QcL (Nat.le_trans Qjp (by decide)) Qnu (l := []) (Nat.zero_le _) Qgr
  rw [QlS] at hcall2
  refine QU (ds0 := [4, 3, 2, 1, 0]) (hcall2) rfl rfl (.inl rfl) rfl rfl (Qa rfl (QV rfl rfl (QV rfl rfl (Qa rfl (Qa rfl ?_)))))
  refine hK _ _ (Qb (kp4 rfl rfl rfl rfl) ?_)
  refine Qf fun K hK => Qa rfl (ZL rfl rfl (Qa rfl ?_))
  refine QF (g := 23) rfl (fun h1 => ?_) (fun h1 => ?_)
  · try rw [h1]
    try simp only [qa, qb, qc, qd, qe, List.length_map] at h1
    first
      | exfalso; revert h1; decide
      | skip
        refine Qk rfl (Qa rfl (Qk rfl ?_))
        first | refine QO rfl QP ?_ | refine QO rfl rfl ?_
        refine Qk rfl (ZL rfl rfl (Qm rfl rfl (Qa rfl ?_)))
        refine QF (g := 28) rfl (fun h2 => ?_) (fun h2 => ?_)
        · try rw [h2]
          try simp only [qa, qb, qc, qd, qe, List.length_map] at h2
          first
            | exfalso; revert h2; decide
            | skip
              refine Qk rfl (Qa rfl (Qk rfl (QK rfl rfl rfl (by decide) rfl rfl (Qk rfl (Q6 rfl rfl (Qk rfl (QC rfl rfl rfl (Qk rfl (ZL rfl rfl (Qm rfl rfl (Qa rfl ?_)))))))))))
              refine QF (g := 35) rfl (fun h3 => ?_) (fun h3 => ?_)
              · try rw [h3]
                try simp only [qa, qb, qc, qd, qe, List.length_map] at h3
                first
                  | exfalso; revert h3; decide
                  | skip
                    refine Qk rfl (Qa rfl (Qk rfl (QK rfl rfl rfl (by decide) rfl rfl (Qk rfl (QG (cs := [_, _, _, _]) rfl rfl rfl rfl (Qk rfl (QZ rfl rfl (Qk rfl (Ql2 rfl rfl rfl (Qm rfl rfl (Qa rfl ?_)))))))))))
                    refine QF (g := 42) rfl (fun h4 => ?_) (fun h4 => ?_)
                    · try rw [h4]
                      try simp only [qa, qb, qc, qd, qe, List.length_map] at h4
                      first
                        | exfalso; revert h4; decide
                        | skip
                          refine Qk rfl (Qa rfl (Qk rfl (ZL rfl rfl (Qm rfl rfl (Qa rfl ?_)))))
                          refine QF (g := 46) rfl (fun h5 => ?_) (fun h5 => ?_)
                          · try rw [h5]
                            try simp only [qa, qb, qc, qd, qe, List.length_map] at h5
                            first
                              | exfalso; revert h5; decide
                              | skip
                                refine Qk rfl (Qa rfl (Qk rfl (ZL rfl rfl (Qm rfl rfl (Qa rfl ?_)))))
                                refine hK _ _ (Qb (kp1 rfl) ?_)
                                refine Qu (Qs rfl ?_)
                                rfl
                          · try rw [h5]
                            try simp only [qa, qb, qc, qd, qe, List.length_map] at h5
                            first
                              | exfalso; revert h5; decide
                              | skip
                                refine Qt rfl (Qt rfl (Qm rfl rfl (Qa rfl ?_)))
                                refine hK _ _ (Qb (kp1 rfl) ?_)
                                refine Qu (Qs rfl ?_)
                                rfl
                    · try rw [h4]
                      try simp only [qa, qb, qc, qd, qe, List.length_map] at h4
                      first
                        | exfalso; revert h4; decide
                        | skip
                          refine Qt rfl (Qt rfl (Qm rfl rfl (Qa rfl (Qt rfl (Qt rfl (Qm rfl rfl (Qa rfl ?_)))))))
                          refine hK _ _ (Qb (kp1 rfl) ?_)
                          refine Qu (Qs rfl ?_)
                          rfl
              · try rw [h3]
                try simp only [qa, qb, qc, qd, qe, List.length_map] at h3
                first
                  | exfalso; revert h3; decide
                  | skip
                    refine Qt rfl (Qt rfl (Qt rfl (Qt rfl (Qt rfl (Qm rfl rfl (Qa rfl (Qt rfl (Qt rfl (Qm rfl rfl (Qa rfl (Qt rfl ?_)))))))))))
                    refine Qt rfl (Qm rfl rfl (Qa rfl ?_))
                    refine hK _ _ (Qb (kp1 rfl) ?_)
                    refine Qu (Qs rfl ?_)
                    rfl
        · try rw [h2]
          try simp only [qa, qb, qc, qd, qe, List.length_map] at h2
          first
            | exfalso; revert h2; decide
            | skip
              refine Qt rfl (Qt rfl (Qt rfl (Qt rfl (Qt rfl (Qm rfl rfl (Qa rfl (Qt rfl (Qt rfl (Qt rfl (Qt rfl (Qt rfl ?_)))))))))))
              refine Qm rfl rfl (Qa rfl (Qt rfl (Qt rfl (Qm rfl rfl (Qa rfl (Qt rfl (Qt rfl (Qm rfl rfl (Qa rfl ?_)))))))))
              refine hK _ _ (Qb (kp1 rfl) ?_)
              refine Qu (Qs rfl ?_)
              rfl
  · try rw [h1]
    try simp only [qa, qb, qc, qd, qe, List.length_map] at h1
    first
      | exfalso; revert h1; decide
      | skip
        refine Qt rfl (Qt rfl (Qt rfl (Qm rfl rfl (Qa rfl (Qt rfl (Qt rfl (Qt rfl (Qt rfl (Qt rfl (Qm rfl rfl (Qa rfl ?_)))))))))))
        refine Qt rfl (Qt rfl (Qt rfl (Qt rfl (Qt rfl (Qm rfl rfl (Qa rfl (Qt rfl (Qt rfl (Qm rfl rfl (Qa rfl (Qt rfl ?_)))))))))))
        refine Qt rfl (Qm rfl rfl (Qa rfl ?_))
        refine hK _ _ (Qb (kp1 rfl) ?_)
        refine Qu (Qs rfl ?_)
        rfl
end Go.Proofs
namespace Go.Proofs
open Go Go.Abs M3 M25
set_option linter.unusedVariables false
set_option linter.unusedSimpArgs false
end Go.Proofs
namespace M25
open Go Go.Abs M3
/-! ### More of runs -/
theorem Qp6 {w : Qn} {db : List (List TermT)} (hi : ∀ x ∈ db, IncOk w x) {l : List StepT} (hp : Y8 w l) : l.length <= (Qa7 w db l).1.length /\ (Qa7 w db l).1.take l.length = l := by
 obtain ⟨s, e⟩ := (Qia hi hp).1.pre
 rw [e]; exact ⟨by simp, by simp⟩
end M25
