/- Part 6 of the means of the proof: a verified abstract evaluator, the prepared functions, and contracts of functions. It states nothing of the claim by itself. -/
import Derived.Test.YtoajjnegidhknaaGreatDoorB5
set_option maxRecDepth 4000
set_option linter.unusedSimpArgs false
set_option linter.unusedVariables false
namespace Go.Proofs
open Go Go.Abs M3 M25
theorem Gz {w : Qt} (hw : WSm w) (hv : Qet w) {i : Nat} (hi : i < w.length) : Ok Tryz.prog 99 [Yg w, .int .i64 ((i : Nat) : Int)] (.bool true) := by
 refine Ok.ofT ZL Tryz.func99 QiH (QiM Z) ?_
 show TW _ _ tf99.body _ _
 have hwl := hw.len
 have hcl := hv.cl _ (QiR hi)
 have hr0 : i = 0 -> (w[i]'hi).n = [] /\ (w[i]'hi).f = [] /\ (w[i]'hi).cs.length = 1 := fun e => by subst e; exact hv.r0 hi
 have hnm := hv.name i hi
 refine Qb fun K hK => Zi Z Z Z (Qa Z (kc2 hK Z Z ?_))
 refine Qb fun K hK => Qe Z Z (QA Z Z Z (Qa Z (QJ Z Z Z Wa (Q6 Wa) Z (Qz (cs := [_, _, _]) Z Z Z Z (Zz Z (QZ Z Z Z Z Z Z Z Z (kc3 hK Z Z Z ?_)))))))
 refine QB ?_ -- 0
 refine Qb fun K hK => Qe Z Z (QA Z Z Z (Zd Z QQ (Kr Z Z (kc4 hK Z Z Z Z ?_))))
 refine Qs Z (fun h1 => ?_) (fun h1 => ?_)
 ·rw [h1]
  simp only [qA] at h1
  exfalso; omega
 ·rw [h1]
  simp only [qA] at h1
  refine Qq (ks3 Z Z Z ?_)
  refine GH (ι := Unit) (fun _ => ⟨[(1, .int .i64 ((i : Nat) : Int)), (2, .ref 2 0 0), (5, .ref 5 0 0)], [(2, ⟨[[.sl ((w).map Z9)]], 1, 26, true⟩), (5, ⟨[Z9 (w[i]'hi)], 3, 56, true⟩)]⟩) (fun _ => True) ?_ ?_
  ·skip
   refine Qb fun K hK => Qa Z (Yw Z Z (Qa Z ?_))
   refine Qp (g := 18) Z (fun h2 => ?_) (fun h2 => ?_)
   ·rw [h2]
    simp only [qA] at h2
    refine Qd Z (Qe Z Z (Qd Z (QA Z Z Z (Qd Z (TJ Z Z (Qd Z (Qa Z ?_)))))))
    refine Qp (g := 22) Z (fun h3 => ?_) (fun h3 => ?_)
    ·rw [h3]
     simp only [qA] at h3
     exact absurd (hr0 Wa).1 h3
    ·rw [h3]
     simp only [qA] at h3
     refine Qd Z (Qe Z Z (Qd Z (QA Z Z Z (Qd Z (TJ Z Z (Qd Z (Qg Z Z (Qd Z (Qa Z ?_)))))))))
     refine Qp (g := 27) Z (fun h4 => ?_) (fun h4 => ?_)
     ·rw [h4]
      simp only [qA] at h4
      exact absurd (hr0 Wa).2.1 h4
     ·rw [h4]
      simp only [qA] at h4
      refine Qd Z (Qe Z Z (Qd Z (QA Z Z Z (Qd Z (Zd Z QQ (Qd Z (YA Z Z (Qd Z (Qg Z Z (Qg Z Z (kc4 hK Z Z Z Z ?_)))))))))))
      refine Qs Z (fun h5 => ?_) (fun h5 => ?_)
      ·rw [h5]
       simp only [qA] at h5
       exact absurd (hr0 Wa).2.2 Wa
      ·rw [h5]
       simp only [qA] at h5
       refine Qq ?_
       refine Zc () ?_ ?_
       ·exact QW (l := [1, 2, 5]) (lH := [2, 5]) (kp3 rfl rfl rfl) (Qf rfl (Qf rfl Qn)) rfl rfl rfl
       ·exact trivial
   ·rw [h2]
    simp only [qA] at h2
    refine gn4 Z Z Z Z (QI Z (QI Z (QI Z (gn2 Z Z (QI Z (QI Z (QI Z ?_)))))))
    refine QI Z (Xd Z (Qg Z Z (kc4 hK Z Z Z Z ?_)))
    refine Zk Z (Qq ?_)
    refine Zc () ?_ ?_
    ·exact QW (l := [1, 2, 5]) (lH := [2, 5]) (kp3 rfl rfl rfl) (Qf rfl (Qf rfl Qn)) rfl rfl rfl
    ·exact trivial
  intro _ hJ
  refine GH (ι := Unit) (fun _ => ⟨[(2, .ref 2 0 0), (5, .ref 5 0 0)], [(2, ⟨[[.sl ((w).map Z9)]], 1, 26, true⟩), (5, ⟨[Z9 (w[i]'hi)], 3, 56, true⟩)]⟩) (fun _ => True) ?_ ?_
  ·skip
   refine Qb fun K hK => Qa Z (Kr Z Z (Qa Z ?_))
   refine Qp (g := 36) Z (fun h6 => ?_) (fun h6 => ?_)
   ·rw [h6]
    simp only [qA] at h6
    refine Qd Z (Qe Z Z (Qd Z (QP (ds0 := [16, 15, 14, 13, 12, 11, 10, 9, 8, 7, 6, 5, 4, 3, 2, 1, 0]) Z Z Z Z Z (Qd Z (KH Z Z (Qg Z Z (Qa Z ?_)))))))
    refine Qp (g := 41) Z (fun h7 => ?_) (fun h7 => ?_)
    ·rw [h7]
     simp only [qA] at h7
     exact absurd h7 (hnm Wa)
    ·rw [h7]
     simp only [qA] at h7
     refine Qd Z (Qa Z (Qd Z (Kr Z Z (Qd Z (Qa Z ?_)))))
     refine Qp (g := 44) Z (fun h8 => ?_) (fun h8 => ?_)
     ·rw [h8]
      simp only [qA] at h8
      refine Qd Z (Qe Z Z (Qd Z (QP (ds0 := [6, 5, 3, 2, 1, 0]) Z Z Z Z Z (Qd Z (Qa Z (Qd Z (Hk Z Z (Qr Wa Wa) (Qd Z (QJ Z Z Z Wa (Zt Wa Wa) Z (Qd Z (QL (ds0 := [3, 2, 1, 0]) (cs := [_, _, _]) Z Z Z Z Z Z ?_)))))))))))
      refine Qd Z (QL (ds0 := [3, 2, 1, 0]) (cs := [_, _, _]) Z Z Z Z Z Z (Qd Z (Q5 (ds0 := [2, 1, 0]) (Ht) Z Z (.inr Z) Z Z (Qd Z (ZB Z (Qd Z (Qg Z Z (Qg Z Z (kc3 hK Z Z Z ?_)))))))))
      refine Qs Z (fun h9 => ?_) (fun h9 => ?_)
      ·rw [h9]
       simp only [qA] at h9
       have ha := hv.asc i hi Wa; simp only [show ((i : Int) - 1).toNat = i - 1 by omega, ha] at h9; cases h9
      ·rw [h9]
       simp only [qA] at h9
       refine Qq ?_
       refine Zc () ?_ ?_
       ·exact QW (l := [2, 5]) (lH := [2, 5]) (kp2 rfl rfl) (Qf rfl (Qf rfl Qn)) rfl rfl rfl
       ·exact trivial
     ·rw [h8]
      simp only [qA] at h8
      refine gn4 Z Z Z Z (gn4 Z Z Z Z (Xd Z (Qd Z (Qg Z Z (Qg Z Z ?_)))))
      refine kc3 hK Z Z Z ?_
      refine Zk Z (Qq ?_)
      refine Zc () ?_ ?_
      ·exact QW (l := [2, 5]) (lH := [2, 5]) (kp2 rfl rfl) (Qf rfl (Qf rfl Qn)) rfl rfl rfl
      ·exact trivial
   ·rw [h6]
    simp only [qA] at h6
    refine gn3 Z Z Z (Qg Z Z (Qa Z (Qd Z (Qa Z (Qd Z (Kr Z Z (Qd Z (Qa Z ?_))))))))
    refine Qp (g := 44) Z (fun h10 => ?_) (fun h10 => ?_)
    ·rw [h10]
     simp only [qA] at h10
     exfalso; omega
    ·rw [h10]
     simp only [qA] at h10
     refine gn4 Z Z Z Z (gn4 Z Z Z Z (Xd Z (Qd Z (Qg Z Z (Qg Z Z ?_)))))
     refine kc3 hK Z Z Z ?_
     refine Zk Z (Qq ?_)
     refine Zc () ?_ ?_
     ·exact QW (l := [2, 5]) (lH := [2, 5]) (kp2 rfl rfl) (Qf rfl (Qf rfl Qn)) rfl rfl rfl
     ·exact trivial
  intro _ hJ
  refine QB ?_ -- 3
  refine Qb fun K hK => Qa Z (kc3 hK Z Z Z ?_)
  refine QC ?_
  refine Zs (ι := Nat) (fun k => ⟨[(2, .ref 2 0 0), (5, .ref 5 0 0), (6, .int .i64 k)], [(2, ⟨[[.sl ((w).map Z9)]], 1, 26, true⟩), (5, ⟨[Z9 (w[i]'hi)], 3, 56, true⟩)]⟩) (fun k => k <= (w[i]'hi).cs.length) (fun k => (w[i]'hi).cs.length - k) 0 ?_ ?_ ?_
  ·exact QW (l := [2, 5, 6]) (lH := [2, 5]) (kp3 rfl rfl rfl) (Qf rfl (Qf rfl Qn)) rfl rfl rfl
  ·exact QiY _
  intro k hI
  refine QB ?_ -- 4
  refine Qb fun K hK => Qa Z (Qe Z Z (QA Z Z Z (Zd Z QQ (ZT Z Z (kc4 hK Z Z Z Z ?_)))))
  refine Qs Z (fun h11 => ?_) (fun h11 => ?_)
  ·rw [h11]
   simp only [qA] at h11
   refine Qq (ks3 Z Z Z ?_)
   refine QB ?_ -- 5
   refine QC (Qb fun K hK => Qe Z Z (QP (ds0 := [27, 26, 22, 21, 20, 19, 18, 17, 16, 15, 14, 13, 12, 11, 10, 9, 8, 7, 6, 5, 4, 3, 2, 1, 0]) Z Z Z Z Z (Qa Z (QJ Z Z Z Wa (Q6 Wa) Z (QL (ds0 := [22, 21, 20, 19, 18, 17, 16, 15, 14, 13, 12, 11, 10, 9, 8, 7, 6, 5, 4, 3, 2, 1, 0]) (cs := [_, _, _, _, _, _, _, _]) Z Z Z Z Z Z (Qe Z Z (QP (ds0 := [23, 22, 21, 20, 19, 18, 17, 16, 15, 14, 13, 12, 11, 10, 9, 8, 7, 6, 5, 4, 3, 2, 1, 0]) Z Z Z Z Z (Zd Z QQ (Q5 (ds0 := [21, 20, 19, 18, 17, 16, 15, 14, 13, 12, 11, 10, 9, 8, 7, 6, 5, 4, 3, 2, 1, 0]) (Gy (hv.cand _ (QiR hi) _ (QiR (Wa : k < (w[i]'hi).cs.length)))) Z Z (.inr Z) Z Z (ZB Z ?_))))))))))
   refine Qa Z ?_
   refine Qp (g := 73) Z (fun h12 => ?_) (fun h12 => ?_)
   ·rw [h12]
    simp only [qA] at h12
    simp at h12
   ·rw [h12]
    simp only [qA] at h12
    refine Qd Z (Qa Z (Qd Z (Kr Z Z (Qd Z (Qa Z ?_)))))
    refine Qp (g := 76) Z (fun h13 => ?_) (fun h13 => ?_)
    ·rw [h13]
     simp only [qA] at h13
     refine Qd Z (Qe Z Z (Qd Z (QP (ds0 := [12, 11, 10, 3, 2, 1, 0]) Z Z Z Z Z (Qd Z (Qa Z (Qd Z (Hk Z Z (Qr Wa Wa) (Qd Z (QJ Z Z Z Wa (Zt Wa Wa) Z (Qd Z (Zj Z Z ?_)))))))))))
     refine Qd Z (QL (ds0 := [3, 2, 1, 0]) (cs := [_, _, _, _, _]) Z Z Z Z Z Z (Qd Z (Qe Z Z (Qd Z (QP (ds0 := [6, 5, 4, 3, 2, 1, 0]) Z Z Z Z Z (Qd Z (Qa Z (Qd Z (QJ Z Z Z Wa (Q6 Wa) Z (Qd Z (Zj Z Z ?_)))))))))))
     refine Qd Z (QL (ds0 := [3, 2, 1, 0]) (cs := [_, _, _, _, _]) Z Z Z Z Z Z (Qd Z (Q5 (ds0 := [2, 1, 0]) (YB (hw.vs _ (QiR hi) _ (QiR Wa)).1 (hw.vs _ (QiR hi) _ (QiR Wa)).2 (hw.vs _ (QiR hi) _ (QiR Wa)).1 (hw.vs _ (QiR hi) _ (QiR Wa)).2) Z Z (.inr Z) Z Z (Qd Z (GQ Z Z (Qd Z (Qg Z Z (Qg Z Z (kc4 hK Z Z Z Z ?_)))))))))
     refine Qs Z (fun h14 => ?_) (fun h14 => ?_)
     ·rw [h14]
      simp only [qA] at h14
      have ha := hv.vasc _ (QiR hi) k Wa Wa; simp only [show ((k : Int) - 1).toNat = k - 1 by omega] at h14; exact absurd ha (Int.not_lt.2 h14)
     ·rw [h14]
      simp only [qA] at h14
      refine Qq (Qh (ks3 Z Z Z (QN fun K hK => Qa Z (Q2 Z Z (Qr Wa Wa) (Qa Z (hK _ ?_))))))
      refine Qk (k + 1) ?_ ?_ ?_
      ·exact QW (l := [2, 5, 6]) (lH := [2, 5]) (kp3 rfl rfl rfl) (Qf rfl (Qf rfl Qn)) rfl rfl rfl
      ·omega
      ·omega
    ·rw [h13]
     simp only [qA] at h13
     refine gn4 Z Z Z Z (gn4 Z Z Z Z (gn4 Z Z Z Z ?_))
     refine gn3 Z Z Z (Qd Z (Qg Z Z (Qg Z Z (kc4 hK Z Z Z Z ?_))))
     refine Zk Z (Qq (Qh (ks3 Z Z Z (QN fun K hK => Qa Z (Q2 Z Z (Qr Wa Wa) (Qa Z (hK _ ?_)))))))
     refine Qk (k + 1) ?_ ?_ ?_
     ·exact QW (l := [2, 5, 6]) (lH := [2, 5]) (kp3 rfl rfl rfl) (Qf rfl (Qf rfl Qn)) rfl rfl rfl
     ·omega
     ·omega
  ·rw [h11]
   simp only [qA] at h11
   refine Q7 (QF (Qw (QE (QX (Zg) (Qb fun K hK => Qa Z (kc1 hK Z ?_))))))
   refine Qo (Qi Z ?_)
   rfl
theorem GU {w : Qt} (hw : WSm w) (hv : Qet w) : Ok Tryz.prog 81 [Yg w] (.bool true) := by
 refine Ok.ofT ZL Tryz.func81 Qip (QiM Z) ?_
 show TW _ _ tf81.body _ _
 have hvl := hv.len
 refine Qb fun K hK => Zi Z Z Z (Qa Z (kc1 hK Z ?_))
 refine QB ?_ -- 0
 refine Qb fun K hK => Qe Z Z (QA Z Z Z (Zd Z QQ (ZT Z Z (Qa Z ?_))))
 refine Qp (g := 8) Z (fun h1 => ?_) (fun h1 => ?_)
 ·rw [h1]
  simp only [qA] at h1
  exfalso; omega
 ·rw [h1]
  simp only [qA] at h1
  refine Qd Z (Qe Z Z (Qd Z (QA Z Z Z (Qd Z (Zd Z QQ (Qd Z (Kr Z Z (Qg Z Z (kc2 hK Z Z ?_)))))))))
  refine Qs Z (fun h2 => ?_) (fun h2 => ?_)
  ·rw [h2]
   simp only [qA] at h2
   exfalso; omega
  ·rw [h2]
   simp only [qA] at h2
   refine Qq (ks1 Z ?_)
   refine QB ?_ -- 1
   refine Qb fun K hK => Qa Z (kc2 hK Z Z ?_)
   refine QC ?_
   refine Zs (ι := Nat) (fun i => ⟨[(1, .ref 1 0 0), (3, .int .i64 i)], [(1, ⟨[[.sl ((w).map Z9)]], 1, 26, true⟩)]⟩) (fun i => i <= w.length) (fun i => w.length - i) 0 ?_ ?_ ?_
   ·exact QW (l := [1, 3]) (lH := [1]) (kp2 rfl rfl) (Qf rfl Qn) rfl rfl rfl
   ·exact QiY _
   intro i hI
   refine QB ?_ -- 2
   refine Qb fun K hK => Qa Z (Qe Z Z (QA Z Z Z (Zd Z QQ (ZT Z Z (kc3 hK Z Z Z ?_)))))
   refine Qs Z (fun h3 => ?_) (fun h3 => ?_)
   ·rw [h3]
    simp only [qA] at h3
    refine Qq (ks2 Z Z ?_)
    refine QB ?_ -- 3
    refine QC (Qb fun K hK => Qz (cs := [_]) Z Z Z Z (Qa Z (Qv (Gz hw hv (i := i) Wa) Z Z (.inr Z) (ZB Z (kc3 hK Z Z Z ?_)))))
    refine Qs Z (fun h4 => ?_) (fun h4 => ?_)
    ·rw [h4]
     simp only [qA] at h4
     simp at h4
    ·rw [h4]
     simp only [qA] at h4
     refine Qq (Qh (ks2 Z Z (QN fun K hK => Qa Z (Q2 Z Z Wb (Qa Z (hK _ ?_))))))
     refine Qk (i + 1) ?_ ?_ ?_
     ·exact QW (l := [1, 3]) (lH := [1]) (kp2 rfl rfl) (Qf rfl Qn) rfl rfl rfl
     ·omega
     ·omega
   ·rw [h3]
    simp only [qA] at h3
    refine Q7 (QF (Qw (QE (QX (Zg) (Qb fun K hK => Qa Z (kc1 hK Z ?_))))))
    refine Qo (Qi Z ?_)
    rfl
theorem Jn {w : Qt} (hw : WSm w) (hv : Qet w) {c : List Int} (hch : ChOk w c) : Ok Tryz.prog 55 [Yg w, QS c] (.bool true) := by
 refine Ok.ofT ZL Tryz.func55 Qh3 (QiM Z) ?_
 show TW _ _ tf55.body _ _
 have hcl := hch.len
 have hvl := hv.len
 refine Qb fun K hK => Zi Z Z Z (Qa Z (kc2 hK Z Z ?_))
 refine QB ?_ -- 0
 refine Qb fun K hK => Qa Z (Zd Z QQ (Qe Z Z (QA Z Z Z (Zd Z QQ (YA Z Z (Qa Z ?_))))))
 refine Qp (g := 12) Z (fun h1 => ?_) (fun h1 => ?_)
 ·rw [h1]
  simp only [qA] at h1
  exfalso; omega
 ·rw [h1]
  simp only [qA] at h1
  refine Qd Z (Qz (cs := [_]) Z Z Z Z (Qd Z (Qv (GU hw hv) Z Z (.inr Z) (Qd Z (ZB Z (Qg Z Z (kc3 hK Z Z Z ?_)))))))
  refine Qs Z (fun h2 => ?_) (fun h2 => ?_)
  ·rw [h2]
   simp only [qA] at h2
   simp at h2
  ·rw [h2]
   simp only [qA] at h2
   refine Qq (ks2 Z Z ?_)
   refine QB ?_ -- 1
   refine Qb fun K hK => Qa Z (kc3 hK Z Z Z ?_)
   refine QC ?_
   refine Zs (ι := Nat) (fun i => ⟨[(1, QS c), (2, .ref 2 0 0), (5, .int .i64 i)], [(2, ⟨[[.sl ((w).map Z9)]], 1, 26, true⟩)]⟩) (fun i => i <= c.length) (fun i => c.length - i) 0 ?_ ?_ ?_
   ·exact QW (l := [1, 2, 5]) (lH := [2]) (kp3 rfl rfl rfl) (Qf rfl Qn) rfl rfl rfl
   ·exact QiY _
   intro i hI
   refine QB ?_ -- 2
   refine Qb fun K hK => mv2 Z Z (Zd Z QQ (ZT Z Z (kc4 hK Z Z Z Z ?_)))
   refine Qs Z (fun h3 => ?_) (fun h3 => ?_)
   ·rw [h3]
    simp only [qA] at h3
    have hb := Cg hch (Wa : i < c.length)
    refine Qq (ks3 Z Z Z ?_)
    refine QB ?_ -- 3
    refine QC (Qb fun K hK => mv2 Z Z (QJ Z Z Z Wa (Q6 Wa) Z (QP (ds0 := [14, 13, 12, 11, 10, 9, 8, 7, 6, 5, 4, 3, 2, 1, 0]) Z Z Z Z Z (ZT Z Z (Qa Z ?_)))))
    refine Qp (g := 28) Z (fun h4 => ?_) (fun h4 => ?_)
    ·rw [h4]
     simp only [qA] at h4
     exfalso; omega
    ·rw [h4]
     simp only [qA] at h4
     refine Qd Z (Qa Z (Qd Z (Qa Z (Qd Z (QJ Z Z Z Wa (Q6 Wa) Z (Qd Z (QP (ds0 := [1, 0]) Z Z Z Z Z (Qd Z (Qe Z Z (Qd Z (QP (ds0 := [5, 4, 3, 2, 1, 0]) Z Z Z Z Z ?_)))))))))))
     refine Qd Z (Qa Z (Qd Z (QJ Z Z Z Wa (Q6 Wa) Z (Qd Z (Zj Z Z (Qd Z (QP (ds0 := [2, 1, 0]) Z Z Z Z Z (Qd Z (Zd Z QQ (Qd Z (GQ Z Z ?_)))))))))))
     refine Qg Z Z (kc4 hK Z Z Z Z ?_)
     refine Qs Z (fun h5 => ?_) (fun h5 => ?_)
     ·rw [h5]
      simp only [qA] at h5
      exfalso; omega
     ·rw [h5]
      simp only [qA] at h5
      refine Qq (Qh (ks3 Z Z Z (QN fun K hK => Qa Z (Q2 Z Z Wb (Qa Z (hK _ ?_))))))
      refine Qk (i + 1) ?_ ?_ ?_
      ·exact QW (l := [1, 2, 5]) (lH := [2]) (kp3 rfl rfl rfl) (Qf rfl Qn) rfl rfl rfl
      ·omega
      ·omega
   ·rw [h3]
    simp only [qA] at h3
    refine Q7 (QF (Qw (QE (QX (Zg) (Qb fun K hK => Qa Z (kc1 hK Z ?_))))))
    refine Qo (Qi Z ?_)
    rfl
theorem GV {w : Qt} (hw : WSm w) (hr : WIn w) {c : List Int} (hch : ChOk w c) {u : Nat} (hu : u < w.length) (huc : u < c.length) (hc0 : 0 <= c[u]) : Ok Tryz.prog 82 [Yg w, QS c, .int .i64 ((u : Nat) : Int)] (Qe6 (QbO w c u)) := by
 refine Ok.ofT ZL Tryz.func82 Qiq (QiM Z) ?_
 show TW _ _ tf82.body _ _
 have hb := Cg hch huc
 have hpz := Tv hb.2 hc0
 have e1 := Ln hu huc hpz
 have hwn := hw.ns _ (QiR hu) _ (QiR hpz)
 have hwl := hw.nl _ (QiR hu) _ (QiR hpz)
 have hwnw := hw.nw _ (QiR hu) _ (QiR hpz)
 have hwbw := hw.bw _ (QiR hu) _ (QiR hpz)
 have hrn := hr.nr _ (QiR hu) _ (QiR hpz)
 have hrb := hr.bw _ (QiR hu) _ (QiR hpz)
 obtain ⟨y, hy⟩ : ∃ y, (w[u]'hu).cs[(c[u]'huc).toNat] = y := ⟨_, rfl⟩
 rw [hy] at e1 hwn hwl hwnw hwbw hrn hrb
 refine Qb fun K hK => Zi Z Z Z (Qa Z (kc3 hK Z Z Z ?_))
 refine Qb fun K hK => Qa Z (kc4 hK Z Z Z Z ?_)
 refine Qb fun K hK => Qe Z Z (QP (ds0 := [10, 9, 8, 3, 2, 0]) Z Z Z Z Z (Qa Z (QJ Z Z Z Wa (Q6 Wa) Z (Zj Z Z (QP (ds0 := [3, 2, 0]) Z Z Z Z Z (mv2 Z Z (QJ Z Z Z Wa (Q6 Wa) Z (QP (ds0 := [3, 2, 0]) Z Z Z Z Z (QJ Z Z Z Wa (Zt Wa Wa) Z ?_)))))))))
 refine QL (ds0 := [0]) (cs := [_, _, _, _, _, _, _, _]) Z Z Z Z Z Z (Zz Z (YR (ds0 := []) Z Z Z Z Z Z Z Z Z Z (kc5 hK Z Z Z Z Z ?_)))
 refine QB ?_ -- 0
 refine Qb fun K hK => Qa Z (kc6 hK Z Z Z Z Z Z ?_)
 refine QC ?_
 refine Zs (ι := Nat) (fun i => ⟨[(1, QS c), (2, .int .i64 ((u : Nat) : Int)), (3, .ref 3 0 0), (7, .osl 7 (GG w c u y.ns i).length), (8, .ref 8 0 0), (9, .int .i64 i)], [(3, ⟨[[.sl ((w).map Z9)]], 1, 26, true⟩), (7, ⟨(GG w c u y.ns i).map Qe5, 3, 130, true⟩), (8, ⟨[Qbb y], 8, 63, true⟩)]⟩) (fun i => i <= y.ns.length) (fun i => y.ns.length - i) 0 ?_ ?_ ?_
 ·exact le_trans (Yn 7 7 3 130 rfl rfl) (QW (l := [1, 2, 3, 7, 8, 9]) (lH := [3, 7, 8]) (kp6 rfl rfl rfl rfl rfl rfl) (Qf rfl (Qf rfl (Qf rfl Qn))) rfl (by rw [<- hy] <;> rfl) rfl)
 ·exact QiY _
 intro i hI
 have hlen := FK w c u y.ns i
 refine QB ?_ -- 1
 refine Qb fun K hK => Qa Z (Qe Z Z (QA Z Z Z (Zd Z QQ (ZT Z Z (kc7 hK Z Z Z Z Z Z Z ?_)))))
 refine Qs Z (fun h1 => ?_) (fun h1 => ?_)
 ·rw [h1]
  simp only [qA] at h1
  refine Qq (ks6 Z Z Z Z Z Z ?_)
  refine QB ?_ -- 2
  refine QC (Qb fun K hK => QL (ds0 := [1, 0]) (cs := [_]) Z Z Z Z Z Z (Qa Z (Qe Z Z (QP (ds0 := [3, 2, 1, 0]) Z Z Z Z Z (Qa Z (QJ Z Z Z Wa (Q6 Wa) Z (QP (ds0 := [1, 0]) Z Z Z Z Z (Q5 (ds0 := [0]) (GA hw hch (hwl _ (QiR (Wa : i < y.ns.length))) (fun x hx => ⟨hrn _ (QiR (Wa : i < y.ns.length)) x hx, hwnw _ (QiR (Wa : i < y.ns.length)) x hx⟩)) Z Z (.inr Z) Z Z (ZB Z (kc7 hK Z Z Z Z Z Z Z ?_))))))))))
  refine Qs Z (fun h2 => ?_) (fun h2 => ?_)
  ·rw [h2]
   simp only [qA] at h2
   refine QN fun K hK => mv2 Z Z (Qa Z (QT Z Z (QK Z Z (XK Z Z (fun _ h => Xt Z Z Z h) Z Wd Z Z Z Wf Wf (Qa Z (hK _ ?_))))))
   refine Qh (ks6 Z Z Z Z Z Z (QN fun K hK => Qa Z (Q2 Z Z Wb (Qa Z (hK _ ?_)))))
   refine Qk (i + 1) ?_ ?_ ?_
   ·exact QW (l := [1, 2, 3, 7, 8, 9]) (lH := [3, 7, 8]) (kp6 rfl rfl rfl rfl rfl rfl) (Qf rfl (Qf rfl (Qf rfl Qn))) (by rw [RN Wa h2, List.length_append] <;> rfl) (by rw [RN Wa h2, List.map_append] <;> rfl) rfl
   ·omega
   ·omega
  ·rw [h2]
   simp only [qA] at h2
   refine Qq (Qh (ks6 Z Z Z Z Z Z (QN fun K hK => Qa Z (Q2 Z Z Wb (Qa Z (hK _ ?_))))))
   refine Qk (i + 1) ?_ ?_ ?_
   ·exact QW (l := [1, 2, 3, 7, 8, 9]) (lH := [3, 7, 8]) (kp6 rfl rfl rfl rfl rfl rfl) (Qf rfl (Qf rfl (Qf rfl Qn))) (by rw [RM Wa h2] <;> rfl) (by rw [RM Wa h2] <;> rfl) rfl
   ·omega
   ·omega
 ·rw [h1]
  simp only [qA] at h1
  refine Q7 (QF (Qw (QE (ks5 Z Z Z Z Z ?_))))
  refine QB ?_ -- 3
  refine Qb fun K hK => Qa Z (kc6 hK Z Z Z Z Z Z ?_)
  refine QC ?_
  refine Zs (ι := Nat) (fun i => ⟨[(1, QS c), (2, .int .i64 ((u : Nat) : Int)), (3, .ref 3 0 0), (7, .osl 7 (GG w c u y.ns y.ns.length ++ TB w c u y.bs i).length), (8, .ref 8 0 0), (10, .int .i64 i)], [(3, ⟨[[.sl ((w).map Z9)]], 1, 26, true⟩), (7, ⟨((GG w c u y.ns y.ns.length ++ TB w c u y.bs i)).map Qe5, 3, 130, true⟩), (8, ⟨[Qbb y], 8, 63, true⟩)]⟩) (fun i => i <= y.bs.length) (fun i => y.bs.length - i) 0 ?_ ?_ ?_
  ·exact QW (l := [1, 2, 3, 7, 8, 10]) (lH := [3, 7, 8]) (kp6 rfl rfl rfl rfl rfl rfl) (Qf rfl (Qf rfl (Qf rfl Qn))) (by rw [show i = y.ns.length by omega, TB, List.append_nil] <;> rfl) (by rw [show i = y.ns.length by omega, TB, List.append_nil] <;> rfl) rfl
  ·exact QiY _
  intro i hI
  have hlen := FK w c u y.ns y.ns.length
  have hlen2 := Rm w c u y.bs i
  refine QB ?_ -- 4
  refine Qb fun K hK => Qa Z (Qe Z Z (QA Z Z Z (Zd Z QQ (ZT Z Z (kc7 hK Z Z Z Z Z Z Z ?_)))))
  refine Qs Z (fun h3 => ?_) (fun h3 => ?_)
  ·rw [h3]
   simp only [qA] at h3
   refine Qq (ks6 Z Z Z Z Z Z ?_)
   refine QB ?_ -- 5
   refine QC (Qb fun K hK => QL (ds0 := [0]) (cs := [_]) Z Z Z Z Z Z (Qa Z (Qe Z Z (QP (ds0 := [2, 1, 0]) Z Z Z Z Z (Qa Z (QJ Z Z Z Wa (Q6 Wa) Z (QL (ds0 := [0]) (cs := [_, _, _]) Z Z Z Z Z Z (Q5 (ds0 := []) (Jo hw hch (hrb _ (QiR (Wa : i < y.bs.length))) (hwbw _ (QiR (Wa : i < y.bs.length)))) Z Z (.inr Z) Z Z (kc7 hK Z Z Z Z Z Z Z ?_)))))))))
   refine Qs Z (fun h4 => ?_) (fun h4 => ?_)
   ·rw [h4]
    refine QN fun K hK => mv2 Z Z (Qa Z (QT Z Z (QK Z Z (XK Z Z (fun _ h => Xt Z Z Z h) Z Wd Z Z Z Wf Wf (Qa Z (hK _ ?_))))))
    refine Qh (ks6 Z Z Z Z Z Z (QN fun K hK => Qa Z (Q2 Z Z Wb (Qa Z (hK _ ?_)))))
    refine Qk (i + 1) ?_ ?_ ?_
    ·exact QW (l := [1, 2, 3, 7, 8, 10]) (lH := [3, 7, 8]) (kp6 rfl rfl rfl rfl rfl rfl) (Qf rfl (Qf rfl (Qf rfl Qn))) (by rw [TM Wa h4, <- List.append_assoc, List.length_append (bs := [_])] <;> rfl) (by rw [TM Wa h4, <- List.append_assoc, List.map_append (l₂ := [_])] <;> rfl) rfl
    ·omega
    ·omega
   ·rw [h4]
    refine Qq (Qh (ks6 Z Z Z Z Z Z (QN fun K hK => Qa Z (Q2 Z Z Wb (Qa Z (hK _ ?_))))))
    refine Qk (i + 1) ?_ ?_ ?_
    ·exact QW (l := [1, 2, 3, 7, 8, 10]) (lH := [3, 7, 8]) (kp6 rfl rfl rfl rfl rfl rfl) (Qf rfl (Qf rfl (Qf rfl Qn))) (by rw [TN Wa h4] <;> rfl) (by rw [TN Wa h4] <;> rfl) rfl
    ·omega
    ·omega
  ·rw [h3]
   simp only [qA] at h3
   refine Q7 (QF (Qw (QE (ks1 Z (Qb fun K hK => mv2 Z Z (kc1 hK Z ?_))))))
   refine Qo ?_
   exact Gq rfl rfl rfl Wd (by rw [e1, QdP, show y.bs.length = i by omega]; rfl)
theorem Hx {w : Qt} (hw : WSm w) (hr : WIn w) (hv : Qet w) {c : List Int} (hch : ChOk w c) : Ok Tryz.prog 56 [Yg w, QS c] (Qe6 (Ph w c)) := by
 refine Ok.ofT ZL Tryz.func56 Qh4 (QiM Z) ?_
 show TW _ _ tf56.body _ _
 have hcl := hch.len
 have hvl := hv.len
 refine Qb fun K hK => Zi Z Z Z (Qa Z (kc2 hK Z Z ?_))
 refine Qb fun K hK => Qa Z (kc3 hK Z Z Z ?_)
 refine QB ?_ -- 0
 refine Qb fun K hK => Qz (cs := [_]) Z Z Z Z (Qa Z (Qv (Jn hw hv hch) Z Z (.inr Z) (ZB Z (kc4 hK Z Z Z Z ?_))))
 refine Qs Z (fun h1 => ?_) (fun h1 => ?_)
 ·rw [h1]
  simp only [qA] at h1
  simp at h1
 ·rw [h1]
  simp only [qA] at h1
  refine Qq (ks3 Z Z Z ?_)
  refine GH (ι := Unit) (fun _ => ⟨[(1, QS c), (2, .ref 2 0 0), (5, .osl 5 (Yd w c 0).length)], [(2, ⟨[[.sl ((w).map Z9)]], 1, 26, true⟩), (5, ⟨(Yd w c 0).map Qe5, 3, 130, true⟩)]⟩) (fun _ => True) ?_ ?_
  ·skip
   refine Qb fun K hK => Qa Z (QJ Z Z Z Wa (Zt Wa Wa) Z (QA Z Z Z (ZT Z Z (kc4 hK Z Z Z Z ?_))))
   refine Qs Z (fun h2 => ?_) (fun h2 => ?_)
   ·rw [h2]
    simp only [qA] at h2
    refine QN fun K hK => Qa Z (QT Z Z (QK Z Z (CI Z Z (fun _ h => Xt Z Z Z h) Z (.inl Z) Wd Wd Wd (Qa Z (hK _ ?_)))))
    refine Zc () ?_ ?_
    ·exact le_trans (BS (l := [1, 2]) (lH := [2]) 18 5 5 (kp2 rfl rfl) (Qf rfl Qn) rfl rfl rfl rfl rfl rfl rfl) (QW (l := [1, 2, 5]) (lH := [2, 5]) (kp3 rfl rfl rfl) (Qf rfl (Qf rfl Qn)) (by rw [QaM Wa h2] <;> rfl) (by rw [QaM Wa h2] <;> rfl) rfl)
    ·exact trivial
   ·rw [h2]
    simp only [qA] at h2
    refine Qq ?_
    refine Zc () ?_ ?_
    ·exact le_trans (Yn 5 5 3 130 rfl rfl) (QW (l := [1, 2, 5]) (lH := [2, 5]) (kp3 rfl rfl rfl) (Qf rfl (Qf rfl Qn)) (by rw [D4 Wa h2] <;> rfl) (by rw [D4 Wa h2] <;> rfl) rfl)
    ·exact trivial
  intro _ hJ
  refine QB ?_ -- 2
  refine Qb fun K hK => Qa Z (kc4 hK Z Z Z Z ?_)
  refine QC ?_
  refine Zs (ι := Nat) (fun i => ⟨[(1, QS c), (2, .ref 2 0 0), (5, .osl 5 (Yd w c i).length), (6, .int .i64 i)], [(2, ⟨[[.sl ((w).map Z9)]], 1, 26, true⟩), (5, ⟨(Yd w c i).map Qe5, 3, 130, true⟩)]⟩) (fun i => i <= c.length) (fun i => c.length - i) 0 ?_ ?_ ?_
  ·exact QW (l := [1, 2, 5, 6]) (lH := [2, 5]) (kp4 rfl rfl rfl rfl) (Qf rfl (Qf rfl Qn)) rfl rfl rfl
  ·exact QiY _
  intro i hI
  have hlen := Pi hw c i
  have hlen2 := DC hw c i
  refine QB ?_ -- 3
  refine Qb fun K hK => mv2 Z Z (Zd Z QQ (ZT Z Z (kc5 hK Z Z Z Z Z ?_)))
  refine Qs Z (fun h3 => ?_) (fun h3 => ?_)
  ·rw [h3]
   simp only [qA] at h3
   refine Qq (ks4 Z Z Z Z ?_)
   refine QB ?_ -- 4
   refine QC (Qb fun K hK => mv2 Z Z (QJ Z Z Z Wa (Q6 Wa) Z (QA Z Z Z (GQ Z Z (kc5 hK Z Z Z Z Z ?_)))))
   refine Qs Z (fun h4 => ?_) (fun h4 => ?_)
   ·rw [h4]
    simp only [qA] at h4
    refine QN fun K hK => Qa rfl (Qz (cs := [_]) rfl rfl rfl rfl (Qa rfl (Qa rfl (Qv (GV hw hr hch (u := i) Wa Wa h4) rfl rfl (.inl rfl) (XK rfl rfl (fun _ h => Qax (fun r hr => by obtain ⟨f, _, rfl⟩ := Qi0.1 hr; rfl) h) rfl Wd rfl rfl rfl Wf Wf (Qa rfl (hK _ ?_)))))))
    refine Qh (ks4 Z Z Z Z (QN fun K hK => Qa Z (Q2 Z Z Wb (Qa Z (hK _ ?_)))))
    refine Qk (i + 1) ?_ ?_ ?_
    ·exact QW (l := [1, 2, 5, 6]) (lH := [2, 5]) (kp4 rfl rfl rfl rfl) (Qf rfl (Qf rfl Qn)) (by rw [Tx Wa h4, List.length_append, List.length_map] <;> rfl) (by rw [Tx Wa h4, List.map_append] <;> rfl) rfl
    ·omega
    ·omega
   ·rw [h4]
    simp only [qA] at h4
    refine Qq (Qh (ks4 Z Z Z Z (QN fun K hK => Qa Z (Q2 Z Z Wb (Qa Z (hK _ ?_))))))
    refine Qk (i + 1) ?_ ?_ ?_
    ·exact QW (l := [1, 2, 5, 6]) (lH := [2, 5]) (kp4 rfl rfl rfl rfl) (Qf rfl (Qf rfl Qn)) (by rw [Tz Wa h4] <;> rfl) (by rw [Tz Wa h4] <;> rfl) rfl
    ·omega
    ·omega
  ·rw [h3]
   simp only [qA] at h3
   refine Q7 (QF (Qw (QE (ks1 Z (Qb fun K hK => mv2 Z Z (kc1 hK Z ?_))))))
   refine Qo ?_
   exact Gq rfl rfl rfl Wd (by rw [Ph, show c.length = i by omega]; rfl)
theorem Hw {w : Qt} (hw : WSm w) (hr : WIn w) (hv : Qet w) {c : List Int} (hch : ChOk w c) : Ok Tryz.prog 27 [Yg w, QS c] (.bool (decide ((Ph w c).length = 0))) := by
 refine Ok.ofT ZL Tryz.func27 QhH (QiM Z) ?_
 show TW _ _ tf27.body _ _
 refine Qb fun K hK => Zi Z Z Z (Qa Z (kc2 hK Z Z ?_))
 refine Qb fun K hK => Qz (cs := [_]) Z Z Z Z (Qa Z (Qv (Jn hw hv hch) Z Z (.inr Z) (Qa Z ?_)))
 refine Qp (g := 8) Z (fun h1 => ?_) (fun h1 => ?_)
 ·rw [h1]
  simp only [qA] at h1
  refine Qd Z (Qz (cs := [_]) Z Z Z Z (Qd Z (Qa Z (Qd Z (Qv (Hx hw hr hv hch) Z Z (.inl Z) (Qd Z (Zd Z QQ (Qd Z (Yw Z Z (Qg Z Z (Qa Z ?_)))))))))))
  refine kc1 hK Z ?_
  refine Qo (Qi Z ?_)
  simp
 ·rw [h1]
  cases h1
end Go.Proofs
namespace M25
open Go Go.Abs M3
/-! ### Where RO is open and all is clear -/
theorem S8 (w : Qt) (c : List Int) (u : Nat) (ns : List (List WantT)) : ∀ i, i <= ns.length -> (GG w c u ns i = [] ↔ (ns.take i).all (XX w c) = true)
 | 0, _ => by simp [GG]
 | i + 1, h => by
  have ih := S8 w c u ns i Wa
  rw [List.take_succ_eq_append_getElem Wa, List.all_append]
  cases hk : XX w c (ns[i]'Wa) with
  | true => rw [RM Wa hk, ih]; simp [hk]
  | false => rw [RN Wa hk]; simp [hk]
theorem LR (w : Qt) (c : List Int) (u : Nat) (bs : List WantT) : ∀ i, i <= bs.length -> (TB w c u bs i = [] ↔ (bs.take i).any (mtM w c) = false)
 | 0, _ => by simp [TB]
 | i + 1, h => by
  have ih := LR w c u bs i Wa
  rw [List.take_succ_eq_append_getElem Wa, List.any_append]
  cases hk : mtM w c (bs[i]'Wa) with
  | true => rw [TM Wa hk]; simp [hk]
  | false => rw [TN Wa hk, ih]; simp [hk]
theorem DB (w : Qt) (c : List Int) (u : Nat) (x : CandT) : QdP w c u x = [] ↔ (x.ns.all (XX w c) && !XX w c x.bs) = true := by
 rw [QdP, List.append_eq_nil_iff, S8 _ _ _ _ _ (Nat.le_refl _), LR _ _ _ _ _ (Nat.le_refl _), List.take_length, List.take_length, QiQ, Bool.not_eq_true']
 rfl
section
variable {w : Qt} {al c : List Int}
theorem Pj : ∀ i, Yd w c i = [] ↔ (¬ cA c 0 < 0 /\ ∀ j : Nat, j < i -> 0 <= cA c (j : Int) -> QbO w c j = [])
 | 0 => by
  rw [Yd]
  split
  ·rename_i h; simp [h]
  ·rename_i h; simp [h]
 | i + 1 => by
  have ih := Pj i
  rw [Yd, List.append_eq_nil_iff, ih]
  constructor
  ·rintro ⟨⟨h1, h2⟩, h3⟩
   refine ⟨h1, fun j hj h => ?_⟩
   by_cases e : j = i
   ·subst e; rw [if_pos h] at h3; exact h3
   ·exact h2 j Wa h
  ·rintro ⟨h1, h2⟩
   refine ⟨⟨h1, fun j hj => h2 j Wa⟩, ?_⟩
   split
   ·rename_i h; exact h2 i Wa h
   ·rfl
theorem SK (hw : WSm w) (hch : ChOk w c) (h0 : 0 < w.length) : Qdz w c = true ↔ (0 <= c[0]'(by rw [hch.len]; exact h0) /\ ∀ u (hu : u < w.length) (hc : u < c.length), 0 <= c[u] -> ∀ hp : c[u].toNat < w[u].cs.length, (w[u].cs[c[u].toNat].ns.all (XX w c) && !XX w c w[u].cs[c[u].toNat].bs) = true) := by
 have hc0 : 0 < c.length := by rw [hch.len]; exact h0
 have e0 : cA c 0 = c[0] := Mn (u := 0) hc0
 rw [Qdz, QiQ, decide_eq_true_eq, e0, QiW]
 refine and_congr_right fun _ => ⟨fun h u hu hc hcu hp => ?_, fun h u hu => ?_⟩
 ·have := h u (Qi9.2 hu)
  rw [Bs hu hc Wa hp] at this; exact this
 ·have hu := Qi9.1 hu
  have hc : u < c.length := by rw [hch.len]; exact hu
  by_cases hcu : c[u] < 0
  ·exact Bt hc hcu
  ·have hp := Tv (hch.bd u hu hc).2 Wa
   rw [Bs hu hc hcu hp]; exact h u hu hc Wa hp
theorem CA (hw : WSm w) (hch : ChOk w c) (h0 : 0 < w.length) : decide ((Ph w c).length = 0) = Qdz w c := by
 have hc0 : 0 < c.length := by rw [hch.len]; exact h0
 have e0 : cA c 0 = c[0] := Mn (u := 0) hc0
 rw [Bool.eq_iff_iff, decide_eq_true_eq, List.length_eq_zero_iff, Ph, Pj, SK hw hch h0, e0]
 refine and_congr Wa ⟨fun h u hu hc hcu hp => ?_, fun h j hj hcj => ?_⟩
 ·have := h u hc (by rw [Mn hc]; exact hcu)
  rw [Ln hu hc hp, DB] at this; exact this
 ·rw [Mn hj] at hcj
  have hu : j < w.length := by rw [<- hch.len]; exact hj
  have hp := Tv (hch.bd j hu hj).2 hcj
  rw [Ln hu hj hp, DB]; exact h j hu hj hcj hp
theorem Cd (hw : WSm w) (hch : ChOk w c) (hal : al = [] \/ al.length = w.length) : JN w al c = true ↔ ∀ u (hu : u < w.length) (hc : u < c.length), alM al u (2 ^ (c[u] + 1).toNat) = true := by
 constructor
 ·intro ha u hu hc
  have h16 := hw.cs _ (QiR hu)
  have hb := hch.bd u hu hc
  rw [CT Wa]
  rcases CX hw hch hal ha hu hc with rfl | ⟨hl, ht⟩
  ·simp
  ·rw [List.getElem?_eq_getElem hl]; simp [ht]
 ·intro h
  by_cases he : al = []
  ·subst he; simp [JN]
  ·have hl : al.length = w.length := hal.resolve_left he
   rw [JN, decide_eq_false he, Bool.false_or, QiW]
   intro u hu
   have hc := Qi9.1 hu
   have huw : u < w.length := by rw [<- hch.len]; exact hc
   have h16 := hw.cs _ (QiR huw)
   have hb := hch.bd u huw hc
   have := h u huw hc
   rw [CT Wa, decide_eq_false he, Bool.false_or, List.getElem?_eq_getElem Wa] at this
   simp only at this
   rw [Nt, XR Wa Wa Wa Ws Ws, Sw]
   simp only [Int.toNat_natCast, Bool.not_eq_true', decide_eq_false_iff_not]
   have e : SZ al (u : Int) = al[u]'Wa := by
    simp only [SZ]
    first | (rw [if_neg Wa, Int.toNat_natCast, List.getElem?_eq_getElem Wa]; rfl) | (simp [List.getElem?_eq_getElem (Wa : u < al.length)]; omega) | (simp [List.getD_eq_getElem?_getD, List.getElem?_eq_getElem (Wa : u < al.length)]) | skip
   rw [e, JP Wa, this]; simp
theorem DD (hw : WSm w) (hch : ChOk w c) (h0 : 0 < w.length) : (XS w al c).1 < 0 ↔ (0 <= c[0]'(by rw [hch.len]; exact h0) /\ (∀ j, j < w.length -> Xj w al c j = false) /\ ∀ j, j < w.length -> Xv w c j = false) := by
 have hc0 : 0 < c.length := by rw [hch.len]; exact h0
 constructor
 ·intro h
  have hn : ¬ c[0] < 0 := fun hc => by rw [QdQ hw hch hc0 hc] at h; exact absurd h Wg
  rcases HG w.length (Xj w al c) with ⟨_, hf⟩ | ⟨i, _, hi, hp, hno⟩
  ·rcases HG w.length (Xv w c) with ⟨_, hu⟩ | ⟨i, _, hi, hp, hno⟩
   ·exact ⟨Wa, hf, hu⟩
   ·have hp2 := of_decide_eq_true hp
    rw [QdS (k := (Hd w c i).toNat) hw hch hc0 hn hf hi Wa hno] at h
    simp only at h; omega
  ·rw [QdR hw hch hc0 hn hi hp hno] at h; simp only at h; omega
 ·rintro ⟨h1, h2, h3⟩
  rw [Qae hw hch hc0 Wa h2 h3]; show (-1 : Int) < 0; decide
theorem Qac (hw : WSm w) (hch : ChOk w c) (h0 : 0 < w.length) (h : (XS w al c).1 < 0) : XS w al c = (-1, -1) := by
 have hc0 : 0 < c.length := by rw [hch.len]; exact h0
 obtain ⟨h1, h2, h3⟩ := (DD hw hch h0).1 h
 exact Qae hw hch hc0 Wa h2 h3
theorem Ra (hw : WSm w) (hch : ChOk w c) {u : Nat} (hu : u < w.length) (hc : u < c.length) : Xv w c u = false ↔ (0 <= c[u] -> ∀ hp : c[u].toNat < w[u].cs.length, w[u].cs[c[u].toNat].ns.all (XX w c) = true) := by
 by_cases h : 0 <= c[u]
 ·have hp := Tv (hch.bd u hu hc).2 h
  rw [Xv, QbL hw hch hu hc h hp, decide_eq_false_iff_not]
  constructor
  ·intro hn _ _
   rw [QiW]
   intro r hr
   obtain ⟨k, hk, rfl⟩ := Qi8 hr
   rcases HG w[u].cs[c[u].toNat].ns.length (S9 w c w[u].cs[c[u].toNat].ns) with ⟨_, hno⟩ | ⟨k2, e, _⟩
   ·have := hno k hk
    rw [N2 hk, Bool.not_eq_false'] at this; exact this
   ·rw [e] at hn; omega
  ·intro ha
   have ha := QiW.1 (ha h hp)
   rw [L4 fun j hj => by rw [N2 hj, ha _ (QiR hj)]; rfl]
   omega
 ·rw [Xv, QbM hw hch hu hc Wa]
  simp [h]
theorem Qdv (hw : WSm w) (hch : ChOk w c) (h0 : 0 < w.length) (hal : al = [] \/ al.length = w.length) : (decide ((XS w al c).1 < 0) && PL w al c) = (decide ((Ph w c).length = 0) && JN w al c) := by
 rw [CA hw hch h0, Bool.eq_iff_iff, QiQ, QiQ, decide_eq_true_eq, DD hw hch h0, SK hw hch h0, Cd hw hch hal, PL, QiW]
 have hcl := hch.len
 constructor
 ·rintro ⟨⟨h1, h2, h3⟩, h4⟩
  refine ⟨⟨h1, fun u hu hc hcu hp => ?_⟩, fun u hu hc => ?_⟩
  ·have q1 := (Ra hw hch hu hc).1 (h3 u hu) hcu hp
   have q2 := h4 u (Qi9.2 hu)
   rw [Mv hw hch hu hc hcu hp, QiQ] at q2
   rw [q1, q2.2]; rfl
  ·by_cases hcu : 0 <= c[u]
   ·have hp := Tv (hch.bd u hu hc).2 hcu
    have q2 := h4 u (Qi9.2 hu)
    rw [Mv hw hch hu hc hcu hp, QiQ] at q2
    exact q2.1
   ·have hb := hch.bd u hu hc
    have q := h2 u hu
    rw [L5 hw hch hu, decide_eq_true Wa, Bool.true_and, Bool.not_eq_false'] at q
    rw [show (c[u] + 1).toNat = 0 by omega]; exact q
 ·rintro ⟨⟨h1, h2⟩, h3⟩
  refine ⟨⟨h1, fun u hu => ?_, fun u hu => ?_⟩, fun u hu => ?_⟩
  ·have hc : u < c.length := Wa
   rw [L5 hw hch hu]
   by_cases hcu : c[u] < 0
   ·have hb := hch.bd u hu hc
    have q := h3 u hu hc
    rw [show (c[u] + 1).toNat = 0 by omega] at q
    rw [show alM al u 1 = true from q, Bool.not_true, Bool.and_false]
   ·rw [decide_eq_false hcu]; rfl
  ·have hc : u < c.length := Wa
   refine (Ra hw hch hu hc).2 fun hcu hp => ?_
   have := h2 u hu hc hcu hp
   rw [QiQ] at this; exact this.1
  ·have hu := Qi9.1 hu
   have hc : u < c.length := Wa
   by_cases hcu : 0 <= c[u]
   ·have hp := Tv (hch.bd u hu hc).2 hcu
    have q := h2 u hu hc hcu hp
    rw [QiQ] at q
    rw [Mv hw hch hu hc hcu hp, h3 u hu hc, q.2]; rfl
   ·exact T1 hw hch hu hc hcu
end
end M25
namespace M25
open Go Go.Abs M3
/-! ### A made world may be -/
abbrev QeP := List UInt8 × List UInt8 × List Vr
theorem UL.first {b : Nat} {l : List QeP} (h : UL b l) : l[0]? = some ([], [], [v0]) := by
 induction h with
 | base => rfl
 | snoc h _ _ _ _ ih => rw [List.getElem?_append_left h.pos]; exact ih
 | up _ _ ih => exact ih
def okR (b : Nat) (s : QeP) : Prop := ∃ r, r < b /\ r < 10 /\ s.1 = nmR r /\ s.2.1 = ftR r /\ s.2.2.Sublist versions
theorem UL.rank {b : Nat} {l : List QeP} (h : UL b l) : ∀ i (hi : i < l.length), 1 <= i -> okR b l[i] := by
 induction h with
 | base => intro i hi h1; simp at hi; omega
 | @snoc b r l vs h hb hr hf hc ih =>
  intro i hi h1
  rw [List.length_append, List.length_singleton] at hi
  by_cases e : i < l.length
  ·rw [List.getElem_append_left e]
   obtain ⟨q, q1, q2⟩ := ih i e h1
   exact ⟨q, Wa, q2⟩
  ·have : i = l.length := Wa
   subst this
   rw [List.getElem_append_right (Nat.le_refl _)]
   simp only [Nat.sub_self, List.getElem_cons_zero]
   exact ⟨r, Wa, hr, rfl, rfl, hc⟩
 | up h hb ih =>
  intro i hi h1
  obtain ⟨q, q1, q2⟩ := ih i hi h1
  exact ⟨q, Wa, q2⟩
def Qcp (a b : QeP) : Bool := Op.bytesLess a.1 b.1 || (decide (a.1 = b.1) && Op.bytesLess a.2.1 b.2.1)
theorem Cs : ∀ r r' : Fin 10, r.1 < r'.1 -> (Op.bytesLess (nmR r.1) (nmR r'.1) || (decide (nmR r.1 = nmR r'.1) && Op.bytesLess (ftR r.1) (ftR r'.1))) = true := by decide +kernel
theorem Qam : ∀ r : Fin 10, nmR r.1 ≠ [] := by decide +kernel
theorem UL.asc {b : Nat} {l : List QeP} (h : UL b l) : ∀ i (hi : i < l.length), 1 < i -> Qcp (l[i - 1]'Wa) l[i] = true := by
 induction h with
 | base => intro i hi h1; simp at hi; omega
 | @snoc b r l vs h hb hr hf hc ih =>
  intro i hi h1
  have hi' := hi
  rw [List.length_append, List.length_singleton] at hi
  by_cases e : i < l.length
  ·have := ih i e h1
   rw [List.getElem_append_left e, List.getElem_append_left Wa]; exact this
  ·have : i = l.length := Wa
   subst this
   rw [List.getElem_append_right (Nat.le_refl _), List.getElem_append_left Wa]
   simp only [Nat.sub_self, List.getElem_cons_zero]
   obtain ⟨q, q1, q2, e1, e2, _⟩ := h.rank (l.length - 1) Wa Wa
   simp only [Qcp]
   rw [e1, e2]
   exact Cs ⟨q, q2⟩ ⟨r, hr⟩ (by show q < r; omega)
 | up _ _ ih => exact ih
theorem ver_pairs : versions.Pairwise (fun a b => Qhl a b < 0) := by decide +kernel
theorem WMade.val {w : Qt} (h : WMade w) : Qet w := by
 obtain ⟨b, hb⟩ := h.ul
 have hl := h.len
 have hr : ∀ i (hi : i < w.length), 1 <= i -> okR b (Qd9 w[i]) := fun i hi h1 => by
  have := hb.rank i (by simpa using hi) h1
  rwa [List.getElem_map] at this
 have hvs : ∀ u ∈ w, VsL (u.cs.map CandT.v) := fun u hu => hb.vs (Qd9 u) (Qi0.2 ⟨u, hu, rfl⟩)
 refine ⟨⟨Wa, Wa⟩, fun u hu => Qi5 (h.cs u hu) Wa, fun h0 => ?_, fun i hi h1 => ?_, fun i hi h1 => ?_, fun u hu c hc => ?_, fun u hu k hk h1 => ?_⟩
 ·have := hb.first
  rw [List.getElem?_map, List.getElem?_eq_getElem h0, Option.map_some, QiP] at this
  simp only [Qd9, Prod.mk.injEq] at this
  have e := congrArg List.length this.2.2
  rw [List.length_map] at e
  exact ⟨this.1, this.2.1, e⟩
 ·obtain ⟨r, _, r10, e, _⟩ := hr i hi h1
  rw [show w[i].n = nmR r from e]; exact Qam ⟨r, r10⟩
 ·have := hb.asc i (by simpa using hi) h1
  simp only [List.getElem_map] at this
  exact this
 ·have hi := h.cand u hu c hc
  have hv := (hvs u hu).ex (Qi0.2 ⟨c, hc, rfl⟩)
  have hw : ∀ x, QaY w.length x -> CO w.length x := fun x hx => ⟨⟨hx.1, hx.2.1⟩, hx.2.2.sm, hx.2.2.2⟩
  exact ⟨hi.v, hv.2, Qi5 hi.nl Wa, Qi5 hi.bl Wa, fun r hr => ⟨⟨(hi.nr r hr).1.1, Qi5 (hi.nr r hr).1.2 Wa⟩, fun x hx => hw x ((hi.nr r hr).2 x hx)⟩, fun x hx => hw x (hi.bw x hx)⟩
 ·rcases hvs u hu with hs | hs
  ·have hp := ver_pairs.sublist hs
   have := List.pairwise_iff_getElem.1 hp (k - 1) k Wf (by simpa using hk) Wa
   simpa using this
  ·have := congrArg List.length hs
   simp at this; omega
end M25
namespace Go.Proofs
open Go Go.Abs M3 M25
theorem c_linchpinlaw27_PickEnds {ws vs : List Int} (hws : ∀ x ∈ ws, I64 x) (hvs : ∀ x ∈ vs, I64 x) {n : Int} (hn : I64 n) : Ok Tryz.prog 5 [QS ws, QS vs, .int .i64 n, gD] (.bool true) := by
 refine Ok.ofTG (ds := [QS ws, QS vs, .int .i64 n]) (dg := gD) ZL Tryz.func5 tp5 (QiM Z) ?_
 show TW _ _ tf5.body _ _
 refine Qb fun K hK => Qa Z (kc4 hK Z Z Z Z ?_)
 refine QB ?_ -- 0
 refine Qb fun K hK => Qa Z (Zd Z QQ (Kr Z Z (kc5 hK Z Z Z Z Z ?_)))
 refine Qs Z (fun h1 => ?_) (fun h1 => ?_)
 ·rw [h1]
  simp only [qA, Zp] at h1
  refine Qb fun K hK => Qv (ZV) Z Z (.inl Z) (Qa Z (kc1 hK Z ?_))
  refine Qo (Qj (Qi Z ?_))
  rfl
 ·rw [h1]
  simp only [qA, Zp] at h1
  refine Qq (ks4 Z Z Z Z (Qb fun K hK => Qa Z ?_))
  obtain ⟨d0, ⟨w, hwm, rfl⟩, hc0⟩ := Gv (ws := ws) hws (most := 4) Wg Wg
  have hw := hwm.sm
  have hr := hwm.win
  have hv := hwm.val
  have hwl := hw.len
  have hwl2 := hwm.len
  have h0 : 0 < w.length := Wa
  have hz := Qea hw
  have hp0 := Dp (v := n) (n := Lk w)
  have hp1 := Do (v := n) (n := Lk w) Wa
  have hcA := Gu hw (l := vs) hvs
  have hcC := Hs hw hp0 Wa
  have hch := Ba (w := w) hp0
  obtain ⟨al, hal⟩ : ∃ al, FE w vs = al := ⟨_, rfl⟩
  obtain ⟨c, hcE⟩ : ∃ c, RJ w (mPl n (Lk w)) = c := ⟨_, rfl⟩
  rw [hal] at hcA
  rw [hcE] at hcC hch
  have hall := CW w vs
  rw [hal] at hall
  have hcl := hch.len
  have heq := Qdv hw hch h0 hall
  have hn2 := Qac (al := al) hw hch h0
  have hcO := KM hw h0 (al := al) (c := c)
  have hcM := Nu hw (al := al) (c := c)
  have hcH := Hw hw hr hv hch
  have hcD := Hf hw (al := al) (c := c) Wa
  obtain ⟨oa, ob, hO⟩ : ∃ a b, XS w al c = (a, b) := ⟨(XS w al c).1, (XS w al c).2, rfl⟩
  simp only [hO, Prod.mk.injEq] at hcO heq hn2
  obtain ⟨cb, hcb⟩ : ∃ cb, PL w al c = cb := ⟨_, rfl⟩
  rw [hcb] at hcM heq
  obtain ⟨fh, hfh⟩ : ∃ fh, decide ((Ph w c).length = 0) = fh := ⟨_, rfl⟩
  rw [hfh] at hcH heq
  obtain ⟨ab, hab⟩ : ∃ ab, JN w al c = ab := ⟨_, rfl⟩
  rw [hab] at hcD heq
  refine Qv (hc0) Z Z (.inl Z) (Zz Z (QZ Z Z Z Z Z Z Z Z (kc4 hK Z Z Z Z ?_)))
  refine Qb fun K hK => Qz (cs := [_]) Z Z Z Z (Qa Z (Qv (hcA) Z Z (.inl Z) (Qa Z (kc4 hK Z Z Z Z ?_))))
  refine Qb fun K hK => QL (ds0 := [1, 0]) (cs := [_]) Z Z Z Z Z Z (Qa Z (QL (ds0 := [3, 2, 1, 0]) (cs := [_]) Z Z Z Z Z Z (Q5 (ds0 := [2, 1, 0]) (GS hw) Z Z (.inr Z) Z Z (Q5 (ds0 := [1, 0]) (Y3 Wa hn) Z Z (.inr Z) Z Z (Q5 (ds0 := [0]) (hcC) Z Z (.inl Z) Z Z (Qa Z (kc4 hK Z Z Z Z ?_)))))))
  refine Qb fun K hK => Qz (cs := [_]) Z Z Z Z (mv2 Z Z (Qv (hcO) Z Z (.inl Z) (Qa Z (Q0 Z Z (Q0 Z Z (mv2 Z Z (kc6 hK Z Z Z Z Z Z ?_)))))))
  refine Qb fun K hK => Qa Z (ZT Z Z (Qa Z ?_))
  refine Qp (g := 37) Z (fun h2 => ?_) (fun h2 => ?_)
  ·rw [h2]
   simp only [qA, Zp] at h2
   refine Qd Z (Qz (cs := [_]) Z Z Z Z (Qd Z (Qa Z (Qd Z (Qa Z (Qd Z (Qv (hcM) Z Z (.inr Z) (Qg Z Z (Qa Z (kc7 hK Z Z Z Z Z Z Z ?_))))))))))
   refine Qb fun K hK => Qa Z (Qz (cs := [_]) Z Z Z Z (Qa Z (Qv (hcH) Z Z (.inr Z) (Qa Z ?_))))
   refine Qp (g := 47) Z (fun h3 => ?_) (fun h3 => ?_)
   ·rw [h3]
    refine Qd Z (Qz (cs := [_]) Z Z Z Z (Qd Z (Qa Z (Qd Z (Qa Z (Qd Z (Qv (hcD) Z Z (.inr Z) (Qg Z Z (Ca Z Z (Qa Z ?_))))))))))
    refine Qp (g := 54) Z (fun h4 => ?_) (fun h4 => ?_)
    ·rw [h4]
     simp only [qA, Zp] at h4
     refine Qd Z (Qa Z (Qd Z (GQ Z Z (Qd Z (Qa Z ?_)))))
     refine Qp (g := 57) Z (fun h5 => ?_) (fun h5 => ?_)
     ·rw [h5]
      simp only [qA, Zp] at h5
      exfalso; omega
     ·rw [h5]
      simp only [qA, Zp] at h5
      refine Qd Z (Qa Z (Qd Z (Yw Z Z (Qd Z (Qg Z Z (Qg Z Z (Qa Z ?_)))))))
      refine Qp (g := 62) Z (fun h6 => ?_) (fun h6 => ?_)
      ·rw [h6]
       simp only [qA, Zp] at h6
       refine Qd Z (Qv (ZV) Z Z (.inl Z) (Qg Z Z (Qa Z (kc1 hK Z ?_))))
       refine Qo (Qi Z ?_)
       rfl
      ·rw [h6]
       simp only [qA, Zp] at h6
       exact absurd (hn2 h2).2 h6
    ·rw [h4]
     simp only [qA, Zp] at h4
     rw [decide_eq_true h2, h3, Bool.true_and, Bool.true_and] at heq; first | exact absurd heq h4 | (rw [heq] at h4; simp at h4)
   ·rw [h3]
    refine gn4 Z Z Z Z (Qg Z Z (Ca Z Z (Qa Z ?_)))
    refine Qp (g := 54) Z (fun h7 => ?_) (fun h7 => ?_)
    ·rw [h7]
     simp only [qA, Zp] at h7
     refine Qd Z (Qa Z (Qd Z (GQ Z Z (Qd Z (Qa Z ?_)))))
     refine Qp (g := 57) Z (fun h8 => ?_) (fun h8 => ?_)
     ·rw [h8]
      simp only [qA, Zp] at h8
      exfalso; omega
     ·rw [h8]
      simp only [qA, Zp] at h8
      refine Qd Z (Qa Z (Qd Z (Yw Z Z (Qd Z (Qg Z Z (Qg Z Z (Qa Z ?_)))))))
      refine Qp (g := 62) Z (fun h9 => ?_) (fun h9 => ?_)
      ·rw [h9]
       simp only [qA, Zp] at h9
       refine Qd Z (Qv (ZV) Z Z (.inl Z) (Qg Z Z (Qa Z (kc1 hK Z ?_))))
       refine Qo (Qi Z ?_)
       rfl
      ·rw [h9]
       simp only [qA, Zp] at h9
       exact absurd (hn2 h2).2 h9
    ·rw [h7]
     simp only [qA, Zp] at h7
     rw [decide_eq_true h2, h3, Bool.true_and, Bool.false_and] at heq; first | exact absurd heq h7 | (rw [heq] at h7; simp at h7)
  ·rw [h2]
   simp only [qA, Zp] at h2
   refine gn4 Z Z Z Z (Qg Z Z (Qa Z (kc7 hK Z Z Z Z Z Z Z ?_)))
   refine Qb fun K hK => Qa Z (Qz (cs := [_]) Z Z Z Z (Qa Z (Qv (hcH) Z Z (.inr Z) (Qa Z ?_))))
   refine Qp (g := 47) Z (fun h10 => ?_) (fun h10 => ?_)
   ·rw [h10]
    refine Qd Z (Qz (cs := [_]) Z Z Z Z (Qd Z (Qa Z (Qd Z (Qa Z (Qd Z (Qv (hcD) Z Z (.inr Z) (Qg Z Z (Ca Z Z (Qa Z ?_))))))))))
    refine Qp (g := 54) Z (fun h11 => ?_) (fun h11 => ?_)
    ·rw [h11]
     simp only [qA, Zp] at h11
     refine Qd Z (Qa Z (Qd Z (GQ Z Z (Qd Z (Qa Z ?_)))))
     refine Qp (g := 57) Z (fun h12 => ?_) (fun h12 => ?_)
     ·rw [h12]
      simp only [qA, Zp] at h12
      refine gn2 Z Z (Qd Z (Qg Z Z (Qg Z Z (Qa Z (Qd Z (Qv (ZV) Z Z (.inl Z) (Qg Z Z (Qa Z (kc1 hK Z ?_)))))))))
      refine Qo (Qi Z ?_)
      rfl
     ·rw [h12]
      simp only [qA, Zp] at h12
      exfalso; omega
    ·rw [h11]
     simp only [qA, Zp] at h11
     rw [decide_eq_false h2, h10, Bool.false_and, Bool.true_and] at heq; first | exact absurd heq h11 | (rw [<- heq] at h11; simp at h11)
   ·rw [h10]
    refine gn4 Z Z Z Z (Qg Z Z (Ca Z Z (Qa Z ?_)))
    refine Qp (g := 54) Z (fun h13 => ?_) (fun h13 => ?_)
    ·rw [h13]
     simp only [qA, Zp] at h13
     refine Qd Z (Qa Z (Qd Z (GQ Z Z (Qd Z (Qa Z ?_)))))
     refine Qp (g := 57) Z (fun h14 => ?_) (fun h14 => ?_)
     ·rw [h14]
      simp only [qA, Zp] at h14
      refine gn2 Z Z (Qd Z (Qg Z Z (Qg Z Z (Qa Z (Qd Z (Qv (ZV) Z Z (.inl Z) (Qg Z Z (Qa Z (kc1 hK Z ?_)))))))))
      refine Qo (Qi Z ?_)
      rfl
     ·rw [h14]
      simp only [qA, Zp] at h14
      exfalso; omega
    ·rw [h13]
     simp only [qA, Zp] at h13
     simp at h13
end Go.Proofs
