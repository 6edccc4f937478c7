/- Part 4 of the means of the proof: a verified abstract evaluator, the prepared functions, and contracts of functions. It states nothing of the claim by itself. -/
import Derived.Test.YtmlclkgmdndcdaaB3
set_option linter.unusedSimpArgs false
set_option linter.unusedVariables false
namespace Go.Proofs
open Go Go.Abs M3 M25
set_option linter.unusedVariables false
set_option linter.unusedSimpArgs false
theorem YW {s : List (Cu × Cu) × List (Cu × Cu)} (h1s : Sm s.1) (h2s : Sm s.2) : Ok Try.prog 70 [QgE s] (.bool (QeA s)) := by
 refine Ok.ofT Yb Try.func70 Qqj (Nat.le_of_ble_eq_true rfl) ?_
 show TW _ _ tf70.body _ _
 have hn := h1s.1
 refine Qe fun K hK => ZV rfl rfl rfl (Qa rfl ?_)
 refine hK _ _ (Qb (kp1 rfl) ?_)
 refine QH ?_ -- 0
 refine Qe fun K hK => Qi rfl rfl (QC rfl rfl rfl (QA (Z2 h1s) rfl rfl (.inr rfl) (Yo rfl (Qa rfl ?_))))
 refine Qx (g := 8) rfl (fun h1 => ?_) (fun h1 => ?_)
 ·try rw [h1]
  try simp only [qa, qb, qc, qd, qe, List.length_map] at h1
  refine Qm rfl (Qm rfl (Qm rfl (Qm rfl (Qj rfl rfl ?_))))
  refine hK _ _ (Qb (kp2 rfl rfl) ?_)
  refine Zz rfl (Qe fun K hK => Qa rfl ?_)
  refine hK _ _ (Qb (kp1 rfl) ?_)
  refine Qt (Qk (Qn rfl ?_))
  first
   | exact (QcG (i := i) h1 h2 (by omega) hI.2).symm
   | exact (Qae (i := i) (by omega) (.inl h4)).symm
   | exact (Qae (i := i) (by omega) (.inr h5)).symm
   | exact (Qaf (.inl h1)).symm
   | exact (Qaf (.inr h2)).symm
 ·try rw [h1]
  try simp only [qa, qb, qc, qd, qe, List.length_map] at h1
  refine Qf rfl (Qi rfl rfl (Qf rfl (QC rfl rfl rfl (Qf rfl (QA (Z2 h2s) rfl rfl (.inr rfl) (Qf rfl (Yo rfl (Qj rfl rfl ?_))))))))
  refine hK _ _ (Qb (kp2 rfl rfl) ?_)
  refine QB rfl (fun h2 => ?_) (fun h2 => ?_)
  ·try rw [h2]
   try simp only [qa, qb, qc, qd, qe, List.length_map] at h2
   refine Qe fun K hK => Qa rfl ?_
   refine hK _ _ (Qb (kp1 rfl) ?_)
   refine Qt (Qk (Qn rfl ?_))
   first
    | exact (QcG (i := i) h1 h2 (by omega) hI.2).symm
    | exact (Qae (i := i) (by omega) (.inl h4)).symm
    | exact (Qae (i := i) (by omega) (.inr h5)).symm
    | exact (Qaf (.inl h1)).symm
    | exact (Qaf (.inr h2)).symm
  ·try rw [h2]
   try simp only [qa, qb, qc, qd, qe, List.length_map] at h2
   refine Qz (Qd (kp1 rfl) ?_)
   refine QH ?_ -- 1
   refine Qe fun K hK => Qa rfl ?_
   refine hK _ _ (Qb (kp2 rfl rfl) ?_)
   refine QK ?_
   refine Z6 (ι := Nat) (fun i => ⟨[(1, .ref 1 0 0), (3, .int .i64 i)], [(1, ⟨[[ZD s.1, ZD s.2]], 2, 67, true⟩)]⟩) (fun i => i <= s.1.length /\ (s.1.take i).all (fun x => QaU x.1 && QaU x.2) = true) (fun i => s.1.length - i) 0 ?_ ?_ ?_
   ·exact ZC (l := [1, 3]) (lH := [1]) (kp2 rfl rfl) (Qq rfl Qy) rfl rfl rfl
   ·exact ⟨Nat.zero_le _, by simp⟩
   intro i hI
   try dsimp only
   refine QH ?_ -- 2
   refine Qe fun K hK => Qa rfl (Qi rfl rfl (QC rfl rfl rfl (Q4 rfl rfl (Y4 rfl rfl ?_))))
   refine hK _ _ (Qb (kp3 rfl rfl rfl) ?_)
   refine QB rfl (fun h3 => ?_) (fun h3 => ?_)
   ·try rw [h3]
    try simp only [qa, qb, qc, qd, qe, List.length_map] at h3
    refine Qz (Qd (kp2 rfl rfl) ?_)
    refine QH ?_ -- 3
    refine QK (Qe fun K hK => Qi rfl rfl (QC rfl rfl rfl (Qa rfl (QO rfl rfl rfl (by omega) (Zt (by omega)) rfl (ZK rfl rfl (QF (cs := [_, _, _, _, _, _, _]) rfl rfl rfl rfl (QA (Xv) rfl rfl (.inr rfl) (Yo rfl (Qa rfl ?_)))))))))
    refine Qx (g := 29) rfl (fun h4 => ?_) (fun h4 => ?_)
    ·try rw [h4]
     try simp only [qa, qb, qc, qd, qe, List.length_map] at h4
     refine Qm rfl (Qm rfl (Qm rfl (Qm rfl (Qm rfl (Qm rfl (Qm rfl (Qm rfl (Qj rfl rfl ?_))))))))
     refine hK _ _ (Qb (kp3 rfl rfl rfl) ?_)
     refine Zz rfl (Qe fun K hK => Qa rfl ?_)
     refine hK _ _ (Qb (kp1 rfl) ?_)
     refine Qt (Qu (Qk (Zn (Qu (Qk (Qn rfl ?_))))))
     first
      | exact (QcG (i := i) h1 h2 (by omega) hI.2).symm
      | exact (Qae (i := i) (by omega) (.inl h4)).symm
      | exact (Qae (i := i) (by omega) (.inr h5)).symm
      | exact (Qaf (.inl h1)).symm
      | exact (Qaf (.inr h2)).symm
    ·try rw [h4]
     try simp only [qa, qb, qc, qd, qe, List.length_map] at h4
     refine Qf rfl (Qi rfl rfl (Qf rfl (QC rfl rfl rfl (Qf rfl (Qa rfl (Qf rfl (QO rfl rfl rfl (by omega) (Zt (by omega)) rfl (Qf rfl (ZK rfl rfl (Qf rfl (QF (cs := [_, _, _, _, _, _, _]) rfl rfl rfl rfl ?_)))))))))))
     refine Qf rfl (QA (Xv) rfl rfl (.inr rfl) (Qf rfl (Yo rfl (Qj rfl rfl ?_))))
     refine hK _ _ (Qb (kp3 rfl rfl rfl) ?_)
     refine QB rfl (fun h5 => ?_) (fun h5 => ?_)
     ·try rw [h5]
      try simp only [qa, qb, qc, qd, qe, List.length_map] at h5
      refine Qe fun K hK => Qa rfl ?_
      refine hK _ _ (Qb (kp1 rfl) ?_)
      refine Qt (Qu (Qk (Zn (Qu (Qk (Qn rfl ?_))))))
      first
       | exact (QcG (i := i) h1 h2 (by omega) hI.2).symm
       | exact (Qae (i := i) (by omega) (.inl h4)).symm
       | exact (Qae (i := i) (by omega) (.inr h5)).symm
       | exact (Qaf (.inl h1)).symm
       | exact (Qaf (.inr h2)).symm
     ·try rw [h5]
      try simp only [qa, qb, qc, qd, qe, List.length_map] at h5
      refine Qz (Ql (Qd (kp2 rfl rfl) (Q8 fun K hK => Qa rfl (Q9 rfl rfl (by first | exact Qp (by omega) (by omega) | rfl) (Qa rfl (hK _ ?_))))))
      refine Qo (i + 1) ?_ ?_ ?_
      ·exact ZC (l := [1, 3]) (lH := [1]) (kp2 rfl rfl) (Qq rfl Qy) rfl rfl rfl
      ·exact ⟨by omega, Ym (by omega) hI.2 (by rw [show QaU s.1[i].1 = true from h4, show QaU s.1[i].2 = true from h5]; rfl)⟩
      ·first | omega | (simp only; omega) | (dsimp only; omega)
   ·try rw [h3]
    try simp only [qa, qb, qc, qd, qe, List.length_map] at h3
    refine Z0 (Za (QI (QQ (Qd (QX) (Qe fun K hK => Qa rfl ?_)))))
    refine hK _ _ (Qb (kp1 rfl) ?_)
    refine Qt (Qn rfl ?_)
    first
     | exact (QcG (i := i) h1 h2 (by omega) hI.2).symm
     | exact (Qae (i := i) (by omega) (.inl h4)).symm
     | exact (Qae (i := i) (by omega) (.inr h5)).symm
     | exact (Qaf (.inl h1)).symm
     | exact (Qaf (.inr h2)).symm
end Go.Proofs
namespace Go.Proofs
open Go Go.Abs M3 M25
set_option linter.unusedVariables false
set_option linter.unusedSimpArgs false
theorem X0 {l : List Cu} {c : Cu} (hl : l.length <= 3000000) (hs : ∀ x ∈ l, Cu.sm x) (hc : Cu.sm c) : Ok Try.prog 83 [QfV l, .agg (dCu c)] (QfV (Qbj l c)) := by
 refine Ok.ofT Yb Try.func83 Qqw (Nat.le_of_ble_eq_true rfl) ?_
 show TW _ _ tf83.body _ _
 refine Qe fun K hK => ZV rfl rfl rfl (Qa rfl ?_)
 refine hK _ _ (Qb (kp2 rfl rfl) ?_)
 refine Qe fun K hK => Qa rfl ?_
 refine hK _ _ (Qb (kp3 rfl rfl rfl) ?_)
 refine QH ?_ -- 0
 refine QK ?_
 refine Z6 (ι := Nat) (fun k => ⟨[(0, QfV l), (3, .ref 3 0 0), (5, .int .i64 k)], [(3, ⟨[dCu c], 7, 87, true⟩)]⟩) (fun k => k <= l.length /\ Qbj l c = l.take k ++ Qbj (l.drop k) c) (fun k => l.length - k) 0 ?_ ?_ ?_
 ·exact ZC (l := [0, 3, 5]) (lH := [3]) (kp3 rfl rfl rfl) (Qq rfl Qy) rfl rfl rfl
 ·exact ⟨Nat.zero_le _, by simp⟩
 intro k hI
 try dsimp only
 refine QH ?_ -- 1
 refine Qe fun K hK => Qa rfl (Qa rfl (Q4 rfl rfl (Y4 rfl rfl (Qa rfl ?_))))
 refine Qx (g := 10) rfl (fun h1 => ?_) (fun h1 => ?_)
 ·try rw [h1]
  try simp only [qa, qb, qc, qd, qe, List.length_map] at h1
  refine Qf rfl (Qa rfl (Qf rfl (Qa rfl (Qf rfl (QO rfl rfl rfl (by omega) (Zt (by omega)) rfl (Qf rfl (QU (ds0 := [2, 1, 0]) (cs := [_, _, _, _, _, _, _]) rfl rfl rfl rfl rfl rfl (Qf rfl (QU (ds0 := [2, 1, 0]) (cs := [_, _, _, _, _, _, _]) rfl rfl rfl rfl rfl rfl (Qf rfl (Q1 (ds0 := [1, 0]) (Zk (hs _ (List.getElem_mem (by omega))).1 (hs _ (List.getElem_mem (by omega))).2 hc.1 hc.2) rfl rfl (.inr rfl) rfl rfl ?_)))))))))))
  refine Qf rfl (Y4 rfl rfl (Qj rfl rfl ?_))
  refine hK _ _ (Qb (kp4 rfl rfl rfl rfl) ?_)
  refine QB rfl (fun h2 => ?_) (fun h2 => ?_)
  ·try rw [h2]
   try simp only [qa, qb, qc, qd, qe, List.length_map] at h2
   refine Qz (Qd (kp3 rfl rfl rfl) (QK (Q8 fun K hK => Qa rfl (Q9 rfl rfl (by first | exact Qp (by omega) (by omega) | rfl) (Qa rfl (hK _ ?_))))))
   refine Ql ?_
   refine Qo (k + 1) ?_ ?_ ?_
   ·exact ZC (l := [0, 3, 5]) (lH := [3]) (kp3 rfl rfl rfl) (Qq rfl Qy) rfl rfl rfl
   ·exact ⟨by omega, QkL (by omega) h2 hI.2⟩
   ·first | omega | (simp only; omega) | (dsimp only; omega)
  ·try rw [h2]
   try simp only [qa, qb, qc, qd, qe, List.length_map] at h2
   refine Z0 (Za (QI (QQ (Qd (kp3 rfl rfl rfl) ?_))))
   refine QH ?_ -- 2
   refine Qe fun K hK => Qa rfl (Qa rfl (Q4 rfl rfl (Y4 rfl rfl (Qa rfl ?_))))
   refine Qx (g := 25) rfl (fun h3 => ?_) (fun h3 => ?_)
   ·try rw [h3]
    try simp only [qa, qb, qc, qd, qe, List.length_map] at h3
    refine Qf rfl (Qa rfl (Qf rfl (Qa rfl (Qf rfl (QO rfl rfl rfl (by omega) (Zt (by omega)) rfl (Qf rfl (QU (ds0 := [2, 1, 0]) (cs := [_, _, _, _, _, _, _]) rfl rfl rfl rfl rfl rfl (Qf rfl (QU (ds0 := [2, 1, 0]) (cs := [_, _, _, _, _, _, _]) rfl rfl rfl rfl rfl rfl (Qf rfl (Q1 (ds0 := [1, 0]) (Zk (hs _ (List.getElem_mem (by omega))).1 (hs _ (List.getElem_mem (by omega))).2 hc.1 hc.2) rfl rfl (.inr rfl) rfl rfl ?_)))))))))))
    refine Qf rfl (ZJ rfl rfl (Qj rfl rfl ?_))
    refine hK _ _ (Qb (kp4 rfl rfl rfl rfl) ?_)
    refine QB rfl (fun h4 => ?_) (fun h4 => ?_)
    ·try rw [h4]
     try simp only [qa, qb, qc, qd, qe, List.length_map] at h4
     refine Qe fun K hK => Qa rfl (Qa rfl ?_)
     refine hK _ _ (Qb (kp1 rfl) ?_)
     refine Qt (Qk (Ya rfl ?_))
     rw [QkK (k := k) (by omega) (by assumption) hI.2]; rfl
    ·try rw [h4]
     try simp only [qa, qb, qc, qd, qe, List.length_map] at h4
     refine Qz (Qd (kp3 rfl rfl rfl) (Qe fun K hK => Qa rfl (Qa rfl (Qd0 rfl rfl rfl rfl (by omega) (by omega) (by simp; omega) QhD rfl (QfM (ds0 := [5, 1, 0]) rfl rfl (fun _ h => ⟨Ql9, h⟩) rfl (.inl rfl) (by simp) (by simp; omega) (by simp; omega) rfl rfl (QU (ds0 := [6, 5, 1, 0]) (cs := [_, _, _, _, _, _, _]) rfl rfl rfl rfl rfl rfl (QD rfl rfl (QdZ (ds0 := [1, 0]) rfl rfl (by simp [D.ids, D.sid]) ⟨_, rfl, rfl, rfl, rfl, rfl⟩ rfl rfl (by simp) rfl rfl (by simp; omega) (by simp; omega) rfl rfl (Qa rfl (Qa rfl ?_))))))))))
     refine Qd0 rfl rfl rfl rfl (by omega) (by simp; omega) (by simp) QhD rfl (QdZ (ds0 := [0]) rfl rfl (by simp [D.ids, D.sid]) ⟨rfl, Ql9, rfl⟩ rfl rfl (by simp) rfl rfl (by simp; omega) (by simp; omega) rfl rfl (Qa rfl ?_))
     refine hK _ _ (Qb (kp1 rfl) ?_)
     refine Qt (Ya rfl ?_)
     rw [Qjc (k := k) (by first | exact .inl (by omega) | exact .inr ⟨by omega, by assumption, by assumption⟩) hI.2]; simp [Qaw, D.fz, D.fzS, Qcc, lk, D.can, D.canS, QfV, D.sid, (show ∀ a b : Nat, a + 1 + b = a + (b + 1) from fun a b => by omega), List.take_of_length_le (show (l.map dCu).length <= l.length by simp)] <;> rfl
   ·try rw [h3]
    try simp only [qa, qb, qc, qd, qe, List.length_map] at h3
    exact absurd h1 h3
 ·try rw [h1]
  try simp only [qa, qb, qc, qd, qe, List.length_map] at h1
  refine Qm rfl (Qm rfl (Qm rfl (Qm rfl (Qm rfl (Qm rfl (Qm rfl (Qj rfl rfl ?_)))))))
  refine hK _ _ (Qb (kp4 rfl rfl rfl rfl) ?_)
  refine Z5 rfl (Z0 (Za (QI (QQ (Qd (kp3 rfl rfl rfl) ?_)))))
  refine QH ?_ -- 2
  refine Qe fun K hK => Qa rfl (Qa rfl (Q4 rfl rfl (Y4 rfl rfl (Qa rfl ?_))))
  refine Qx (g := 25) rfl (fun h5 => ?_) (fun h5 => ?_)
  ·try rw [h5]
   try simp only [qa, qb, qc, qd, qe, List.length_map] at h5
   exact absurd h5 h1
  ·try rw [h5]
   try simp only [qa, qb, qc, qd, qe, List.length_map] at h5
   refine Qm rfl (Qm rfl (Qm rfl (Qm rfl (Qm rfl (Qm rfl (Qm rfl (Qj rfl rfl ?_)))))))
   refine hK _ _ (Qb (kp4 rfl rfl rfl rfl) ?_)
   refine Z5 rfl (Qz (Qd (kp3 rfl rfl rfl) (Qe fun K hK => Qa rfl (Qa rfl (Qd0 rfl rfl rfl rfl (by omega) (by omega) (by simp; omega) QhD rfl (QfM (ds0 := [5, 1, 0]) rfl rfl (fun _ h => ⟨Ql9, h⟩) rfl (.inl rfl) (by simp) (by simp; omega) (by simp; omega) rfl rfl (QU (ds0 := [6, 5, 1, 0]) (cs := [_, _, _, _, _, _, _]) rfl rfl rfl rfl rfl rfl (QD rfl rfl (QdZ (ds0 := [1, 0]) rfl rfl (by simp [D.ids, D.sid]) ⟨_, rfl, rfl, rfl, rfl, rfl⟩ rfl rfl (by simp) rfl rfl (by simp; omega) (by simp; omega) rfl rfl (Qa rfl ?_))))))))))
   refine Qa rfl (Qd0 rfl rfl rfl rfl (by omega) (by simp; omega) (by simp) QhD rfl (QdZ (ds0 := [0]) rfl rfl (by simp [D.ids, D.sid]) ⟨rfl, Ql9, rfl⟩ rfl rfl (by simp) rfl rfl (by simp; omega) (by simp; omega) rfl rfl (Qa rfl ?_)))
   refine hK _ _ (Qb (kp1 rfl) ?_)
   refine Qt (Ya rfl ?_)
   rw [Qjc (k := k) (by first | exact .inl (by omega) | exact .inr ⟨by omega, by assumption, by assumption⟩) hI.2]; simp [Qaw, D.fz, D.fzS, Qcc, lk, D.can, D.canS, QfV, D.sid, (show ∀ a b : Nat, a + 1 + b = a + (b + 1) from fun a b => by omega), List.take_of_length_le (show (l.map dCu).length <= l.length by simp)] <;> rfl
theorem XN {l : List (Cu × Cu)} (hl : Sm l) : Ok Try.prog 78 [ZD l] (QfV (Yx l)) := by
 refine Ok.ofT Yb Try.func78 Qqr (Nat.le_of_ble_eq_true rfl) ?_
 show TW _ _ tf78.body _ _
 have hn := hl.1
 refine Qe fun K hK => Qa rfl ?_
 refine hK _ _ (Qb (kp1 rfl) ?_)
 refine Qe fun K hK => QA (YA) rfl rfl (.inl rfl) (QA (YL) rfl rfl (.inl rfl) (QD rfl rfl (Qa rfl ?_)))
 refine hK _ _ (Qb (kp2 rfl rfl) ?_)
 refine QH ?_ -- 0
 refine Qe fun K hK => Qa rfl ?_
 refine hK _ _ (Qb (kp3 rfl rfl rfl) ?_)
 refine QK ?_
 refine Z6 (ι := Nat) (fun i => ⟨[(0, ZD l), (3, QfV (Yx (l.take i))), (4, .int .i64 i)], []⟩) (fun i => i <= l.length) (fun i => l.length - i) 0 ?_ ?_ ?_
 ·exact le_trans (QkB 7 _ (by decide)) (ZC (l := [0, 3, 4]) (lH := []) (kp3 rfl rfl rfl) Qy rfl rfl rfl)
 ·exact Nat.zero_le _
 intro i hI
 try dsimp only
 refine QH ?_ -- 1
 refine Qe fun K hK => Qa rfl (Qa rfl (Q4 rfl rfl (Y4 rfl rfl ?_)))
 refine hK _ _ (Qb (kp4 rfl rfl rfl rfl) ?_)
 refine QB rfl (fun h1 => ?_) (fun h1 => ?_)
 ·try rw [h1]
  try simp only [qa, qb, qc, qd, qe, List.length_map] at h1
  refine Qz (Qd (kp3 rfl rfl rfl) ?_)
  refine QH ?_ -- 2
  refine QK (Q8 fun K hK => Qa rfl (Qa rfl (Qa rfl (QO rfl rfl rfl (by omega) (Zt (by omega)) rfl (ZK rfl rfl (QU (ds0 := [7, 1, 0]) (cs := [_, _, _, _, _, _, _]) rfl rfl rfl rfl rfl rfl (Q1 (ds0 := [1, 0]) (X0 (Nat.le_trans (QdM hl i).1 (by omega)) (QdM hl i).2 (hl.2 _ (List.getElem_mem (by omega))).1) rfl rfl (.inl rfl) rfl rfl (Qa rfl (Qa rfl (QO rfl rfl rfl (by omega) (Zt (by omega)) rfl ?_))))))))))
  refine ZK rfl rfl (QU (ds0 := [1, 0]) (cs := [_, _, _, _, _, _, _]) rfl rfl rfl rfl rfl rfl (Q1 (ds0 := [0]) (X0 (Nat.le_trans (QdO _ _) (by have := (QdM hl i).1; omega)) (Qgl (QdM hl i).2 (hl.2 _ (List.getElem_mem (by omega))).1) (hl.2 _ (List.getElem_mem (by omega))).2) rfl rfl (.inl rfl) rfl rfl (Qa rfl (hK _ ?_))))
  refine Ql (Qd (kp3 rfl rfl rfl) (Q8 fun K hK => Qa rfl (Q9 rfl rfl (by first | exact Qp (by omega) (by omega) | rfl) (Qa rfl (hK _ ?_)))))
  refine Qo (i + 1) ?_ ?_ ?_
  ·exact ZC (l := [0, 3, 4]) (lH := []) (kp3 rfl rfl rfl) Qy (by rw [QlU (by omega)]; rfl) rfl rfl
  ·omega
  ·first | omega | (simp only; omega) | (dsimp only; omega)
 ·try rw [h1]
  try simp only [qa, qb, qc, qd, qe, List.length_map] at h1
  refine Z0 (Za (QI (QQ (Qd (kp1 rfl) (Qe fun K hK => Qa rfl (Qa rfl ?_))))))
  refine hK _ _ (Qb (kp1 rfl) ?_)
  refine Qt (Ya rfl ?_)
  rw [List.take_of_length_le (show l.length <= i by omega)]; rfl
end Go.Proofs
namespace Go.Proofs
open Go Go.Abs M3 M25
set_option linter.unusedVariables false
set_option linter.unusedSimpArgs false
theorem XO {l : List (Cu × Cu)} {x y : Cu} (hn : l.length <= 3000000) (hl : ∀ s ∈ l, Cu.sm s.1 /\ Cu.sm s.2) (hx : Cu.sm x) (hy : Cu.sm y) : OkH Try.prog 80 [.osl 500000 l.length, .agg (dCu x), .agg (dCu y)] [(500000, ⟨l.map Qdy, 14, 90, true⟩)] (.osl 500000 (Qbi l x y).length) [(500000, ⟨(Qbi l x y).map Qdy, 14, 90, true⟩)] := by
 refine OkH.mv Yb Try.func80 Qqt (Nat.le_of_ble_eq_true rfl) rfl ?_
 show TW _ _ tf80.body _ _
 refine Qe fun K hK => ZV rfl rfl rfl (ZV rfl rfl rfl (Qa rfl ?_))
 refine hK _ _ (Qb (kp3 rfl rfl rfl) ?_)
 refine QH ?_ -- 0
 refine Qe fun K hK => Qa rfl (Q4 rfl rfl (Xz rfl rfl (by first | exact Qp (by omega) (by omega) | rfl) (Qa rfl ?_)))
 refine hK _ _ (Qb (kp4 rfl rfl rfl rfl) ?_)
 refine Qe fun K hK => Qa rfl (QhZ rfl rfl (Qa rfl ?_))
 refine Qx (g := 13) rfl (fun h1 => ?_) (fun h1 => ?_)
 ·try rw [h1]
  try simp only [qa, qb, qc, qd, qe, List.length_map] at h1
  refine Qf rfl (Qa rfl (Qf rfl (Qa rfl (Qf rfl (Qal (ds0 := [5, 4, 2, 1, 0]) rfl rfl rfl (by simp) (by omega) (by omega) rfl rfl rfl (Qf rfl (Qi rfl rfl (Qf rfl (QU (ds0 := [2, 1, 0]) (cs := [_, _, _, _, _, _, _]) rfl (ZY rfl (ZA (by omega) (by omega))) rfl rfl rfl rfl (Qf rfl (QU (ds0 := [2, 1, 0]) (cs := [_, _, _, _, _, _, _]) rfl rfl rfl rfl rfl rfl ?_)))))))))))
  refine Qf rfl (Q1 (ds0 := [1, 0]) (Zk (hl _ (List.getElem_mem (by omega))).2.1 (hl _ (List.getElem_mem (by omega))).2.2 hx.1 hx.2) rfl rfl (.inr rfl) rfl rfl (Qf rfl (ZJ rfl rfl (Qj rfl rfl ?_))))
  refine hK _ _ (Qb (kp5 rfl rfl rfl rfl rfl) ?_)
  refine QB rfl (fun h2 => ?_) (fun h2 => ?_)
  ·try rw [h2]
   try simp only [qa, qb, qc, qd, qe, List.length_map] at h2
   refine Qe fun K hK => Qa rfl (Qa rfl (QF (cs := [_, _, _, _, _, _, _]) rfl rfl rfl rfl (Xy rfl rfl rfl (by simp) (by omega) (by omega) rfl (Qi rfl rfl (QS rfl rfl (ZA (by omega) (by omega)) rfl rfl rfl rfl rfl ?_)))))
   refine hK _ _ (Qb (kp1 rfl) ?_)
   refine Qe fun K hK => Qa rfl (Qa rfl ?_)
   refine hK _ _ (Qb (kp1 rfl) ?_)
   refine Qt (Qk ?_)
   refine XS rfl ?_ (QiA ?_)
   ·rw [Qhj (i := ((l.length : Int) - 1).toNat) (by omega) h2]; simp [Qlk, D.fz, D.fzS, Qe7, D.can, D.canS]
   ·rw [Qhj (i := ((l.length : Int) - 1).toNat) (by omega) h2]; simp [lk, List.map_set, Qdy, dCu, setRow, D.sid]
  ·try rw [h2]
   try simp only [qa, qb, qc, qd, qe, List.length_map] at h2
   refine Qz (Qd (kp3 rfl rfl rfl) (Qe fun K hK => Qa rfl (QF (cs := [_, _, _, _, _, _, _]) rfl rfl rfl rfl (QF (cs := [_, _, _, _, _, _, _]) rfl rfl rfl rfl (QP rfl rfl (QD rfl rfl (QbS rfl rfl (fun _ h => QaV rfl rfl rfl h) rfl (by simp) rfl rfl rfl (by simp; omega) (by simp; omega) (Qa rfl ?_))))))))
   refine hK _ _ (Qb (kp1 rfl) ?_)
   refine Qt ?_
   refine XS rfl ?_ (QiA ?_)
   ·rw [QcD (.inr ⟨((l.length : Int) - 1).toNat, by omega, h2⟩)]; simp [Qlk, D.fz, D.fzS, Qe7, D.can, D.canS]
   ·rw [QcD (.inr ⟨((l.length : Int) - 1).toNat, by omega, h2⟩)]; simp [lk, Qdy, dCu, D.sid]
 ·try rw [h1]
  try simp only [qa, qb, qc, qd, qe, List.length_map] at h1
  refine Qm rfl (Qm rfl (Qm rfl (Qm rfl (Qm rfl (Qm rfl (Qm rfl (Qm rfl (Qj rfl rfl ?_))))))))
  refine hK _ _ (Qb (kp5 rfl rfl rfl rfl rfl) ?_)
  refine Z5 rfl (Qz (Qd (kp3 rfl rfl rfl) (Qe fun K hK => Qa rfl (QF (cs := [_, _, _, _, _, _, _]) rfl rfl rfl rfl (QF (cs := [_, _, _, _, _, _, _]) rfl rfl rfl rfl (QP rfl rfl (QD rfl rfl (QbS rfl rfl (fun _ h => QaV rfl rfl rfl h) rfl (by simp) rfl rfl rfl (by simp; omega) (by simp; omega) (Qa rfl ?_)))))))))
  refine hK _ _ (Qb (kp1 rfl) ?_)
  refine Qt ?_
  have h0 : l = [] := List.eq_nil_of_length_eq_zero (by omega)
  refine XS rfl ?_ (QiA ?_)
  ·rw [QcD (.inl h0)]; simp [Qlk, D.fz, D.fzS, Qe7, D.can, D.canS]
  ·rw [QcD (.inl h0)]; simp [lk, Qdy, dCu, D.sid]
end Go.Proofs
namespace Go.Proofs
open Go Go.Abs M3 M25
set_option linter.unusedVariables false
set_option linter.unusedSimpArgs false
theorem Qb5 {l : List (Cu × Cu)} (hl : Sm l) : Ok Try.prog 77 [ZD l] (.tup [ZD (Qih l), .bool (l.all QcE)]) := by
  refine Ok.ofT Yb Try.func77 Qqq (Nat.le_of_ble_eq_true rfl) ?_
  show TW _ _ tf77.body _ _
  have hn := hl.1
  have hc1 := Qbg l
  refine Qe fun K hK => Qa rfl (Qa rfl ?_)
  refine hK _ _ (Qb (kp1 rfl) ?_)
  refine QH ?_ -- 0
  refine Qe fun K hK => Qa rfl ?_
  refine hK _ _ (Qb (kp2 rfl rfl) ?_)
  refine QK ?_
  refine Z6 (ι := Nat) (fun i => ⟨[(0, ZD l), (4, .int .i64 i)], []⟩) (fun i => i <= l.length /\ (l.take i).all QcE = true) (fun i => l.length - i) 0 ?_ ?_ ?_
  · exact Q7 (kp2 rfl rfl)
  · exact ⟨Nat.zero_le _, by simp⟩
  intro i hI
  try dsimp only
  refine QH ?_ -- 1
  refine Qe fun K hK => Qa rfl (Qa rfl (Q4 rfl rfl (Y4 rfl rfl ?_)))
  refine hK _ _ (Qb (kp3 rfl rfl rfl) ?_)
  refine QB rfl (fun h1 => ?_) (fun h1 => ?_)
  · try rw [h1]
    try simp only [qa, qb, qc, qd, qe, List.length_map] at h1
    refine Qz (Qd (kp2 rfl rfl) ?_)
    refine QH ?_ -- 2
    refine QK (Qe fun K hK => Qa rfl (Qa rfl (QO rfl rfl rfl (by omega) (Zt (by omega)) rfl (QF (cs := [_, _, _, _, _, _, _, _, _, _, _, _, _, _]) rfl rfl rfl rfl (QA (Y5 (hl.at (i := i) (by omega)).1.1 (hl.at (i := i) (by omega)).1.2 (hl.at (i := i) (by omega)).2.1 (hl.at (i := i) (by omega)).2.2) rfl rfl (.inr rfl) (Yo rfl ?_))))))
    refine hK _ _ (Qb (kp3 rfl rfl rfl) ?_)
    refine QB rfl (fun h2 => ?_) (fun h2 => ?_)
    · try rw [h2]
      try simp only [qa, qb, qc, qd, qe, List.length_map] at h2
      refine Qe fun K hK => Qa rfl (Qa rfl ?_)
      refine hK _ _ (Qb (kp2 rfl rfl) ?_)
      refine Qt (Qu (Qk (Zn (Qu (Qk ?_)))))
      first
        | exact Zv rfl rfl ⟨by rw [Qih, if_neg (by rw [XW (i := i) (by omega) (by assumption)]; simp)]; rfl, by rw [XW (i := i) (by omega) (by assumption)]; rfl⟩
        | (have ha : l.all QcE = true := XI (by omega) hI.2
           exact Zv rfl rfl ⟨by rw [Qih, if_pos ha, hI2.done (by omega)]; simp [Qaw, D.fz, D.fzS, Qcc, lk, D.can, D.canS, ZD], by rw [ha]; rfl⟩)
    · try rw [h2]
      try simp only [qa, qb, qc, qd, qe, List.length_map] at h2
      refine Qz (Ql (Qd (kp2 rfl rfl) (Q8 fun K hK => Qa rfl (Q9 rfl rfl (by first | exact Qp (by omega) (by omega) | rfl) (Qa rfl (hK _ ?_))))))
      refine Qo (i + 1) ?_ ?_ ?_
      · exact Q7 (kp2 rfl rfl)
      · exact ⟨by omega, Ym (by omega) hI.2 (by assumption)⟩
      · first | omega | (simp only; omega) | (dsimp only; omega)
  · try rw [h1]
    try simp only [qa, qb, qc, qd, qe, List.length_map] at h1
    refine Z0 (Za (QI (QQ (Qd (kp1 rfl) (Qe fun K hK => Qa rfl ?_)))))
    refine hK _ _ (Qb (kp2 rfl rfl) ?_)
    refine Qe fun K hK => Qa rfl (QA (XN hl) rfl rfl (.inl rfl) (Qa rfl ?_))
    refine hK _ _ (Qb (kp3 rfl rfl rfl) ?_)
    refine QH ?_ -- 3
    refine Qe fun K hK => Qa rfl ?_
    refine hK _ _ (Qb (kp4 rfl rfl rfl rfl) ?_)
    refine QK ?_
    refine Z6 (ι := Nat × List (Cu × Cu)) (fun ⟨i, out⟩ => ⟨[(0, ZD l), (5, .osl 5 out.length), (6, QfV (Yx l)), (7, .int .i64 i)], [(5, ⟨out.map Qdy, 14, 90, true⟩)]⟩) (fun ⟨i, out⟩ => i <= (Yx l).length /\ FillI (mIn l) (Yx l) i out) (fun ⟨i, out⟩ => (Yx l).length - i) (0, []) ?_ ?_ ?_
    · exact le_trans (Xk 5 5 14 90 rfl rfl) (ZC (l := [0, 5, 6, 7]) (lH := [5]) (kp4 rfl rfl rfl rfl) (Qq rfl Qy) rfl rfl rfl)
    · exact ⟨Nat.zero_le _, FillI.zero⟩
    intro ⟨i, out⟩ hI
    obtain ⟨hI1, hI2⟩ := hI
    have hI3 := hI2.1
    try dsimp only
    refine QH ?_ -- 4
    refine Qe fun K hK => Qa rfl (Q9 rfl rfl (by first | exact Qp (by omega) (by omega) | rfl) (Qa rfl (Q4 rfl rfl (Y4 rfl rfl ?_))))
    refine hK _ _ (Qb (kp5 rfl rfl rfl rfl rfl) ?_)
    refine QB rfl (fun h3 => ?_) (fun h3 => ?_)
    · try rw [h3]
      try simp only [qa, qb, qc, qd, qe, List.length_map] at h3
      refine Qz (Qd (kp4 rfl rfl rfl rfl) ?_)
      refine QH ?_ -- 5
      refine QK (Qe fun K hK => Qa rfl (Qa rfl (Qa rfl (QO rfl rfl rfl (by omega) (Zt (by omega)) rfl (QU (ds0 := [0]) (cs := [_, _, _, _, _, _, _]) rfl rfl rfl rfl rfl rfl (Qa rfl (Qa rfl (Q9 rfl rfl (by first | exact Qp (by omega) (by omega) | rfl) (QO rfl rfl rfl (by omega) (Qi4 (by omega)) rfl (QU (ds0 := [0]) (cs := [_, _, _, _, _, _, _]) rfl rfl rfl rfl rfl rfl ?_))))))))))
      refine Q1 (ds0 := []) (Qan hl (Yf hl _ (List.getElem_mem (by omega))) (Yf hl _ (List.getElem_mem (by omega)))) rfl rfl (.inr rfl) rfl rfl ?_
      refine hK _ _ (Qb (kp5 rfl rfl rfl rfl rfl) ?_)
      refine QB rfl (fun h4 => ?_) (fun h4 => ?_)
      · try rw [h4]
        try simp only [qa, qb, qc, qd, qe, List.length_map] at h4
        refine Q8 fun K hK => Qa rfl (Qa rfl (Qa rfl (QO rfl rfl rfl (by omega) (Zt (by omega)) rfl (QU (ds0 := [1, 0]) (cs := [_, _, _, _, _, _, _]) rfl rfl rfl rfl rfl rfl (Qa rfl (Qa rfl (Q9 rfl rfl (by first | exact Qp (by omega) (by omega) | rfl) (QO rfl rfl rfl (by omega) (Qi4 (by omega)) rfl (QU (ds0 := [1, 0]) (cs := [_, _, _, _, _, _, _]) rfl rfl rfl rfl rfl rfl (QiJ (ds0 := [0]) (Qmv (k := 5) rfl rfl rfl (by decide) rfl (by decide) (by simp [D.ids, D.sid, dCu]) ⟨.osl 5 out.length, by simp, by simp [D.ids, D.sid]⟩ rfl rfl (XO (by omega) hI2.2.1 (Yf hl _ (List.getElem_mem (by omega))) (Yf hl _ (List.getElem_mem (by omega))))) (fun _ h => by cases h) rfl rfl ?_))))))))))
        refine Qa rfl (hK _ ?_)
        refine Ql (Qd (kp4 rfl rfl rfl rfl) (Q8 fun K hK => Qa rfl (Q9 rfl rfl (by first | exact Qp (by omega) (by omega) | rfl) (Qa rfl (hK _ ?_)))))
        refine Qo (i + 1, Qbi out (Yx l)[i] (Yx l)[i + 1]) ?_ ?_ ?_
        · exact le_trans (Qkz (l := [0, 6, 7]) (t := 50) (u := 5) 5 (kp3 rfl rfl rfl) rfl rfl rfl rfl) (ZC (l := [0, 5, 6, 7]) (lH := [5]) (kp4 rfl rfl rfl rfl) (Qq rfl Qy) rfl rfl rfl)
        · exact ⟨by omega, hI2.take (Yf hl) (by omega) (by assumption)⟩
        · show (Yx l).length - (i + 1) < (Yx l).length - i; omega
      · try rw [h4]
        try simp only [qa, qb, qc, qd, qe, List.length_map] at h4
        refine Qz (Ql (Qd (kp4 rfl rfl rfl rfl) (Q8 fun K hK => Qa rfl (Q9 rfl rfl (by first | exact Qp (by omega) (by omega) | rfl) (Qa rfl (hK _ ?_))))))
        refine Qo (i + 1, out) ?_ ?_ ?_
        · exact ZC (l := [0, 5, 6, 7]) (lH := [5]) (kp4 rfl rfl rfl rfl) (Qq rfl Qy) rfl rfl rfl
        · exact ⟨by omega, hI2.skip (by omega) (by assumption)⟩
        · show (Yx l).length - (i + 1) < (Yx l).length - i; omega
    · try rw [h3]
      try simp only [qa, qb, qc, qd, qe, List.length_map] at h3
      refine Z0 (Za (QI (QQ (Qd (kp1 rfl) (Qe fun K hK => Qa rfl (Qa rfl (Qa rfl ?_)))))))
      refine hK _ _ (Qb (kp2 rfl rfl) ?_)
      refine Qt ?_
      first
        | exact Zv rfl rfl ⟨by rw [Qih, if_neg (by rw [XW (i := i) (by omega) (by assumption)]; simp)]; rfl, by rw [XW (i := i) (by omega) (by assumption)]; rfl⟩
        | (have ha : l.all QcE = true := XI (by omega) hI.2
           exact Zv rfl rfl ⟨by rw [Qih, if_pos ha, hI2.done (by omega)]; simp [Qaw, D.fz, D.fzS, Qcc, lk, D.can, D.canS, ZD], by rw [ha]; rfl⟩)
end Go.Proofs
namespace Go.Proofs
open Go Go.Abs M3 M25
set_option linter.unusedVariables false
set_option linter.unusedSimpArgs false
theorem Qam {a b : List (Cu × Cu)} (ha : Sm a) (hb : Sm b) (hab : a.length + b.length <= 1000000) : Ok Try.prog 71 [ZD a, ZD b] (ZD (QmE a b)) := by
 refine Ok.ofT Yb Try.func71 Qqk (Nat.le_of_ble_eq_true rfl) ?_
 show TW _ _ tf71.body _ _
 refine Qe fun K hK => Qa rfl ?_
 refine hK _ _ (Qb (kp2 rfl rfl) ?_)
 refine QH ?_ -- 0
 refine Qe fun K hK => Qa rfl (QA (Z2 ha) rfl rfl (.inr rfl) (Yo rfl (Qa rfl ?_)))
 refine Qx (g := 10) rfl (fun h1 => ?_) (fun h1 => ?_)
 ·try rw [h1]
  try simp only [qa, qb, qc, qd, qe] at h1
  refine Qm rfl (Qm rfl (Qm rfl (Qj rfl rfl ?_)))
  refine hK _ _ (Qb (kp3 rfl rfl rfl) ?_)
  refine Zz rfl (Qe fun K hK => Qa rfl ?_)
  refine hK _ _ (Qb (kp1 rfl) ?_)
  refine Qt (Qk (Ya rfl ?_))
  rw [QmE, if_neg (by simp [h1])]; rfl
 ·try rw [h1]
  try simp only [qa, qb, qc, qd, qe] at h1
  refine Qf rfl (Qa rfl (Qf rfl (QA (Z2 hb) rfl rfl (.inr rfl) (Qf rfl (Yo rfl (Qj rfl rfl ?_))))))
  refine hK _ _ (Qb (kp3 rfl rfl rfl) ?_)
  refine QB rfl (fun h2 => ?_) (fun h2 => ?_)
  ·try rw [h2]
   try simp only [qa, qb, qc, qd, qe] at h2
   refine Qe fun K hK => Qa rfl ?_
   refine hK _ _ (Qb (kp1 rfl) ?_)
   refine Qt (Qk (Ya rfl ?_))
   rw [QmE, if_neg (by simp [h1, h2])]; rfl
  ·try rw [h2]
   try simp only [qa, qb, qc, qd, qe] at h2
   refine Qz (Qd (kp2 rfl rfl) (Qe fun K hK => Qa rfl (QnP rfl rfl (fun _ h => QmN QmI h) rfl (.inl rfl) (by simp) (by simp; omega) (by simp; omega) (Qa rfl (QbS rfl rfl (fun _ h => QmN QmI h) rfl (by simp) rfl rfl rfl (by simp; omega) (by simp; omega) ?_)))))
   apply QmT [17] (by simp)
   ·simp [St.freezeL, St.freeze, rem, D.fz, D.fzS, Box.fz, lk, D.scrub]; exact ⟨rfl, rfl⟩
   ·exact Qb5 (ha.app hb hab)
   ·rfl
   ·simp [Qaw, D.fz, D.fzS, Qcc, D.can, D.canS, ZD]
   ·exact .inl rfl
   refine Qa rfl (ZQ rfl rfl (ZQ rfl rfl (Qa rfl (Qa rfl ?_))))
   refine hK _ _ (Qb (kp1 rfl) ?_)
   refine Qe fun K hK => Qa rfl (Qa rfl ?_)
   refine hK _ _ (Qb (kp1 rfl) ?_)
   refine Qt (Ya rfl ?_)
   rw [QmE, if_pos ⟨h1, h2⟩]; rfl
theorem XZ {a : List (Cu × Cu)} (ha : Sm a) : Ok Try.prog 73 [ZD a] (ZD (Qii a)) := by
 refine Ok.ofT Yb Try.func73 Qqm (Nat.le_of_ble_eq_true rfl) ?_
 show TW _ _ tf73.body _ _
 have hn := ha.1
 have hc1 := Qbg a
 refine Qe fun K hK => Qa rfl ?_
 refine hK _ _ (Qb (kp1 rfl) ?_)
 refine QH ?_ -- 0
 refine Qe fun K hK => Qa rfl (QA (Z2 ha) rfl rfl (.inr rfl) (Yo rfl ?_))
 refine hK _ _ (Qb (kp2 rfl rfl) ?_)
 refine QB rfl (fun h1 => ?_) (fun h1 => ?_)
 ·try rw [h1]
  try simp only [qa, qb, qc, qd, qe, List.length_map] at h1
  refine Qe fun K hK => Qa rfl ?_
  refine hK _ _ (Qb (kp1 rfl) ?_)
  refine Qt (Qk (Ya rfl ?_))
  rw [Qii, if_neg (by simp [h1])]; rfl
 ·try rw [h1]
  try simp only [qa, qb, qc, qd, qe, List.length_map] at h1
  refine Qz (Qd (kp1 rfl) (Qe fun K hK => Qa rfl ?_))
  refine hK _ _ (Qb (kp2 rfl rfl) ?_)
  refine Qe fun K hK => Qa rfl (QA (XN ha) rfl rfl (.inl rfl) (Qa rfl ?_))
  refine hK _ _ (Qb (kp3 rfl rfl rfl) ?_)
  refine QH ?_ -- 1
  refine Qe fun K hK => Qa rfl ?_
  refine hK _ _ (Qb (kp4 rfl rfl rfl rfl) ?_)
  refine QK ?_
  refine Z6 (ι := Nat × List (Cu × Cu)) (fun ⟨i, out⟩ => ⟨[(0, ZD a), (3, .osl 3 out.length), (4, QfV (Yx a)), (5, .int .i64 i)], [(3, ⟨out.map Qdy, 14, 90, true⟩)]⟩) (fun ⟨i, out⟩ => i <= (Yx a).length /\ FillI (fun x y => !mIn a x y) (Yx a) i out) (fun ⟨i, out⟩ => (Yx a).length - i) (0, []) ?_ ?_ ?_
  ·exact le_trans (Xk 3 3 14 90 rfl rfl) (ZC (l := [0, 3, 4, 5]) (lH := [3]) (kp4 rfl rfl rfl rfl) (Qq rfl Qy) rfl rfl rfl)
  ·exact ⟨Nat.zero_le _, FillI.zero⟩
  intro ⟨i, out⟩ hI
  obtain ⟨hI1, hI2⟩ := hI
  have hI3 := hI2.1
  try dsimp only
  refine QH ?_ -- 2
  refine Qe fun K hK => Qa rfl (Q9 rfl rfl (by first | exact Qp (by omega) (by omega) | rfl) (Qa rfl (Q4 rfl rfl (Y4 rfl rfl ?_))))
  refine hK _ _ (Qb (kp5 rfl rfl rfl rfl rfl) ?_)
  refine QB rfl (fun h2 => ?_) (fun h2 => ?_)
  ·try rw [h2]
   try simp only [qa, qb, qc, qd, qe, List.length_map] at h2
   refine Qz (Qd (kp4 rfl rfl rfl rfl) ?_)
   refine QH ?_ -- 3
   refine QK (Qe fun K hK => Qa rfl (Qa rfl (Qa rfl (QO rfl rfl rfl (by omega) (Zt (by omega)) rfl (QU (ds0 := [1, 0]) (cs := [_, _, _, _, _, _, _]) rfl rfl rfl rfl rfl rfl (Qa rfl (Qa rfl (Q9 rfl rfl (by first | exact Qp (by omega) (by omega) | rfl) (QO rfl rfl rfl (by omega) (Qi4 (by omega)) rfl (QU (ds0 := [1, 0]) (cs := [_, _, _, _, _, _, _]) rfl rfl rfl rfl rfl rfl ?_))))))))))
   refine Q1 (ds0 := [0]) (Qan ha (Yf ha _ (List.getElem_mem (by omega))) (Yf ha _ (List.getElem_mem (by omega)))) rfl rfl (.inr rfl) rfl rfl (Yo rfl ?_)
   refine hK _ _ (Qb (kp5 rfl rfl rfl rfl rfl) ?_)
   refine QB rfl (fun h3 => ?_) (fun h3 => ?_)
   ·try rw [h3]
    try simp only [qa, qb, qc, qd, qe, List.length_map] at h3
    refine Q8 fun K hK => Qa rfl (Qa rfl (Qa rfl (QO rfl rfl rfl (by omega) (Zt (by omega)) rfl (QU (ds0 := [1, 0]) (cs := [_, _, _, _, _, _, _]) rfl rfl rfl rfl rfl rfl (Qa rfl (Qa rfl (Q9 rfl rfl (by first | exact Qp (by omega) (by omega) | rfl) (QO rfl rfl rfl (by omega) (Qi4 (by omega)) rfl (QU (ds0 := [1, 0]) (cs := [_, _, _, _, _, _, _]) rfl rfl rfl rfl rfl rfl (QiJ (ds0 := [0]) (Qmv (k := 3) rfl rfl rfl (by decide) rfl (by decide) (by simp [D.ids, D.sid, dCu]) ⟨.osl 3 out.length, by simp, by simp [D.ids, D.sid]⟩ rfl rfl (XO (by omega) hI2.2.1 (Yf ha _ (List.getElem_mem (by omega))) (Yf ha _ (List.getElem_mem (by omega))))) (fun _ h => by cases h) rfl rfl ?_))))))))))
    refine Qa rfl (hK _ ?_)
    refine Ql (Qd (kp4 rfl rfl rfl rfl) (Q8 fun K hK => Qa rfl (Q9 rfl rfl (by first | exact Qp (by omega) (by omega) | rfl) (Qa rfl (hK _ ?_)))))
    refine Qo (i + 1, Qbi out (Yx a)[i] (Yx a)[i + 1]) ?_ ?_ ?_
    ·exact le_trans (Qkz (l := [0, 4, 5]) (t := 40) (u := 3) 3 (kp3 rfl rfl rfl) rfl rfl rfl rfl) (ZC (l := [0, 3, 4, 5]) (lH := [3]) (kp4 rfl rfl rfl rfl) (Qq rfl Qy) rfl rfl rfl)
    ·exact ⟨by omega, hI2.take (Yf ha) (by omega) (by simp; assumption)⟩
    ·show (Yx a).length - (i + 1) < (Yx a).length - i; omega
   ·try rw [h3]
    try simp only [qa, qb, qc, qd, qe, List.length_map] at h3
    refine Qz (Ql (Qd (kp4 rfl rfl rfl rfl) (Q8 fun K hK => Qa rfl (Q9 rfl rfl (by first | exact Qp (by omega) (by omega) | rfl) (Qa rfl (hK _ ?_))))))
    refine Qo (i + 1, out) ?_ ?_ ?_
    ·exact ZC (l := [0, 3, 4, 5]) (lH := [3]) (kp4 rfl rfl rfl rfl) (Qq rfl Qy) rfl rfl rfl
    ·exact ⟨by omega, hI2.skip (by omega) (by simp; assumption)⟩
    ·show (Yx a).length - (i + 1) < (Yx a).length - i; omega
  ·try rw [h2]
   try simp only [qa, qb, qc, qd, qe, List.length_map] at h2
   refine Z0 (Za (QI (QQ (Qd (kp1 rfl) (Qe fun K hK => Qa rfl (Qa rfl ?_))))))
   refine hK _ _ (Qb (kp1 rfl) ?_)
   refine Qt (Ya rfl ?_)
   rw [Qii, if_pos h1, hI2.done (by omega)]; simp [Qaw, D.fz, D.fzS, Qcc, lk, D.can, D.canS, ZD]
end Go.Proofs
namespace Go.Proofs
open Go Go.Abs M3 M25
set_option linter.unusedVariables false
set_option linter.unusedSimpArgs false
theorem QcX {a b : QgC} (h1a : Sm a.1) (h2a : Sm a.2) (h1b : Sm b.1) (h2b : Sm b.2) (hl1 : a.1.length + b.1.length <= 1000000) (hl2 : a.2.length + b.2.length <= 1000000) : Ok Try.prog 61 [QgE a, QgE b] (QgE (QmF a b)) := by
 refine Ok.ofT Yb Try.func61 Qqa (Nat.le_of_ble_eq_true rfl) ?_
 show TW _ _ tf61.body _ _
 refine Qe fun K hK => ZV rfl rfl rfl (ZV rfl rfl rfl (ZE rfl ?_))
 refine hK _ _ (Qb (kp3 rfl rfl rfl) ?_)
 refine QH ?_ -- 0
 refine Qe fun K hK => QF (cs := [_, _]) rfl rfl rfl rfl (QA (YW h1a h2a) rfl rfl (.inr rfl) (Yo rfl (Qa rfl ?_)))
 refine Qx (g := 8) rfl (fun h1 => ?_) (fun h1 => ?_)
 ·try rw [h1]
  try simp only [qa, qb, qc, qd, qe] at h1
  refine Qm rfl (Qm rfl (Qm rfl (Qj rfl rfl ?_)))
  refine hK _ _ (Qb (kp4 rfl rfl rfl rfl) ?_)
  refine Zz rfl (Qe fun K hK => QA (ZW) rfl rfl (.inl rfl) (QS rfl rfl rfl rfl rfl rfl rfl rfl ?_))
  refine hK _ _ (Qb (kp1 rfl) ?_)
  refine Qt (Qk (Post.eq (Zu (ds := [.sl _, .sl _]) (cs := [_, _]) rfl rfl rfl rfl rfl) ?_))
  rw [QmF, if_neg (by simp [h1])]; rfl
 ·try rw [h1]
  try simp only [qa, qb, qc, qd, qe] at h1
  refine Qf rfl (QF (cs := [_, _]) rfl rfl rfl rfl (Qf rfl (QA (YW h1b h2b) rfl rfl (.inr rfl) (Qf rfl (Yo rfl (Qj rfl rfl ?_))))))
  refine hK _ _ (Qb (kp4 rfl rfl rfl rfl) ?_)
  refine QB rfl (fun h2 => ?_) (fun h2 => ?_)
  ·try rw [h2]
   try simp only [qa, qb, qc, qd, qe] at h2
   refine Qe fun K hK => QA (ZW) rfl rfl (.inl rfl) (QS rfl rfl rfl rfl rfl rfl rfl rfl ?_)
   refine hK _ _ (Qb (kp1 rfl) ?_)
   refine Qt (Qk (Post.eq (Zu (ds := [.sl _, .sl _]) (cs := [_, _]) rfl rfl rfl rfl rfl) ?_))
   rw [QmF, if_neg (by simp [h1, h2])]; rfl
  ·try rw [h2]
   try simp only [qa, qb, qc, qd, qe] at h2
   refine Qz (Qd (kp3 rfl rfl rfl) (Qe fun K hK => Qi rfl rfl (Zb (ds0 := [7, 1, 0]) rfl rfl rfl rfl rfl (Qi rfl rfl (Zb (ds0 := [7, 1, 0]) rfl rfl rfl rfl rfl (Q1 (ds0 := [1, 0]) (Qam h1a h1b hl1) rfl rfl (.inl rfl) rfl rfl (Qi rfl rfl (Zb (ds0 := [2, 1, 0]) rfl rfl rfl rfl rfl (Qi rfl rfl (Zb (ds0 := [2, 1, 0]) rfl rfl rfl rfl rfl ?_))))))))))
   refine Q1 (ds0 := [1, 0]) (Qam h2a h2b hl2) rfl rfl (.inl rfl) rfl rfl (QP rfl rfl (YR (ds0 := []) rfl rfl rfl rfl rfl rfl rfl rfl rfl rfl ?_))
   refine hK _ _ (Qb (kp1 rfl) ?_)
   refine Qt (Post.eq (Zu (ds := [.sl _, .sl _]) (cs := [_, _]) rfl rfl rfl rfl rfl) ?_)
   rw [QmF, if_pos ⟨h1, h2⟩]; rfl
theorem Qcm {a : QgC} (h1a : Sm a.1) (h2a : Sm a.2) : Ok Try.prog 63 [QgE a] (QgE (Qgj a)) := by
 refine Ok.ofT Yb Try.func63 Qqc (Nat.le_of_ble_eq_true rfl) ?_
 show TW _ _ tf63.body _ _
 refine Qe fun K hK => ZV rfl rfl rfl (ZE rfl ?_)
 refine hK _ _ (Qb (kp2 rfl rfl) ?_)
 refine QH ?_ -- 0
 refine Qe fun K hK => QF (cs := [_, _]) rfl rfl rfl rfl (QA (YW h1a h2a) rfl rfl (.inr rfl) (Yo rfl ?_))
 refine hK _ _ (Qb (kp3 rfl rfl rfl) ?_)
 refine QB rfl (fun h1 => ?_) (fun h1 => ?_)
 ·try rw [h1]
  try simp only [qa, qb, qc, qd, qe] at h1
  refine Qe fun K hK => QA (ZW) rfl rfl (.inl rfl) (QS rfl rfl rfl rfl rfl rfl rfl rfl ?_)
  refine hK _ _ (Qb (kp1 rfl) ?_)
  refine Qt (Qk (Post.eq (Zu (ds := [.sl _, .sl _]) (cs := [_, _]) rfl rfl rfl rfl rfl) ?_))
  rw [Qgj, if_neg (by simp [h1])]; rfl
 ·try rw [h1]
  try simp only [qa, qb, qc, qd, qe] at h1
  refine Qz (Qd (kp2 rfl rfl) (Qe fun K hK => Qi rfl rfl (Zb (ds0 := [5, 1, 0]) rfl rfl rfl rfl rfl (Q1 (ds0 := [1, 0]) (XZ h1a) rfl rfl (.inl rfl) rfl rfl (Qi rfl rfl (Zb (ds0 := [2, 1, 0]) rfl rfl rfl rfl rfl (Q1 (ds0 := [1, 0]) (XZ h2a) rfl rfl (.inl rfl) rfl rfl (QP rfl rfl (YR (ds0 := []) rfl rfl rfl rfl rfl rfl rfl rfl rfl rfl ?_)))))))))
  refine hK _ _ (Qb (kp1 rfl) ?_)
  refine Qt (Post.eq (Zu (ds := [.sl _, .sl _]) (cs := [_, _]) rfl rfl rfl rfl rfl) ?_)
  rw [Qgj, if_pos h1]; rfl
end Go.Proofs
namespace Go.Proofs
open Go Go.Abs M3 M25
set_option linter.unusedVariables false
set_option linter.unusedSimpArgs false
theorem Zq {v n : Int} (hn : n <= 9223372036854775807) (hv : I64 v) : Ok Try.prog 12 [.int .i64 v, .int .i64 n] (.int .i64 (mPl v n)) := by
 refine Ok.ofT Yb Try.func12 Qpr (Nat.le_of_ble_eq_true rfl) ?_
 show TW _ _ tf12.body _ _
 refine Qe fun K hK => Qa rfl ?_
 refine hK _ _ (Qb (kp2 rfl rfl) ?_)
 refine QH ?_ -- 0
 refine Qe fun K hK => Qa rfl (Y4 rfl rfl ?_)
 refine hK _ _ (Qb (kp3 rfl rfl rfl) ?_)
 refine QB rfl (fun h1 => ?_) (fun h1 => ?_)
 ·try rw [h1]
  try simp only [qa, qb, qc, qd, qe] at h1
  refine Qe fun K hK => Qa rfl ?_
  refine hK _ _ (Qb (kp1 rfl) ?_)
  refine Qt (Qk (Qw rfl ?_))
  rw [mPl, if_pos h1]
 ·try rw [h1]
  try simp only [qa, qb, qc, qd, qe] at h1
  refine Qz (Qd (kp2 rfl rfl) (Qe fun K hK => Qa rfl (Qa rfl (QmX rfl rfl (by omega) (Qa rfl ?_)))))
  refine hK _ _ (Qb (kp2 rfl rfl) ?_)
  refine QH ?_ -- 1
  refine Qe fun K hK => Qa rfl (Y4 rfl rfl ?_)
  refine hK _ _ (Qb (kp3 rfl rfl rfl) ?_)
  refine QB rfl (fun h2 => ?_) (fun h2 => ?_)
  ·try rw [h2]
   try simp only [qa, qb, qc, qd, qe] at h2
   refine Qe fun K hK => Qa rfl (Qa rfl (Q9 rfl rfl (Qp (by have := Int.lt_tmod_of_pos v (show 0 < n by omega); omega) (by have := Int.tmod_lt_of_pos v (show 0 < n by omega); omega)) (Qa rfl ?_)))
   refine hK _ _ (Qb (kp1 rfl) ?_)
   refine Qt (Qk (Qw rfl ?_))
   rw [mPl, if_neg h1, QeD, if_pos h2]
  ·try rw [h2]
   try simp only [qa, qb, qc, qd, qe] at h2
   refine Qz (Qd (kp1 rfl) (Qe fun K hK => Qa rfl (Qa rfl ?_)))
   refine hK _ _ (Qb (kp1 rfl) ?_)
   refine Qt (Qw rfl ?_)
   rw [mPl, if_neg h1, QeD, if_neg h2]
theorem QcW {l : List Int} {i : Int} : Ok Try.prog 13 [ZG l, .int .i64 i] (.int .i64 (Qll l i)) := by
 refine Ok.ofT Yb Try.func13 Qps (Nat.le_of_ble_eq_true rfl) ?_
 show TW _ _ tf13.body _ _
 refine Qe fun K hK => Qa rfl ?_
 refine hK _ _ (Qb (kp2 rfl rfl) ?_)
 refine QH ?_ -- 0
 refine Qe fun K hK => Qa rfl (Y4 rfl rfl (Qa rfl ?_))
 refine Qx (g := 7) rfl (fun h1 => ?_) (fun h1 => ?_)
 ·try rw [h1]
  try simp only [qa, qb, qc, qd, qe, List.length_map] at h1
  refine Qm rfl (Qm rfl (Qm rfl (Qm rfl (Qj rfl rfl ?_))))
  refine hK _ _ (Qb (kp3 rfl rfl rfl) ?_)
  refine Zz rfl (Qe fun K hK => Qa rfl (QmX rfl rfl (by omega) (Qa rfl ?_)))
  refine hK _ _ (Qb (kp1 rfl) ?_)
  refine Qt (Qk (Qw rfl ?_))
  rw [Qll, if_pos (by omega)]
 ·try rw [h1]
  try simp only [qa, qb, qc, qd, qe, List.length_map] at h1
  refine Qf rfl (Qa rfl (Qf rfl (Qa rfl (Qf rfl (Q4 rfl rfl (Qf rfl (QhZ rfl rfl (Qj rfl rfl ?_))))))))
  refine hK _ _ (Qb (kp3 rfl rfl rfl) ?_)
  refine QB rfl (fun h2 => ?_) (fun h2 => ?_)
  ·try rw [h2]
   try simp only [qa, qb, qc, qd, qe, List.length_map] at h2
   refine Qe fun K hK => Qa rfl (QmX rfl rfl (by omega) (Qa rfl ?_))
   refine hK _ _ (Qb (kp1 rfl) ?_)
   refine Qt (Qk (Qw rfl ?_))
   rw [Qll, if_pos (by omega)]
  ·try rw [h2]
   try simp only [qa, qb, qc, qd, qe, List.length_map] at h2
   refine Qz (Qd (kp2 rfl rfl) (Qe fun K hK => Qa rfl (Qa rfl (QO rfl rfl rfl (by omega) (ZA (by omega) (by omega)) rfl (QC rfl rfl rfl (Qa rfl ?_))))))
   refine hK _ _ (Qb (kp1 rfl) ?_)
   refine Qt (Qw rfl ?_)
   exact (QkG (by omega) (by omega)).symm
theorem Xh {k : Nat} {L : List Int} {I n : Int} (hk : 1000000 <= k) (hL : ∀ x ∈ L, I64 x) (hn : n <= 9223372036854775807) (et : Nat) : OkH Try.prog 25 [.ref k 0 0, .int .i64 n] [(k, gB L I et)] (.int .i64 (nx L I n)) ((k, gB L (nxI I) et) :: [(k, gB L I et)]) := by
 refine OkH.lent hk Yb Try.func25 QpC (Nat.le_of_ble_eq_true rfl) rfl ?_
 show TW _ _ tf25.body _ _
 refine Qe fun K hK => Qa rfl ?_
 refine hK _ _ (Qb (kp2 rfl rfl) ?_)
 refine Qe fun K hK => Qa rfl (ZZ rfl rfl (Qi rfl QdL (QC rfl (ZY Qc9 rfl) rfl (Q9 rfl rfl rfl (ZZ rfl rfl (Qi rfl QdL (QS rfl Qc9 rfl rfl rfl rfl rfl rfl ?_)))))))
 refine hK _ _ (Qb (kp2 rfl rfl) ?_)
 refine Qe fun K hK => Qa rfl (ZZ rfl rfl (Qi rfl QdL (Zb (ds0 := [3, 1, 0]) rfl (ZY Qc9 rfl) rfl rfl rfl (Qa rfl (ZZ rfl rfl (Qi rfl QdL (Zb (ds0 := [4, 3, 1, 0]) rfl (ZY Qc9 rfl) rfl rfl rfl (Xz rfl rfl rfl (Q1 (ds0 := [1, 0]) (QcW) rfl rfl (.inr rfl) rfl rfl (Qa rfl ?_))))))))))
 refine Q1 (ds0 := [0]) (Zq hn (QlT hL (QcT _))) rfl rfl (.inr rfl) rfl rfl (Qa rfl ?_)
 refine hK _ _ (Qb (kp1 rfl) ?_)
 refine Qt ?_
 exact XS rfl rfl (Qnw Qc9)
end Go.Proofs
namespace Go.Proofs
open Go Go.Abs M3 M25
set_option linter.unusedVariables false
set_option linter.unusedSimpArgs false
theorem XJ {v : Int} (h0 : 0 <= v) (h1v : v <= 61) : Ok Try.prog 36 [.int .i64 v] (.int .i64 (2 ^ v.toNat)) := by
 refine Ok.ofT Yb Try.func36 QpM (Nat.le_of_ble_eq_true rfl) ?_
 show TW _ _ tf36.body _ _
 refine Qe fun K hK => Qa rfl ?_
 refine hK _ _ (Qb (kp1 rfl) ?_)
 refine Qe fun K hK => Qa rfl ?_
 refine hK _ _ (Qb (kp2 rfl rfl) ?_)
 refine QH ?_ -- 0
 refine Qe fun K hK => Qa rfl ?_
 refine hK _ _ (Qb (kp3 rfl rfl rfl) ?_)
 refine QK ?_
 refine Z6 (ι := Nat) (fun i => ⟨[(0, .int .i64 v), (3, .int .i64 (2 ^ i)), (4, .int .i64 i)], []⟩) (fun i => (i : Int) <= v) (fun i => v.toNat - i) 0 ?_ ?_ ?_
 ·exact Q7 (kp3 rfl rfl rfl)
 ·exact h0
 intro i hI
 have hp := Qip (i := i + 1) (by omega)
 rw [Int.pow_succ] at hp
 try dsimp only
 refine QH ?_ -- 1
 refine Qe fun K hK => Qa rfl (Qa rfl (Y4 rfl rfl ?_))
 refine hK _ _ (Qb (kp4 rfl rfl rfl rfl) ?_)
 refine QB rfl (fun h1 => ?_) (fun h1 => ?_)
 ·try rw [h1]
  try simp only [qa, qb, qc, qd, qe] at h1
  refine Qz (Qd (kp3 rfl rfl rfl) ?_)
  refine QH ?_ -- 2
  refine QK (Q8 fun K hK => Qa rfl (QnT rfl rfl (Qp (by obtain ⟨p1, p2⟩ := hp; generalize (2 : Int) ^ i = z at *; omega) (by obtain ⟨p1, p2⟩ := hp; generalize (2 : Int) ^ i = z at *; omega)) (Qa rfl (hK _ ?_))))
  refine Ql (Qd (kp3 rfl rfl rfl) (Q8 fun K hK => Qa rfl (Q9 rfl rfl (Qp (by omega) (by omega)) (Qa rfl (hK _ ?_)))))
  refine Qo (i + 1) ?_ ?_ ?_
  ·exact ZC (l := [0, 3, 4]) (lH := []) (kp3 rfl rfl rfl) Qy (by rw [Int.pow_succ]; rfl) rfl rfl
  ·show ((i + 1 : Nat) : Int) <= v; omega
  ·first | omega | (simp only; omega) | (dsimp only; omega)
 ·try rw [h1]
  try simp only [qa, qb, qc, qd, qe] at h1
  refine Z0 (Za (QI (QQ (Qd (kp1 rfl) (Qe fun K hK => Qa rfl (Qa rfl ?_))))))
  refine hK _ _ (Qb (kp1 rfl) ?_)
  refine Qt (Qw rfl ?_)
  rw [show v.toNat = i by omega]
theorem QgS {h m : Int} : Ok Try.prog 38 [.int .i64 h, .int .i64 m] (.int .i64 (Qb8 h m)) := by
 refine Ok.ofT Yb Try.func38 QpO (Nat.le_of_ble_eq_true rfl) ?_
 show TW _ _ tf38.body _ _
 refine Qe fun K hK => Qa rfl ?_
 refine hK _ _ (Qb (kp2 rfl rfl) ?_)
 refine QH ?_ -- 0
 refine QK (Qe fun K hK => Qa rfl (Qa rfl (QdB rfl rfl (ZJ rfl rfl (Qa rfl ?_)))))
 refine hK _ _ (Qb (kp3 rfl rfl rfl) ?_)
 refine QB rfl (fun h1 => ?_) (fun h1 => ?_)
 ·try rw [h1]
  try simp only [qa, qb, qc, qd, qe] at h1
  refine Qe fun K hK => Qa rfl ?_
  refine hK _ _ (Qb (kp1 rfl) ?_)
  refine Qt (Qu (Qk (Qw rfl ?_)))
  rw [Qb8, if_pos h1]
 ·try rw [h1]
  try simp only [qa, qb, qc, qd, qe] at h1
  refine Qe fun K hK => Qa rfl (Qa rfl (QeX rfl rfl (ZJ rfl rfl (Qa rfl ?_))))
  refine hK _ _ (Qb (kp1 rfl) ?_)
  refine QB rfl (fun h2 => ?_) (fun h2 => ?_)
  ·try rw [h2]
   try simp only [qa, qb, qc, qd, qe] at h2
   refine Qe fun K hK => Qa rfl ?_
   refine hK _ _ (Qb (kp1 rfl) ?_)
   refine Qt (Qu (Qk (Qw rfl ?_)))
   rw [Qb8, if_neg h1, if_pos h2]
  ·try rw [h2]
   try simp only [qa, qb, qc, qd, qe] at h2
   refine Qz (Ql (Qd (QX) (Qe fun K hK => Qa rfl ?_)))
   refine hK _ _ (Qb (kp1 rfl) ?_)
   refine Qt (Qw rfl ?_)
   rw [Qb8, if_neg h1, if_neg h2]
end Go.Proofs
namespace Go.Proofs
open Go Go.Abs M3 M25
set_option linter.unusedVariables false
set_option linter.unusedSimpArgs false
theorem YU  : Ok Try.prog 37 [] (.sl (versions.map dVr)) := by
 refine Ok.ofT Yb Try.func37 QpN (Nat.le_of_ble_eq_true rfl) ?_
 show TW _ _ tf37.body _ _
 refine Qe fun K hK => Qa rfl ?_
 refine hK _ _ (Qb (QX) ?_)
 refine Qe fun K hK => QP rfl rfl (QP rfl rfl (QP rfl rfl (QP rfl rfl (QD rfl rfl (Qa rfl ?_)))))
 refine hK _ _ (Qb (kp1 rfl) ?_)
 refine Qt (Ya rfl ?_)
 rfl
end Go.Proofs
namespace M25
open Go Go.Abs M3
structure WantT where
 u : Int
 s : QgC
structure CandT where
 v : Vr
 sh : Int
 ns : List (List WantT)
 bs : List WantT
structure Qlq where
 n : List UInt8
 f : List UInt8
 cs : List CandT
abbrev Qs := List Qlq
def Qe1 (x : WantT) : List D := [.int .i64 x.u, ZD x.s.1, ZD x.s.2]
def QW (l : List WantT) : D := .sl (l.map Qe1)
def QJ (l : List (List WantT)) : D := .sl (l.map fun r => [QW r])
def QoY (c : CandT) : List D := [.int .i64 c.v.a, .int .i64 c.v.b, .int .i64 c.v.c, .str c.v.p, .str c.v.q, .int .i64 c.sh, QJ c.ns, QW c.bs]
def Qj7 (l : List CandT) : D := .sl (l.map QoY)
def QaY (u : Qlq) : List D := [.str u.n, .str u.f, Qj7 u.cs]
def YY (w : Qs) : D := .agg [.sl (w.map QaY)]
structure Zo where
 u : Int
 m : Int
 deriving DecidableEq
structure StepT where
 u : Int
 m : Int
 l : Int
 c : Int
 deriving DecidableEq
structure RowT where
 k : Int
 u : Int
 a : Int
 b : Int
 t : List Zo
def Qnb (t : Zo) : List D := [.int .i64 t.u, .int .i64 t.m]
def Qdq (l : List Zo) : D := .sl (l.map Qnb)
def dStep (s : StepT) : List D := [.int .i64 s.u, .int .i64 s.m, .int .i64 s.l, .int .i64 s.c]
def ZI (l : List StepT) : D := .sl (l.map dStep)
abbrev Qax (a b : Int) : Int := Qac .and .i64 a b
abbrev bor (a b : Int) : Int := Qac .or .i64 a b
abbrev QhU (a b : Int) : Int := Qac .andNot .i64 a b
def uAt (w : Qs) (u : Int) : Option Qlq := if u < 0 then none else w[u.toNat]?
theorem QoA {w : Qs} {u : Int} (h0 : 0 <= u) (h : u < w.length) : uAt w u = some (w[u.toNat]'(by omega)) := by
 rw [uAt, if_neg (by omega), List.getElem?_eq_getElem (by omega)]
theorem Qnx {w : Qs} {u : Int} (h : u < 0 \/ (w.length : Int) <= u) : uAt w u = none := by
 unfold uAt
 split
 ·rfl
 ·rw [List.getElem?_eq_none]; omega
def Y7 (w : Qs) (u : Int) : Int := match uAt w u with
 | none => 0
 | some x => 2 ^ (min x.cs.length 16 + 1) - 1
theorem Qgi {w : Qs} {u : Int} (h0 : 0 <= u) (h : u < w.length) : Y7 w u = 2 ^ (min (w[u.toNat]'(by omega)).cs.length 16 + 1) - 1 := by
 rw [Y7, QoA h0 h]
theorem QcC {w : Qs} {u : Int} (h : u < 0 \/ (w.length : Int) <= u) : Y7 w u = 0 := by rw [Y7, Qnx h]
theorem Qja (w : Qs) (u : Int) : 0 <= Y7 w u /\ Y7 w u <= 131071 := by
 unfold Y7
 split
 ·omega
 ·rename_i x _
  have h1 : (2 : Nat) ^ (min x.cs.length 16 + 1) <= 2 ^ 17 := Nat.pow_le_pow_right (by omega) (by omega)
  have h2 : 1 <= (2 : Nat) ^ (min x.cs.length 16 + 1) := Nat.one_le_two_pow
  have h3 : ((2 ^ (min x.cs.length 16 + 1) : Nat) : Int) = (2 : Int) ^ (min x.cs.length 16 + 1) := by simp
  rw [<- h3]
  have h4 : (2 : Nat) ^ 17 = 131072 := by decide
  omega
def Qfc (v : Vr) : Prop := v.p.length <= 1000000 /\ v.q.length <= 1000000
structure WSm (w : Qs) : Prop where
 len : w.length <= 48
 cs : ∀ u ∈ w, u.cs.length <= 16
 vs : ∀ u ∈ w, ∀ c ∈ u.cs, Qfc c.v
 ns : ∀ u ∈ w, ∀ c ∈ u.cs, c.ns.length <= 1000 /\ c.bs.length <= 1000
 nl : ∀ u ∈ w, ∀ c ∈ u.cs, ∀ r ∈ c.ns, r.length <= 1000
 nw : ∀ u ∈ w, ∀ c ∈ u.cs, ∀ r ∈ c.ns, ∀ x ∈ r, Sm x.s.1 /\ Sm x.s.2
 bw : ∀ u ∈ w, ∀ c ∈ u.cs, ∀ x ∈ c.bs, Sm x.s.1 /\ Sm x.s.2
def Qpm (s : QgC) (v : Vr) : Bool := Qo5 s v.a v.b v.c v.p v.q
def Qon (s : QgC) (l : List CandT) : Nat -> Int
 | 0 => 0
 | n + 1 => Qon s l n + match l[n]? with
  | some c => if Qpm s c.v = true then 2 ^ (n + 1) else 0
  | none => 0
def Qpg (w : Qs) (x : WantT) : Int := match uAt w x.u with
 | none => 0
 | some un => Qon x.s un.cs (min un.cs.length 16)
theorem Qos {n : Nat} (h : n <= 17) : 1 <= (2 : Int) ^ n /\ (2 : Int) ^ n <= 131072 := by
 have h1 : (2 : Nat) ^ n <= 2 ^ 17 := Nat.pow_le_pow_right (by omega) h
 have h2 : 1 <= (2 : Nat) ^ n := Nat.one_le_two_pow
 have h3 : ((2 ^ n : Nat) : Int) = (2 : Int) ^ n := by simp
 rw [<- h3]
 have h4 : (2 : Nat) ^ 17 = 131072 := by decide
 omega
def Xi (m : Int) : Nat -> List Int
 | 0 => []
 | n + 1 => Xi m n ++ if Qax m (2 ^ n) = 0 then [] else [(n : Int) - 1]
def Xm (m : Int) : List Int := Xi m 17
theorem Qc4 (m : Int) : ∀ n, (Xi m n).length <= n
 | 0 => Nat.le_refl _
 | n + 1 => by
  have := Qc4 m n
  rw [Xi, List.length_append]
  split <;> simp <;> omega
def QmD (f : Int) (u : Int) : List Zo -> Int
 | [] => f
 | t :: r => if t.u = u then t.m else QmD f u r
def Qok (w : Qs) (l : List Zo) (u : Int) : Int := QmD (Y7 w u) u l
def Qf0 (w : Qs) : Nat -> List Int
 | 0 => []
 | n + 1 => Qf0 w n ++ [Y7 w n]
theorem Qeg (w : Qs) : ∀ n, (Qf0 w n).length = n
 | 0 => rfl
 | n + 1 => by rw [Qf0, List.length_append, Qeg w n]; rfl
def Qhi (w : Qs) : List Int := Qf0 w w.length
def Qfx (w : Qs) (ms : List Int) : Nat -> List Zo
 | 0 => []
 | n + 1 => Qfx w ms n ++ if ms.getD n 0 = Y7 w n then [] else [⟨n, ms.getD n 0⟩]
def Qoj (w : Qs) (ms : List Int) : Option (List Zo) := if ms.all (fun m => !decide (m = 0)) = true then some (Qfx w ms ms.length) else none
def Qfv (ms : List Int) (l : List Zo) : List Int := l.foldl (fun ms t => ms.set t.u.toNat (Qax (ms.getD t.u.toNat 0) t.m)) ms
def inW (w : Qs) (u : Int) : Bool := decide (0 <= u) && decide (u < w.length)
def QkJ (w : Qs) (l : List Zo) : Option (List Zo) := if l.all (fun t => inW w t.u) = true then Qoj w (Qfv (Qhi w) l) else none
def Qo4 (l : List Zo) (u : Int) : List Zo := l.filter fun t => !decide (t.u = u)
def QbF (l : List Zo) : Nat -> List Zo
 | 0 => []
 | n + 1 => QbF l n ++ l.filter fun t => decide (t.u = ((n : Nat) : Int))
def QkN (l : List Zo) : List Zo := QbF l 48
def Qgg (w : Qs) (u : Int) (p : Nat) (l : List WantT) (bar : Bool) : Option (List Zo) :=
 QkJ w (⟨u, Qax (Y7 w u) (2 * 2 ^ p)⟩ :: l.map fun x => ⟨x.u, if bar = true then Qpg w x else Y7 w x.u - Qpg w x⟩)
def Qo3 (r x : RowT) : Bool := decide (x.k = r.k) && decide (x.u = r.u) && decide (Qo4 x.t r.u = Qo4 r.t r.u)
def Qoa (w : Qs) (r x : RowT) : RowT := { x with t := QkN (⟨r.u, bor (Qok w x.t r.u) (Qok w r.t r.u)⟩ :: Qo4 x.t r.u) }
def Qgk (w : Qs) (r : RowT) : List RowT -> List RowT
 | [] => [r]
 | x :: l => if Qo3 r x = true then Qoa w r x :: l else x :: Qgk w r l
def Qht (w : Qs) (u : Int) (p : Nat) (l : List (List WantT)) (rows : List RowT) : List RowT := l.foldl (fun rows n => match Qgg w u p n false with
 | some t => Qgk w ⟨2, u, 0, 0, t⟩ rows
 | none => rows) rows
def Qj1 (w : Qs) (u : Int) (p : Nat) (l : List WantT) (rows : List RowT) : List RowT := l.foldl (fun rows n => match Qgg w u p [n] true with
 | some t => Qgk w ⟨3, u, 0, 0, t⟩ rows
 | none => rows) rows
def QbU (w : Qs) (u : Int) (cs : List CandT) : Nat -> List RowT -> List RowT
 | 0, rows => rows
 | n + 1, rows => match cs[n]? with
  | some c => Qj1 w u n c.bs (Qht w u n c.ns (QbU w u cs n rows))
  | none => QbU w u cs n rows
def QbZ (w : Qs) : Nat -> List RowT
 | 0 => [⟨1, 0, 0, 0, [⟨0, 1⟩]⟩]
 | n + 1 => match w[n]? with
  | some u => QbU w n u.cs u.cs.length (QbZ w n)
  | none => QbZ w n
def Qof (w : Qs) : List RowT := QbZ w w.length
def mDB (w : Qs) : List (List Zo) := (Qof w).map RowT.t
/-! ### Trails -/
def Q3 (w : Qs) (l : List StepT) (u : Int) : Int := l.foldl (fun a s => if s.u = u /\ inW w u = true then s.m else a) (Y7 w u)
def Yk (l : List StepT) : Int := match l.getLast? with
 | none => 0
 | some s => s.l
def Y0 (l : List StepT) (u : Int) : Bool := l.any fun s => decide (s.u = u) && decide (s.c = -1)
def QjL : List Int -> Int
 | [x] => x
 | _ => -1
def Xp (m : Int) : Int := QjL (Xm m)
def Qbk (w : Qs) (l : List StepT) (s : StepT) : Bool :=
 inW w s.u && decide (-1 <= s.c) && decide (Qax s.m (Q3 w l s.u) = s.m) &&
  if s.c = -1 then decide (0 <= Xp s.m) && !Y0 l s.u && decide (s.l = IntKind.i64.wrap (Yk l + 1))
  else !decide (s.m = 0) && !decide (s.m = Q3 w l s.u) && decide (s.l = Yk l)
def Qad (w : Qs) (l : List StepT) : Bool := (List.range l.length).all fun i => match l[i]? with
 | some s => Qbk w (l.take i) s
 | none => true
def Qhn (w : Qs) (l : List StepT) (inc : List Zo) : Bool := inc.all fun t => decide (QeF (Q3 w l t.u) t.m = 2)
def Qgo (have_ : Int -> Int) : List Zo -> Int -> Int
 | [], at_ => at_
 | t :: r, at_ => if QeF (have_ t.u) t.m = 0 then -1 else if QeF (have_ t.u) t.m = 1 then (if 0 <= at_ then -1 else Qgo have_ r t.u) else Qgo have_ r at_
def Qol (w : Qs) (l : List StepT) (inc : List Zo) : Int := Qgo (Q3 w l) inc (-1)
def Qjl (w : Qs) (l : List StepT) : Nat -> List (List Zo) -> Int × Int
 | _, [] => (-1, -1)
 | i, x :: r => if Qhn w l x = true then (i, -1) else if 0 <= Qol w l x then (i, Qol w l x) else Qjl w l (i + 1) r
def Qo6 (w : Qs) (db : List (List Zo)) (l : List StepT) : Int × Int := Qjl w l 0 db
def XR (w : Qs) (l : List StepT) (t : Zo) (c : Int) : Option (List StepT) :=
 if c < 0 \/ inW w t.u = false then none
 else if IntKind.i64.wrap (Q3 w l t.u - Qax (Q3 w l t.u) t.m) = 0 \/ IntKind.i64.wrap (Q3 w l t.u - Qax (Q3 w l t.u) t.m) = Q3 w l t.u then none
 else some (l ++ [⟨t.u, IntKind.i64.wrap (Q3 w l t.u - Qax (Q3 w l t.u) t.m), Yk l, c⟩])
def Qgh (w : Qs) (l : List StepT) (u p : Int) : Option (List StepT) := match uAt w u with
 | none => none
 | some x => if p < 0 \/ (x.cs.length : Int) <= p then none
  else if Qbk w l ⟨u, IntKind.i64.wrap (2 * 2 ^ min p.toNat 64), IntKind.i64.wrap (Yk l + 1), -1⟩ = true then some (l ++ [⟨u, IntKind.i64.wrap (2 * 2 ^ min p.toNat 64), IntKind.i64.wrap (Yk l + 1), -1⟩]) else none
def dOS (o : Option (List StepT)) : D := .tup [ZI (o.getD []), .bool o.isSome]
end M25
namespace M25
open Go Go.Abs M3
section
variable {fr : List (Nat × D)} {H : List (Nat × Box)} {t u : Nat}
theorem Qls {k n : Nat} {b : Box} {d : D} (hb : lk H k = some b) (hp : b.pr = true) (hn : n = b.rows.length) (hd : .sl b.rows = d) : Qaw ⟨fr, H⟩ (.osl k n) = d := by
 unfold Qaw; rw [Qo1 (S := Qcc) rfl hb hp hn]; exact hd
theorem QdT {e : Yn} {k n : Nat} {b : Box} {d : D} (h : lk fr t = some (.osl k n)) (hb : lk H k = some b) (hp : b.pr = true) (hn : n = b.rows.length) (hd : .sl b.rows = d) (he : e = .ret \/ e = .normal := by first | exact .inl rfl | exact .inr rfl) : Post [.tmp t] d e ⟨fr, H⟩ :=
 Ya h (Qls hb hp hn hd) he
end
theorem Qo7 (n : Nat) : (min (n : Int) 16 + 1).toNat = min n 16 + 1 := by omega
theorem QhR {n : Nat} (h : n <= 62) : IntKind.i64.wrap ((2 : Int) ^ n - 1) = 2 ^ n - 1 := by
 have := Qip h; exact Qp (by omega) (by omega)
theorem XB {m : Int} {n : Nat} (h : ¬ Qax m (2 ^ n) = 0) : Xi m (n + 1) = Xi m n ++ [(n : Int) - 1] := by rw [Xi, if_neg h]
theorem QaB {m : Int} {n : Nat} (h : Qax m (2 ^ n) = 0) : Xi m (n + 1) = Xi m n := by rw [Xi, if_pos h, List.append_nil]
theorem Qhc {w : Qs} {u : Int} (h0 : 0 <= u) (h : u < w.length) : inW w u = true := by simp [inW, h0, h]
theorem Qem {w : Qs} {u : Int} (h : u < 0 \/ (w.length : Int) <= u) : inW w u = false := by
 simp only [inW, Bool.and_eq_false_iff, decide_eq_false_iff_not]; omega
theorem Qc8 {w : Qs} {u : Int} : inW w u = true ↔ 0 <= u /\ u < w.length := by simp [inW]
theorem QjJ (l : List Zo) : ∀ ms : List Int, (Qfv ms l).length = ms.length := by
 induction l with
 | nil => intro ms; rfl
 | cons t l ih => intro ms; rw [Qfv, List.foldl_cons]; exact (ih _).trans (List.length_set ..)
theorem QgA {e : Int} (h1 : 0 <= e) (h2 : e <= 18446744073709551615) : IntKind.u64.wrap e = e := by
 unfold IntKind.wrap
 simp only [IntKind.bits, IntKind.signed, Bool.false_and, Bool.false_eq_true, if_false]
 omega
theorem Qkm (w : Qs) (l : List Zo) : (Qfv (Qhi w) l).length = w.length := by rw [QjJ, Qhi, Qeg]
end M25
namespace Go.Proofs
open Go Go.Abs M3 M25
set_option linter.unusedVariables false
set_option linter.unusedSimpArgs false
theorem QbL {w : Qs} (hw : WSm w) {u : Int} : Ok Try.prog 18 [YY w, .int .i64 u] (.int .i64 (Y7 w u)) := by
 refine Ok.ofT Yb Try.func18 Qpv (Nat.le_of_ble_eq_true rfl) ?_
 show TW _ _ tf18.body _ _
 refine Qe fun K hK => ZV rfl rfl rfl (Qa rfl ?_)
 refine hK _ _ (Qb (kp2 rfl rfl) ?_)
 refine QH ?_ -- 0
 refine Qe fun K hK => Qa rfl (Y4 rfl rfl (Qa rfl ?_))
 refine Qx (g := 7) rfl (fun h1 => ?_) (fun h1 => ?_)
 ·try rw [h1]
  try simp only [qa, qb, qc, qd, qe, List.length_map] at h1
  refine Qm rfl (Qm rfl (Qm rfl (Qm rfl (Qm rfl (Qj rfl rfl ?_)))))
  refine hK _ _ (Qb (kp3 rfl rfl rfl) ?_)
  refine Zz rfl (Qe fun K hK => Qa rfl ?_)
  refine hK _ _ (Qb (kp1 rfl) ?_)
  refine Qt (Qk (Qw rfl ?_))
  rw [QcC (by omega)]
 ·try rw [h1]
  try simp only [qa, qb, qc, qd, qe, List.length_map] at h1
  refine Qf rfl (Qa rfl (Qf rfl (Qi rfl rfl (Qf rfl (QC rfl rfl rfl (Qf rfl (Q4 rfl rfl (Qf rfl (QhZ rfl rfl (Qj rfl rfl ?_))))))))))
  refine hK _ _ (Qb (kp3 rfl rfl rfl) ?_)
  refine QB rfl (fun h2 => ?_) (fun h2 => ?_)
  ·try rw [h2]
   try simp only [qa, qb, qc, qd, qe, List.length_map] at h2
   refine Qe fun K hK => Qa rfl ?_
   refine hK _ _ (Qb (kp1 rfl) ?_)
   refine Qt (Qk (Qw rfl ?_))
   rw [QcC (by omega)]
  ·try rw [h2]
   try simp only [qa, qb, qc, qd, qe, List.length_map] at h2
   refine Qz (Qd (kp2 rfl rfl) (Qe fun K hK => Qi rfl rfl (QC rfl rfl rfl (Qa rfl (QO rfl rfl rfl (by omega) (ZA (by omega) (by omega)) rfl (ZK rfl rfl (QC rfl rfl rfl (Q4 rfl rfl (QoP rfl rfl (Q9 rfl rfl (by first | exact Qp (by omega) (by omega) | rfl) ?_))))))))))
   refine QA (XJ (by omega) (by omega)) rfl rfl (.inr rfl) (Xz rfl rfl (QhR (by omega)) (Qa rfl ?_))
   refine hK _ _ (Qb (kp1 rfl) ?_)
   refine Qt (Qw rfl ?_)
   rw [Qgi (by omega) (by omega), List.length_map, Qo7]
theorem Xr {m : Int} : Ok Try.prog 28 [.int .i64 m] (ZG (Xm m)) := by
 refine Ok.ofT Yb Try.func28 QpF (Nat.le_of_ble_eq_true rfl) ?_
 show TW _ _ tf28.body _ _
 refine Qe fun K hK => Qa rfl ?_
 refine hK _ _ (Qb (kp1 rfl) ?_)
 refine Qe fun K hK => Qa rfl ?_
 refine hK _ _ (Qb (kp2 rfl rfl) ?_)
 refine QH ?_ -- 0
 refine Qe fun K hK => Qa rfl ?_
 refine hK _ _ (Qb (kp3 rfl rfl rfl) ?_)
 refine QK ?_
 refine Z6 (ι := Nat) (fun i => ⟨[(0, .int .i64 m), (3, .osl 3 (Xi m i).length), (4, .int .i64 i)], [(3, ⟨(Xi m i).map (fun x => [.int .i64 x]), 1, 3, true⟩)]⟩) (fun i => i <= 17) (fun i => 17 - i) 0 ?_ ?_ ?_
 ·exact le_trans (Xk 3 3 1 3 rfl rfl) (ZC (l := [0, 3, 4]) (lH := [3]) (kp3 rfl rfl rfl) (Qq rfl Qy) rfl rfl rfl)
 ·exact Nat.zero_le _
 intro i hI
 have hlen := Qc4 m i
 try dsimp only
 refine QH ?_ -- 1
 refine Qe fun K hK => Qa rfl (QnQ rfl rfl ?_)
 refine hK _ _ (Qb (kp4 rfl rfl rfl rfl) ?_)
 refine QB rfl (fun h1 => ?_) (fun h1 => ?_)
 ·try rw [h1]
  try simp only [qa, qb, qc, qd, qe] at h1
  refine Qz (Qd (kp3 rfl rfl rfl) ?_)
  refine QH ?_ -- 2
  refine QK (Qe fun K hK => Qa rfl (Qa rfl (QA (XJ (by omega) (by omega)) rfl rfl (.inr rfl) (QeX rfl rfl (Qay rfl rfl ?_)))))
  refine hK _ _ (Qb (kp4 rfl rfl rfl rfl) ?_)
  refine QB rfl (fun h2 => ?_) (fun h2 => ?_)
  ·try rw [h2]
   try simp only [qa, qb, qc, qd, qe] at h2
   refine Q8 fun K hK => Qa rfl (Qa rfl (Xz rfl rfl (by first | exact Qp (by omega) (by omega) | rfl) (QD rfl rfl (QbS rfl rfl (fun _ h => QaV rfl rfl rfl h) rfl (by simp) rfl rfl rfl (by simp; omega) (by simp; omega) (Qa rfl (hK _ ?_))))))
   refine Ql (Qd (kp3 rfl rfl rfl) (Q8 fun K hK => Qa rfl (Q9 rfl rfl (by first | exact Qp (by omega) (by omega) | rfl) (Qa rfl (hK _ ?_)))))
   refine Qo (i + 1) ?_ ?_ ?_
   ·exact ZC (l := [0, 3, 4]) (lH := [3]) (kp3 rfl rfl rfl) (Qq rfl Qy) (by first | (rw [XB (m := m) (n := i) h2]; done) | (rw [XB (m := m) (n := i) h2]; rfl) | (rw [XB (m := m) (n := i) h2, List.length_append]; rfl) | (simp [XB (m := m) (n := i) h2]; done) | (simp [XB (m := m) (n := i) h2]; omega) | rfl) (by first | (rw [XB (m := m) (n := i) h2]; done) | (rw [XB (m := m) (n := i) h2]; rfl) | (rw [XB (m := m) (n := i) h2, List.map_append]; rfl) | (simp [XB (m := m) (n := i) h2]; done) | rfl) rfl
   ·omega
   ·first | omega | (simp only; omega) | (dsimp only; omega)
  ·try rw [h2]
   try simp only [qa, qb, qc, qd, qe] at h2
   refine Qz (Ql (Qd (kp3 rfl rfl rfl) (Q8 fun K hK => Qa rfl (Q9 rfl rfl (by first | exact Qp (by omega) (by omega) | rfl) (Qa rfl (hK _ ?_))))))
   refine Qo (i + 1) ?_ ?_ ?_
   ·exact ZC (l := [0, 3, 4]) (lH := [3]) (kp3 rfl rfl rfl) (Qq rfl Qy) (by first | (rw [QaB (m := m) (n := i) h2]; done) | (rw [QaB (m := m) (n := i) h2]; rfl) | (rw [QaB (m := m) (n := i) h2, List.length_append]; rfl) | (simp [QaB (m := m) (n := i) h2]; done) | (simp [QaB (m := m) (n := i) h2]; omega) | rfl) (by first | (rw [QaB (m := m) (n := i) h2]; done) | (rw [QaB (m := m) (n := i) h2]; rfl) | (rw [QaB (m := m) (n := i) h2, List.map_append]; rfl) | (simp [QaB (m := m) (n := i) h2]; done) | rfl) rfl
   ·omega
   ·first | omega | (simp only; omega) | (dsimp only; omega)
 ·try rw [h1]
  try simp only [qa, qb, qc, qd, qe] at h1
  refine Z0 (Za (QI (QQ (Qd (kp1 rfl) (Qe fun K hK => Qa rfl (Qa rfl ?_))))))
  refine hK _ _ (Qb (kp1 rfl) ?_)
  refine Qt ?_
  exact QdT rfl rfl rfl (by simp) (by rw [Xm, show (17 : Nat) = i by omega]; rfl)
end Go.Proofs
namespace M25
open Go Go.Abs M3
def IncOk (w : Qs) (l : List Zo) : Prop := l.Pairwise (fun a b => a.u < b.u) /\ ∀ t ∈ l, 0 <= t.u /\ t.u < w.length
theorem QfF : ∀ (l : List Zo) (a b : Int), l.Pairwise (fun x y => x.u < y.u) -> (∀ t ∈ l, a <= t.u /\ t.u < b) -> a <= b -> (l.length : Int) <= b - a
 | [], a, b, _, _, h => by simp; omega
 | t :: l, a, b, hp, hb, h => by
  rw [List.pairwise_cons] at hp
  have h1 := hb t (by simp)
  have := QfF l (t.u + 1) b hp.2 (fun s hs => ⟨by have := hp.1 s hs; omega, (hb s (by simp [hs])).2⟩) (by omega)
  simp only [List.length_cons]; omega
theorem IncOk.len {w : Qs} {l : List Zo} (h : IncOk w l) : l.length <= w.length := by
 have := QfF l 0 w.length h.1 h.2 (by omega)
 omega
theorem Qhp (w : Qs) (ms : List Int) : ∀ n, (Qfx w ms n).Pairwise (fun a b => a.u < b.u) /\ ∀ t ∈ Qfx w ms n, 0 <= t.u /\ t.u < n
 | 0 => ⟨List.Pairwise.nil, by simp [Qfx]⟩
 | n + 1 => by
  obtain ⟨h1, h2⟩ := Qhp w ms n
  rw [Qfx]
  split
  ·rw [List.append_nil]; exact ⟨h1, fun t ht => by have := h2 t ht; omega⟩
  ·refine ⟨List.pairwise_append.2 ⟨h1, List.pairwise_singleton _ _, fun a ha b hb => ?_⟩, fun t ht => ?_⟩
   ·simp only [List.mem_singleton] at hb; subst hb; exact (h2 a ha).2
   ·rcases List.mem_append.1 ht with ht | ht
    ·have := h2 t ht; omega
    ·simp only [List.mem_singleton] at ht; subst ht; simp only; omega
theorem Qhl {w : Qs} {l t : List Zo} (h : QkJ w l = some t) : IncOk w t := by
 unfold QkJ at h
 split at h
 ·unfold Qoj at h
  split at h
  ·cases h
   obtain ⟨h1, h2⟩ := Qhp w (Qfv (Qhi w) l) (Qfv (Qhi w) l).length
   refine ⟨h1, fun t ht => ?_⟩
   have := h2 t ht
   rw [Qkm] at this
   exact this
  ·cases h
 ·cases h
theorem IncOk.ne {w : Qs} {l : List Zo} (h : IncOk w l) : l.Pairwise (fun a b => a.u ≠ b.u) := h.1.imp fun h => by omega
theorem QeS {l : List Zo} (hl : l.Pairwise (fun a b => a.u ≠ b.u)) : ∀ n, (QbF l n).Pairwise (fun a b => a.u < b.u) /\ ∀ t ∈ QbF l n, t ∈ l /\ 0 <= t.u /\ t.u < n
 | 0 => ⟨List.Pairwise.nil, by simp [QbF]⟩
 | n + 1 => by
  obtain ⟨h1, h2⟩ := QeS hl n
  rw [QbF]
  have hf : ∀ t ∈ l.filter (fun t => decide (t.u = ((n : Nat) : Int))), t ∈ l /\ t.u = n := fun t ht => by
   simpa using List.mem_filter.1 ht
  refine ⟨List.pairwise_append.2 ⟨h1, ?_, fun a ha b hb => ?_⟩, fun t ht => ?_⟩
  ·refine List.Pairwise.imp_of_mem (fun {a b} ha hb hab => ?_) (hl.filter _)
   have := (hf a ha).2
   have := (hf b hb).2
   omega
  ·rw [(hf b hb).2]; exact (h2 a ha).2.2
  ·rcases List.mem_append.1 ht with ht | ht
   ·have := h2 t ht; exact ⟨this.1, by omega, by omega⟩
   ·have := hf t ht; exact ⟨this.1, by omega, by omega⟩
theorem QjK {w : Qs} {l : List Zo} (hl : l.Pairwise (fun a b => a.u ≠ b.u)) (hb : ∀ t ∈ l, 0 <= t.u /\ t.u < w.length) : IncOk w (QkN l) := by
 obtain ⟨h1, h2⟩ := QeS hl 48
 exact ⟨h1, fun t ht => hb t (h2 t ht).1⟩
theorem QlO {w : Qs} {r x : RowT} (hx : IncOk w x.t) (h0 : 0 <= r.u) (h1 : r.u < w.length) : IncOk w (Qoa w r x).t := by
 refine QjK (List.pairwise_cons.2 ⟨fun t ht => ?_, hx.ne.filter _⟩) fun t ht => ?_
 ·have := (List.mem_filter.1 ht).2
  simp only [Bool.not_eq_true', decide_eq_false_iff_not] at this
  exact fun e => this e.symm
 ·rcases List.mem_cons.1 ht with rfl | ht
  ·exact ⟨h0, h1⟩
  ·exact hx.2 t (List.mem_filter.1 ht).1
def Qce (w : Qs) (rows : List RowT) : Prop := ∀ x ∈ rows, IncOk w x.t
theorem Qiq {w : Qs} {r : RowT} (hr : IncOk w r.t) (h0 : 0 <= r.u) (h1 : r.u < w.length) : ∀ {rows : List RowT}, Qce w rows -> Qce w (Qgk w r rows)
 | [], _ => fun x hx => by
  simp only [Qgk, List.mem_singleton] at hx; subst hx; exact hr
 | y :: rows, h => fun x hx => by
  rw [Qgk] at hx
  split at hx
  ·rcases List.mem_cons.1 hx with rfl | hx
   ·exact QlO (h y (by simp)) h0 h1
   ·exact h x (by simp [hx])
  ·rcases List.mem_cons.1 hx with rfl | hx
   ·exact h x (by simp)
   ·exact Qiq hr h0 h1 (fun z hz => h z (by simp [hz])) x hx
theorem Qgq (w : Qs) (r : RowT) : ∀ rows : List RowT, (Qgk w r rows).length <= rows.length + 1
 | [] => by simp [Qgk]
 | x :: rows => by
  have := Qgq w r rows
  rw [Qgk]; split <;> simp <;> omega
theorem QeH {w : Qs} {u : Int} {p : Nat} (h0 : 0 <= u) (h1 : u < w.length) : ∀ {l : List (List WantT)} {rows : List RowT}, Qce w rows -> Qce w (Qht w u p l rows) /\ (Qht w u p l rows).length <= rows.length + l.length
 | [], rows, h => ⟨h, Nat.le_refl _⟩
 | x :: l, rows, h => by
  rw [Qht, List.foldl_cons]
  cases hc : Qgg w u p x false with
  | none =>
   obtain ⟨q1, q2⟩ := QeH h0 h1 (l := l) h
   exact ⟨q1, Nat.le_trans q2 (by simp)⟩
  | some t =>
   obtain ⟨q1, q2⟩ := QeH (p := p) h0 h1 (l := l) (Qiq (r := ⟨2, u, 0, 0, t⟩) (Qhl hc) h0 h1 h)
   have := Qgq w ⟨2, u, 0, 0, t⟩ rows
   exact ⟨q1, Nat.le_trans q2 (by simp only [List.length_cons]; omega)⟩
theorem QfS {w : Qs} {u : Int} {p : Nat} (h0 : 0 <= u) (h1 : u < w.length) : ∀ {l : List WantT} {rows : List RowT}, Qce w rows -> Qce w (Qj1 w u p l rows) /\ (Qj1 w u p l rows).length <= rows.length + l.length
 | [], rows, h => ⟨h, Nat.le_refl _⟩
 | x :: l, rows, h => by
  rw [Qj1, List.foldl_cons]
  cases hc : Qgg w u p [x] true with
  | none =>
   obtain ⟨q1, q2⟩ := QfS h0 h1 (l := l) h
   exact ⟨q1, Nat.le_trans q2 (by simp)⟩
  | some t =>
   obtain ⟨q1, q2⟩ := QfS (p := p) h0 h1 (l := l) (Qiq (r := ⟨3, u, 0, 0, t⟩) (Qhl hc) h0 h1 h)
   have := Qgq w ⟨3, u, 0, 0, t⟩ rows
   exact ⟨q1, Nat.le_trans q2 (by simp only [List.length_cons]; omega)⟩
theorem Qlw {w : Qs} {u : Int} {cs : List CandT} {n : Nat} {rows : List RowT} (h : n < cs.length) : QbU w u cs (n + 1) rows = Qj1 w u n cs[n].bs (Qht w u n cs[n].ns (QbU w u cs n rows)) := by
 rw [QbU, List.getElem?_eq_getElem h]
theorem QgX {w : Qs} {u : Int} {cs : List CandT} (h0 : 0 <= u) (h1 : u < w.length) (hc : ∀ c ∈ cs, c.ns.length <= 1000 /\ c.bs.length <= 1000) {rows : List RowT} (h : Qce w rows) : ∀ n, n <= cs.length -> Qce w (QbU w u cs n rows) /\ (QbU w u cs n rows).length <= rows.length + n * 2000
 | 0, _ => ⟨h, by simp [QbU]⟩
 | n + 1, hn => by
  obtain ⟨q1, q2⟩ := QgX h0 h1 hc h n (by omega)
  rw [Qlw (by omega)]
  obtain ⟨q3, q4⟩ := QeH (p := n) h0 h1 (l := cs[n].ns) q1
  obtain ⟨q5, q6⟩ := QfS (p := n) h0 h1 (l := cs[n].bs) q3
  have := hc cs[n] (List.getElem_mem _)
  exact ⟨q5, by omega⟩
theorem Qns {w : Qs} {n : Nat} (h : n < w.length) : QbZ w (n + 1) = QbU w n w[n].cs w[n].cs.length (QbZ w n) := by
 rw [QbZ, List.getElem?_eq_getElem h]
theorem QeN {w : Qs} (hw : WSm w) (h0 : 0 < w.length) : ∀ n, n <= w.length -> Qce w (QbZ w n) /\ (QbZ w n).length <= 1 + n * 32000
 | 0, _ => ⟨fun x hx => by
   simp only [QbZ, List.mem_singleton] at hx; subst hx
   exact ⟨List.pairwise_singleton _ _, fun t ht => by simp only [List.mem_singleton] at ht; subst ht; exact ⟨Int.le_refl _, by simp only; omega⟩⟩, by simp [QbZ]⟩
 | n + 1, hn => by
  obtain ⟨q1, q2⟩ := QeN hw h0 n (by omega)
  rw [Qns (by omega)]
  obtain ⟨q3, q4⟩ := QgX (u := n) (by omega) (by omega) (fun c hc => hw.ns w[n] (List.getElem_mem _) c hc) q1 w[n].cs.length (Nat.le_refl _)
  have := hw.cs w[n] (List.getElem_mem _)
  refine ⟨q3, ?_⟩
  have h5 : w[n].cs.length * 2000 <= 16 * 2000 := Nat.mul_le_mul_right _ this
  omega
theorem Qog {w : Qs} (hw : WSm w) (h0 : 0 < w.length) : ∀ t ∈ mDB w, IncOk w t := fun t ht => by
 obtain ⟨r, hr, rfl⟩ := List.mem_map.1 ht
 exact (QeN hw h0 w.length (Nat.le_refl _)).1 r hr
theorem Qnl {w : Qs} (hw : WSm w) (h0 : 0 < w.length) : (mDB w).length <= 1600000 := by
 have := (QeN hw h0 w.length (Nat.le_refl _)).2
 have := hw.len
 rw [mDB, List.length_map, Qof]; omega
theorem Ql8 {l : List StepT} : ∀ r ∈ l.map dStep, r.length = 4 := fun r hr => by obtain ⟨x, _, rfl⟩ := List.mem_map.1 hr; rfl
end M25
namespace M25
open Go Go.Abs M3
/-! ### Bits of numbers -/
theorem Qgz (e : Int) : IntKind.i64.wrap e = (BitVec.ofInt 64 e).toInt := by
 have hb : (BitVec.ofInt 64 e).toInt = if e % 18446744073709551616 < 9223372036854775808 then e % 18446744073709551616 else e % 18446744073709551616 - 18446744073709551616 := by
  rw [BitVec.toInt_ofInt]; rfl
 rw [hb]
 unfold IntKind.wrap
 simp only [IntKind.bits, IntKind.signed, Bool.true_and]
 split
 ·rename_i h
  have := of_decide_eq_true h
  split <;> omega
 ·rename_i h
  have : ¬ (e % 2 ^ 64 >= 2 ^ (64 - 1)) := fun hh => h (decide_eq_true hh)
  split <;> omega
theorem QeJ (b : BitVec 64) : BitVec.ofInt 64 (b.toNat : Int) = b := by
 rw [BitVec.ofInt_natCast, BitVec.ofNat_toNat, BitVec.setWidth_eq]
theorem Qmt (x y : Int) : BitVec.ofInt 64 (Qax x y) = BitVec.ofInt 64 x &&& BitVec.ofInt 64 y := by
 show BitVec.ofInt 64 (IntKind.i64.wrap ((BitVec.ofInt 64 x &&& BitVec.ofInt 64 y).toNat : Int)) = _
 rw [Qgz, BitVec.ofInt_toInt, QeJ]
theorem Qmu (x y : Int) : BitVec.ofInt 64 (QhU x y) = BitVec.ofInt 64 x &&& ~~~ BitVec.ofInt 64 y := by
 show BitVec.ofInt 64 (IntKind.i64.wrap ((BitVec.ofInt 64 x &&& ~~~ BitVec.ofInt 64 y).toNat : Int)) = _
 rw [Qgz, BitVec.ofInt_toInt, QeJ]
theorem Qi3 {x : Int} (h : I64 x) : IntKind.i64.wrap x = x := Qp h.1 h.2
theorem QiP {x : Int} (h : I64 x) : (BitVec.ofInt 64 x).toInt = x := by rw [<- Qgz, Qi3 h]
theorem Qc7 (x y : Int) : I64 (Qax x y) := QcT _
theorem Qic (x y : Int) : I64 (QhU x y) := QcT _
def tb (x : Int) (i : Nat) : Bool := (BitVec.ofInt 64 x).getLsbD i
theorem Qjo (x y : Int) (i : Nat) : tb (Qax x y) i = (tb x i && tb y i) := by rw [tb, Qmt, BitVec.getLsbD_and]; rfl
theorem Qli (x y : Int) {i : Nat} : tb (QhU x y) i = (tb x i && !tb y i) := by
 rw [tb, Qmu, BitVec.getLsbD_and, BitVec.getLsbD_not]
 by_cases h : i < 64
 ·simp [h, tb]
 ·simp [tb, BitVec.getLsbD_of_ge _ i (by omega : 64 <= i)]
theorem Qlh (x : Int) {i : Nat} (h : 64 <= i) : tb x i = false := BitVec.getLsbD_of_ge _ i h
theorem QhO {x y : Int} (hx : I64 x) (hy : I64 y) (h : ∀ i, tb x i = tb y i) : x = y := by
 rw [<- QiP hx, <- QiP hy]
 congr 1
 exact BitVec.eq_of_getLsbD_eq fun i _ => h i
theorem QiB (i : Nat) : tb 0 i = false := by
 show (BitVec.ofInt 64 0).getLsbD i = false
 rw [show BitVec.ofInt 64 0 = 0#64 from rfl, BitVec.getLsbD_zero]
theorem Qea {x : Int} (hx : I64 x) : x = 0 ↔ ∀ i, tb x i = false := by
 constructor
 ·rintro rfl i; exact QiB i
 ·intro h; exact QhO hx ⟨by omega, by omega⟩ fun i => by rw [h i, QiB]
theorem QhP (n : Nat) {i : Nat} (h : i < 64) : tb (n : Int) i = n.testBit i := by
 rw [tb, BitVec.ofInt_natCast, BitVec.getLsbD_ofNat]; simp [h]
theorem QfI {k : Nat} (hk : k < 64) (i : Nat) : tb ((2 : Int) ^ k) i = decide (i = k) := by
 have e : ((2 ^ k : Nat) : Int) = (2 : Int) ^ k := by simp
 by_cases h : i < 64
 ·rw [<- e, QhP _ h, Nat.testBit_two_pow]
  exact decide_eq_decide.2 eq_comm
 ·rw [Qlh _ (by omega)]; exact (decide_eq_false (by omega)).symm
theorem QeU (x m : Int) : IntKind.i64.wrap (x - Qax x m) = QhU x m := by
 have h : BitVec.ofInt 64 (x - Qax x m) = BitVec.ofInt 64 x &&& ~~~ BitVec.ofInt 64 m := by
  rw [Int.sub_eq_add_neg, BitVec.ofInt_add, BitVec.ofInt_neg, <- BitVec.sub_eq_add_neg, Qmt]
  generalize BitVec.ofInt 64 x = a
  generalize BitVec.ofInt 64 m = b
  have h1 : (a &&& ~~~b) + (a &&& b) = a := by
   rw [BitVec.add_eq_or_of_and_eq_zero]
   ·ext i hi; simp; cases a[i] <;> cases b[i] <;> rfl
   ·ext i hi; simp
    cases a[i] <;> cases b[i] <;> simp
  exact (BitVec.sub_eq_iff_eq_add).2 h1.symm
 have e : QhU x m = (BitVec.ofInt 64 (QhU x m)).toInt := (QiP (Qic x m)).symm
 rw [e, Qgz, h, Qmu]
theorem QdC {x m : Int} : Qax x m = 0 ↔ ∀ i, tb x i = true -> tb m i = false := by
 rw [Qea (Qc7 x m)]
 refine forall_congr' fun i => ?_
 rw [Qjo]; cases tb x i <;> cases tb m i <;> simp
theorem not_zero {x m : Int} : QhU x m = 0 ↔ ∀ i, tb x i = true -> tb m i = true := by
 rw [Qea (Qic x m)]
 refine forall_congr' fun i => ?_
 rw [Qli]; cases tb x i <;> cases tb m i <;> simp
theorem XX {x m : Int} (hx : I64 x) : Qax x m = x ↔ ∀ i, tb x i = true -> tb m i = true := by
 constructor
 ·intro h i hi
  have := congrArg (fun z => tb z i) h
  simp only [Qjo, hi, Bool.true_and] at this
  exact this
 ·intro h
  refine QhO (Qc7 x m) hx fun i => ?_
  rw [Qjo]
  cases hx2 : tb x i
  ·rfl
  ·rw [h i hx2]; rfl
theorem Qdu {x m : Int} (hx : I64 x) : QhU x m = x ↔ ∀ i, tb x i = true -> tb m i = false := by
 constructor
 ·intro h i hi
  have := congrArg (fun z => tb z i) h
  simp only [Qli, hi, Bool.true_and] at this
  simpa using this
 ·intro h
  refine QhO (Qic x m) hx fun i => ?_
  rw [Qli]
  cases hx2 : tb x i
  ·rfl
  ·rw [h i hx2]; rfl
def Lo (x : Int) : Prop := 0 <= x /\ x < 131072
theorem Lo.i64 {x : Int} (h : Lo x) : I64 x := ⟨by have := h.1; omega, by have := h.2; omega⟩
theorem Lo.hi {x : Int} (h : Lo x) {i : Nat} (hi : 17 <= i) : tb x i = false := by
 obtain ⟨n, rfl⟩ := Int.eq_ofNat_of_zero_le h.1
 by_cases h6 : i < 64
 ·rw [QhP _ h6, Nat.testBit_lt_two_pow]
  have h1 : (2 : Nat) ^ 17 <= 2 ^ i := Nat.pow_le_pow_right (by omega) hi
  have h2 : (2 : Nat) ^ 17 = 131072 := by decide
  have := h.2
  omega
 ·exact Qlh _ (by omega)
theorem Lo.of {x : Int} (hx : I64 x) (h : ∀ i, 17 <= i -> tb x i = false) : Lo x := by
 have hb : (BitVec.ofInt 64 x).toNat < 2 ^ 17 := by
  refine Nat.lt_pow_two_of_testBit _ fun i hi => ?_
  exact h i hi
 have h2 : (2 : Nat) ^ 17 = 131072 := by decide
 have e := QiP hx
 rw [BitVec.toInt_eq_toNat_of_lt (by omega)] at e
 exact ⟨by omega, by omega⟩
theorem QkF {k : Nat} (h : k <= 16) : Lo ((2 : Int) ^ k) := by
 have := Qos (n := k) (by omega)
 refine ⟨by omega, ?_⟩
 have h1 : (2 : Nat) ^ k <= 2 ^ 16 := Nat.pow_le_pow_right (by omega) h
 have h2 : (2 : Nat) ^ 16 = 65536 := by decide
 have h3 : ((2 ^ k : Nat) : Int) = (2 : Int) ^ k := by simp
 omega
theorem Qnk (w : Qs) (u : Int) : Lo (Y7 w u) := ⟨(Qja w u).1, by have := (Qja w u).2; omega⟩
theorem Qmj {x : Int} (hx : I64 x) (m : Int) : Qb8 x m = QeF x m := by
 unfold QeF Qb8
 have : (Qac .andNot .i64 x m = 0) ↔ (Qac .and .i64 x m = x) := (not_zero (x := x) (m := m)).trans (XX hx).symm
 by_cases h : Qac .andNot .i64 x m = 0
 ·rw [if_pos h, if_pos (this.1 h)]
 ·rw [if_neg h, if_neg (fun e => h (this.2 e))]
theorem QfR {x : Int} {k : Nat} (hk : k < 64) : Qax x (2 ^ k) = 0 ↔ tb x k = false := by
 rw [QdC]
 constructor
 ·intro h
  cases hx : tb x k
  ·rfl
  ·have := h k hx; rw [QfI hk] at this; simp at this
 ·intro h i hi
  rw [QfI hk]
  by_cases e : i = k
  ·subst e; rw [h] at hi; cases hi
  ·exact decide_eq_false e
end M25
namespace M25
open Go Go.Abs M3
/-! ### Trails: the loops' laws -/
theorem Qcz (w : Qs) (l : List StepT) (s : StepT) (u : Int) : Q3 w (l ++ [s]) u = if s.u = u /\ inW w u = true then s.m else Q3 w l u := by
 rw [Q3, List.foldl_append]; rfl
theorem Qbq {α : Type} {l : List α} {i k : Nat} (hk : k + 1 = i) (h : k < l.length) : l.take i = l.take k ++ [l[k]] := by
 subst hk; rw [List.take_succ_eq_append_getElem h]
theorem QlQ {w : Qs} {l : List StepT} {u : Int} {i k : Nat} (hk : k + 1 = i) (h : k < l.length) (hu : l[k].u = u) (hw : inW w u = true) : Q3 w (l.take i) u = l[k].m := by
 rw [Qbq hk h, Qcz, if_pos ⟨hu, hw⟩]
theorem Qer {w : Qs} {l : List StepT} {u : Int} {i k : Nat} (hk : k + 1 = i) (h : k < l.length) (hu : ¬ l[k].u = u \/ ¬ 0 <= u \/ ¬ u < w.length) : Q3 w (l.take i) u = Q3 w (l.take (i - 1)) u := by
 rw [Qbq hk h, Qcz, if_neg, show i - 1 = k by omega]
 rintro ⟨h1, h2⟩
 rw [Qc8] at h2
 rcases hu with hu | hu | hu
 ·exact hu h1
 ·exact hu h2.1
 ·exact hu h2.2
theorem Qgd {w : Qs} {l : List StepT} {u : Int} (h : inW w u = false) : Q3 w l u = 0 := by
 have hf : Y7 w u = 0 := QcC (by
  refine Classical.byContradiction fun hn => ?_
  rw [Qhc (by omega) (by omega)] at h; cases h)
 suffices hs : ∀ a, l.foldl (fun a s => if s.u = u /\ inW w u = true then s.m else a) a = a by rw [Q3, hs, hf]
 induction l with
 | nil => intro a; rfl
 | cons s l ih => intro a; rw [List.foldl_cons, if_neg (by rw [h]; simp), ih]
def X5 (w : Qs) (l : List StepT) (u : Int) : Int := l.foldl (fun a s => if s.u = u then s.m else a) (Y7 w u)
theorem Qgc {w : Qs} {l : List StepT} {u : Int} (h : inW w u = true) : X5 w l u = Q3 w l u := by
 unfold X5 Q3
 simp only [h, and_true]
theorem Qfp (w : Qs) (l : List StepT) (s : StepT) (u : Int) : X5 w (l ++ [s]) u = if s.u = u then s.m else X5 w l u := by
 rw [X5, List.foldl_append]; rfl
theorem QkE {w : Qs} {l : List StepT} {u : Int} {i k : Nat} (hk : k + 1 = i) (h : k < l.length) (hu : l[k].u = u) : X5 w (l.take i) u = l[k].m := by
 rw [Qbq hk h, Qfp, if_pos hu]
theorem QjI {w : Qs} {l : List StepT} {u : Int} {i k : Nat} (hk : k + 1 = i) (h : k < l.length) (hu : ¬ l[k].u = u) : X5 w (l.take i) u = X5 w (l.take (i - 1)) u := by
 rw [Qbq hk h, Qfp, if_neg hu, show i - 1 = k by omega]
theorem Xj {w : Qs} {u : Int} : Y7 w u = 0 ↔ inW w u = false := by
 constructor
 ·intro h
  cases hw : inW w u
  ·rfl
  ·rw [Qc8] at hw
   rw [Qgi hw.1 hw.2] at h
   have h2 : 2 <= (2 : Int) ^ (min (w[u.toNat]'(by omega)).cs.length 16 + 1) := by
    rw [Int.pow_succ]
    have := Qos (n := min (w[u.toNat]'(by omega)).cs.length 16) (by omega)
    omega
   omega
 ·intro h
  refine QcC (Classical.byContradiction fun hn => ?_)
  rw [Qhc (by omega) (by omega)] at h; cases h
theorem Qhf {l : List StepT} (h : (l.length : Int) = 0) : Yk l = 0 := by
 have e : l = [] := List.eq_nil_of_length_eq_zero (by omega)
 subst e; rfl
theorem Qi6 {l : List StepT} {k : Nat} (hk : k + 1 = l.length) : Yk l = (l[k]'(by omega)).l := by
 rw [Yk, List.getLast?_eq_getElem?, show l.length - 1 = k by omega, List.getElem?_eq_getElem (by omega)]
theorem Ql0 : ∀ {l : List Int}, ¬ (l.length : Int) = 1 -> QjL l = -1
 | [], _ => rfl
 | [x], h => by simp at h
 | x :: y :: l, _ => rfl
theorem QkT : ∀ {l : List Int} (h : (l.length : Int) = 1), QjL l = l[(0 : Int).toNat]'(by simp; omega)
 | [], h => by simp at h
 | [x], _ => rfl
 | x :: y :: l, h => by simp at h; omega
theorem Ql5 {m : Int} (h : ¬ ((Xm m).length : Int) = 1) : Xp m = -1 := Ql0 h
theorem QkY {m : Int} (h : ((Xm m).length : Int) = 1) : Xp m = (Xm m)[(0 : Int).toNat]'(by simp; omega) := QkT h
theorem QfH {α : Type} {f : α -> List D} {l : List α} {i : Nat} : ((l.map f).take ((i : Nat) : Int).toNat).drop (((0 : Nat) : Int)).toNat = (l.take i).map f := by simp [List.map_take]
def QlW (w : Qs) (l : List StepT) (i : Nat) : Bool := match l[i]? with
 | some s => Qbk w (l.take i) s
 | none => true
theorem QaM {w : Qs} {l : List StepT} {i : Nat} (h : i < l.length) : QlW w l i = Qbk w (l.take i) l[i] := by
 rw [QlW, List.getElem?_eq_getElem h]
theorem QdN (w : Qs) (l : List StepT) : Qad w l = (List.range l.length).all (QlW w l) := rfl
theorem YK {w : Qs} {l : List StepT} {s : StepT} (h : s.u < 0 \/ (w.length : Int) <= s.u \/ s.c < -1) : Qbk w l s = false := by
 unfold Qbk
 rcases h with h | h | h
 ·rw [Qem (.inl h)]; rfl
 ·rw [Qem (.inr h)]; rfl
 ·rw [decide_eq_false (show ¬ -1 <= s.c by omega)]; simp
theorem ZT {w : Qs} {l : List StepT} {s : StepT} (h0 : 0 <= s.u) (h1 : s.u < w.length) (h2 : -1 <= s.c) : Qbk w l s = (decide (Qax s.m (Q3 w l s.u) = s.m) &&
  if s.c = -1 then decide (0 <= Xp s.m) && !Y0 l s.u && decide (s.l = IntKind.i64.wrap (Yk l + 1))
  else !decide (s.m = 0) && !decide (s.m = Q3 w l s.u) && decide (s.l = Yk l)) := by
 rw [Qbk, Qhc h0 h1, decide_eq_true h2]; rfl
theorem Qjy {w : Qs} {l : List StepT} {t : Zo} {c : Int} (h : c < 0 \/ t.u < 0 \/ (w.length : Int) <= t.u) : XR w l t c = none := by
 rw [XR, if_pos]
 rcases h with h | h
 ·exact .inl h
 ·exact .inr (Qem h)
theorem Qd8 {w : Qs} {l : List StepT} {t : Zo} {c : Int} (h : IntKind.i64.wrap (Q3 w l t.u - Qax (Q3 w l t.u) t.m) = 0 \/ IntKind.i64.wrap (Q3 w l t.u - Qax (Q3 w l t.u) t.m) = Q3 w l t.u) : XR w l t c = none := by
 rw [XR]
 split
 ·rfl
 ·first | rfl | rw [if_pos h]
theorem Qjz {w : Qs} {l : List StepT} {t : Zo} {c : Int} (h0 : ¬ c < 0) (h1 : inW w t.u = true) (h2 : ¬ IntKind.i64.wrap (Q3 w l t.u - Qax (Q3 w l t.u) t.m) = 0) (h3 : ¬ IntKind.i64.wrap (Q3 w l t.u - Qax (Q3 w l t.u) t.m) = Q3 w l t.u) :
  XR w l t c = some (l ++ [⟨t.u, IntKind.i64.wrap (Q3 w l t.u - Qax (Q3 w l t.u) t.m), Yk l, c⟩]) := by
 rw [XR, if_neg (by rw [h1]; simp [h0]), if_neg (by simp [h2, h3])]
def QcV (w : Qs) (l : List StepT) : Prop := ∀ s ∈ l, Lo s.m
theorem Qeq {w : Qs} {l : List StepT} (h : QcV w l) (u : Int) : Lo (Q3 w l u) := by
 suffices hs : ∀ (l : List StepT) a, (∀ s ∈ l, Lo s.m) -> Lo a -> Lo (l.foldl (fun a s => if s.u = u /\ inW w u = true then s.m else a) a) from hs l _ h (Qnk w u)
 intro l
 induction l with
 | nil => intro a _ h; exact h
 | cons s l ih =>
  intro a hl ha
  rw [List.foldl_cons]
  refine ih _ (fun t ht => hl t (by simp [ht])) ?_
  split
  ·exact hl s (by simp)
  ·exact ha
theorem Qj9 {w : Qs} {l : List StepT} {t : Zo} {c : Int} (hl : QcV w l) (h : Qax (Q3 w l t.u) t.m = 0) : XR w l t c = none :=
 Qd8 (.inr (by rw [QeU, Qdu (Qeq hl _).i64, <- QdC]; exact h))
theorem Qka {w : Qs} {l : List StepT} {t : Zo} {c : Int} (h : QhU (Q3 w l t.u) t.m = 0) : XR w l t c = none :=
 Qd8 (.inl (by rw [QeU]; exact h))
theorem Qkb {w : Qs} {l : List StepT} {t : Zo} {c : Int} (hl : QcV w l) (h0 : ¬ c < 0) (h1 : ¬ Qax (Q3 w l t.u) t.m = 0) (h2 : ¬ QhU (Q3 w l t.u) t.m = 0) : XR w l t c = some (l ++ [⟨t.u, QhU (Q3 w l t.u) t.m, Yk l, c⟩]) := by
 have hin : inW w t.u = true := by
  cases hw : inW w t.u
  ·rw [Qgd hw] at h1
   exact absurd (QdC.2 fun i hi => by rw [QiB] at hi; cases hi) h1
  ·rfl
 rw [Qjz h0 hin (by rw [QeU]; exact h2) (by rw [QeU, Qdu (Qeq hl _).i64, <- QdC]; exact h1), QeU]
end M25
namespace Go.Proofs
open Go Go.Abs M3 M25
set_option linter.unusedVariables false
set_option linter.unusedSimpArgs false
theorem Xs {w : Qs} (hw : WSm w) {l : List StepT} (hl : l.length <= 10000000) {u : Int} : Ok Try.prog 27 [YY w, ZI l, .int .i64 u] (.int .i64 (Q3 w l u)) := by
 refine Ok.ofT Yb Try.func27 QpE (Nat.le_of_ble_eq_true rfl) ?_
 show TW _ _ tf27.body _ _
 refine Qe fun K hK => ZV rfl rfl rfl (Qa rfl ?_)
 refine hK _ _ (Qb (kp3 rfl rfl rfl) ?_)
 refine QH ?_ -- 0
 refine Qe fun K hK => Qa rfl ?_
 first | refine Q4 rfl Q6 ?_ | refine Q4 rfl rfl ?_
 refine Xz rfl rfl (by first | exact Qp (by omega) (by omega) | rfl) (Qa rfl ?_)
 refine hK _ _ (Qb (kp4 rfl rfl rfl rfl) ?_)
 refine QK ?_
 refine Z6 (ι := Nat) (fun i => ⟨[(1, ZI l), (2, .int .i64 u), (3, .ref 3 0 0), (7, .int .i64 ((i : Int) - 1))], [(3, ⟨[[.sl ((w).map QaY)]], 1, 27, true⟩)]⟩) (fun i => i <= l.length /\ Q3 w l u = Q3 w (l.take i) u) (fun i => i) l.length ?_ ?_ ?_
 ·exact ZC (l := [1, 2, 3, 7]) (lH := [3]) (kp4 rfl rfl rfl rfl) (Qq rfl Qy) rfl rfl rfl
 ·exact ⟨Nat.le_refl _, by rw [List.take_length]⟩
 intro i hI
 try dsimp only
 refine QH ?_ -- 1
 refine Qe fun K hK => Qa rfl (QhZ rfl rfl ?_)
 refine hK _ _ (Qb (kp5 rfl rfl rfl rfl rfl) ?_)
 refine QB rfl (fun h1 => ?_) (fun h1 => ?_)
 ·try rw [h1]
  try simp only [qa, qb, qc, qd, qe, List.length_map] at h1
  refine Qz (Qd (kp4 rfl rfl rfl rfl) ?_)
  refine QH ?_ -- 2
  refine QK (Qe fun K hK => Qa rfl (Qa rfl (QO rfl rfl rfl (by omega) (ZA (by omega) (by omega)) rfl (ZK rfl rfl (QC rfl rfl rfl (Qa rfl (ZJ rfl rfl (Qa rfl ?_))))))))
  refine Qx (g := 22) rfl (fun h2 => ?_) (fun h2 => ?_)
  ·try rw [h2]
   try simp only [qa, qb, qc, qd, qe, List.length_map] at h2
   refine Qf rfl (Qa rfl (Qf rfl (QhZ rfl rfl (Qj rfl rfl (Qa rfl ?_)))))
   refine Qx (g := 26) rfl (fun h3 => ?_) (fun h3 => ?_)
   ·try rw [h3]
    try simp only [qa, qb, qc, qd, qe, List.length_map] at h3
    refine Qf rfl (Qa rfl (Qf rfl (Qi rfl rfl (Qf rfl (QC rfl rfl rfl (Qf rfl ?_))))))
    first | refine Q4 rfl Q6 ?_ | refine Q4 rfl rfl ?_
    refine Qf rfl (Y4 rfl rfl (Qj rfl rfl ?_))
    refine hK _ _ (Qb (kp5 rfl rfl rfl rfl rfl) ?_)
    refine QB rfl (fun h4 => ?_) (fun h4 => ?_)
    ·try rw [h4]
     try simp only [qa, qb, qc, qd, qe, List.length_map] at h4
     refine Qe fun K hK => Qa rfl (Qa rfl (QO rfl rfl rfl (by omega) (ZA (by omega) (by omega)) rfl (ZK rfl rfl (QC rfl rfl rfl (Qa rfl ?_)))))
     refine hK _ _ (Qb (kp1 rfl) ?_)
     refine Qt (Qu (Qk (Zn (Qu (Qk (Qw rfl ?_))))))
     rw [hI.2, QlQ (k := ((i : Int) - 1).toNat) (by omega) (by omega) h2 (Qhc (by omega) (by omega))]
    ·try rw [h4]
     try simp only [qa, qb, qc, qd, qe, List.length_map] at h4
     refine Qz (Ql (Qd (kp4 rfl rfl rfl rfl) (Q8 fun K hK => Qa rfl (Xz rfl rfl (by first | exact Qp (by omega) (by omega) | rfl) (Qa rfl (hK _ ?_))))))
     refine Qo (i - 1) ?_ ?_ ?_
     ·exact ZC (l := [1, 2, 3, 7]) (lH := [3]) (kp4 rfl rfl rfl rfl) (Qq rfl Qy) (by simp only [List.cons.injEq, Prod.mk.injEq, D.int.injEq, and_true, true_and]; omega) rfl rfl
     ·exact ⟨by omega, by rw [hI.2, Qer (k := ((i : Int) - 1).toNat) (by omega) (by omega) (by first | exact .inl h2 | exact .inr (.inl h3) | exact .inr (.inr h4))]⟩
     ·first | omega | (simp only; omega) | (dsimp only; omega)
   ·try rw [h3]
    try simp only [qa, qb, qc, qd, qe, List.length_map] at h3
    refine Qm rfl (Qm rfl (Qm rfl (Qm rfl (Qm rfl (Qj rfl rfl ?_)))))
    refine hK _ _ (Qb (kp5 rfl rfl rfl rfl rfl) ?_)
    refine Z5 rfl (Qz (Ql (Qd (kp4 rfl rfl rfl rfl) (Q8 fun K hK => Qa rfl (Xz rfl rfl (by first | exact Qp (by omega) (by omega) | rfl) (Qa rfl (hK _ ?_)))))))
    refine Qo (i - 1) ?_ ?_ ?_
    ·exact ZC (l := [1, 2, 3, 7]) (lH := [3]) (kp4 rfl rfl rfl rfl) (Qq rfl Qy) (by simp only [List.cons.injEq, Prod.mk.injEq, D.int.injEq, and_true, true_and]; omega) rfl rfl
    ·exact ⟨by omega, by rw [hI.2, Qer (k := ((i : Int) - 1).toNat) (by omega) (by omega) (by first | exact .inl h2 | exact .inr (.inl h3) | exact .inr (.inr h4))]⟩
    ·first | omega | (simp only; omega) | (dsimp only; omega)
  ·try rw [h2]
   try simp only [qa, qb, qc, qd, qe, List.length_map] at h2
   refine Qm rfl (Qm rfl (Qj rfl rfl (Qa rfl (Qm rfl (Qm rfl (Qm rfl (Qm rfl (Qm rfl (Qj rfl rfl ?_)))))))))
   refine hK _ _ (Qb (kp5 rfl rfl rfl rfl rfl) ?_)
   refine Z5 rfl (Qz (Ql (Qd (kp4 rfl rfl rfl rfl) (Q8 fun K hK => Qa rfl (Xz rfl rfl (by first | exact Qp (by omega) (by omega) | rfl) (Qa rfl (hK _ ?_)))))))
   refine Qo (i - 1) ?_ ?_ ?_
   ·exact ZC (l := [1, 2, 3, 7]) (lH := [3]) (kp4 rfl rfl rfl rfl) (Qq rfl Qy) (by simp only [List.cons.injEq, Prod.mk.injEq, D.int.injEq, and_true, true_and]; omega) rfl rfl
   ·exact ⟨by omega, by rw [hI.2, Qer (k := ((i : Int) - 1).toNat) (by omega) (by omega) (by first | exact .inl h2 | exact .inr (.inl h3) | exact .inr (.inr h4))]⟩
   ·first | omega | (simp only; omega) | (dsimp only; omega)
 ·try rw [h1]
  try simp only [qa, qb, qc, qd, qe, List.length_map] at h1
  refine Z0 (Za (QI (QQ (Qd (kp2 rfl rfl) (Qe fun K hK => QF (cs := [_]) rfl rfl rfl rfl (Qa rfl (QA (QbL hw) rfl rfl (.inr rfl) (Qa rfl ?_))))))))
  refine hK _ _ (Qb (kp1 rfl) ?_)
  refine Qt (Qw rfl ?_)
  rw [hI.2, show i = 0 by omega]; rfl
theorem Z1 {l : List StepT} (hl : l.length <= 10000000) : Ok Try.prog 11 [ZI l] (.int .i64 (Yk l)) := by
 refine Ok.ofT Yb Try.func11 Qpq (Nat.le_of_ble_eq_true rfl) ?_
 show TW _ _ tf11.body _ _
 refine Qe fun K hK => Qa rfl ?_
 refine hK _ _ (Qb (kp1 rfl) ?_)
 refine QH ?_ -- 0
 refine Qe fun K hK => Qa rfl ?_
 first | refine Q4 rfl Q6 ?_ | refine Q4 rfl rfl ?_
 refine ZJ rfl rfl ?_
 refine hK _ _ (Qb (kp2 rfl rfl) ?_)
 refine QB rfl (fun h1 => ?_) (fun h1 => ?_)
 ·try rw [h1]
  try simp only [qa, qb, qc, qd, qe, List.length_map] at h1
  refine Qe fun K hK => Qa rfl ?_
  refine hK _ _ (Qb (kp1 rfl) ?_)
  refine Qt (Qk (Qw rfl ?_))
  rw [Qhf h1]
 ·try rw [h1]
  try simp only [qa, qb, qc, qd, qe, List.length_map] at h1
  refine Qz (Qd (kp1 rfl) (Qe fun K hK => Qa rfl (Qa rfl ?_)))
  first | refine Q4 rfl Q6 ?_ | refine Q4 rfl rfl ?_
  refine Xz rfl rfl (by first | exact Qp (by omega) (by omega) | rfl) (QO rfl rfl rfl (by omega) (ZA (by omega) (by omega)) rfl (ZK rfl rfl (QC rfl rfl rfl (Qa rfl ?_))))
  refine hK _ _ (Qb (kp1 rfl) ?_)
  refine Qt (Qw rfl ?_)
  rw [Qi6 (k := ((l.length : Int) - 1).toNat) (by omega)]
theorem QaA {l : List StepT} (hl : l.length <= 10000000) {u : Int} : Ok Try.prog 48 [ZI l, .int .i64 u] (.bool (Y0 l u)) := by
 refine Ok.ofT Yb Try.func48 QpY (Nat.le_of_ble_eq_true rfl) ?_
 show TW _ _ tf48.body _ _
 refine Qe fun K hK => Qa rfl ?_
 refine hK _ _ (Qb (kp2 rfl rfl) ?_)
 refine QH ?_ -- 0
 refine Qe fun K hK => Qa rfl ?_
 refine hK _ _ (Qb (kp3 rfl rfl rfl) ?_)
 refine QK ?_
 refine Z6 (ι := Nat) (fun i => ⟨[(0, ZI l), (1, .int .i64 u), (5, .int .i64 i)], []⟩) (fun i => i <= l.length /\ (l.take i).any (fun s => decide (s.u = u) && decide (s.c = -1)) = false) (fun i => l.length - i) 0 ?_ ?_ ?_
 ·exact Q7 (kp3 rfl rfl rfl)
 ·exact ⟨Nat.zero_le _, by simp⟩
 intro i hI
 try dsimp only
 refine QH ?_ -- 1
 refine Qe fun K hK => Qa rfl (Qa rfl ?_)
 first | refine Q4 rfl Q6 ?_ | refine Q4 rfl rfl ?_
 refine Y4 rfl rfl ?_
 refine hK _ _ (Qb (kp4 rfl rfl rfl rfl) ?_)
 refine QB rfl (fun h1 => ?_) (fun h1 => ?_)
 ·try rw [h1]
  try simp only [qa, qb, qc, qd, qe, List.length_map] at h1
  refine Qz (Qd (kp3 rfl rfl rfl) ?_)
  refine QH ?_ -- 2
  refine QK (Qe fun K hK => Qa rfl (Qa rfl (QO rfl rfl rfl (by omega) (Zt (by omega)) rfl (ZK rfl rfl (QC rfl rfl rfl (Qa rfl (ZJ rfl rfl (Qa rfl ?_))))))))
  refine Qx (g := 19) rfl (fun h2 => ?_) (fun h2 => ?_)
  ·try rw [h2]
   try simp only [qa, qb, qc, qd, qe, List.length_map] at h2
   refine Qf rfl (Qa rfl (Qf rfl (Qa rfl (Qf rfl (QO rfl rfl rfl (by omega) (Zt (by omega)) rfl (Qf rfl (ZK rfl rfl (Qf rfl (QC rfl rfl rfl (Qf rfl (ZJ rfl rfl ?_)))))))))))
   refine Qj rfl rfl ?_
   refine hK _ _ (Qb (kp4 rfl rfl rfl rfl) ?_)
   refine QB rfl (fun h3 => ?_) (fun h3 => ?_)
   ·try rw [h3]
    try simp only [qa, qb, qc, qd, qe, List.length_map] at h3
    refine Qe fun K hK => Qa rfl ?_
    refine hK _ _ (Qb (kp1 rfl) ?_)
    refine Qt (Qu (Qk (Zn (Qu (Qk (Qn rfl ?_))))))
    rw [Y0, QfN (i := i) (by omega) (by simp [h2, h3])]
   ·try rw [h3]
    try simp only [qa, qb, qc, qd, qe, List.length_map] at h3
    refine Qz (Ql (Qd (kp3 rfl rfl rfl) (Q8 fun K hK => Qa rfl (Q9 rfl rfl (by first | exact Qp (by omega) (by omega) | rfl) (Qa rfl (hK _ ?_))))))
    refine Qo (i + 1) ?_ ?_ ?_
    ·exact Q7 (kp3 rfl rfl rfl)
    ·exact ⟨by omega, QgN (by omega) hI.2 (by first | (simp [h2, h3]; done) | (simp [h2]; done))⟩
    ·first | omega | (simp only; omega) | (dsimp only; omega)
  ·try rw [h2]
   try simp only [qa, qb, qc, qd, qe, List.length_map] at h2
   refine Qm rfl (Qm rfl (Qm rfl (Qm rfl (Qm rfl (Qm rfl (Qj rfl rfl ?_))))))
   refine hK _ _ (Qb (kp4 rfl rfl rfl rfl) ?_)
   refine Z5 rfl (Qz (Ql (Qd (kp3 rfl rfl rfl) (Q8 fun K hK => Qa rfl (Q9 rfl rfl (by first | exact Qp (by omega) (by omega) | rfl) (Qa rfl (hK _ ?_)))))))
   refine Qo (i + 1) ?_ ?_ ?_
   ·exact Q7 (kp3 rfl rfl rfl)
   ·exact ⟨by omega, QgN (by omega) hI.2 (by first | (simp [h2, h3]; done) | (simp [h2]; done))⟩
   ·first | omega | (simp only; omega) | (dsimp only; omega)
 ·try rw [h1]
  try simp only [qa, qb, qc, qd, qe, List.length_map] at h1
  refine Z0 (Za (QI (QQ (Qd (QX) (Qe fun K hK => Qa rfl ?_)))))
  refine hK _ _ (Qb (kp1 rfl) ?_)
  refine Qt (Qn rfl ?_)
  rw [Y0, Qj0 (i := i) (by omega) hI.2]
theorem Qa4 {m : Int} : Ok Try.prog 47 [.int .i64 m] (.int .i64 (Xp m)) := by
 refine Ok.ofT Yb Try.func47 QpX (Nat.le_of_ble_eq_true rfl) ?_
 show TW _ _ tf47.body _ _
 refine Qe fun K hK => Qa rfl ?_
 refine hK _ _ (Qb (kp1 rfl) ?_)
 refine Qe fun K hK => Qa rfl (QA (Xr) rfl rfl (.inl rfl) (Qa rfl ?_))
 refine hK _ _ (Qb (kp1 rfl) ?_)
 refine QH ?_ -- 0
 refine Qe fun K hK => Qa rfl ?_
 first | refine Q4 rfl Q6 ?_ | refine Q4 rfl rfl ?_
 refine Qay rfl rfl ?_
 refine hK _ _ (Qb (kp2 rfl rfl) ?_)
 refine QB rfl (fun h1 => ?_) (fun h1 => ?_)
 ·try rw [h1]
  try simp only [qa, qb, qc, qd, qe, List.length_map] at h1
  refine Qe fun K hK => Qa rfl ?_
  refine hK _ _ (Qb (kp1 rfl) ?_)
  refine Qt (Qk (Qw rfl ?_))
  rw [Ql5 h1]
 ·try rw [h1]
  try simp only [qa, qb, qc, qd, qe, List.length_map] at h1
  refine Qz (Qd (kp1 rfl) (Qe fun K hK => Qa rfl (QO rfl rfl rfl (by omega) (ZA (by omega) (by omega)) rfl (QC rfl rfl rfl (Qa rfl ?_)))))
  refine hK _ _ (Qb (kp1 rfl) ?_)
  refine Qt (Qw rfl ?_)
  rw [QkY h1]
theorem QbM {w : Qs} (hw : WSm w) {l : List StepT} (hl : l.length <= 10000000) {s : StepT} : Ok Try.prog 30 [YY w, ZI l, .agg (dStep s)] (.bool (Qbk w l s)) := by
 refine Ok.ofT Yb Try.func30 QpH (Nat.le_of_ble_eq_true rfl) ?_
 show TW _ _ tf30.body _ _
 refine Qe fun K hK => ZV rfl rfl rfl (ZV rfl rfl rfl (Qa rfl ?_))
 refine hK _ _ (Qb (kp3 rfl rfl rfl) ?_)
 refine QH ?_ -- 0
 refine Qe fun K hK => Qi rfl rfl (QC rfl rfl rfl (Y4 rfl rfl (Qa rfl ?_)))
 refine Qx (g := 11) rfl (fun h1 => ?_) (fun h1 => ?_)
 ·try rw [h1]
  try simp only [qa, qb, qc, qd, qe, List.length_map] at h1
  refine Qm rfl (Qm rfl (Qm rfl (Qm rfl (Qm rfl (Qm rfl (Qj rfl rfl (Qa rfl (Qm rfl (Qm rfl (Qm rfl (Qj rfl rfl ?_)))))))))))
  refine hK _ _ (Qb (kp4 rfl rfl rfl rfl) ?_)
  refine Zz rfl (Qe fun K hK => Qa rfl ?_)
  refine hK _ _ (Qb (kp1 rfl) ?_)
  refine Qt (Qk (Qn rfl ?_))
  first | (rw [YK (by omega)]; done) | (rw [ZT (by omega) (by omega) (by omega)]; simp_all; done) | (rw [ZT (by omega) (by omega) (by omega)]; simp_all; omega)
 ·try rw [h1]
  try simp only [qa, qb, qc, qd, qe, List.length_map] at h1
  refine Qf rfl (Qi rfl rfl (Qf rfl (QC rfl rfl rfl (Qf rfl (Qi rfl rfl (Qf rfl (QC rfl rfl rfl (Qf rfl ?_))))))))
  first | refine Q4 rfl Q6 ?_ | refine Q4 rfl rfl ?_
  refine Qf rfl (QhZ rfl rfl (Qj rfl rfl (Qa rfl ?_)))
  refine Qx (g := 19) rfl (fun h2 => ?_) (fun h2 => ?_)
  ·try rw [h2]
   try simp only [qa, qb, qc, qd, qe, List.length_map] at h2
   refine Qm rfl (Qm rfl (Qm rfl (Qj rfl rfl ?_)))
   refine hK _ _ (Qb (kp4 rfl rfl rfl rfl) ?_)
   refine Zz rfl (Qe fun K hK => Qa rfl ?_)
   refine hK _ _ (Qb (kp1 rfl) ?_)
   refine Qt (Qk (Qn rfl ?_))
   first | (rw [YK (by omega)]; done) | (rw [ZT (by omega) (by omega) (by omega)]; simp_all; done) | (rw [ZT (by omega) (by omega) (by omega)]; simp_all; omega)
  ·try rw [h2]
   try simp only [qa, qb, qc, qd, qe, List.length_map] at h2
   refine Qf rfl (Qi rfl rfl (Qf rfl (QC rfl rfl rfl (Qf rfl (Y4 rfl rfl (Qj rfl rfl ?_))))))
   refine hK _ _ (Qb (kp4 rfl rfl rfl rfl) ?_)
   refine QB rfl (fun h3 => ?_) (fun h3 => ?_)
   ·try rw [h3]
    try simp only [qa, qb, qc, qd, qe, List.length_map] at h3
    refine Qe fun K hK => Qa rfl ?_
    refine hK _ _ (Qb (kp1 rfl) ?_)
    refine Qt (Qk (Qn rfl ?_))
    first | (rw [YK (by omega)]; done) | (rw [ZT (by omega) (by omega) (by omega)]; simp_all; done) | (rw [ZT (by omega) (by omega) (by omega)]; simp_all; omega)
   ·try rw [h3]
    try simp only [qa, qb, qc, qd, qe, List.length_map] at h3
    refine Qz (Qd (kp3 rfl rfl rfl) (Qe fun K hK => QF (cs := [_]) rfl rfl rfl rfl (Qa rfl (Qi rfl rfl (QC rfl rfl rfl (QA (Xs hw hl) rfl rfl (.inr rfl) (Qa rfl ?_)))))))
    refine hK _ _ (Qb (kp3 rfl rfl rfl) ?_)
    refine QH ?_ -- 1
    refine Qe fun K hK => Qi rfl rfl (QC rfl rfl rfl (ZJ rfl rfl ?_))
    refine hK _ _ (Qb (kp4 rfl rfl rfl rfl) ?_)
    refine QB rfl (fun h4 => ?_) (fun h4 => ?_)
    ·try rw [h4]
     try simp only [qa, qb, qc, qd, qe, List.length_map] at h4
     refine Qe fun K hK => Qi rfl rfl (Zb (ds0 := [26, 25, 24, 23, 22, 21, 20, 19, 18, 17, 16, 15, 14, 13, 12, 11, 10, 9, 8, 7, 6, 5, 4, 3, 2, 1, 0]) rfl rfl rfl rfl rfl (Q1 (ds0 := [25, 24, 23, 22, 21, 20, 19, 18, 17, 16, 15, 14, 13, 12, 11, 10, 9, 8, 7, 6, 5, 4, 3, 2, 1, 0]) (Qa4) rfl rfl (.inr rfl) rfl rfl (QhZ rfl rfl (Qa rfl ?_))))
     refine Qx (g := 36) rfl (fun h5 => ?_) (fun h5 => ?_)
     ·try rw [h5]
      try simp only [qa, qb, qc, qd, qe, List.length_map] at h5
      refine Qf rfl (Qi rfl rfl (Qf rfl (Zb (ds0 := [20, 17, 16, 15, 14, 13, 12, 11, 10, 9, 8, 7, 6, 5, 4, 3, 2, 1, 0]) rfl rfl rfl rfl rfl (Qf rfl (Qa rfl (Qf rfl (QeX rfl rfl (Qf rfl (Qi rfl rfl (Qf rfl (Zb (ds0 := [17, 16, 15, 14, 13, 12, 11, 10, 9, 8, 7, 6, 5, 4, 3, 2, 1, 0]) rfl rfl rfl rfl rfl ?_)))))))))))
      refine Qf rfl (ZJ rfl rfl (Qj rfl rfl (Qa rfl ?_)))
      refine Qx (g := 45) rfl (fun h6 => ?_) (fun h6 => ?_)
      ·try rw [h6]
       try simp only [qa, qb, qc, qd, qe, List.length_map] at h6
       refine Qf rfl (Qa rfl (Qf rfl (Qi rfl rfl (Qf rfl (Zb (ds0 := [11, 10, 9, 8, 7, 6, 5, 4, 3, 2, 1, 0]) rfl rfl rfl rfl rfl (Qf rfl (Q1 (ds0 := [10, 9, 8, 7, 6, 5, 4, 3, 2, 1, 0]) (QaA hl) rfl rfl (.inr rfl) rfl rfl (Qf rfl (Yo rfl (Qj rfl rfl (Qa rfl ?_)))))))))))
       refine Qx (g := 52) rfl (fun h7 => ?_) (fun h7 => ?_)
       ·try rw [h7]
        try simp only [qa, qb, qc, qd, qe, List.length_map] at h7
        refine Qf rfl (Qi rfl rfl (Qf rfl (Zb (ds0 := [2, 1, 0]) rfl rfl rfl rfl rfl (Qf rfl (Qa rfl (Qf rfl (Q1 (ds0 := [3, 2, 1, 0]) (Z1 hl) rfl rfl (.inr rfl) rfl rfl (Qf rfl (Q9 rfl rfl rfl (Qf rfl (ZJ rfl rfl ?_)))))))))))
        refine Qj rfl rfl (Qa rfl ?_)
        refine hK _ _ (Qb (kp1 rfl) ?_)
        refine Qt (Qk (Qn rfl ?_))
        first | (rw [YK (by omega)]; done) | (rw [ZT (by omega) (by omega) (by omega)]; simp_all; done) | (rw [ZT (by omega) (by omega) (by omega)]; simp_all; omega)
       ·try rw [h7]
        try simp only [qa, qb, qc, qd, qe, List.length_map] at h7
        refine Qm rfl (Qm rfl (Qm rfl (Qm rfl (Qm rfl (Qm rfl (Qj rfl rfl (Qa rfl ?_)))))))
        refine hK _ _ (Qb (kp1 rfl) ?_)
        refine Qt (Qk (Qn rfl ?_))
        first | (rw [YK (by omega)]; done) | (rw [ZT (by omega) (by omega) (by omega)]; simp_all; done) | (rw [ZT (by omega) (by omega) (by omega)]; simp_all; omega)
      ·try rw [h6]
       try simp only [qa, qb, qc, qd, qe, List.length_map] at h6
       refine Qm rfl (Qm rfl (Qm rfl (Qm rfl (Qm rfl (Qj rfl rfl (Qa rfl (Qm rfl (Qm rfl (Qm rfl (Qm rfl (Qm rfl ?_)))))))))))
       refine Qm rfl (Qj rfl rfl (Qa rfl ?_))
       refine hK _ _ (Qb (kp1 rfl) ?_)
       refine Qt (Qk (Qn rfl ?_))
       first | (rw [YK (by omega)]; done) | (rw [ZT (by omega) (by omega) (by omega)]; simp_all; done) | (rw [ZT (by omega) (by omega) (by omega)]; simp_all; omega)
     ·try rw [h5]
      try simp only [qa, qb, qc, qd, qe, List.length_map] at h5
      refine Qm rfl (Qm rfl (Qm rfl (Qm rfl (Qm rfl (Qm rfl (Qm rfl (Qj rfl rfl (Qa rfl (Qm rfl (Qm rfl (Qm rfl ?_)))))))))))
      refine Qm rfl (Qm rfl (Qj rfl rfl (Qa rfl (Qm rfl (Qm rfl (Qm rfl (Qm rfl (Qm rfl (Qm rfl (Qj rfl rfl (Qa rfl ?_)))))))))))
      refine hK _ _ (Qb (kp1 rfl) ?_)
      refine Qt (Qk (Qn rfl ?_))
      first | (rw [YK (by omega)]; done) | (rw [ZT (by omega) (by omega) (by omega)]; simp_all; done) | (rw [ZT (by omega) (by omega) (by omega)]; simp_all; omega)
    ·try rw [h4]
     try simp only [qa, qb, qc, qd, qe, List.length_map] at h4
     refine Qz (Qd (kp3 rfl rfl rfl) (Qe fun K hK => Qi rfl rfl (Zb (ds0 := [23, 22, 21, 20, 19, 18, 17, 16, 15, 14, 13, 12, 11, 10, 9, 8, 7, 6, 5, 4, 3, 2, 1, 0]) rfl rfl rfl rfl rfl (Qay rfl rfl (Qa rfl ?_)))))
     refine Qx (g := 63) rfl (fun h8 => ?_) (fun h8 => ?_)
     ·try rw [h8]
      try simp only [qa, qb, qc, qd, qe, List.length_map] at h8
      refine Qf rfl (Qi rfl rfl (Qf rfl (Zb (ds0 := [18, 15, 14, 13, 12, 11, 10, 9, 8, 7, 6, 5, 4, 3, 2, 1, 0]) rfl rfl rfl rfl rfl (Qf rfl (Qa rfl (Qf rfl (QeX rfl rfl (Qf rfl (Qi rfl rfl (Qf rfl (Zb (ds0 := [15, 14, 13, 12, 11, 10, 9, 8, 7, 6, 5, 4, 3, 2, 1, 0]) rfl rfl rfl rfl rfl ?_)))))))))))
      refine Qf rfl (ZJ rfl rfl (Qj rfl rfl (Qa rfl ?_)))
      refine Qx (g := 72) rfl (fun h9 => ?_) (fun h9 => ?_)
      ·try rw [h9]
       try simp only [qa, qb, qc, qd, qe, List.length_map] at h9
       refine Qf rfl (Qi rfl rfl (Qf rfl (Zb (ds0 := [9, 8, 7, 6, 5, 4, 3, 2, 1, 0]) rfl rfl rfl rfl rfl (Qf rfl (Qa rfl (Qf rfl (Qay rfl rfl (Qj rfl rfl (Qa rfl ?_)))))))))
       refine Qx (g := 78) rfl (fun h10 => ?_) (fun h10 => ?_)
       ·try rw [h10]
        try simp only [qa, qb, qc, qd, qe, List.length_map] at h10
        refine Qf rfl (Qi rfl rfl (Qf rfl (Zb (ds0 := [2, 1, 0]) rfl rfl rfl rfl rfl (Qf rfl (Qa rfl (Qf rfl (Q1 (ds0 := [2, 1, 0]) (Z1 hl) rfl rfl (.inr rfl) rfl rfl (Qf rfl (ZJ rfl rfl (Qj rfl rfl (Qa rfl ?_)))))))))))
        refine hK _ _ (Qb (kp1 rfl) ?_)
        refine Qt (Qn rfl ?_)
        first | (rw [YK (by omega)]; done) | (rw [ZT (by omega) (by omega) (by omega)]; simp_all; done) | (rw [ZT (by omega) (by omega) (by omega)]; simp_all; omega)
       ·try rw [h10]
        try simp only [qa, qb, qc, qd, qe, List.length_map] at h10
        refine Qm rfl (Qm rfl (Qm rfl (Qm rfl (Qm rfl (Qj rfl rfl (Qa rfl ?_))))))
        refine hK _ _ (Qb (kp1 rfl) ?_)
        refine Qt (Qn rfl ?_)
        first | (rw [YK (by omega)]; done) | (rw [ZT (by omega) (by omega) (by omega)]; simp_all; done) | (rw [ZT (by omega) (by omega) (by omega)]; simp_all; omega)
      ·try rw [h9]
       try simp only [qa, qb, qc, qd, qe, List.length_map] at h9
       refine Qm rfl (Qm rfl (Qm rfl (Qm rfl (Qj rfl rfl (Qa rfl (Qm rfl (Qm rfl (Qm rfl (Qm rfl (Qm rfl (Qj rfl rfl ?_)))))))))))
       refine Qa rfl ?_
       refine hK _ _ (Qb (kp1 rfl) ?_)
       refine Qt (Qn rfl ?_)
       first | (rw [YK (by omega)]; done) | (rw [ZT (by omega) (by omega) (by omega)]; simp_all; done) | (rw [ZT (by omega) (by omega) (by omega)]; simp_all; omega)
     ·try rw [h8]
      try simp only [qa, qb, qc, qd, qe, List.length_map] at h8
      refine Qm rfl (Qm rfl (Qm rfl (Qm rfl (Qm rfl (Qm rfl (Qm rfl (Qj rfl rfl (Qa rfl (Qm rfl (Qm rfl (Qm rfl ?_)))))))))))
      refine Qm rfl (Qj rfl rfl (Qa rfl (Qm rfl (Qm rfl (Qm rfl (Qm rfl (Qm rfl (Qj rfl rfl (Qa rfl ?_)))))))))
      refine hK _ _ (Qb (kp1 rfl) ?_)
      refine Qt (Qn rfl ?_)
      first | (rw [YK (by omega)]; done) | (rw [ZT (by omega) (by omega) (by omega)]; simp_all; done) | (rw [ZT (by omega) (by omega) (by omega)]; simp_all; omega)
theorem XK {w : Qs} (hw : WSm w) {l : List StepT} (hl : l.length <= 10000000) : Ok Try.prog 9 [YY w, ZI l] (.bool (Qad w l)) := by
 refine Ok.ofT Yb Try.func9 tp9 (Nat.le_of_ble_eq_true rfl) ?_
 show TW _ _ tf9.body _ _
 refine Qe fun K hK => ZV rfl rfl rfl (Qa rfl ?_)
 refine hK _ _ (Qb (kp2 rfl rfl) ?_)
 refine QH ?_ -- 0
 refine Qe fun K hK => Qa rfl ?_
 refine hK _ _ (Qb (kp3 rfl rfl rfl) ?_)
 refine QK ?_
 refine Z6 (ι := Nat) (fun i => ⟨[(1, ZI l), (2, .ref 2 0 0), (5, .int .i64 i)], [(2, ⟨[[.sl ((w).map QaY)]], 1, 27, true⟩)]⟩) (fun i => i <= l.length /\ (List.range i).all (QlW w l) = true) (fun i => l.length - i) 0 ?_ ?_ ?_
 ·exact ZC (l := [1, 2, 5]) (lH := [2]) (kp3 rfl rfl rfl) (Qq rfl Qy) rfl rfl rfl
 ·exact ⟨Nat.zero_le _, rfl⟩
 intro i hI
 try dsimp only
 refine QH ?_ -- 1
 refine Qe fun K hK => Qa rfl (Qa rfl ?_)
 first | refine Q4 rfl Q6 ?_ | refine Q4 rfl rfl ?_
 refine Y4 rfl rfl ?_
 refine hK _ _ (Qb (kp4 rfl rfl rfl rfl) ?_)
 refine QB rfl (fun h1 => ?_) (fun h1 => ?_)
 ·try rw [h1]
  try simp only [qa, qb, qc, qd, qe, List.length_map] at h1
  refine Qz (Qd (kp3 rfl rfl rfl) ?_)
  refine QH ?_ -- 2
  refine QK (Qe fun K hK => QU (ds0 := [1, 0]) (cs := [_]) rfl rfl rfl rfl rfl rfl (Qa rfl (Qa rfl (Qd0 rfl rfl rfl rfl (by omega) (by omega) (by simp; omega) Ql8 (QfH) (Qa rfl (Qa rfl (QO rfl rfl rfl (by omega) (Zt (by omega)) rfl (QU (ds0 := [1, 0]) (cs := [_, _, _, _]) rfl rfl rfl rfl rfl rfl (Q1 (ds0 := [0]) (QbM (l := l.take i) hw (by have := List.length_take_le' i l; omega)) rfl rfl (.inr rfl) rfl rfl (Yo rfl ?_))))))))))
  refine hK _ _ (Qb (kp4 rfl rfl rfl rfl) ?_)
  refine QB rfl (fun h2 => ?_) (fun h2 => ?_)
  ·try rw [h2]
   try simp only [qa, qb, qc, qd, qe, List.length_map] at h2
   refine Qe fun K hK => Qa rfl ?_
   refine hK _ _ (Qb (kp1 rfl) ?_)
   refine Qt (Qu (Qk (Zn (Qu (Qk (Qn rfl ?_))))))
   rw [QdN, X7 (i := i) (by omega) (by rw [QaM (by omega)]; exact h2)]
  ·try rw [h2]
   try simp only [qa, qb, qc, qd, qe, List.length_map] at h2
   refine Qz (Ql (Qd (kp3 rfl rfl rfl) (Q8 fun K hK => Qa rfl (Q9 rfl rfl (by first | exact Qp (by omega) (by omega) | rfl) (Qa rfl (hK _ ?_))))))
   refine Qo (i + 1) ?_ ?_ ?_
   ·exact ZC (l := [1, 2, 5]) (lH := [2]) (kp3 rfl rfl rfl) (Qq rfl Qy) rfl rfl rfl
   ·exact ⟨by omega, QdU hI.2 (by rw [QaM (by omega)]; exact h2)⟩
   ·first | omega | (simp only; omega) | (dsimp only; omega)
 ·try rw [h1]
  try simp only [qa, qb, qc, qd, qe, List.length_map] at h1
  refine Z0 (Za (QI (QQ (Qd (QX) (Qe fun K hK => Qa rfl ?_)))))
  refine hK _ _ (Qb (kp1 rfl) ?_)
  refine Qt (Qn rfl ?_)
  rw [QdN, QcM hI.2 (by omega)]
end Go.Proofs
namespace M25
open Go Go.Abs M3
theorem QhS {v : Int} (h : (v + 1).toNat <= 61) : IntKind.i64.wrap ((1 : Int) * 2 ^ min (v + 1).toNat IntKind.i64.bits) = 2 ^ (v + 1).toNat := by
 rw [show min (v + 1).toNat IntKind.i64.bits = (v + 1).toNat from by simp only [IntKind.bits]; omega, Int.one_mul]
 have := Qip (i := (v + 1).toNat) (by omega)
 exact Qp (by omega) (by omega)
theorem Qlb {α : Type} {f : α -> List D} {l : List α} {k : Int} (h : k = (l.length : Int)) : ((l.map f).take k.toNat).drop (((0 : Nat) : Int)).toNat = l.map f := by
 subst h; rw [Int.toNat_natCast, List.take_of_length_le (by simp)]; rfl
end M25
namespace Go.Proofs
open Go Go.Abs M3 M25
set_option linter.unusedVariables false
set_option linter.unusedSimpArgs false
theorem Qjv {v : Int} (h0 : -1 <= v) (h1v : v <= 60) : Ok Try.prog 50 [.int .i64 v] (.int .i64 (2 ^ (v + 1).toNat)) := by
 refine Ok.ofT Yb Try.func50 Qp0 (Nat.le_of_ble_eq_true rfl) ?_
 show TW _ _ tf50.body _ _
 refine Qe fun K hK => Qa rfl ?_
 refine hK _ _ (Qb (kp1 rfl) ?_)
 refine Qe fun K hK => Qa rfl (Q9 rfl rfl (by first | exact Qp (by omega) (by omega) | rfl) (QmY rfl rfl (by omega) (QhS (by omega)) (Qa rfl ?_)))
 refine hK _ _ (Qb (kp1 rfl) ?_)
 refine Qt (Qw rfl ?_)
 rfl
theorem Qjw {w : Qs} (hw : WSm w) {u : Int} : Ok Try.prog 49 [YY w, .int .i64 u] (.bool (inW w u)) := by
 refine Ok.ofT Yb Try.func49 QpZ (Nat.le_of_ble_eq_true rfl) ?_
 show TW _ _ tf49.body _ _
 refine Qe fun K hK => ZV rfl rfl rfl (Qa rfl ?_)
 refine hK _ _ (Qb (kp2 rfl rfl) ?_)
 refine Qe fun K hK => Qa rfl (QhZ rfl rfl (Qa rfl ?_))
 refine Qx (g := 7) rfl (fun h1 => ?_) (fun h1 => ?_)
 ·try rw [h1]
  try simp only [qa, qb, qc, qd, qe, List.length_map] at h1
  refine Qf rfl (Qa rfl (Qf rfl (Qi rfl rfl (Qf rfl (QC rfl rfl rfl (Qf rfl ?_))))))
  first | refine Q4 rfl Q6 ?_ | refine Q4 rfl rfl ?_
  refine Qf rfl (Y4 rfl rfl (Qj rfl rfl (Qa rfl ?_)))
  refine hK _ _ (Qb (kp1 rfl) ?_)
  refine Qt (Qn rfl ?_)
  first | rfl | (rw [Qem (by omega)]; done) | (rw [inW, decide_eq_true h1, Bool.true_and])
 ·try rw [h1]
  try simp only [qa, qb, qc, qd, qe, List.length_map] at h1
  refine Qm rfl (Qm rfl (Qm rfl (Qm rfl (Qm rfl (Qj rfl rfl (Qa rfl ?_))))))
  refine hK _ _ (Qb (kp1 rfl) ?_)
  refine Qt (Qn rfl ?_)
  first | rfl | (rw [Qem (by omega)]; done) | (rw [inW, decide_eq_true h1, Bool.true_and])
theorem XP {w : Qs} (hw : WSm w) {u : Int} : Ok Try.prog 31 [YY w, .int .i64 u] (.int .i64 (Y7 w u)) := by
 refine Ok.ofT Yb Try.func31 QpI (Nat.le_of_ble_eq_true rfl) ?_
 show TW _ _ tf31.body _ _
 refine Qe fun K hK => ZV rfl rfl rfl (Qa rfl ?_)
 refine hK _ _ (Qb (kp2 rfl rfl) ?_)
 refine QH ?_ -- 0
 refine Qe fun K hK => QF (cs := [_]) rfl rfl rfl rfl (Qa rfl (QA (Qjw hw) rfl rfl (.inr rfl) (Yo rfl ?_)))
 refine hK _ _ (Qb (kp3 rfl rfl rfl) ?_)
 refine QB rfl (fun h1 => ?_) (fun h1 => ?_)
 ·try rw [h1]
  try simp only [qa, qb, qc, qd, qe, List.length_map] at h1
  try have h1b := Qc8.1 h1
  refine Qe fun K hK => Qa rfl ?_
  refine hK _ _ (Qb (kp1 rfl) ?_)
  refine Qt (Qk (Qw rfl ?_))
  rw [Xj.2 h1]
 ·try rw [h1]
  try simp only [qa, qb, qc, qd, qe, List.length_map] at h1
  try have h1b := Qc8.1 h1
  refine Qz (Qd (kp2 rfl rfl) (Qe fun K hK => Qi rfl rfl (QC rfl rfl rfl (Qa rfl (QO rfl rfl rfl (by omega) (ZA (by omega) (by omega)) rfl (ZK rfl rfl (QC rfl rfl rfl ?_)))))))
  first | refine Q4 rfl Q6 ?_ | refine Q4 rfl rfl ?_
  refine QA (Qjv (by omega) (by have := hw.cs _ (List.getElem_mem (show u.toNat < w.length by omega)); omega)) rfl rfl (.inr rfl) (Xz rfl rfl (QhR (by have := hw.cs _ (List.getElem_mem (show u.toNat < w.length by omega)); omega)) (Qa rfl ?_))
  refine hK _ _ (Qb (kp1 rfl) ?_)
  refine Qt (Qw rfl ?_)
  rw [Qgi h1b.1 h1b.2, show min (w[u.toNat]'(by omega)).cs.length 16 = (w[u.toNat]'(by omega)).cs.length from Nat.min_eq_left (hw.cs _ (List.getElem_mem _)), QoB]
theorem Qa8 {w : Qs} (hw : WSm w) {l : List StepT} (hl : l.length <= 10000000) {u : Int} : Ok Try.prog 32 [YY w, ZI l, .int .i64 u] (.int .i64 (X5 w l u)) := by
 refine Ok.ofT Yb Try.func32 QpJ (Nat.le_of_ble_eq_true rfl) ?_
 show TW _ _ tf32.body _ _
 refine Qe fun K hK => ZV rfl rfl rfl (Qa rfl ?_)
 refine hK _ _ (Qb (kp3 rfl rfl rfl) ?_)
 refine QH ?_ -- 0
 refine Qe fun K hK => Qa rfl ?_
 first | refine Q4 rfl Q6 ?_ | refine Q4 rfl rfl ?_
 refine Xz rfl rfl (by first | exact Qp (by omega) (by omega) | rfl) (Qa rfl ?_)
 refine hK _ _ (Qb (kp4 rfl rfl rfl rfl) ?_)
 refine QK ?_
 refine Z6 (ι := Nat) (fun i => ⟨[(1, ZI l), (2, .int .i64 u), (3, .ref 3 0 0), (7, .int .i64 ((i : Int) - 1))], [(3, ⟨[[.sl ((w).map QaY)]], 1, 27, true⟩)]⟩) (fun i => i <= l.length /\ X5 w l u = X5 w (l.take i) u) (fun i => i) l.length ?_ ?_ ?_
 ·exact ZC (l := [1, 2, 3, 7]) (lH := [3]) (kp4 rfl rfl rfl rfl) (Qq rfl Qy) rfl rfl rfl
 ·exact ⟨Nat.le_refl _, by rw [List.take_length]⟩
 intro i hI
 try dsimp only
 refine QH ?_ -- 1
 refine Qe fun K hK => Qa rfl (QhZ rfl rfl ?_)
 refine hK _ _ (Qb (kp5 rfl rfl rfl rfl rfl) ?_)
 refine QB rfl (fun h1 => ?_) (fun h1 => ?_)
 ·try rw [h1]
  try simp only [qa, qb, qc, qd, qe, List.length_map] at h1
  refine Qz (Qd (kp4 rfl rfl rfl rfl) ?_)
  refine QH ?_ -- 2
  refine QK (Qe fun K hK => Qa rfl (Qa rfl (QO rfl rfl rfl (by omega) (ZA (by omega) (by omega)) rfl (ZK rfl rfl (QC rfl rfl rfl (Qa rfl (ZJ rfl rfl ?_)))))))
  refine hK _ _ (Qb (kp5 rfl rfl rfl rfl rfl) ?_)
  refine QB rfl (fun h2 => ?_) (fun h2 => ?_)
  ·try rw [h2]
   try simp only [qa, qb, qc, qd, qe, List.length_map] at h2
   refine Qe fun K hK => Qa rfl (Qa rfl (QO rfl rfl rfl (by omega) (ZA (by omega) (by omega)) rfl (ZK rfl rfl (QC rfl rfl rfl (Qa rfl ?_)))))
   refine hK _ _ (Qb (kp1 rfl) ?_)
   refine Qt (Qu (Qk (Zn (Qu (Qk (Qw rfl ?_))))))
   rw [hI.2, QkE (k := ((i : Int) - 1).toNat) (by omega) (by omega) h2]
  ·try rw [h2]
   try simp only [qa, qb, qc, qd, qe, List.length_map] at h2
   refine Qz (Ql (Qd (kp4 rfl rfl rfl rfl) (Q8 fun K hK => Qa rfl (Xz rfl rfl (by first | exact Qp (by omega) (by omega) | rfl) (Qa rfl (hK _ ?_))))))
   refine Qo (i - 1) ?_ ?_ ?_
   ·exact ZC (l := [1, 2, 3, 7]) (lH := [3]) (kp4 rfl rfl rfl rfl) (Qq rfl Qy) (by simp only [List.cons.injEq, Prod.mk.injEq, D.int.injEq, and_true, true_and]; omega) rfl rfl
   ·exact ⟨by omega, by rw [hI.2, QjI (k := ((i : Int) - 1).toNat) (by omega) (by omega) h2]⟩
   ·first | omega | (simp only; omega) | (dsimp only; omega)
 ·try rw [h1]
  try simp only [qa, qb, qc, qd, qe, List.length_map] at h1
  refine Z0 (Za (QI (QQ (Qd (kp2 rfl rfl) (Qe fun K hK => QF (cs := [_]) rfl rfl rfl rfl (Qa rfl (QA (XP hw) rfl rfl (.inr rfl) (Qa rfl ?_))))))))
  refine hK _ _ (Qb (kp1 rfl) ?_)
  refine Qt (Qw rfl ?_)
  rw [hI.2, show i = 0 by omega]; rfl
theorem Qdp {w : Qs} (hw : WSm w) {l : List StepT} (hl : l.length <= 10000000) {u : Int} : Ok Try.prog 16 [YY w, ZI l, .int .i64 u] (.int .i64 (Q3 w l u)) := by
 refine Ok.ofT Yb Try.func16 Qpu (Nat.le_of_ble_eq_true rfl) ?_
 show TW _ _ tf16.body _ _
 refine Qe fun K hK => ZV rfl rfl rfl (Qa rfl ?_)
 refine hK _ _ (Qb (kp3 rfl rfl rfl) ?_)
 refine QH ?_ -- 0
 refine Qe fun K hK => QF (cs := [_]) rfl rfl rfl rfl (Qa rfl (QA (XP hw) rfl rfl (.inr rfl) (ZJ rfl rfl ?_)))
 refine hK _ _ (Qb (kp4 rfl rfl rfl rfl) ?_)
 refine QB rfl (fun h1 => ?_) (fun h1 => ?_)
 ·try rw [h1]
  try simp only [qa, qb, qc, qd, qe, List.length_map] at h1
  refine Qe fun K hK => Qa rfl ?_
  refine hK _ _ (Qb (kp1 rfl) ?_)
  refine Qt (Qk (Qw rfl ?_))
  rw [Qgd (Xj.1 h1)]
 ·try rw [h1]
  try simp only [qa, qb, qc, qd, qe, List.length_map] at h1
  refine Qz (Qd (kp3 rfl rfl rfl) (Qe fun K hK => QF (cs := [_]) rfl rfl rfl rfl (Qa rfl (Qa rfl (QA (Qa8 hw hl) rfl rfl (.inr rfl) (Qa rfl ?_))))))
  refine hK _ _ (Qb (kp1 rfl) ?_)
  refine Qt (Qw rfl ?_)
  rw [Qgc (by simpa using fun e => h1 (Xj.2 e))]
theorem YX {l : List StepT} (hl : l.length <= 10000000) : Ok Try.prog 10 [ZI l] (.int .i64 (Yk l)) := by
 refine Ok.ofT Yb Try.func10 Qpp (Nat.le_of_ble_eq_true rfl) ?_
 show TW _ _ tf10.body _ _
 refine Qe fun K hK => Qa rfl ?_
 refine hK _ _ (Qb (kp1 rfl) ?_)
 refine QH ?_ -- 0
 refine Qe fun K hK => Qa rfl ?_
 first | refine Q4 rfl Q6 ?_ | refine Q4 rfl rfl ?_
 refine ZJ rfl rfl ?_
 refine hK _ _ (Qb (kp2 rfl rfl) ?_)
 refine QB rfl (fun h1 => ?_) (fun h1 => ?_)
 ·try rw [h1]
  try simp only [qa, qb, qc, qd, qe, List.length_map] at h1
  refine Qe fun K hK => Qa rfl ?_
  refine hK _ _ (Qb (kp1 rfl) ?_)
  refine Qt (Qk (Qw rfl ?_))
  rw [Qhf h1]
 ·try rw [h1]
  try simp only [qa, qb, qc, qd, qe, List.length_map] at h1
  refine Qz (Qd (kp1 rfl) (Qe fun K hK => Qa rfl (Qa rfl ?_)))
  first | refine Q4 rfl Q6 ?_ | refine Q4 rfl rfl ?_
  refine Xz rfl rfl (by first | exact Qp (by omega) (by omega) | rfl) (QO rfl rfl rfl (by omega) (ZA (by omega) (by omega)) rfl (ZK rfl rfl (QC rfl rfl rfl (Qa rfl ?_))))
  refine hK _ _ (Qb (kp1 rfl) ?_)
  refine Qt (Qw rfl ?_)
  rw [Qi6 (k := ((l.length : Int) - 1).toNat) (by omega)]
theorem Qfe {l : List StepT} (hl : l.length <= 10000000) {s : StepT} : Ok Try.prog 34 [ZI l, .agg (dStep s)] (ZI (l ++ [s])) := by
 refine Ok.ofT Yb Try.func34 QpL (Nat.le_of_ble_eq_true rfl) ?_
 show TW _ _ tf34.body _ _
 refine Qe fun K hK => ZV rfl rfl rfl (Qa rfl ?_)
 refine hK _ _ (Qb (kp2 rfl rfl) ?_)
 refine Qe fun K hK => Qa rfl (Qa rfl ?_)
 first | refine Q4 rfl Q6 ?_ | refine Q4 rfl rfl ?_
 refine Qa rfl ?_
 first | refine Q4 rfl Q6 ?_ | refine Q4 rfl rfl ?_
 refine QiM rfl rfl rfl rfl rfl (by omega) (by omega) (by simp) Ql8 (Qlb rfl) (QU (ds0 := [2, 1, 0]) (cs := [_, _, _, _]) rfl rfl rfl rfl rfl rfl (QD rfl rfl (QfM (ds0 := [0]) rfl rfl (fun _ h => QaV rfl rfl rfl h) rfl (.inr (by simp)) Ql8 (by simp; omega) (by simp; omega) rfl rfl (Qa rfl ?_))))
 refine hK _ _ (Qb (kp1 rfl) ?_)
 refine Qt ?_
 exact QdT rfl rfl rfl (by simp) (by simp [ZI, dStep])
theorem Qe0 {w : Qs} (hw : WSm w) {l : List StepT} (hl : l.length <= 10000000) (hp : QcV w l) {t : Zo} {c : Int} : Ok Try.prog 20 [YY w, ZI l, .agg (Qnb t), .int .i64 c] (dOS (XR w l t c)) := by
 refine Ok.ofT Yb Try.func20 Qpx (Nat.le_of_ble_eq_true rfl) ?_
 show TW _ _ tf20.body _ _
 refine Qe fun K hK => ZV rfl rfl rfl (ZV rfl rfl rfl (Qa rfl (Qa rfl ?_)))
 refine hK _ _ (Qb (kp4 rfl rfl rfl rfl) ?_)
 refine Qe fun K hK => QF (cs := [_]) rfl rfl rfl rfl (Qa rfl (Qi rfl rfl (QC rfl rfl rfl (QA (Qdp hw hl) rfl rfl (.inr rfl) (Qa rfl ?_)))))
 refine hK _ _ (Qb (kp4 rfl rfl rfl rfl) ?_)
 refine QH ?_ -- 0
 refine Qe fun K hK => Qa rfl (Y4 rfl rfl (Qa rfl ?_))
 refine Qx (g := 18) rfl (fun h1 => ?_) (fun h1 => ?_)
 ·try rw [h1]
  try simp only [qa, qb, qc, qd, qe, List.length_map] at h1
  refine Qm rfl (Qm rfl (Qm rfl (Qm rfl (Qm rfl (Qj rfl rfl (Qa rfl (Qm rfl (Qm rfl (Qm rfl (Qm rfl (Qm rfl ?_)))))))))))
  refine Qj rfl rfl ?_
  refine hK _ _ (Qb (kp5 rfl rfl rfl rfl rfl) ?_)
  refine Zz rfl (Qe fun K hK => Qa rfl (Qa rfl ?_))
  refine hK _ _ (Qb (kp2 rfl rfl) ?_)
  refine Qt (Qk ?_)
  rw [Qjy (.inl h1)]
  exact Zv rfl rfl ⟨rfl, rfl⟩
 ·try rw [h1]
  try simp only [qa, qb, qc, qd, qe, List.length_map] at h1
  refine Qf rfl (Qa rfl (Qf rfl (Qi rfl rfl (Qf rfl (QC rfl rfl rfl (Qf rfl (QeX rfl rfl (Qf rfl (ZJ rfl rfl (Qj rfl rfl (Qa rfl ?_)))))))))))
  refine Qx (g := 25) rfl (fun h2 => ?_) (fun h2 => ?_)
  ·try rw [h2]
   try simp only [qa, qb, qc, qd, qe, List.length_map] at h2
   refine Qm rfl (Qm rfl (Qm rfl (Qm rfl (Qm rfl (Qj rfl rfl ?_)))))
   refine hK _ _ (Qb (kp5 rfl rfl rfl rfl rfl) ?_)
   refine Zz rfl (Qe fun K hK => Qa rfl (Qa rfl ?_))
   refine hK _ _ (Qb (kp2 rfl rfl) ?_)
   refine Qt (Qk ?_)
   rw [Qj9 hp h2]
   exact Zv rfl rfl ⟨rfl, rfl⟩
  ·try rw [h2]
   try simp only [qa, qb, qc, qd, qe, List.length_map] at h2
   refine Qf rfl (Qa rfl (Qf rfl (Qi rfl rfl (Qf rfl (QC rfl rfl rfl (Qf rfl (QdB rfl rfl (Qf rfl (ZJ rfl rfl (Qj rfl rfl ?_))))))))))
   refine hK _ _ (Qb (kp5 rfl rfl rfl rfl rfl) ?_)
   refine QB rfl (fun h3 => ?_) (fun h3 => ?_)
   ·try rw [h3]
    try simp only [qa, qb, qc, qd, qe, List.length_map] at h3
    refine Qe fun K hK => Qa rfl (Qa rfl ?_)
    refine hK _ _ (Qb (kp2 rfl rfl) ?_)
    refine Qt (Qk ?_)
    rw [Qka h3]
    exact Zv rfl rfl ⟨rfl, rfl⟩
   ·try rw [h3]
    try simp only [qa, qb, qc, qd, qe, List.length_map] at h3
    refine Qz (Qd (kp4 rfl rfl rfl rfl) (Qe fun K hK => Qa rfl (Qi rfl rfl (Zb (ds0 := [3, 2, 1]) rfl rfl rfl rfl rfl (Qa rfl (Qi rfl rfl (Zb (ds0 := [7, 3, 2, 1]) rfl rfl rfl rfl rfl (QdB rfl rfl (Qa rfl (Q1 (ds0 := [3, 2, 1]) (YX hl) rfl rfl (.inr rfl) rfl rfl ?_))))))))))
    refine Qa rfl (QP rfl rfl (Q1 (ds0 := [1]) (Qfe (s := ⟨t.u, QhU (Q3 w l t.u) t.m, Yk l, c⟩) hl) rfl rfl (.inl rfl) rfl rfl (Qa rfl (Qa rfl ?_))))
    refine hK _ _ (Qb (kp2 rfl rfl) ?_)
    refine Qt ?_
    rw [Qkb hp (by omega) h2 h3]
    exact Zv rfl rfl ⟨rfl, rfl⟩
end Go.Proofs
namespace M25
open Go Go.Abs M3
/-! ### prop: what is left of each unit, scans -/
structure QnO (w : Qs) (db : List (List Zo)) (l : List StepT) (a : Nat) (k : Nat) : Prop where
  ha : a < db.length
  hk : k < db[a].length
  eq : Qo6 w db l = ((a : Int), db[a][k].u)
  one : QeF (Q3 w l db[a][k].u) db[a][k].m = 1
  two : ∀ j, ∀ hj : j < db[a].length, j ≠ k -> QeF (Q3 w l db[a][j].u) db[a][j].m = 2
theorem QjM {w : Qs} {l : List StepT} {s : StepT} (hp : QcV w l) (hs : Lo s.m) : QcV w (l ++ [s]) := fun t ht => by
  rcases List.mem_append.1 ht with ht | ht
  · exact hp t ht
  · simp only [List.mem_singleton] at ht; subst ht; exact hs
def Qpk (w : Qs) (l : List StepT) (t : Zo) (c : Int) : StepT := ⟨t.u, QhU (Q3 w l t.u) t.m, Yk l, c⟩
end M25
namespace M25
open Go Go.Abs M3
/-! ### Sets that are made: moderate sizes -/
theorem QlL (l : List (Cu × Cu)) (x y : Cu) : (Qbi l x y).length <= l.length + 1 := Qhk l x y
theorem QfZ (f : Cu -> Cu -> Bool) : ∀ (c : List Cu) (out : List (Cu × Cu)), (∀ x ∈ c, Cu.sm x) -> (∀ s ∈ out, Cu.sm s.1 /\ Cu.sm s.2) -> (Qbh f c out).length <= out.length + c.length /\ ∀ s ∈ Qbh f c out, Cu.sm s.1 /\ Cu.sm s.2
 | [], out, _, h => ⟨by simp [Qbh], by simpa [Qbh] using h⟩
 | [x], out, _, h => ⟨by simp [Qbh], by simpa [Qbh] using h⟩
 | x :: y :: r, out, hc, h => by
  rw [Qbh]
  have hxy := QlL out x y
  split
  ·obtain ⟨h1, h2⟩ := QfZ f (y :: r) (Qbi out x y) (fun z hz => hc z (by simp at hz ⊢; exact .inr hz)) (Qjb h (hc x (by simp)) (hc y (by simp)))
   exact ⟨by simp only [List.length_cons] at h1 ⊢; omega, h2⟩
  ·obtain ⟨h1, h2⟩ := QfZ f (y :: r) out (fun z hz => hc z (by simp at hz ⊢; exact .inr hz)) h
   exact ⟨by simp only [List.length_cons] at h1 ⊢; omega, h2⟩
def SmN (n : Nat) (l : List (Cu × Cu)) : Prop := l.length <= n /\ ∀ s ∈ l, Cu.sm s.1 /\ Cu.sm s.2
theorem SmN.sm {n : Nat} {l : List (Cu × Cu)} (h : SmN n l) (hn : n <= 1000000) : Sm l := ⟨Nat.le_trans h.1 hn, h.2⟩
theorem SmN.up {n m : Nat} {l : List (Cu × Cu)} (h : SmN n l) (hn : n <= m) : SmN m l := ⟨Nat.le_trans h.1 hn, h.2⟩
theorem SmN.nil (n : Nat) : SmN n [] := ⟨Nat.zero_le _, by simp⟩
theorem QmH {a b : List (Cu × Cu)} {n m : Nat} (ha : SmN n a) (hb : SmN m b) (h : n + m <= 1000000) : SmN (2 + 2 * (n + m)) (QmE a b) := by
 unfold QmE
 split
 ·have hab : Sm (a ++ b) := (ha.sm (by omega)).app (hb.sm (by omega)) (by have := ha.1; have := hb.1; omega)
  unfold Qih
  split
  ·obtain ⟨h1, h2⟩ := QfZ (mIn (a ++ b)) (Yx (a ++ b)) [] (Yf hab) (by simp)
   have := Qbg (a ++ b)
   have := ha.1
   have := hb.1
   exact ⟨by simp only [List.length_nil, List.length_append] at *; omega, h2⟩
  ·exact SmN.nil _
 ·exact SmN.nil _
theorem QkQ {a : List (Cu × Cu)} {n : Nat} (ha : SmN n a) (h : n <= 1000000) : SmN (2 + 2 * n) (Qii a) := by
 unfold Qii
 split
 ·obtain ⟨h1, h2⟩ := QfZ (fun x y => !mIn a x y) (Yx a) [] (Yf (ha.sm h)) (by simp)
  have := Qbg a
  have := ha.1
  exact ⟨by simp only [List.length_nil] at *; omega, h2⟩
 ·exact SmN.nil _
def Qju (n : Nat) (s : QgC) : Prop := SmN n s.1 /\ SmN n s.2
theorem Qoq {a b : QgC} {n m : Nat} (ha : Qju n a) (hb : Qju m b) (h : n + m <= 1000000) : Qju (2 + 2 * (n + m)) (QmF a b) := by
 unfold QmF
 split
 ·exact ⟨QmH ha.1 hb.1 h, QmH ha.2 hb.2 h⟩
 ·exact ⟨SmN.nil _, SmN.nil _⟩
theorem QkR {a : QgC} {n : Nat} (ha : Qju n a) (h : n <= 1000000) : Qju (2 + 2 * n) (Qgj a) := by
 unfold Qgj
 split
 ·exact ⟨QkQ ha.1 h, QkQ ha.2 h⟩
 ·exact ⟨SmN.nil _, SmN.nil _⟩
theorem QbE (e a b c : Int) (f : Bool) : Cu.sm ⟨e, a, b, c, [], [], f⟩ := ⟨Nat.zero_le _, Nat.zero_le _⟩
theorem Qbv {a b c : Int} {p q : List UInt8} (hp : p.length <= 1000000) : Qju 1 (YP a b c p q) := by
 unfold YP
 split
 ·exact ⟨SmN.nil _, SmN.nil _⟩
 ·split
  ·refine ⟨SmN.nil _, ⟨Nat.le_refl _, fun s hs => ?_⟩⟩
   simp only [List.mem_singleton] at hs; subst hs
   exact ⟨⟨hp, Nat.zero_le _⟩, ⟨hp, Nat.zero_le _⟩⟩
  ·refine ⟨⟨Nat.le_refl _, fun s hs => ?_⟩, SmN.nil _⟩
   simp only [List.mem_singleton] at hs; subst hs
   constructor
   ·unfold Qey; split
    ·exact QbE ..
    ·exact QbE ..
   ·unfold QcB; split
    ·exact QbE ..
    ·exact QbE ..
def QjZ : QgC := ([(QbV, Qe4)], [(QbV, Qe4)])
theorem Qmq : Qju 1 QjZ := by
 have h : SmN 1 [(QbV, Qe4)] := ⟨Nat.le_refl _, fun s hs => by simp only [List.mem_singleton] at hs; subst hs; exact ⟨QbE .., QbE ..⟩⟩
 exact ⟨h, h⟩
def bnd (i : Nat) : Nat := 4 * 2 ^ i
theorem Qms {i : Nat} (h : i <= 16) : bnd i <= 262144 := by
 have : 2 ^ i <= 2 ^ 16 := Nat.pow_le_pow_right (by omega) h
 have e : (2 : Nat) ^ 16 = 65536 := by decide
 unfold bnd; omega
theorem Qow {s : QgC} {i : Nat} (h : Qju (bnd i - 4) s) {a b c : Int} {p q : List UInt8} (hp : p.length <= 1000000) (hi : i <= 16) : Qju (bnd (i + 1) - 4) (QmF s (YP a b c p q)) := by
 have h1 := Qms hi
 have h4 : 4 <= bnd i := by unfold bnd; have := Nat.one_le_two_pow (n := i); omega
 have := Qoq h (Qbv (a := a) (b := b) (c := c) (q := q) hp) (by omega)
 have e : bnd (i + 1) = 2 * bnd i := by unfold bnd; rw [Nat.pow_succ]; omega
 exact ⟨this.1.up (by omega), this.2.up (by omega)⟩
theorem Qmb {s : QgC} {i : Nat} (h : Qju (bnd i - 4) s) : Qju (bnd (i + 1) - 4) s := by
 have e : bnd (i + 1) = 2 * bnd i := by unfold bnd; rw [Nat.pow_succ]; omega
 exact ⟨h.1.up (by omega), h.2.up (by omega)⟩
def SetOk (s : QgC) : Prop := Qju 600000 s
theorem SetOk.sm {s : QgC} (h : SetOk s) : Sm s.1 /\ Sm s.2 := ⟨h.1.sm (by omega), h.2.sm (by omega)⟩
structure CR where
 v : Vr
 x : D
 y : D
 z : D
def dCR (r : CR) : List D := [.int .i64 r.v.a, .int .i64 r.v.b, .int .i64 r.v.c, .str r.v.p, .str r.v.q, r.x, r.y, r.z]
def CR.ren (r : CR) : CR := ⟨r.v, r.x.renS upN, r.y.renS upN, r.z.renS upN⟩
theorem Qj6 (l : List CR) : (l.map dCR).map (fun r => r.map (D.renS upN)) = (l.map CR.ren).map dCR := by
 rw [List.map_map, List.map_map]; rfl
structure UR where
 n : List UInt8
 f : List UInt8
 k : Nat
 cs : List CR
def dUR (u : UR) : List D := [.str u.n, .str u.f, .osl u.k u.cs.length]
def UR.ren (u : UR) : UR := ⟨u.n, u.f, upN u.k, u.cs.map CR.ren⟩
theorem Qnc (l : List UR) : (l.map dUR).map (fun r => r.map (D.renS upN)) = (l.map UR.ren).map dUR := by
 rw [List.map_map, List.map_map]
 refine List.map_congr_left fun u _ => ?_
 simp [dUR, UR.ren, D.renS]
structure Fam (H : List (Nat × Box)) (kg ku eu ec : Nat) (us : List UR) : Prop where
 ne : ku ≠ kg
 u : ∃ pr, lk H ku = some ⟨us.map dUR, 3, eu, pr⟩
 c : ∀ y ∈ us, y.k ≠ kg /\ ∃ pr, lk H y.k = some ⟨y.cs.map dCR, 8, ec, pr⟩
 v : ∀ y ∈ us, y.cs.length <= 16 /\ ∀ z ∈ y.cs, Qfc z.v
theorem Fam.up {H : List (Nat × Box)} {kg ku eu ec : Nat} {us : List UR} (h : Fam H kg ku eu ec us) : Fam (upH H) (upN kg) (upN ku) eu ec (us.map UR.ren) := by
 obtain ⟨h1, ⟨pu, h2⟩, h3, h4⟩ := h
 refine ⟨fun e => h1 (QiF e), ⟨pu, ?_⟩, fun y hy => ?_, fun y hy => ?_⟩
 ·rw [X4, h2, Option.map_some, Box.ren, Qnc]
 ·obtain ⟨u, hu, rfl⟩ := List.mem_map.1 hy
  obtain ⟨q1, pr, q2⟩ := h3 u hu
  refine ⟨fun e => q1 (QiF e), pr, ?_⟩
  show lk (upH H) (upN u.k) = _
  rw [X4, q2, Option.map_some, Box.ren, Qj6]; rfl
 ·obtain ⟨u, hu, rfl⟩ := List.mem_map.1 hy
  obtain ⟨q1, q2⟩ := h4 u hu
  refine ⟨by simpa [UR.ren] using q1, fun z hz => ?_⟩
  obtain ⟨z0, hz0, rfl⟩ := List.mem_map.1 hz
  exact q2 z0 hz0
theorem Fam.cons {H : List (Nat × Box)} {kg ku eu ec : Nat} {us : List UR} (h : Fam H kg ku eu ec us) {b : Box} : Fam ((kg, b) :: H) kg ku eu ec us := by
 obtain ⟨h1, ⟨pu, h2⟩, h3, h4⟩ := h
 exact ⟨h1, ⟨pu, Qg (Ne.symm h1) h2⟩, fun y hy => let ⟨q1, pr, q2⟩ := h3 y hy; ⟨q1, pr, Qg (Ne.symm q1) q2⟩, h4⟩
def WantIn (n : Nat) (x : WantT) : Prop := 1 <= x.u /\ x.u < n /\ SetOk x.s
def QgL (n : Nat) (r : List WantT) : Prop := r.length <= 2 /\ ∀ x ∈ r, WantIn n x
def QdY (n : Nat) (m : Int) (ns : List (List WantT)) : Prop := (ns.length : Int) <= m /\ ∀ r ∈ ns, QgL n r
theorem Qnq {n : Nat} {x : WantT} (h : WantIn n x) : QgL n [x] := ⟨by simp, by intro y hy; simp only [List.mem_singleton] at hy; subst hy; exact h⟩
theorem Qnr {n : Nat} {x y : WantT} (h : WantIn n x) (h' : WantIn n y) : QgL n [x, y] := ⟨by simp, by
 intro z hz
 simp only [List.mem_cons, List.not_mem_nil, or_false] at hz
 rcases hz with rfl | rfl
 ·exact h
 ·exact h'⟩
theorem Qk6 {n : Nat} {ns : List (List WantT)} {r : List WantT} (h : ∀ r ∈ ns, QgL n r) (hr : QgL n r) : ∀ x ∈ ns ++ [r], QgL n x := fun x hx => by
 rcases List.mem_append.1 hx with hx | hx
 ·exact h x hx
 ·simp only [List.mem_singleton] at hx; subst hx; exact hr
end M25
namespace Go.Proofs
open Go Go.Abs M3 M25
set_option linter.unusedVariables false
set_option linter.unusedSimpArgs false
theorem Qbn {s : St} {args : List Opd} {kg : Nat} {L : List Int} {I n : Int} {et : Nat} (ha : Zm s args = some [.ref kg 0 0, .int .i64 n]) (hg : lk s.H kg = some (gB L I et)) (hL : ∀ x ∈ L, I64 x) (hn : n <= 9223372036854775807) : QaX Try.prog 25 args s [(kg, gB L I et)] [] [(kg, gB L (nxI I) et)] (.int .i64 (nx L I n)) := by
 refine QiQ (b' := gB L (nxI I) et) (ds' := [.ref (upN kg) 0 0, .int .i64 n]) ha (fun j x h => ?_) (fun k b hk j hj => ?_) (fun x hx j hj => ?_) ?_ rfl rfl rfl rfl ?_
 ·obtain ⟨rfl, rfl⟩ := Xx h; exact hg
 ·obtain ⟨rfl, rfl⟩ := Xx hk; simp [Box.ids, gB] at hj
 ·simp only [List.mem_cons, List.not_mem_nil, or_false] at hx
  rcases hx with rfl | rfl
  ·simp [D.ids, D.sid] at hj; subst hj; rw [Qr]; rfl
  ·simp [D.ids, D.sid] at hj
 ·rw [Qr]; rfl
 ·exact Xh (by unfold upN; omega) hL hn et
theorem Qci {H : List (Nat × Box)} {kg kc : Nat} {L : List Int} {I : Int} {eg ec : Nat} {pr : Bool} {zs : List CR} (hkg : 1000000 <= kg) (hg : lk H kg = some (gB L I eg)) (hc : lk H kc = some ⟨zs.map dCR, 8, ec, pr⟩) (hne : kg ≠ kc) (hB : Big H) (hC : Closed H) (hL : ∀ x ∈ L, I64 x) (hz : ∀ z ∈ zs, Qfc z.v) (hn : zs.length <= 16) : ∃ d H2, (∃ s I2, SetOk s /\ d = QgE s /\ H2 = (kg, gB L I2 eg) :: H) /\ OkH Try.prog 45 [.ref kg 0 0, .osl kc zs.length] H d H2 := by
 have hkc := hB _ _ hc
 refine OkH.ofX (R := fun d H2 => ∃ s I2, SetOk s /\ d = QgE s /\ H2 = (kg, gB L I2 eg) :: H) Yb Try.func45 QpV (Nat.le_of_ble_eq_true rfl) ?_
 show TX _ _ tf45.body _ _
 refine QV fun K hK => ?_
 refine ZE (by repeat (first | exact hB.none (by decide) | refine Zi (by first | decide | omega) ?_)) ?_
 refine hK _ _ (QE (kp3 rfl rfl rfl) ?_)
 refine QV fun K hK => Qa rfl (Yp (Qbn (I := I) rfl (Qg (by omega) hg) hL (by omega)) (Qa rfl ?_))
 refine hK _ _ (QE (kp4 rfl rfl rfl rfl) ?_)
 refine QV fun K hK => QA (ZW) rfl rfl (.inl rfl) ?_
 refine ZE (by repeat (first | exact hB.none (by decide) | refine Zi (by first | decide | omega) ?_)) ?_
 refine QS rfl rfl rfl rfl rfl rfl rfl rfl ?_
 refine hK _ _ (QE (kp5 rfl rfl rfl rfl rfl) ?_)
 refine Xo ?_ -- 0
 refine QV fun K hK => Qa rfl ?_
 refine hK _ _ (QE (kp6 rfl rfl rfl rfl rfl rfl) ?_)
 refine Yq ?_
 refine Qdo (ι := Nat × QgC) (fun ⟨i, s⟩ => ⟨[(0, .ref kg 0 0), (1, .osl kc zs.length), (4, .ref 4 0 0), (5, .int .i64 (nx L I 8)), (6, .ref 6 0 0), (7, .int .i64 i)], [(4, ⟨[[.fsl [], .fsl []]], 2, 67, true⟩), (6, ⟨[[ZD s.1, ZD s.2]], 2, 67, true⟩), (kg, gB L (nxI I) eg)] ++ H⟩) (fun ⟨i, s⟩ => i <= zs.length /\ Qju (bnd i - 4) s) (fun ⟨i, s⟩ => zs.length - i) (0, ([], [])) ?_ ?_ ?_
 ·exact Qeo (l := [0, 1, 4, 5, 6, 7]) (B := [_, _, _, _]) (kp6 rfl rfl rfl rfl rfl rfl) rfl (by intro p hp; simp only [List.mem_cons, List.not_mem_nil, or_false] at hp; rcases hp with rfl | rfl | rfl <;> exact ⟨by repeat (first | exact Qr | refine Qg (by first | decide | omega) ?_), rfl⟩) rfl (by intro p hp h; simp only [List.mem_cons, List.not_mem_nil, or_false] at hp; rcases hp with rfl | rfl | rfl | rfl <;> first | (simp only at h; omega) | (repeat (first | exact QN | refine QL ?_))) hB hC (by intro p hp k hk; simp only [List.mem_cons, List.not_mem_nil, or_false] at hp; rcases hp with rfl | rfl | rfl | rfl | rfl | rfl <;> first | (simp [D.ids, D.sid, QW, QJ, ZG] at hk; done) | (simp [D.ids, D.sid, QW, QJ, ZG] at hk; subst hk; repeat (first | exact QN | exact Zh hg | exact Zh hc | refine QL ?_)))
 ·exact ⟨Nat.zero_le _, SmN.nil _, SmN.nil _⟩
 intro ⟨i, s⟩ hI
 try dsimp only at hI
 have hb16 := Qms (i := i) (by omega)
 try dsimp only
 refine Xo ?_ -- 1
 refine QV fun K hK => Qa rfl (Qa rfl ?_)
 first | refine Q4 rfl Q6 ?_ | refine Q4 rfl rfl ?_
 refine Y4 rfl rfl ?_
 refine hK _ _ (QE (kp7 rfl rfl rfl rfl rfl rfl rfl) ?_)
 refine Yy rfl (fun h1 => ?_) (fun h1 => ?_)
 ·try rw [h1]
  try simp only [qa, qb, qc, qd, qe, List.length_map] at h1
  refine YB (QR (kp6 rfl rfl rfl rfl rfl rfl) ?_)
  refine Xo ?_ -- 2
  refine Yq (QV fun K hK => Qa rfl (Qa rfl (QiK rfl (QgA (by omega) (by omega)) (QnU rfl rfl (by omega) (QeX rfl rfl (ZJ rfl rfl ?_))))))
  refine hK _ _ (QE (kp7 rfl rfl rfl rfl rfl rfl rfl) ?_)
  refine Yy rfl (fun h2 => ?_) (fun h2 => ?_)
  ·try rw [h2]
   try simp only [qa, qb, qc, qd, qe, List.length_map] at h2
   have hvp := (hz _ (List.getElem_mem (show i < zs.length by omega))).1
   refine ZF fun K hK => QU (ds0 := [1, 0]) (cs := [_, _]) rfl rfl rfl rfl (by simp [Dr.ok, Qa9]) rfl (Qa rfl (Qa rfl (Qal (ds0 := [4, 3, 2, 1, 0]) rfl rfl (Qg (by omega) (Qg (by omega) (Qg (by omega) hc))) (by simp) (by omega) (by omega) rfl (by simp [Dr.ok, Qa9]) rfl (Qi rfl (Zh (Qg (by omega) (Qg (by omega) (Qg (by omega) hc)))) (QU (ds0 := [2, 1, 0]) (cs := [_, _, _, _, _]) rfl (ZY (Qg (by omega) (Qg (by omega) (Qg (by omega) hc))) (Zt (by omega))) rfl rfl (by simp [Dr.ok, Qa9]) rfl (Q1 (ds0 := [1, 0]) (Xt (hz _ (List.getElem_mem (by omega))).1 (hz _ (List.getElem_mem (by omega))).2) rfl rfl (.inl rfl) (by simp [Dr.ok, Qa9]) rfl (Q1 (ds0 := [0]) (QcX (a := s) (b := (YP (zs[i]'(by omega)).v.a (zs[i]'(by omega)).v.b (zs[i]'(by omega)).v.c (zs[i]'(by omega)).v.p (zs[i]'(by omega)).v.q)) (hI.2.1.sm (by omega)) (hI.2.2.sm (by omega)) ((Qbv hvp).1.sm (by omega)) ((Qbv hvp).2.sm (by omega)) (by have := hI.2.1.1; have := (Qbv (a := (zs[i]'(by omega)).v.a) (b := (zs[i]'(by omega)).v.b) (c := (zs[i]'(by omega)).v.c) (q := (zs[i]'(by omega)).v.q) hvp).1.1; omega) (by have := hI.2.2.1; have := (Qbv (a := (zs[i]'(by omega)).v.a) (b := (zs[i]'(by omega)).v.b) (c := (zs[i]'(by omega)).v.c) (q := (zs[i]'(by omega)).v.q) hvp).2.1; omega)) rfl rfl (.inl rfl) (by simp [Dr.ok, Qa9]) rfl (YR (ds0 := []) rfl rfl rfl rfl rfl rfl rfl rfl (by simp [Dr.ok, Qa9]) rfl (hK _ ?_)))))))))
   refine Ql (QR (kp6 rfl rfl rfl rfl rfl rfl) (ZF fun K hK => Qa rfl (Q9 rfl rfl (by first | exact Qp (by omega) (by omega) | rfl) (Qa rfl (hK _ ?_)))))
   refine Qo (i + 1, QmF s (YP (zs[i]'(by omega)).v.a (zs[i]'(by omega)).v.b (zs[i]'(by omega)).v.c (zs[i]'(by omega)).v.p (zs[i]'(by omega)).v.q)) ?_ ?_ ?_
   ·exact Qeo (l := [0, 1, 4, 5, 6, 7]) (B := [_, _, _, _]) (kp6 rfl rfl rfl rfl rfl rfl) rfl (by intro p hp; simp only [List.mem_cons, List.not_mem_nil, or_false] at hp; rcases hp with rfl | rfl | rfl <;> exact ⟨by repeat (first | exact Qr | refine Qg (by first | decide | omega) ?_), rfl⟩) rfl (by intro p hp h; simp only [List.mem_cons, List.not_mem_nil, or_false] at hp; rcases hp with rfl | rfl | rfl | rfl <;> first | (simp only at h; omega) | (repeat (first | exact QN | refine QL ?_))) hB hC (by intro p hp k hk; simp only [List.mem_cons, List.not_mem_nil, or_false] at hp; rcases hp with rfl | rfl | rfl | rfl | rfl | rfl <;> first | (simp [D.ids, D.sid, QW, QJ, ZG] at hk; done) | (simp [D.ids, D.sid, QW, QJ, ZG] at hk; subst hk; repeat (first | exact QN | exact Zh hg | exact Zh hc | refine QL ?_)))
   ·exact ⟨by show i + 1 <= _; omega, Qow hI.2 (hz _ (List.getElem_mem (by omega))).1 (by omega)⟩
   ·show zs.length - (i + 1) < zs.length - i; omega
  ·try rw [h2]
   try simp only [qa, qb, qc, qd, qe, List.length_map] at h2
   have hvp := (hz _ (List.getElem_mem (show i < zs.length by omega))).1
   refine YB (Ql (QR (kp6 rfl rfl rfl rfl rfl rfl) (ZF fun K hK => Qa rfl (Q9 rfl rfl (by first | exact Qp (by omega) (by omega) | rfl) (Qa rfl (hK _ ?_))))))
   refine Qo (i + 1, s) ?_ ?_ ?_
   ·exact Qeo (l := [0, 1, 4, 5, 6, 7]) (B := [_, _, _]) (kp6 rfl rfl rfl rfl rfl rfl) rfl (by intro p hp; simp only [List.mem_cons, List.not_mem_nil, or_false] at hp; rcases hp with rfl | rfl | rfl <;> exact ⟨by repeat (first | exact Qr | refine Qg (by first | decide | omega) ?_), rfl⟩) rfl (by intro p hp h; simp only [List.mem_cons, List.not_mem_nil, or_false] at hp; rcases hp with rfl | rfl | rfl <;> first | (simp only at h; omega) | (repeat (first | exact QN | refine QL ?_))) hB hC (by intro p hp k hk; simp only [List.mem_cons, List.not_mem_nil, or_false] at hp; rcases hp with rfl | rfl | rfl | rfl | rfl | rfl <;> first | (simp [D.ids, D.sid, QW, QJ, ZG] at hk; done) | (simp [D.ids, D.sid, QW, QJ, ZG] at hk; subst hk; repeat (first | exact QN | exact Zh hg | exact Zh hc | refine QL ?_)))
   ·exact ⟨by show i + 1 <= _; omega, Qmb hI.2⟩
   ·show zs.length - (i + 1) < zs.length - i; omega
 ·try rw [h1]
  try simp only [qa, qb, qc, qd, qe, List.length_map] at h1
  refine QbT (YG (QI (QQ (QR (kp3 rfl rfl rfl) ?_))))
  refine Xo ?_ -- 3
  refine QV fun K hK => Qa rfl (Yp (Qbn (I := nxI I) rfl (Qg (by omega) (Qg (by omega) Qr)) hL (by omega)) ?_)
  refine hK _ _ (QE (kp3 rfl rfl rfl) ?_)
  refine Yq (QV fun K hK => ZJ rfl rfl (Qa rfl ?_))
  refine hK _ _ (QE (kp4 rfl rfl rfl rfl) ?_)
  refine Yy rfl (fun h3 => ?_) (fun h3 => ?_)
  ·try rw [h3]
   try simp only [qa, qb, qc, qd, qe, List.length_map] at h3
   refine QV fun K hK => QA (Qcl) rfl rfl (.inl rfl) (QS rfl (Qg (by omega) rfl) rfl rfl rfl rfl rfl rfl ?_)
   refine hK _ _ (QE (kp1 rfl) ?_)
   refine QeY (Qu (Qjm ?_))
   refine ⟨QgE QjZ, (kg, gB L (nxI (nxI I)) eg) :: H, ⟨QjZ, _, ⟨Qmq.1.up (by omega), Qmq.2.up (by omega)⟩, rfl, rfl⟩, (Xd hB hC hkg rfl).1, (Xd hB hC hkg rfl).2, ?_⟩
   refine QbB (cs := [ZD QjZ.1, ZD QjZ.2]) rfl (ZY (by repeat (first | exact Qr | refine Qg (by first | decide | omega) ?_)) rfl) rfl rfl rfl ?_
   exact X3 (B := [_, _, _, _, _]) hB (by repeat (first | exact Qr | refine Qg (by first | decide | omega) ?_)) (by intro p hp h; simp only [List.mem_cons, List.not_mem_nil, or_false] at hp; rcases hp with rfl | rfl | rfl | rfl | rfl <;> first | rfl | (simp only at h; omega))
  ·try rw [h3]
   try simp only [qa, qb, qc, qd, qe, List.length_map] at h3
   refine QV fun K hK => ZJ rfl rfl (Qa rfl ?_)
   refine hK _ _ (QE (kp3 rfl rfl rfl) ?_)
   refine Yy rfl (fun h4 => ?_) (fun h4 => ?_)
   ·try rw [h4]
    try simp only [qa, qb, qc, qd, qe, List.length_map] at h4
    refine QV fun K hK => QF (cs := [_, _]) rfl (ZY (Qg (by omega) rfl) rfl) rfl rfl (QA (Qcm (a := s) (hI.2.1.sm (by omega)) (hI.2.2.sm (by omega))) rfl rfl (.inl rfl) (QS rfl (Qg (by omega) rfl) rfl rfl rfl rfl rfl rfl ?_))
    refine hK _ _ (QE (kp1 rfl) ?_)
    refine QeY (Qu (Qjm ?_))
    refine ⟨QgE (Qgj s), (kg, gB L (nxI (nxI I)) eg) :: H, ⟨(Qgj s), _, ⟨(QkR hI.2 (by omega)).1.up (by omega), (QkR hI.2 (by omega)).2.up (by omega)⟩, rfl, rfl⟩, (Xd hB hC hkg rfl).1, (Xd hB hC hkg rfl).2, ?_⟩
    refine QbB (cs := [ZD (Qgj s).1, ZD (Qgj s).2]) rfl (ZY (by repeat (first | exact Qr | refine Qg (by first | decide | omega) ?_)) rfl) rfl rfl rfl ?_
    exact X3 (B := [_, _, _, _, _]) hB (by repeat (first | exact Qr | refine Qg (by first | decide | omega) ?_)) (by intro p hp h; simp only [List.mem_cons, List.not_mem_nil, or_false] at hp; rcases hp with rfl | rfl | rfl | rfl | rfl <;> first | rfl | (simp only at h; omega))
   ·try rw [h4]
    try simp only [qa, qb, qc, qd, qe, List.length_map] at h4
    refine YB (Ql (QR (kp2 rfl rfl) (QV fun K hK => QF (cs := [_, _]) rfl (ZY (Qg (by omega) rfl) rfl) rfl rfl (QS rfl (Qg (by omega) rfl) rfl rfl rfl rfl rfl rfl ?_))))
    refine hK _ _ (QE (kp1 rfl) ?_)
    refine QeY ?_
    refine ⟨QgE s, (kg, gB L (nxI (nxI I)) eg) :: H, ⟨s, _, ⟨hI.2.1.up (by omega), hI.2.2.up (by omega)⟩, rfl, rfl⟩, (Xd hB hC hkg rfl).1, (Xd hB hC hkg rfl).2, ?_⟩
    refine QbB (cs := [ZD s.1, ZD s.2]) rfl (ZY (by repeat (first | exact Qr | refine Qg (by first | decide | omega) ?_)) rfl) rfl rfl rfl ?_
    exact X3 (B := [_, _, _, _, _]) hB (by repeat (first | exact Qr | refine Qg (by first | decide | omega) ?_)) (by intro p hp h; simp only [List.mem_cons, List.not_mem_nil, or_false] at hp; rcases hp with rfl | rfl | rfl | rfl | rfl <;> first | rfl | (simp only at h; omega))
end Go.Proofs
namespace Go.Proofs
open Go Go.Abs M3 M25
set_option linter.unusedVariables false
set_option linter.unusedSimpArgs false
/-- The call of 'set', over boxes that are lent. -/
theorem Qo8 {H : List (Nat × Box)} {kg kc : Nat} {L : List Int} {I : Int} {eg ec : Nat} {pr : Bool} {zs : List CR} (hg : lk H kg = some (gB L I eg)) (hc : lk H kc = some ⟨zs.map dCR, 8, ec, pr⟩) (hne : kg ≠ kc) (hC : Closed H) (hL : ∀ x ∈ L, I64 x) (hz : ∀ z ∈ zs, Qfc z.v) (hn : zs.length <= 16) :
  ∃ s I2, SetOk s /\ ∀ (st : St) (args : List Opd), Zm st args = some [.ref kg 0 0, .osl kc zs.length] -> (∀ j x, lk H j = some x -> lk st.H j = some x) -> QaX Try.prog 45 args st H [] [(kg, gB L I2 eg)] (QgE s) := by
 obtain ⟨d, H2, ⟨s, I2, hs, rfl, rfl⟩, hok⟩ := Qci (H := upH H) (kg := upN kg) (kc := upN kc) (L := L) (I := I) (eg := eg) (ec := ec) (pr := pr) (zs := zs.map CR.ren) (by unfold upN; omega) (by rw [X4, hg]; rfl) (by rw [X4, hc, Option.map_some, Box.ren, Qj6]) (fun e => hne (QiF e)) QiE (Qdm hC) hL
  (fun z hz' => by obtain ⟨z0, h0, rfl⟩ := List.mem_map.1 hz'; exact hz z0 h0) (by simpa using hn)
 refine ⟨s, I2, hs, fun st args ha hF => QiQ (b' := gB L I2 eg) (ds' := [.ref (upN kg) 0 0, .osl (upN kc) zs.length]) ha hF hC (fun x hx j hj => ?_) (Zh hg) rfl rfl rfl rfl ?_⟩
 ·simp only [List.mem_cons, List.not_mem_nil, or_false] at hx
  rcases hx with rfl | rfl
  ·simp [D.ids, D.sid] at hj; subst hj; exact Zh hg
  ·simp [D.ids, D.sid] at hj; subst hj; exact Zh hc
 ·rw [List.length_map] at hok; exact hok
theorem Qb1 {H : List (Nat × Box)} {kg ku : Nat} {L : List Int} {I : Int} {eg eu ec : Nat} {us : List UR} (hkg : 1000000 <= kg) (hg : lk H kg = some (gB L I eg)) (hU : Fam H kg ku eu ec us) (hB : Big H) (hC : Closed H) (hL : ∀ x ∈ L, I64 x) (h2n : 2 <= us.length) (hn : us.length <= 48) : ∃ d H2, (∃ x I2, WantIn us.length x /\ d = .agg (Qe1 x) /\ H2 = (kg, gB L I2 eg) :: H) /\ OkH Try.prog 26 [.ref kg 0 0, .osl ku us.length] H d H2 := by
 obtain ⟨pu, hu⟩ := hU.u
 have hku := hB _ _ hu
 have hne := hU.ne
 have hx0 := QeC (v := Qll L (IntKind.i64.wrap (nxI I - 1))) (n := (us.length : Int) - 1)
 have hx1 := QeB (v := Qll L (IntKind.i64.wrap (nxI I - 1))) (n := (us.length : Int) - 1) (by omega)
 change 0 <= nx L I ((us.length : Int) - 1) at hx0
 change nx L I ((us.length : Int) - 1) < _ at hx1
 obtain ⟨hyk, pr, hy⟩ := hU.c (us[(1 + nx L I ((us.length : Int) - 1)).toNat]'(by omega)) (List.getElem_mem _)
 obtain ⟨hv1, hv2⟩ := hU.v (us[(1 + nx L I ((us.length : Int) - 1)).toNat]'(by omega)) (List.getElem_mem _)
 obtain ⟨s, I2, hs, hcall⟩ := Qo8 (H := (kg, gB L (nxI I) eg) :: H) Qr (Qg (Ne.symm hyk) hy) (Ne.symm hyk) (hC.pr rfl) hL hv2 hv1
 refine OkH.ofX (R := fun d H2 => ∃ x I2, WantIn us.length x /\ d = .agg (Qe1 x) /\ H2 = (kg, gB L I2 eg) :: H) Yb Try.func26 QpD (Nat.le_of_ble_eq_true rfl) ?_
 show TX _ _ tf26.body _ _
 refine QV fun K hK => ?_
 refine ZE (by repeat (first | exact hB.none (by decide) | refine Zi (by first | decide | omega) ?_)) ?_
 refine hK _ _ (QE (kp3 rfl rfl rfl) ?_)
 refine QV fun K hK => Qa rfl (Qa rfl ?_)
 first | refine Q4 rfl Q6 ?_ | refine Q4 rfl rfl ?_
 refine Xz rfl rfl (by first | exact Qp (by omega) (by omega) | rfl) (Yp (Qbn (I := I) rfl (Qg (by omega) hg) hL (by omega)) (Q9 rfl rfl (by first | exact Qp (by omega) (by omega) | rfl) (Qa rfl ?_)))
 refine hK _ _ (QE (kp4 rfl rfl rfl rfl) ?_)
 refine QV fun K hK => Qa rfl (Qa rfl (Qa rfl (Qa rfl (Xy rfl rfl (Qg (by omega) (Qg (by omega) hu)) (by simp) (by omega) (by omega) rfl (Qi rfl (Zh (Qg (by omega) (Qg (by omega) hu))) (QC rfl (ZY (Qg (by omega) (Qg (by omega) hu)) (ZA (by omega) (by omega))) rfl (Yp (hcall _ _ rfl (X3 (B := [_, _]) hB Qr (by intro p hp h; simp only [List.mem_cons, List.not_mem_nil, or_false] at hp; rcases hp with rfl | rfl <;> first | rfl | (simp only at h; omega)))) (QP rfl rfl (QS rfl (Qg (by omega) (Qg (by omega) rfl)) rfl rfl rfl rfl rfl rfl ?_)))))))))
 refine hK _ _ (QE (kp1 rfl) ?_)
 refine QeY ?_
 refine ⟨.agg (Qe1 ⟨1 + nx L I ((us.length : Int) - 1), s⟩), (kg, gB L I2 eg) :: H, ⟨⟨1 + nx L I ((us.length : Int) - 1), s⟩, _, ⟨by show 1 <= 1 + _; omega, by show 1 + _ < (us.length : Int); omega, hs⟩, rfl, rfl⟩, (Xd hB hC hkg rfl).1, (Xd hB hC hkg rfl).2, ?_⟩
 refine QbB (cs := Qe1 ⟨1 + nx L I ((us.length : Int) - 1), s⟩) rfl (ZY (by repeat (first | exact Qr | refine Qg (by first | decide | omega) ?_)) rfl) rfl rfl rfl ?_
 exact X3 (B := [_, _, _, _]) hB (by repeat (first | exact Qr | refine Qg (by first | decide | omega) ?_)) (by intro p hp h; simp only [List.mem_cons, List.not_mem_nil, or_false] at hp; rcases hp with rfl | rfl | rfl | rfl <;> first | rfl | (simp only at h; omega))
/-- The call of 'want'. -/
theorem Qjh {H : List (Nat × Box)} {kg ku : Nat} {L : List Int} {I : Int} {eg eu ec : Nat} {us : List UR} (hg : lk H kg = some (gB L I eg)) (hU : Fam H kg ku eu ec us) (hC : Closed H) (hL : ∀ x ∈ L, I64 x) (h2 : 2 <= us.length) (hn : us.length <= 48) :
  ∃ x I2, WantIn us.length x /\ ∀ (st : St) (args : List Opd), Zm st args = some [.ref kg 0 0, .osl ku us.length] -> (∀ j x, lk H j = some x -> lk st.H j = some x) -> QaX Try.prog 26 args st H [] [(kg, gB L I2 eg)] (.agg (Qe1 x)) := by
 obtain ⟨d, H2, ⟨x, I2, hx, rfl, rfl⟩, hok⟩ := Qb1 (H := upH H) (kg := upN kg) (ku := upN ku) (L := L) (I := I) (eg := eg) (eu := eu) (ec := ec) (us := us.map UR.ren) (by unfold upN; omega) (by rw [X4, hg]; rfl) hU.up QiE (Qdm hC) hL (by simpa using h2) (by simpa using hn)
 obtain ⟨pu, hu⟩ := hU.u
 rw [List.length_map] at hx hok
 refine ⟨x, I2, hx, fun st args ha hF => QiQ (b' := gB L I2 eg) (ds' := [.ref (upN kg) 0 0, .osl (upN ku) us.length]) ha hF hC (fun x hx j hj => ?_) (Zh hg) rfl rfl rfl rfl hok⟩
 simp only [List.mem_cons, List.not_mem_nil, or_false] at hx
 rcases hx with rfl | rfl
 ·simp [D.ids, D.sid] at hj; subst hj; exact Zh hg
 ·simp [D.ids, D.sid] at hj; subst hj; exact Zh hu
end Go.Proofs
namespace Go.Proofs
open Go Go.Abs M3 M25
set_option linter.unusedVariables false
set_option linter.unusedSimpArgs false
theorem QbI {H : List (Nat × Box)} {kg ku : Nat} {L : List Int} {I most : Int} {eg eu ec : Nat} {us : List UR} (hkg : 1000000 <= kg) (hg : lk H kg = some (gB L I eg)) (hU : Fam H kg ku eu ec us) (hB : Big H) (hC : Closed H) (hL : ∀ x ∈ L, I64 x) (h2n : 2 <= us.length) (hn : us.length <= 48) (hm0 : 0 <= most) (hm1 : most <= 10) : ∃ d H2, (∃ ns I2, QdY us.length most ns /\ d = QJ ns /\ H2 = (kg, gB L I2 eg) :: H) /\ OkH Try.prog 23 [.ref kg 0 0, .osl ku us.length, .int .i64 most] H d H2 := by
 obtain ⟨pu, hu⟩ := hU.u
 have hku := hB _ _ hu
 have hne := hU.ne
 have hk0 : 0 <= nx L I (most + 1) := QeC
 have hk1 : nx L I (most + 1) < most + 1 := QeB (by omega)
 refine OkH.ofX (R := fun d H2 => ∃ ns I2, QdY us.length most ns /\ d = QJ ns /\ H2 = (kg, gB L I2 eg) :: H) Yb Try.func23 QpA (Nat.le_of_ble_eq_true rfl) ?_
 show TX _ _ tf23.body _ _
 refine QV fun K hK => Qa rfl ?_
 refine hK _ _ (QE (kp3 rfl rfl rfl) ?_)
 refine QV fun K hK => Qa rfl ?_
 refine hK _ _ (QE (kp4 rfl rfl rfl rfl) ?_)
 refine Xo ?_ -- 0
 refine QV fun K hK => Qa rfl (Qa rfl (Q9 rfl rfl (by first | exact Qp (by omega) (by omega) | rfl) (Yp (Qbn (I := I) rfl hg hL (by omega)) (Qa rfl ?_))))
 refine hK _ _ (QE (kp4 rfl rfl rfl rfl) ?_)
 refine Yq ?_
 refine Qdo (ι := Nat × List (List WantT) × Int) (fun ⟨k, ns, J⟩ => ⟨[(0, .ref kg 0 0), (1, .osl ku us.length), (7, .osl 7 ns.length), (8, .int .i64 k)], [(7, ⟨(ns).map (fun r => [QW r]), 1, 61, true⟩), (kg, gB L J eg)] ++ H⟩) (fun ⟨k, ns, J⟩ => (ns.length : Int) + k <= most /\ ∀ r ∈ ns, QgL us.length r) (fun ⟨k, ns, J⟩ => k) ((nx L I (most + 1)).toNat, [], nxI I) ?_ ?_ ?_
 ·exact le_trans (Xk 7 7 1 61 rfl (by repeat (first | exact hB.none (by decide) | refine Zi (by first | decide | omega) ?_))) (Qeo (l := [0, 1, 7, 8]) (B := [_, _]) (kp4 rfl rfl rfl rfl) (by simp only [Int.toNat_of_nonneg hk0] <;> rfl) (by intro p hp; simp only [List.mem_cons, List.not_mem_nil, or_false] at hp; rcases hp with rfl | rfl <;> exact ⟨by repeat (first | exact Qr | refine Qg (by first | decide | omega) ?_), rfl⟩) rfl (by intro p hp h; simp only [List.mem_cons, List.not_mem_nil, or_false] at hp; rcases hp with rfl | rfl <;> first | (simp only at h; omega) | (repeat (first | exact QN | refine QL ?_))) hB hC (by intro p hp k hk; simp only [List.mem_cons, List.not_mem_nil, or_false] at hp; rcases hp with rfl | rfl | rfl | rfl <;> first | (simp [D.ids, D.sid, QW, QJ, ZG] at hk; done) | (simp [D.ids, D.sid, QW, QJ, ZG] at hk; subst hk; repeat (first | exact QN | exact Zh hg | exact Zh hu | refine QL ?_))))
 ·exact ⟨by simp only [List.length_nil]; omega, by simp⟩
 intro ⟨k, ns, J⟩ hI
 try dsimp only at hI
 try dsimp only
 refine Xo ?_ -- 1
 refine QV fun K hK => Qa rfl (Qfa rfl rfl ?_)
 refine hK _ _ (QE (kp5 rfl rfl rfl rfl rfl) ?_)
 refine Yy rfl (fun h1 => ?_) (fun h1 => ?_)
 ·try rw [h1]
  try simp only [qa, qb, qc, qd, qe, List.length_map] at h1
  refine YB (QR (kp4 rfl rfl rfl rfl) ?_)
  refine Xo ?_ -- 2
  refine Yq (QV fun K hK => Qa rfl (Qa rfl ?_))
  obtain ⟨x1, J1, hx1, hc1⟩ := Qjh (I := J) (H := (kg, gB L (J) eg) :: H) Qr hU.cons (hC.pr rfl) hL h2n hn
  refine Yp (hc1 _ _ rfl (X3 (B := [_, _]) hB (by repeat (first | exact Qr | refine Qg (by first | decide | omega) ?_)) (by intro p hp h; simp only [List.mem_cons, List.not_mem_nil, or_false] at hp; rcases hp with rfl | rfl <;> first | rfl | (simp only at h; omega)))) ?_
  refine QD rfl (by repeat (first | exact hB.none (by decide) | refine Zi (by first | decide | omega) ?_)) ?_
  refine Qa rfl ?_
  refine hK _ _ (QE (kp5 rfl rfl rfl rfl rfl) ?_)
  refine QjY (ι := List WantT × Int) (fun ⟨r, J4⟩ => ⟨[(0, .ref kg 0 0), (1, .osl ku us.length), (7, .osl 7 ns.length), (8, .int .i64 k), (9, QW r)], [(7, ⟨(ns).map (fun r => [QW r]), 1, 61, true⟩), (kg, gB L J4 eg)] ++ H⟩) (fun ⟨r, J4⟩ => QgL us.length r) ?_ ?_
  ·skip
   refine QV fun K hK => Qa rfl (Yp (Qbn (I := J1) rfl (Qg (by omega) Qr) hL (by omega)) (ZJ rfl rfl ?_))
   refine hK _ _ (QE (kp6 rfl rfl rfl rfl rfl rfl) ?_)
   refine Yy rfl (fun h2 => ?_) (fun h2 => ?_)
   ·try rw [h2]
    try simp only [qa, qb, qc, qd, qe, List.length_map] at h2
    refine ZF fun K hK => Qa rfl (Qa rfl (Qa rfl ?_))
    obtain ⟨x2, J2, hx2, hc2⟩ := Qjh (I := nxI J1) (H := (kg, gB L (nxI J1) eg) :: H) Qr hU.cons (hC.pr rfl) hL h2n hn
    refine Yp (hc2 _ _ rfl (X3 (B := [_, _, _, _, _]) hB (by repeat (first | exact Qr | refine Qg (by first | decide | omega) ?_)) (by intro p hp h; simp only [List.mem_cons, List.not_mem_nil, or_false] at hp; rcases hp with rfl | rfl | rfl | rfl | rfl <;> first | rfl | (simp only at h; omega)))) ?_
    refine QD rfl (by repeat (first | exact hB.none (by decide) | refine Zi (by first | decide | omega) ?_)) ?_
    refine QmS rfl rfl (by simp [D.ids, D.sid]) ⟨_, rfl, rfl, rfl, rfl, rfl⟩ (by repeat (first | exact hB.none (by decide) | refine Zi (by first | decide | omega) ?_)) (Qg (by decide) (Qg (by omega) (Qg (by omega) rfl))) rfl rfl rfl (by simp) (by simp) ?_
    refine Qa rfl (hK _ ?_)
    refine ZH ([x1, x2], J2) ?_ ?_
    ·exact le_trans (Qid (l := [0, 1, 7, 8]) (B := [_, _, _, _, _, _, _, _, _]) (A := [(7, ⟨(ns).map (fun r => [QW r]), 1, 61, true⟩), (kg, gB L J2 eg)]) 30 9 (kp4 rfl rfl rfl rfl) rfl rfl rfl (by first | (simp; done) | (simp; omega)) (by intro p hp hk; simp only [List.mem_cons, List.not_mem_nil, or_false] at hp; rcases hp with rfl | rfl | rfl | rfl <;> first | (simp [D.ids, D.sid, QW, QJ, ZG] at hk; done) | (simp [D.ids, D.sid, QW, QJ, ZG] at hk; omega)) (by intro p hp; simp only [List.mem_cons, List.not_mem_nil, or_false] at hp; rcases hp with rfl | rfl <;> exact ⟨by first | decide | (simp only; omega), by repeat (first | exact Qr | refine Qg (by first | decide | omega) ?_), rfl⟩) (by intro p hp h; simp only [List.mem_cons, List.not_mem_nil, or_false] at hp; rcases hp with rfl | rfl | rfl | rfl | rfl | rfl | rfl | rfl | rfl <;> first | (simp only at h; omega) | (repeat (first | exact QN | refine QL ?_))) hB hC (by intro p hp k hk; simp only [List.mem_cons, List.not_mem_nil, or_false] at hp; rcases hp with rfl | rfl | rfl | rfl <;> first | (simp [D.ids, D.sid, QW, QJ, ZG] at hk; done) | (simp [D.ids, D.sid, QW, QJ, ZG] at hk; subst hk; repeat (first | exact QN | exact Zh hg | exact Zh hu | refine QL ?_)))) (Qeo (l := [0, 1, 7, 8, 9]) (B := [_, _]) (kp5 rfl rfl rfl rfl rfl) rfl (by intro p hp; simp only [List.mem_cons, List.not_mem_nil, or_false] at hp; rcases hp with rfl | rfl <;> exact ⟨by repeat (first | exact Qr | refine Qg (by first | decide | omega) ?_), rfl⟩) rfl (by intro p hp h; simp only [List.mem_cons, List.not_mem_nil, or_false] at hp; rcases hp with rfl | rfl <;> first | (simp only at h; omega) | (repeat (first | exact QN | refine QL ?_))) hB hC (by intro p hp k hk; simp only [List.mem_cons, List.not_mem_nil, or_false] at hp; rcases hp with rfl | rfl | rfl | rfl | rfl <;> first | (simp [D.ids, D.sid, QW, QJ, ZG] at hk; done) | (simp [D.ids, D.sid, QW, QJ, ZG] at hk; subst hk; repeat (first | exact QN | exact Zh hg | exact Zh hu | refine QL ?_))))
    ·exact Qnr hx1 hx2
   ·try rw [h2]
    try simp only [qa, qb, qc, qd, qe, List.length_map] at h2
    refine YB ?_
    refine ZH ([x1], nxI J1) ?_ ?_
    ·exact le_trans (Qid (l := [0, 1, 7, 8]) (B := [_, _, _, _, _]) (A := [(7, ⟨(ns).map (fun r => [QW r]), 1, 61, true⟩), (kg, gB L (nxI J1) eg)]) 21 9 (kp4 rfl rfl rfl rfl) rfl (Qg (by omega) rfl) rfl (by first | (simp; done) | (simp; omega)) (by intro p hp hk; simp only [List.mem_cons, List.not_mem_nil, or_false] at hp; rcases hp with rfl | rfl | rfl | rfl <;> first | (simp [D.ids, D.sid, QW, QJ, ZG] at hk; done) | (simp [D.ids, D.sid, QW, QJ, ZG] at hk; omega)) (by intro p hp; simp only [List.mem_cons, List.not_mem_nil, or_false] at hp; rcases hp with rfl | rfl <;> exact ⟨by first | decide | (simp only; omega), by repeat (first | exact Qr | refine Qg (by first | decide | omega) ?_), rfl⟩) (by intro p hp h; simp only [List.mem_cons, List.not_mem_nil, or_false] at hp; rcases hp with rfl | rfl | rfl | rfl | rfl <;> first | (simp only at h; omega) | (repeat (first | exact QN | refine QL ?_))) hB hC (by intro p hp k hk; simp only [List.mem_cons, List.not_mem_nil, or_false] at hp; rcases hp with rfl | rfl | rfl | rfl <;> first | (simp [D.ids, D.sid, QW, QJ, ZG] at hk; done) | (simp [D.ids, D.sid, QW, QJ, ZG] at hk; subst hk; repeat (first | exact QN | exact Zh hg | exact Zh hu | refine QL ?_)))) (Qeo (l := [0, 1, 7, 8, 9]) (B := [_, _]) (kp5 rfl rfl rfl rfl rfl) rfl (by intro p hp; simp only [List.mem_cons, List.not_mem_nil, or_false] at hp; rcases hp with rfl | rfl <;> exact ⟨by repeat (first | exact Qr | refine Qg (by first | decide | omega) ?_), rfl⟩) rfl (by intro p hp h; simp only [List.mem_cons, List.not_mem_nil, or_false] at hp; rcases hp with rfl | rfl <;> first | (simp only at h; omega) | (repeat (first | exact QN | refine QL ?_))) hB hC (by intro p hp k hk; simp only [List.mem_cons, List.not_mem_nil, or_false] at hp; rcases hp with rfl | rfl | rfl | rfl | rfl <;> first | (simp [D.ids, D.sid, QW, QJ, ZG] at hk; done) | (simp [D.ids, D.sid, QW, QJ, ZG] at hk; subst hk; repeat (first | exact QN | exact Zh hg | exact Zh hu | refine QL ?_))))
    ·exact Qnq hx1
  intro ⟨r, J4⟩ hJ
  try dsimp only at hJ
  try dsimp only
  refine ZF fun K hK => Qa rfl (Qa rfl ?_)
  refine QD rfl (by repeat (first | exact hB.none (by decide) | refine Zi (by first | decide | omega) ?_)) ?_
  refine QbS rfl rfl (fun _ h => QaV rfl rfl rfl h) rfl (by simp) rfl rfl rfl (by simp; omega) (by simp; omega) (Qa rfl (hK _ ?_))
  refine Ql (QR (kp4 rfl rfl rfl rfl) (ZF fun K hK => Qa rfl (Xz rfl rfl (by first | exact Qp (by omega) (by omega) | rfl) (Qa rfl (hK _ ?_)))))
  refine Qo (k - 1, ns ++ [r], J4) ?_ ?_ ?_
  ·exact le_trans (Qoe (B := [_, _, _, _]) 7 hB hC) (Qeo (l := [0, 1, 7, 8]) (A := [(7, ⟨ns.map (fun r => [QW r]) ++ [[QW r]], 1, 61, true⟩), (kg, gB L J4 eg)]) (B := [_, _, _, _]) (kp4 rfl rfl rfl rfl) (by simp [D.scrub, show ¬ kg = 7 by omega, show ¬ ku = 7 by omega] <;> omega) (by intro p hp; simp only [List.mem_cons, List.not_mem_nil, or_false] at hp; rcases hp with rfl | rfl <;> exact ⟨by repeat (first | exact Qr | refine Qg (by first | decide | omega) ?_), rfl⟩) (by simp) (by intro p hp h; simp only [List.mem_cons, List.not_mem_nil, or_false] at hp; rcases hp with rfl | rfl | rfl | rfl <;> first | (simp only at h; omega) | (repeat (first | exact QN | refine QL ?_))) hB hC (by intro p hp k hk; simp only [List.mem_cons, List.not_mem_nil, or_false] at hp; rcases hp with rfl | rfl | rfl | rfl <;> first | (simp [D.ids, D.sid, QW, QJ, ZG] at hk; done) | (simp [D.ids, D.sid, QW, QJ, ZG] at hk; subst hk; repeat (first | exact QN | exact Zh hg | exact Zh hu | refine QL ?_))))
  ·exact ⟨by simp only [List.length_append, List.length_singleton]; omega, Qk6 hI.2 hJ⟩
  ·show k - 1 < k; omega
 ·try rw [h1]
  try simp only [qa, qb, qc, qd, qe, List.length_map] at h1
  refine QbT (YG (QI (QQ (QR (kp1 rfl) (QV fun K hK => Qa rfl (Qa rfl ?_))))))
  refine hK _ _ (QE (kp1 rfl) ?_)
  refine QeY ?_
  refine ⟨QJ ns, (kg, gB L J eg) :: H, ⟨ns, _, ⟨by omega, hI.2⟩, rfl, rfl⟩, (Xd hB hC hkg rfl).1, (Xd hB hC hkg rfl).2, ?_⟩
  refine XS rfl (by simp [Qlk, D.fz, D.fzS, Qe7, lk, D.can, D.canS, QJ]) ?_
  exact X3 (B := [_, _]) hB (by repeat (first | exact Qr | refine Qg (by first | decide | omega) ?_)) (by intro p hp h; simp only [List.mem_cons, List.not_mem_nil, or_false] at hp; rcases hp with rfl | rfl <;> first | rfl | (simp only at h; omega))
end Go.Proofs
namespace M25
open Go Go.Abs M3
/-! ### The boxes of a world under way -/
def fbx (ec : Nat) (us : List UR) : List (Nat × Box) := us.map fun u => (u.k, ⟨u.cs.map dCR, 8, ec, true⟩)
def ZX (us : List UR) : Prop := ∀ j, ∀ h : j < us.length, us[j].k = 500001 + j
theorem Qhe {us : List UR} {u : UR} (h : ZX us) (hu : u.k = 500001 + us.length) : ZX (us ++ [u]) := fun j hj => by
 rw [List.length_append, List.length_singleton] at hj
 by_cases e : j < us.length
 ·rw [List.getElem_append_left e]; exact h j e
 ·have : j = us.length := by omega
  subst this
  rw [List.getElem_append_right (Nat.le_refl _)]; simpa using hu
theorem Qed (ec : Nat) (us : List UR) : Qln (fbx ec us) := fun p hp => by
 obtain ⟨u, _, rfl⟩ := List.mem_map.1 hp; rfl
theorem Qfq {ec : Nat} : ∀ {us : List UR} {k : Nat} {b : Box}, lk (fbx ec us) k = some b -> ∃ u ∈ us, k = u.k /\ b = ⟨u.cs.map dCR, 8, ec, true⟩
 | [], _, _, h => by cases h
 | u :: us, k, b, h => by
  simp only [fbx, List.map_cons] at h
  rw [Qh] at h
  split at h
  ·rename_i e; cases h; exact ⟨u, by simp, e.symm, rfl⟩
  ·obtain ⟨v, hv, q⟩ := Qfq (us := us) h
   exact ⟨v, by simp [hv], q⟩
theorem QaH {us : List UR} (h : ZX us) {u : UR} (hu : u ∈ us) : 500001 <= u.k /\ u.k < 500001 + us.length := by
 obtain ⟨j, hj, rfl⟩ := List.getElem_of_mem hu
 have := h j hj
 omega
theorem QfX {ec : Nat} {us : List UR} (h : ZX us) : Qpe 500001 (fbx ec us) := fun k b hk => by
 obtain ⟨u, hu, rfl, _⟩ := Qfq hk
 exact (QaH h hu).1
theorem Yv {ec : Nat} {us : List UR} (h : ZX us) {k : Nat} (hk : k < 500001 \/ 500001 + us.length <= k) : lk (fbx ec us) k = none := by
 cases hh : lk (fbx ec us) k with
 | none => rfl
 | some b =>
  obtain ⟨u, hu, rfl, _⟩ := Qfq hh
  have := QaH h hu
  omega
theorem Qkg {ec : Nat} : ∀ {us : List UR} {n : Nat}, (∀ j, ∀ h : j < us.length, us[j].k = n + j) -> ∀ j, ∀ h : j < us.length, lk (fbx ec us) (n + j) = some ⟨us[j].cs.map dCR, 8, ec, true⟩
 | [], _, _, j, hj => by simp at hj
 | u :: us, n, hk, 0, _ => by
  have := hk 0 (by simp)
  simp only [List.getElem_cons_zero, Nat.add_zero] at this
  simp only [fbx, List.map_cons, Nat.add_zero]
  rw [Qh, if_pos this]; rfl
 | u :: us, n, hk, j + 1, hj => by
  have h0 := hk 0 (by simp)
  simp only [List.getElem_cons_zero, Nat.add_zero] at h0
  simp only [fbx, List.map_cons]
  rw [Qh, if_neg (by omega)]
  have := Qkg (ec := ec) (us := us) (n := n + 1) (fun i hi => by
   have := hk (i + 1) (by simpa using hi)
   simp only [List.getElem_cons_succ] at this
   omega) j (by simpa using hj)
  rw [show n + 1 + j = n + (j + 1) by omega] at this
  simp only [List.getElem_cons_succ]
  exact this
theorem Qkf {ec : Nat} {us : List UR} (h : ZX us) {j : Nat} (hj : j < us.length) : lk (fbx ec us) (500001 + j) = some ⟨us[j].cs.map dCR, 8, ec, true⟩ := Qkg h j hj
theorem QiX (ec : Nat) (us : List UR) (u : UR) : fbx ec (us ++ [u]) = fbx ec us ++ [(u.k, ⟨u.cs.map dCR, 8, ec, true⟩)] := by simp [fbx]
theorem QlE {ec : Nat} {us : List UR} (h : ZX us) {kg : Nat} {x y : Box} {u : UR} (hu : u.k = 500001 + us.length) (hkg : u.k ≠ kg) (k : Nat) :
  lk ((u.k, ⟨u.cs.map dCR, 8, ec, true⟩) :: (500000, x) :: (kg, y) :: fbx ec us) k = lk ((500000, x) :: (kg, y) :: fbx ec (us ++ [u])) k := by
 rw [QiX]
 by_cases e : u.k = k
 ·subst e
  rw [Qr, Qh, if_neg (by omega), Qh, if_neg (Ne.symm hkg), Yw (Yv h (.inr (by omega))), Qr]
 ·rw [Qh, if_neg e, Qh, Qh, Qh, Qh]
  split
  ·rfl
  ·split
   ·rfl
   ·rw [ZN]
    cases h2 : lk (fbx ec us) k with
    | some v => rfl
    | none => rw [Qh, if_neg e]; rfl
def zr (v : Vr) (sh : Int) : CR := ⟨v, .int .i64 sh, .fsl [], .fsl []⟩
def QnM (u : UR) : Prop := u.cs.length <= 4 /\ ∀ z ∈ u.cs, ∃ v sh, z = zr v sh /\ Qfc v
theorem Qmy {u : UR} : (dUR u).flatMap D.sid = [u.k] := by simp [dUR, D.sid]
theorem QaQ {us : List UR} {e et : Nat} {k : Nat} (h : k ∈ (Box.ids ⟨us.map dUR, e, et, false⟩)) : ∃ u ∈ us, k = u.k := by
 simp only [Box.ids, Bool.false_eq_true, if_false, List.mem_flatMap, List.mem_map] at h
 obtain ⟨r, ⟨u, hu, rfl⟩, hk⟩ := h
 have : k ∈ (dUR u).flatMap D.sid := List.mem_flatMap.2 hk
 rw [Qmy] at this
 exact ⟨u, hu, by simpa using this⟩
theorem Qnz {us : List UR} (h : ZX us) : ∀ r ∈ us.map dUR, ∀ d ∈ r, 500000 ∉ d.sid := fun r hr d hd hk => by
 obtain ⟨u, hu, rfl⟩ := List.mem_map.1 hr
 have : 500000 ∈ (dUR u).flatMap D.sid := List.mem_flatMap.2 ⟨d, hd, hk⟩
 rw [Qmy] at this
 have h2 := QaH h hu
 simp only [List.mem_singleton] at this
 omega
theorem QfO {B F : List (Nat × Box)} {j : Nat} (h : (lk F j).isSome = true) : (lk (B ++ F) j).isSome = true := by
 rw [ZN]; split
 ·rfl
 ·exact h
theorem Qcq {ec : Nat} {us : List UR} (h : ZX us) {u : UR} (hu : u ∈ us) : (lk (fbx ec us) u.k).isSome = true := by
 obtain ⟨j, hj, rfl⟩ := List.getElem_of_mem hu
 rw [h j hj, Qkf h hj]; rfl
theorem QfY {ec : Nat} {us : List UR} {u : UR} (h : ZX us) (hu : u.k = 500001 + us.length) : lk (fbx ec (us ++ [u])) (500001 + us.length) = some ⟨u.cs.map dCR, 8, ec, true⟩ := by
 rw [QiX, Yw (Yv h (.inr (Nat.le_refl _))), <- hu, Qr]
section
variable {l : List Nat} {fr fr1 fr' : List (Nat × D)} {B : List (Nat × Box)} {kg eg eu ec : Nat} {L : List Int} {J : Int} {us : List UR}
theorem Qpi (hf : Q0 l fr = fr1) (ef : fr1 = fr') (hK : ZX us) (hu : lk B 500000 = some ⟨us.map dUR, 3, eu, false⟩) (hg : lk B kg = some (gB L J eg)) (hB : ∀ p ∈ B, 500001 <= p.1 -> p.1 = kg) (hkg : kg ≠ 500000)
  (hfr : ∀ p ∈ fr', ∀ k ∈ p.2.ids, k = 500000 \/ k = kg \/ ∃ u ∈ us, k = u.k) : St.le ⟨fr, B ++ fbx ec us⟩ ⟨fr', [(500000, ⟨us.map dUR, 3, eu, false⟩), (kg, gB L J eg)] ++ fbx ec us⟩ := by
 have s0 : ∀ k, (k = 500000 \/ k = kg \/ ∃ u ∈ us, k = u.k) -> (lk ([(500000, (⟨us.map dUR, 3, eu, false⟩ : Box)), (kg, gB L J eg)] ++ fbx ec us) k).isSome = true := fun k hk => by
  rcases hk with rfl | rfl | ⟨u, hu, rfl⟩
  ·exact QN
  ·exact QL QN
  ·exact QfO (Qcq hK hu)
 refine Qif (N := 500001) hf ef (fun p hp => ?_) rfl (fun p hp j hj => s0 j ?_) (fun p hp h => ?_) (QfX hK) (Qed ec us) (fun p hp k hk => s0 k (hfr p hp k hk))
 ·simp only [List.mem_cons, List.not_mem_nil, or_false] at hp
  rcases hp with rfl | rfl
  ·exact hu
  ·exact hg
 ·simp only [List.mem_cons, List.not_mem_nil, or_false] at hp
  rcases hp with rfl | rfl
  ·exact .inr (.inr (QaQ hj))
  ·simp [Box.ids, gB] at hj
 ·rw [hB p hp h]; exact QL QN
theorem QnK {cs : List CR} (hf : Q0 l fr = fr1) (ef : fr1 = fr') (hK : ZX us) (hc : lk B (500001 + us.length) = some ⟨cs.map dCR, 8, ec, true⟩) (hu : lk B 500000 = some ⟨us.map dUR, 3, eu, false⟩) (hg : lk B kg = some (gB L J eg)) (hB : ∀ p ∈ B, 500001 <= p.1 -> p.1 = kg \/ p.1 = 500001 + us.length)
  (hfr : ∀ p ∈ fr', ∀ k ∈ p.2.ids, k = 500000 \/ k = kg \/ k = 500001 + us.length \/ ∃ u ∈ us, k = u.k) : St.le ⟨fr, B ++ fbx ec us⟩ ⟨fr', [(500001 + us.length, ⟨cs.map dCR, 8, ec, true⟩), (500000, ⟨us.map dUR, 3, eu, false⟩), (kg, gB L J eg)] ++ fbx ec us⟩ := by
 have s0 : ∀ k, (k = 500000 \/ k = kg \/ k = 500001 + us.length \/ ∃ u ∈ us, k = u.k) -> (lk ([(500001 + us.length, (⟨cs.map dCR, 8, ec, true⟩ : Box)), (500000, (⟨us.map dUR, 3, eu, false⟩ : Box)), (kg, gB L J eg)] ++ fbx ec us) k).isSome = true := fun k hk => by
  rcases hk with rfl | rfl | rfl | ⟨u, hu, rfl⟩
  ·exact QL QN
  ·exact QL (QL QN)
  ·exact QN
  ·exact QfO (Qcq hK hu)
 refine Qif (N := 500001) hf ef (fun p hp => ?_) rfl (fun p hp j hj => s0 j ?_) (fun p hp h => ?_) (QfX hK) (Qed ec us) (fun p hp k hk => s0 k (hfr p hp k hk))
 ·simp only [List.mem_cons, List.not_mem_nil, or_false] at hp
  rcases hp with rfl | rfl | rfl
  ·exact hc
  ·exact hu
  ·exact hg
 ·simp only [List.mem_cons, List.not_mem_nil, or_false] at hp
  rcases hp with rfl | rfl | rfl
  ·simp [Box.ids] at hj
  ·exact .inr (.inr (.inr (QaQ hj)))
  ·simp [Box.ids, gB] at hj
 ·rcases hB p hp h with e | e
  ·rw [e]; exact QL (QL QN)
  ·rw [e]; exact QN
theorem Qoz {u : UR} (hf : Q0 l fr = fr1) (ef : fr1 = fr') (hK : ZX us) (huk : u.k = 500001 + us.length) (hc : lk B (500001 + us.length) = some ⟨u.cs.map dCR, 8, ec, true⟩) (hu : lk B 500000 = some ⟨(us ++ [u]).map dUR, 3, eu, false⟩) (hg : lk B kg = some (gB L J eg)) (hB : ∀ p ∈ B, 500001 <= p.1 -> p.1 = kg \/ p.1 = 500001 + us.length) (hkg : 1000000 <= kg) (hlen : us.length <= 100)
  (hfr : ∀ p ∈ fr', ∀ k ∈ p.2.ids, k = 500000 \/ k = kg \/ ∃ v ∈ us ++ [u], k = v.k) : St.le ⟨fr, B ++ fbx ec us⟩ ⟨fr', [(500000, ⟨(us ++ [u]).map dUR, 3, eu, false⟩), (kg, gB L J eg)] ++ fbx ec (us ++ [u])⟩ := by
 have hK1 := Qhe hK huk
 have mv := fun k => QlE (ec := ec) hK (kg := kg) (x := ⟨(us ++ [u]).map dUR, 3, eu, false⟩) (y := gB L J eg) huk (by omega) k
 have s0 : ∀ k, (k = 500000 \/ k = kg \/ ∃ v ∈ us ++ [u], k = v.k) -> (lk ([(u.k, (⟨u.cs.map dCR, 8, ec, true⟩ : Box)), (500000, (⟨(us ++ [u]).map dUR, 3, eu, false⟩ : Box)), (kg, gB L J eg)] ++ fbx ec us) k).isSome = true := fun k hk => by
  show (lk ((u.k, _) :: (500000, _) :: (kg, _) :: fbx ec us) k).isSome = true
  rw [mv]
  rcases hk with rfl | rfl | ⟨v, hv, rfl⟩
  ·exact QN
  ·exact QL QN
  ·exact QL (QL (Qcq hK1 hv))
 refine le_trans (Qif (N := 500001) (A' := [(u.k, ⟨u.cs.map dCR, 8, ec, true⟩), (500000, ⟨(us ++ [u]).map dUR, 3, eu, false⟩), (kg, gB L J eg)]) hf ef (fun p hp => ?_) rfl (fun p hp j hj => s0 j ?_) (fun p hp h => ?_) (QfX hK) (Qed ec us) (fun p hp k hk => s0 k (hfr p hp k hk))) (Qga ⟨fun _ => rfl, mv⟩)
 ·simp only [List.mem_cons, List.not_mem_nil, or_false] at hp
  rcases hp with rfl | rfl | rfl
  ·rw [huk]; exact hc
  ·exact hu
  ·exact hg
 ·simp only [List.mem_cons, List.not_mem_nil, or_false] at hp
  rcases hp with rfl | rfl | rfl
  ·simp [Box.ids] at hj
  ·exact .inr (.inr (QaQ hj))
  ·simp [Box.ids, gB] at hj
 ·rcases hB p hp h with e | e
  ·rw [e]; exact QL (QL QN)
  ·rw [e, <- huk]; exact QN
end
def u0 (v : Vr) : UR := ⟨[], [], 500001, [zr v (-1)]⟩
def v0 : Vr := ⟨0, 0, 0, [], []⟩
theorem Qmi {kg a b : Nat} (h : 1000000 <= kg) (ha : a < 1000000) (hb : b < 1000000) : QaZ a b kg = kg := by
 unfold QaZ; rw [if_neg (by omega), if_neg (by omega)]
theorem QkD {l : List Nat} {fr fr1 fr' : List (Nat × D)} {kg eg eu ec : Nat} {L : List Int} {I : Int} (hkg : 1000000 <= kg) (hf : Q0 l fr = fr1) (ef : fr1.map (fun p => (p.1, (p.2.ren (QaZ 18 500000)).ren (QaZ 16 500001))) = fr') :
  St.le ⟨fr, [(18, ⟨[[.str [], .str [], .osl 16 1]], 3, eu, false⟩), (16, ⟨[dCR (zr v0 (-1))], 8, ec, true⟩), (kg, gB L I eg)]⟩ ⟨fr', [(500000, ⟨[u0 v0].map dUR, 3, eu, false⟩), (kg, gB L I eg)] ++ fbx ec [u0 v0]⟩ := by
 subst hf ef
 have k1 := Qmi (a := 18) (b := 500000) hkg (by decide) (by decide)
 have k2 := Qmi (a := 16) (b := 500001) hkg (by decide) (by decide)
 refine le_trans (Qbe l fr _) (le_trans (Qie 18 500000 (by decide) (by decide) _) (le_trans (Qie 16 500001 (by decide) (by decide) _) ?_))
 have hH : ∀ k, lk ([(500000, (⟨[u0 v0].map dUR, 3, eu, false⟩ : Box)), (kg, gB L I eg)] ++ fbx ec [u0 v0]) k = lk (QgG (QaZ 16 500001) (QgG (QaZ 18 500000) [(18, ⟨[[.str [], .str [], .osl 16 1]], 3, eu, false⟩), (16, ⟨[dCR (zr v0 (-1))], 8, ec, true⟩), (kg, gB L I eg)])) k := fun k => by
  have e : QgG (QaZ 16 500001) (QgG (QaZ 18 500000) [(18, (⟨[[.str [], .str [], .osl 16 1]], 3, eu, false⟩ : Box)), (16, ⟨[dCR (zr v0 (-1))], 8, ec, true⟩), (kg, gB L I eg)]) = [(500000, ⟨[u0 v0].map dUR, 3, eu, false⟩), (500001, ⟨[dCR (zr v0 (-1))], 8, ec, true⟩), (kg, gB L I eg)] := by
   simp only [QgG, List.map_cons, List.map_nil, k1, k2]; rfl
  rw [e]
  show lk ((500000, _) :: (kg, _) :: (500001, _) :: []) k = _
  rw [Qh, Qh, Qh, Qh, Qh, Qh]
  by_cases h1 : 500000 = k
  ·rw [if_pos h1, if_pos h1]
  ·rw [if_neg h1, if_neg h1]
   by_cases h2 : kg = k
   ·rw [if_pos h2, if_neg (by omega), if_pos h2]
   ·rw [if_neg h2, if_neg h2]; rfl
 refine QaI (by simp only [St.ren, List.map_map]; rfl) fun k => (hH k).symm
def names5 : List (List UInt8) := [[97, 110, 116], [98, 101, 101], [99, 111, 119], [100, 111, 103], [101, 108, 107]]
theorem QZ : names5.length = 5 := rfl
theorem QnA : versions.length = 4 := rfl
theorem QoD {i : Nat} (h : i < versions.length) : Qfc versions[i] := by
 have := QiG _ (List.getElem_mem h)
 exact ⟨Nat.le_trans this.1 (by omega), Nat.le_trans this.2 (by omega)⟩
structure UnitsIn (us : List UR) : Prop where
 keys : ZX us
 fresh : ∀ u ∈ us, QnM u
 first : ∃ z rest, us = ⟨[], [], 500001, [z]⟩ :: rest
theorem UnitsIn.zero : UnitsIn [u0 v0] := by
 refine ⟨fun j hj => ?_, fun u hu => ?_, ⟨zr v0 (-1), [], rfl⟩⟩
 ·have : j = 0 := by simp at hj; exact hj
  subst this; rfl
 ·simp only [List.mem_singleton] at hu; subst hu
  refine ⟨by simp [u0], fun z hz => ?_⟩
  simp only [u0, List.mem_singleton] at hz; subst hz
  exact ⟨v0, -1, rfl, ⟨Nat.zero_le _, Nat.zero_le _⟩⟩
theorem UnitsIn.snoc {us : List UR} (h : UnitsIn us) {n f : List UInt8} {cs : List CR} (hc : cs.length <= 4) (hz : ∀ z ∈ cs, ∃ v sh, z = zr v sh /\ Qfc v) : UnitsIn (us ++ [⟨n, f, 500001 + us.length, cs⟩]) := by
 obtain ⟨h1, h2, z, rest, h3⟩ := h
 refine ⟨Qhe h1 rfl, fun u hu => ?_, z, rest ++ [⟨n, f, 500001 + us.length, cs⟩], by rw [h3]; rfl⟩
 rcases List.mem_append.1 hu with hu | hu
 ·exact h2 u hu
 ·simp only [List.mem_singleton] at hu; subst hu; exact ⟨hc, hz⟩
def CsIn (n : Nat) (cs : List CR) : Prop := cs.length <= n /\ ∀ z ∈ cs, ∃ v sh, z = zr v sh /\ Qfc v
theorem CsIn.nil (n : Nat) : CsIn n [] := ⟨Nat.zero_le _, by simp⟩
theorem CsIn.keep {n : Nat} {cs : List CR} (h : CsIn n cs) : CsIn (n + 1) cs := ⟨Nat.le_succ_of_le h.1, h.2⟩
theorem CsIn.snoc {n : Nat} {cs : List CR} (h : CsIn n cs) {v : Vr} (hv : Qfc v) {sh : Int} : CsIn (n + 1) (cs ++ [zr v sh]) := by
 refine ⟨by simp; exact h.1, fun z hz => ?_⟩
 rcases List.mem_append.1 hz with hz | hz
 ·exact h.2 z hz
 ·simp only [List.mem_singleton] at hz; subst hz; exact ⟨v, sh, rfl, hv⟩
theorem CsIn.at {n : Nat} {cs : List CR} (h : CsIn n cs) {i : Nat} (hi : i < cs.length) : Qfc cs[i].v := by
 obtain ⟨v, sh, e, hv⟩ := h.2 _ (List.getElem_mem hi)
 rw [e]; exact hv
theorem Qi8 {α : Type} {k : Nat} {v v' : α} {l : List (Nat × α)} (h : v = v') : lk ((k, v) :: l) k = some v' := by rw [Qr, h]
theorem QhG {us : List UR} {e et : Nat} (h : ZX us) : Box.scrub (500001 + us.length) ⟨us.map dUR, e, et, false⟩ = ⟨us.map dUR, e, et, false⟩ := QhF fun hk => by
 obtain ⟨u, hu, e⟩ := QaQ hk
 have := QaH h hu
 omega
theorem Qjp {us : List UR} (h : ZX us) {n f : List UInt8} {k m : Nat} (hk : k ≠ 500000) : ∀ r ∈ us.map dUR ++ [[D.str n, D.str f, D.osl k m]], ∀ d ∈ r, 500000 ∉ d.sid := fun r hr d hd => by
 rcases List.mem_append.1 hr with hr | hr
 ·exact Qnz h r hr d hd
 ·simp only [List.mem_singleton] at hr; subst hr
  simp only [List.mem_cons, List.not_mem_nil, or_false] at hd
  rcases hd with rfl | rfl | rfl <;> simp [D.sid]
  exact Ne.symm hk
theorem Qny {us : List UR} {u : UR} : (us ++ [u]).map dUR = us.map dUR ++ [dUR u] := by simp
theorem Qna {cs : List CR} {z : CR} : (cs ++ [z]).map dCR = cs.map dCR ++ [dCR z] := by simp
theorem Qav {us : List UR} (h : ZX us) {kg eu ec : Nat} {g1 g2 g3 : Box} (hkg : 1000000 <= kg) (h1 : g1.pr = true) (h2 : g2.pr = true) (hlen : us.length <= 100) :
  (∀ k, 1000000 <= k -> (lk [(kg, g1)] k).isSome = true -> (lk (((500000, (⟨us.map dUR, 3, eu, false⟩ : Box)) :: fbx ec us) ++ [(kg, g2), (kg, g1)]) k).isSome = true) /\
  (∀ k b, lk (((500000, (⟨us.map dUR, 3, eu, false⟩ : Box)) :: fbx ec us) ++ [(kg, g2), (kg, g1)]) k = some b -> 500000 <= k /\ ∀ j ∈ b.ids, (lk (((500000, (⟨us.map dUR, 3, eu, false⟩ : Box)) :: fbx ec us) ++ [(kg, g2), (kg, g1)]) j).isSome = true) /\
  (∀ k b, lk (((500000, (⟨us.map dUR, 3, eu, false⟩ : Box)) :: fbx ec us) ++ [(kg, g2), (kg, g1)]) k = some b -> lk ((kg, g2) :: (500000, ⟨us.map dUR, 3, eu, false⟩) :: (kg, g3) :: fbx ec us) k = some b) := by
 have cs : ∀ k b, lk (((500000, (⟨us.map dUR, 3, eu, false⟩ : Box)) :: fbx ec us) ++ [(kg, g2), (kg, g1)]) k = some b -> (k = 500000 /\ b = ⟨us.map dUR, 3, eu, false⟩) \/ (∃ u ∈ us, k = u.k /\ b = ⟨u.cs.map dCR, 8, ec, true⟩) \/ (k = kg /\ b = g2) := fun k b hk => by
  rw [List.cons_append, Qh] at hk
  split at hk
  ·rename_i e; cases hk; exact .inl ⟨e.symm, rfl⟩
  ·rw [ZN] at hk
   cases hh : lk (fbx ec us) k with
   | some v =>
    rw [hh] at hk; cases hk
    exact .inr (.inl (Qfq hh))
   | none =>
    rw [hh] at hk
    simp only at hk
    rw [Qh] at hk
    split at hk
    ·rename_i e; cases hk; exact .inr (.inr ⟨e.symm, rfl⟩)
    ·rename_i e
     rw [Qh, if_neg e] at hk; cases hk
 refine ⟨fun k _ hk => ?_, fun k b hk => ?_, fun k b hk => ?_⟩
 ·obtain ⟨b, hb⟩ := Option.isSome_iff_exists.1 hk
  obtain ⟨rfl, _⟩ := Xx hb
  exact QfO QN
 ·rcases cs k b hk with ⟨rfl, rfl⟩ | ⟨u, hu, rfl, rfl⟩ | ⟨rfl, rfl⟩
  ·refine ⟨Nat.le_refl _, fun j hj => ?_⟩
   obtain ⟨u, hu, rfl⟩ := QaQ hj
   rw [List.cons_append]
   refine QL ?_
   obtain ⟨b, hb⟩ := Option.isSome_iff_exists.1 (Qcq (ec := ec) h hu)
   rw [Yc hb]; rfl
  ·have := QaH h hu
   exact ⟨by omega, fun j hj => by simp [Box.ids] at hj⟩
  ·exact ⟨by omega, fun j hj => by rw [XD h2] at hj; cases hj⟩
 ·rcases cs k b hk with ⟨rfl, rfl⟩ | ⟨u, hu, rfl, rfl⟩ | ⟨rfl, rfl⟩
  ·exact Qg (by omega) Qr
  ·have hm := QaH h hu
   obtain ⟨j, hj, rfl⟩ := List.getElem_of_mem hu
   refine Qg (by omega) (Qg (by omega) (Qg (by omega) ?_))
   rw [h j hj]; exact Qkf h hj
  ·exact Qr
end M25
namespace Go.Proofs
open Go Go.Abs M3 M25
set_option linter.unusedVariables false
set_option linter.unusedSimpArgs false
theorem QbJ {kg : Nat} {L : List Int} {I most : Int} {eg eu ec : Nat} (heu : eu = 37) (hec : ec = 63) (hkg : 1000000 <= kg) (hL : ∀ x ∈ L, I64 x) (hm0 : 1 <= most) (hm1 : most <= 5) : ∃ d H2, (∃ us I2, (UnitsIn us /\ 2 <= us.length /\ us.length <= 11) /\ d = .osl 500000 us.length /\ H2 = ((500000, ⟨us.map dUR, 3, eu, false⟩) :: fbx ec us) ++ [(kg, gB L I2 eg), (kg, gB L I eg)]) /\ OkH Try.prog 22 [.ref kg 0 0, .int .i64 most] [(kg, gB L I eg)] d H2 := by
 subst heu hec
 have e3 : ¬ kg = 500000 := by omega
 have k1 := Qmi (a := 18) (b := 500000) hkg (by decide) (by decide)
 have k2 := Qmi (a := 16) (b := 500001) hkg (by decide) (by decide)
 refine OkH.ofX (R := fun d H2 => ∃ us I2, (UnitsIn us /\ 2 <= us.length /\ us.length <= 11) /\ d = .osl 500000 us.length /\ H2 = ((500000, ⟨us.map dUR, 3, 37, false⟩) :: fbx 63 us) ++ [(kg, gB L I2 eg), (kg, gB L I eg)]) Yb Try.func22 Qpz (Nat.le_of_ble_eq_true rfl) ?_
 show TX _ _ tf22.body _ _
 refine QV fun K hK => Qa rfl ?_
 refine hK _ _ (QE (kp2 rfl rfl) ?_)
 refine QV fun K hK => ?_
 refine QD rfl (by repeat (first | exact rfl | refine Zi (by first | decide | omega) ?_)) ?_
 refine Qa rfl ?_
 refine hK _ _ (QE (kp3 rfl rfl rfl) ?_)
 refine QjX (Qid (l := [0, 1]) (B := [_]) (A := []) (H0 := [(kg, gB L I eg)]) 14 5 (kp2 rfl rfl) rfl rfl rfl rfl (by intro p hp hk; simp only [List.mem_cons, List.not_mem_nil, or_false] at hp; rcases hp with rfl | rfl <;> first | (simp [D.ids, D.sid, QW, QJ, ZG] at hk; done) | (simp [D.ids, D.sid, QW, QJ, ZG] at hk; omega)) (by intro p hp; cases hp) (by intro p hp h; simp only [List.mem_singleton] at hp; subst hp; simp only at h; omega) (fun k b h => by obtain ⟨rfl, rfl⟩ := Xx h; exact hkg) (fun k b h j hj => by obtain ⟨rfl, rfl⟩ := Xx h; simp [Box.ids, gB] at hj) (by intro p hp k hk; simp only [List.mem_cons, List.not_mem_nil, or_false] at hp; rcases hp with rfl | rfl <;> first | (simp [D.ids, D.sid, QW, QJ, ZG] at hk; done) | (simp [D.ids, D.sid, QW, QJ, ZG] at hk; subst hk; repeat (first | exact QN | refine QL ?_)))) ?_
 refine QV fun K hK => QP rfl rfl ?_
 refine QD rfl (by repeat (first | exact rfl | refine Zi (by first | decide | omega) ?_)) ?_
 refine QP rfl rfl ?_
 refine QD rfl (by repeat (first | exact rfl | refine Zi (by first | decide | omega) ?_)) ?_
 refine Qa rfl ?_
 refine hK _ _ (QE (kp4 rfl rfl rfl rfl) ?_)
 refine QV fun K hK => QA (YU) rfl rfl (.inl rfl) (Qa rfl ?_)
 refine hK _ _ (QE (kp5 rfl rfl rfl rfl rfl) ?_)
 refine Xo ?_ -- 0
 refine QV fun K hK => Qa rfl ?_
 refine hK _ _ (QE (kp6 rfl rfl rfl rfl rfl rfl) ?_)
 refine Yq ?_
 refine Qdo (ι := List UR × Int × Nat) (fun ⟨us, J, n⟩ => ⟨[(0, .ref kg 0 0), (1, .int .i64 most), (5, .sl (Qao names5)), (6, .osl 500000 us.length), (7, .sl (versions.map dVr)), (8, .int .i64 n)], [(500000, ⟨(us).map dUR, 3, 37, false⟩), (kg, gB L (J) eg)] ++ fbx 63 (us)⟩) (fun ⟨us, J, n⟩ => UnitsIn us /\ us.length <= 1 + 2 * n /\ n <= 5 /\ 1 + n <= us.length) (fun ⟨us, J, n⟩ => 5 - n) ([u0 v0], I, 0) ?_ ?_ ?_
 ·refine QkD (l := [0, 1, 5, 6, 7, 8]) hkg (kp6 rfl rfl rfl rfl rfl rfl) ?_; simp only [List.map_cons, List.map_nil, D.ren, D.renS, k1, k2]; rfl
 ·exact ⟨UnitsIn.zero, by simp, by omega, by simp⟩
 intro ⟨us, J, n⟩ hI
 try dsimp only at hI
 have e1 : ¬ kg = 500001 + us.length := by omega
 have e2 : ¬ 500000 = 500001 + us.length := by omega
 have e4 : ¬ 500001 + us.length = 500000 := by omega
 have hx0 : 0 <= nx L J most := QeC
 have hx1 : nx L J most < most := QeB (by omega)
 have hn5 := QZ
 have hv4 := QnA
 try dsimp only
 refine Xo ?_ -- 1
 refine QV fun K hK => Qa rfl (Qa rfl (Qa rfl ?_))
 refine Yp (Qbn (I := J) rfl (by repeat (first | exact Qr | refine Qg (by omega) ?_)) hL (by omega)) ?_
 refine Q9 rfl rfl (by first | exact Qp (by omega) (by omega) | rfl) (Y4 rfl rfl (Qa rfl ?_))
 refine Qx (g := 26) rfl (fun h1 => ?_) (fun h1 => ?_)
 ·try rw [h1]
  try simp only [qa, qb, qc, qd, qe, List.length_map] at h1
  refine Qf rfl (Qa rfl (Qf rfl (Qa rfl (Qf rfl ?_))))
  first | refine Q4 rfl Q6 ?_ | refine Q4 rfl rfl ?_
  refine Qf rfl (Y4 rfl rfl (Qj rfl rfl ?_))
  refine hK _ _ (QE (kp7 rfl rfl rfl rfl rfl rfl rfl) ?_)
  refine Yy rfl (fun h2 => ?_) (fun h2 => ?_)
  ·try rw [h2]
   try simp only [qa, qb, qc, qd, qe, List.length_map] at h2
   refine YB (QR (kp6 rfl rfl rfl rfl rfl rfl) ?_)
   refine Xo ?_ -- 2
   refine Yq (QV fun K hK => Qa rfl ?_)
   refine hK _ _ (QE (kp7 rfl rfl rfl rfl rfl rfl rfl) ?_)
   refine QV fun K hK => Qa rfl ?_
   refine Yp (Qbn (I := nxI J) rfl (by repeat (first | exact Qr | refine Qg (by omega) ?_)) hL (by omega)) ?_
   refine Qa rfl ?_
   refine hK _ _ (QE (kp8 rfl rfl rfl rfl rfl rfl rfl rfl) ?_)
   refine Xo ?_ -- 3
   refine QV fun K hK => Qa rfl ?_
   refine hK _ _ (QE (kp9 rfl rfl rfl rfl rfl rfl rfl rfl rfl) ?_)
   refine Yq ?_
   refine Qdo (ι := List CR × Nat) (fun ⟨cs, i⟩ => ⟨[(0, .ref kg 0 0), (1, .int .i64 most), (5, .sl (Qao names5)), (6, .osl 500000 us.length), (7, .sl (versions.map dVr)), (8, .int .i64 n), (9, .osl (500001 + us.length) cs.length), (10, .int .i64 (nx L (nxI J) 16)), (11, .int .i64 i)], [(500001 + (us).length, ⟨(cs).map dCR, 8, 63, true⟩), (500000, ⟨(us).map dUR, 3, 37, false⟩), (kg, gB L (nxI (nxI J)) eg)] ++ fbx 63 (us)⟩) (fun ⟨cs, i⟩ => i <= 4 /\ CsIn i cs) (fun ⟨cs, i⟩ => 4 - i) ([], 0) ?_ ?_ ?_
   ·exact le_trans (Xk 9 (500001 + us.length) 8 63 rfl (by repeat (first | exact Yv hI.1.keys (.inr (by omega)) | refine Zi (by omega) ?_))) (QnK (l := [0, 1, 5, 6, 7, 8, 9, 10, 11]) (B := [_, _, _, _, _]) (kp9 rfl rfl rfl rfl rfl rfl rfl rfl rfl) rfl hI.1.keys (by repeat (first | exact Qr | refine Qg (by omega) ?_)) (by repeat (first | exact Qr | refine Qg (by omega) ?_)) (by repeat (first | exact Qr | refine Qg (by omega) ?_)) (by intro p hp h; simp only [List.mem_cons, List.not_mem_nil, or_false] at hp; rcases hp with rfl | rfl | rfl | rfl | rfl <;> first | (simp only at h; omega) | exact .inl rfl | exact .inr rfl) (by intro p hp k hk; simp only [List.mem_cons, List.not_mem_nil, or_false] at hp; rcases hp with rfl | rfl | rfl | rfl | rfl | rfl | rfl | rfl | rfl <;> first | (simp [D.ids, D.sid, QW, QJ, ZG] at hk; done) | (simp [D.ids, D.sid, QW, QJ, ZG] at hk; subst hk; first | exact .inl rfl | exact .inr (.inl rfl) | exact .inr (.inr (.inl rfl)) | (refine .inr (.inr (.inl ?_)); simp; done) | (first | exact .inr (.inr ⟨_, List.mem_append_right _ (List.mem_singleton.2 rfl), rfl⟩) | exact .inr (.inr (.inr ⟨_, List.mem_append_right _ (List.mem_singleton.2 rfl), rfl⟩))))))
   ·exact ⟨by omega, CsIn.nil _⟩
   intro ⟨cs, i⟩ hC
   try dsimp only at hC
   have hcl := hC.2.1
   try dsimp only
   refine Xo ?_ -- 4
   refine QV fun K hK => Qa rfl (Qa rfl ?_)
   first | refine Q4 rfl Q6 ?_ | refine Q4 rfl rfl ?_
   refine Y4 rfl rfl ?_
   refine hK _ _ (QE (Qky rfl rfl rfl rfl rfl rfl rfl rfl rfl rfl) ?_)
   refine Yy rfl (fun h3 => ?_) (fun h3 => ?_)
   ·try rw [h3]
    try simp only [qa, qb, qc, qd, qe, List.length_map] at h3
    refine YB (QR (kp9 rfl rfl rfl rfl rfl rfl rfl rfl rfl) ?_)
    refine Xo ?_ -- 5
    refine Yq (QV fun K hK => Qa rfl (Qa rfl (QiK rfl (QgA (by omega) (by omega)) (QnU rfl rfl (by omega) (QeX rfl rfl (ZJ rfl rfl ?_))))))
    refine hK _ _ (QE (Qky rfl rfl rfl rfl rfl rfl rfl rfl rfl rfl) ?_)
    refine Yy rfl (fun h4 => ?_) (fun h4 => ?_)
    ·try rw [h4]
     try simp only [qa, qb, qc, qd, qe, List.length_map] at h4
     refine ZF fun K hK => Qa rfl (Qa rfl (Qa rfl (QO rfl rfl rfl (by omega) (Zt (by omega)) rfl (QF (cs := [_, _, _, _, _]) rfl rfl rfl rfl (QP rfl rfl ?_)))))
     refine QD rfl (by repeat (first | exact Yv hI.1.keys (.inl (by omega)) | exact Yv hK1.keys (.inl (by omega)) | refine Zi (by first | decide | omega) ?_)) ?_
     refine QbS (hk0 := by omega) rfl rfl (fun _ h => QaV rfl rfl rfl h) (Qg (by omega) Qr) (by simp) rfl rfl rfl (by simp; omega) (by simp; omega) (Qa rfl (hK _ ?_))
     refine Ql (QR (kp9 rfl rfl rfl rfl rfl rfl rfl rfl rfl) (ZF fun K hK => Qa rfl (Q9 rfl rfl (by first | exact Qp (by omega) (by omega) | rfl) (Qa rfl (hK _ ?_)))))
     refine Qo (cs ++ [zr (versions[i]'(by omega)) 0], i + 1) ?_ ?_ ?_
     ·exact le_trans (Qgb (B := [_, _, _, _, _]) (500001 + us.length) (Qed _ _)) (QnK (l := [0, 1, 5, 6, 7, 8, 9, 10, 11]) (B := [_, _, _, _, _]) (kp9 rfl rfl rfl rfl rfl rfl rfl rfl rfl) (by simp [D.scrub, e1, e2, e3, e4] <;> omega) hI.1.keys (by rw [List.map_append]; exact Qr) (by repeat (first | exact Qr | exact Qi8 (QhG hI.1.keys) | refine Qg (by omega) ?_)) (by repeat (first | exact Qr | refine Qg (by omega) ?_)) (by intro p hp h; simp only [List.mem_cons, List.not_mem_nil, or_false] at hp; rcases hp with rfl | rfl | rfl | rfl | rfl <;> first | (simp only at h; omega) | exact .inl rfl | exact .inr rfl) (by intro p hp k hk; simp only [List.mem_cons, List.not_mem_nil, or_false] at hp; rcases hp with rfl | rfl | rfl | rfl | rfl | rfl | rfl | rfl | rfl <;> first | (simp [D.ids, D.sid, QW, QJ, ZG] at hk; done) | (simp [D.ids, D.sid, QW, QJ, ZG] at hk; subst hk; first | exact .inl rfl | exact .inr (.inl rfl) | exact .inr (.inr (.inl rfl)) | (refine .inr (.inr (.inl ?_)); simp; done) | (first | exact .inr (.inr ⟨_, List.mem_append_right _ (List.mem_singleton.2 rfl), rfl⟩) | exact .inr (.inr (.inr ⟨_, List.mem_append_right _ (List.mem_singleton.2 rfl), rfl⟩))))))
     ·try dsimp only
      exact ⟨by omega, hC.2.snoc (QoD (by omega))⟩
     ·show 4 - (i + 1) < 4 - i; omega
    ·try rw [h4]
     try simp only [qa, qb, qc, qd, qe, List.length_map] at h4
     refine YB (Ql (QR (kp9 rfl rfl rfl rfl rfl rfl rfl rfl rfl) (ZF fun K hK => Qa rfl (Q9 rfl rfl (by first | exact Qp (by omega) (by omega) | rfl) (Qa rfl (hK _ ?_))))))
     refine Qo (cs, i + 1) ?_ ?_ ?_
     ·exact QnK (l := [0, 1, 5, 6, 7, 8, 9, 10, 11]) (B := [_, _, _]) (kp9 rfl rfl rfl rfl rfl rfl rfl rfl rfl) rfl hI.1.keys (by repeat (first | exact Qr | refine Qg (by omega) ?_)) (by repeat (first | exact Qr | refine Qg (by omega) ?_)) (by repeat (first | exact Qr | refine Qg (by omega) ?_)) (by intro p hp h; simp only [List.mem_cons, List.not_mem_nil, or_false] at hp; rcases hp with rfl | rfl | rfl <;> first | (simp only at h; omega) | exact .inl rfl | exact .inr rfl) (by intro p hp k hk; simp only [List.mem_cons, List.not_mem_nil, or_false] at hp; rcases hp with rfl | rfl | rfl | rfl | rfl | rfl | rfl | rfl | rfl <;> first | (simp [D.ids, D.sid, QW, QJ, ZG] at hk; done) | (simp [D.ids, D.sid, QW, QJ, ZG] at hk; subst hk; first | exact .inl rfl | exact .inr (.inl rfl) | exact .inr (.inr (.inl rfl)) | (refine .inr (.inr (.inl ?_)); simp; done) | (first | exact .inr (.inr ⟨_, List.mem_append_right _ (List.mem_singleton.2 rfl), rfl⟩) | exact .inr (.inr (.inr ⟨_, List.mem_append_right _ (List.mem_singleton.2 rfl), rfl⟩)))))
     ·try dsimp only
      exact ⟨by omega, hC.2.keep⟩
     ·show 4 - (i + 1) < 4 - i; omega
   ·try rw [h3]
    try simp only [qa, qb, qc, qd, qe, List.length_map] at h3
    refine QbT (YG (QI (QQ (QR (kp7 rfl rfl rfl rfl rfl rfl rfl) (QV fun K hK => Qa rfl (Qa rfl (Qa rfl (QO rfl rfl rfl (by omega) (Zt (by omega)) rfl (QC rfl rfl rfl (Qa rfl ?_))))))))))
    refine QP rfl rfl ?_
    refine QD rfl (by repeat (first | exact Yv hI.1.keys (.inl (by omega)) | exact Yv hK1.keys (.inl (by omega)) | refine Zi (by first | decide | omega) ?_)) ?_
    refine QhX (hk0 := by decide) rfl rfl (fun _ h => QaV rfl rfl rfl h) (Qg (by omega) (Qg (by omega) Qr)) (by simp) rfl rfl (.inr (Qjp hI.1.keys (by omega))) (by simp; omega) (by simp; omega) (Qa rfl ?_)
    refine hK _ _ (QE (kp7 rfl rfl rfl rfl rfl rfl rfl) ?_)
    have hc4 : CsIn 4 cs := ⟨by omega, hC.2.2⟩
    refine QjX (le_trans (Qgb (B := [_, _, _, _, _]) 500000 (Qed _ _)) (Qoz (u := (UR.mk (names5[n]'(by have := QZ; omega)) [] (500001 + us.length) cs)) (l := [0, 1, 5, 6, 7, 8, 9]) (fr' := [(0, .ref kg 0 0), (1, .int .i64 most), (5, .sl (Qao names5)), (6, .osl 500000 (us ++ [(UR.mk (names5[n]'(by have := QZ; omega)) [] (500001 + us.length) cs)]).length), (7, .sl (versions.map dVr)), (8, .int .i64 n), (9, .osl (500001 + us.length) cs.length)]) (B := [_, _, _, _, _]) (kp7 rfl rfl rfl rfl rfl rfl rfl) (by simp [D.scrub, e1, e2, e3, e4]) hI.1.keys rfl (by repeat (first | exact Qr | refine Qg (by omega) ?_)) (by rw [List.map_append]; exact Qr) (by repeat (first | exact Qr | refine Qg (by omega) ?_)) (by intro p hp h; simp only [List.mem_cons, List.not_mem_nil, or_false] at hp; rcases hp with rfl | rfl | rfl | rfl | rfl <;> first | (simp only at h; omega) | exact .inl rfl | exact .inr rfl) hkg (by omega) (by intro p hp k hk; simp only [List.mem_cons, List.not_mem_nil, or_false] at hp; rcases hp with rfl | rfl | rfl | rfl | rfl | rfl | rfl <;> first | (simp [D.ids, D.sid, QW, QJ, ZG] at hk; done) | (simp [D.ids, D.sid, QW, QJ, ZG] at hk; subst hk; first | exact .inl rfl | exact .inr (.inl rfl) | (first | exact .inr (.inr ⟨_, List.mem_append_right _ (List.mem_singleton.2 rfl), rfl⟩) | exact .inr (.inr (.inr ⟨_, List.mem_append_right _ (List.mem_singleton.2 rfl), rfl⟩))))))) ?_
    have hK1 := hI.1.snoc (n := (names5[n]'(by have := QZ; omega))) (f := []) hc4.1 hc4.2
    have hl1 : (us ++ [(UR.mk (names5[n]'(by have := QZ; omega)) [] (500001 + us.length) cs)]).length = us.length + 1 := by simp
    have f1 : ¬ kg = 500001 + (us ++ [(UR.mk (names5[n]'(by have := QZ; omega)) [] (500001 + us.length) cs)]).length := by omega
    have f2 : ¬ 500000 = 500001 + (us ++ [(UR.mk (names5[n]'(by have := QZ; omega)) [] (500001 + us.length) cs)]).length := by omega
    have f4 : ¬ 500001 + (us ++ [(UR.mk (names5[n]'(by have := QZ; omega)) [] (500001 + us.length) cs)]).length = 500000 := by omega
    have f5 : ¬ 500001 + us.length = 500001 + (us ++ [(UR.mk (names5[n]'(by have := QZ; omega)) [] (500001 + us.length) cs)]).length := by omega
    refine QV fun K hK => Qa rfl (Y4 rfl rfl (Qa rfl ?_))
    refine Qx (g := 67) rfl (fun h5 => ?_) (fun h5 => ?_)
    ·try rw [h5]
     try simp only [qa, qb, qc, qd, qe, List.length_map] at h5
     refine Qf rfl (Qa rfl (Qf rfl ?_))
     refine Yp (Qbn (I := nxI (nxI J)) rfl (by repeat (first | exact Qr | refine Qg (by omega) ?_)) hL (by omega)) ?_
     refine Qf rfl (ZJ rfl rfl (Qj rfl rfl ?_))
     refine hK _ _ (QE (kp8 rfl rfl rfl rfl rfl rfl rfl rfl) ?_)
     refine Yy rfl (fun h6 => ?_) (fun h6 => ?_)
     ·try rw [h6]
      try simp only [qa, qb, qc, qd, qe, List.length_map] at h6
      refine QV fun K hK => Qa rfl ?_
      refine hK _ _ (QE (kp8 rfl rfl rfl rfl rfl rfl rfl rfl) ?_)
      refine Xo ?_ -- 6
      refine QV fun K hK => Qa rfl ?_
      refine hK _ _ (QE (kp9 rfl rfl rfl rfl rfl rfl rfl rfl rfl) ?_)
      refine Yq ?_
      refine Qdo (ι := List CR × Nat × Int) (fun ⟨c2, m, J3⟩ => ⟨[(0, .ref kg 0 0), (1, .int .i64 most), (5, .sl (Qao names5)), (6, .osl 500000 (us ++ [(UR.mk (names5[n]'(by have := QZ; omega)) [] (500001 + us.length) cs)]).length), (7, .sl (versions.map dVr)), (8, .int .i64 n), (9, .osl (500001 + us.length) cs.length), (12, .osl (500001 + (us ++ [(UR.mk (names5[n]'(by have := QZ; omega)) [] (500001 + us.length) cs)]).length) c2.length), (13, .int .i64 m)], [(500001 + (us ++ [(UR.mk (names5[n]'(by have := QZ; omega)) [] (500001 + us.length) cs)]).length, ⟨(c2).map dCR, 8, 63, true⟩), (500000, ⟨(us ++ [(UR.mk (names5[n]'(by have := QZ; omega)) [] (500001 + us.length) cs)]).map dUR, 3, 37, false⟩), (kg, gB L (J3) eg)] ++ fbx 63 (us ++ [(UR.mk (names5[n]'(by have := QZ; omega)) [] (500001 + us.length) cs)])⟩) (fun ⟨c2, m, J3⟩ => m <= cs.length /\ CsIn m c2) (fun ⟨c2, m, J3⟩ => cs.length - m) ([], 0, nxI (nxI (nxI J))) ?_ ?_ ?_
      ·exact le_trans (Xk 12 (500001 + (us ++ [(UR.mk (names5[n]'(by have := QZ; omega)) [] (500001 + us.length) cs)]).length) 8 63 rfl (by repeat (first | exact Yv hK1.keys (.inr (by omega)) | refine Zi (by omega) ?_))) (QnK (l := [0, 1, 5, 6, 7, 8, 9, 12, 13]) (B := [_, _, _, _]) (kp9 rfl rfl rfl rfl rfl rfl rfl rfl rfl) rfl hK1.keys (by repeat (first | exact Qr | refine Qg (by omega) ?_)) (by repeat (first | exact Qr | refine Qg (by omega) ?_)) (by repeat (first | exact Qr | refine Qg (by omega) ?_)) (by intro p hp h; simp only [List.mem_cons, List.not_mem_nil, or_false] at hp; rcases hp with rfl | rfl | rfl | rfl <;> first | (simp only at h; omega) | exact .inl rfl | exact .inr rfl) (by intro p hp k hk; simp only [List.mem_cons, List.not_mem_nil, or_false] at hp; rcases hp with rfl | rfl | rfl | rfl | rfl | rfl | rfl | rfl | rfl <;> first | (simp [D.ids, D.sid, QW, QJ, ZG] at hk; done) | (simp [D.ids, D.sid, QW, QJ, ZG] at hk; subst hk; first | exact .inl rfl | exact .inr (.inl rfl) | exact .inr (.inr (.inl rfl)) | (refine .inr (.inr (.inl ?_)); simp; done) | (first | exact .inr (.inr ⟨_, List.mem_append_right _ (List.mem_singleton.2 rfl), rfl⟩) | exact .inr (.inr (.inr ⟨_, List.mem_append_right _ (List.mem_singleton.2 rfl), rfl⟩))))))
      ·exact ⟨by omega, CsIn.nil _⟩
      intro ⟨c2, m, J3⟩ hM
      try dsimp only at hM
      have hcl2 := hM.2.1
      try dsimp only
      refine Xo ?_ -- 7
      refine QV fun K hK => Qa rfl (Qa rfl ?_)
      first | refine Q4 rfl Q6 ?_ | refine Q4 rfl rfl ?_
      refine Y4 rfl rfl ?_
      refine hK _ _ (QE (Qky rfl rfl rfl rfl rfl rfl rfl rfl rfl rfl) ?_)
      refine Yy rfl (fun h7 => ?_) (fun h7 => ?_)
      ·try rw [h7]
       try simp only [qa, qb, qc, qd, qe, List.length_map] at h7
       refine YB (QR (kp9 rfl rfl rfl rfl rfl rfl rfl rfl rfl) ?_)
       refine Xo ?_ -- 8
       refine Yq (QV fun K hK => Qa rfl ?_)
       refine Yp (Qbn (I := J3) rfl (by repeat (first | exact Qr | refine Qg (by omega) ?_)) hL (by omega)) ?_
       refine Qfa rfl rfl ?_
       refine hK _ _ (QE (Qky rfl rfl rfl rfl rfl rfl rfl rfl rfl rfl) ?_)
       refine Yy rfl (fun h8 => ?_) (fun h8 => ?_)
       ·try rw [h8]
        try simp only [qa, qb, qc, qd, qe, List.length_map] at h8
        refine ZF fun K hK => Qa rfl (Qa rfl (Qa rfl (Xy rfl rfl (Qg (by omega) (Qg (by omega) (Qg (by omega) (Qg (by omega) (QfY (u := (UR.mk (names5[n]'(by have := QZ; omega)) [] (500001 + us.length) cs)) hI.1.keys rfl))))) (by simp) (by omega) (by omega) rfl (Qi rfl (Zh (Qg (by omega) (Qg (by omega) (Qg (by omega) (Qg (by omega) (QfY (u := (UR.mk (names5[n]'(by have := QZ; omega)) [] (500001 + us.length) cs)) hI.1.keys rfl)))))) (QF (cs := [_, _, _, _, _]) rfl (ZY (Qg (by omega) (Qg (by omega) (Qg (by omega) (Qg (by omega) (QfY (u := (UR.mk (names5[n]'(by have := QZ; omega)) [] (500001 + us.length) cs)) hI.1.keys rfl))))) (Zt (l := cs) (by omega))) rfl rfl (QP rfl rfl ?_))))))
        refine QD rfl (by repeat (first | exact Yv hI.1.keys (.inl (by omega)) | exact Yv hK1.keys (.inl (by omega)) | refine Zi (by first | decide | omega) ?_)) ?_
        refine QbS (hk0 := by omega) rfl rfl (fun _ h => QaV rfl rfl rfl h) (Qg (by omega) (Qg (by omega) Qr)) (by simp) rfl rfl rfl (by simp; omega) (by simp; omega) (Qa rfl (hK _ ?_))
        refine Ql (QR (kp9 rfl rfl rfl rfl rfl rfl rfl rfl rfl) (ZF fun K hK => Qa rfl (Q9 rfl rfl (by first | exact Qp (by omega) (by omega) | rfl) (Qa rfl (hK _ ?_)))))
        refine Qo (c2 ++ [zr (cs[m]'(by omega)).v 0], m + 1, nxI J3) ?_ ?_ ?_
        ·exact le_trans (Qgb (B := [_, _, _, _, _, _]) (500001 + (us ++ [(UR.mk (names5[n]'(by have := QZ; omega)) [] (500001 + us.length) cs)]).length) (Qed _ _)) (QnK (l := [0, 1, 5, 6, 7, 8, 9, 12, 13]) (B := [_, _, _, _, _, _]) (kp9 rfl rfl rfl rfl rfl rfl rfl rfl rfl) (by simp [D.scrub, f1, f2, f4, f5] <;> omega) hK1.keys (by rw [Qna (cs := c2)]; exact Qr) (by repeat (first | exact Qr | exact Qi8 (QhG hK1.keys) | refine Qg (by omega) ?_)) (by repeat (first | exact Qr | refine Qg (by omega) ?_)) (by intro p hp h; simp only [List.mem_cons, List.not_mem_nil, or_false] at hp; rcases hp with rfl | rfl | rfl | rfl | rfl | rfl <;> first | (simp only at h; omega) | exact .inl rfl | exact .inr rfl) (by intro p hp k hk; simp only [List.mem_cons, List.not_mem_nil, or_false] at hp; rcases hp with rfl | rfl | rfl | rfl | rfl | rfl | rfl | rfl | rfl <;> first | (simp [D.ids, D.sid, QW, QJ, ZG] at hk; done) | (simp [D.ids, D.sid, QW, QJ, ZG] at hk; subst hk; first | exact .inl rfl | exact .inr (.inl rfl) | exact .inr (.inr (.inl rfl)) | (refine .inr (.inr (.inl ?_)); simp; done) | (first | exact .inr (.inr ⟨_, List.mem_append_right _ (List.mem_singleton.2 rfl), rfl⟩) | exact .inr (.inr (.inr ⟨_, List.mem_append_right _ (List.mem_singleton.2 rfl), rfl⟩))))))
        ·try dsimp only
         exact ⟨by omega, hM.2.snoc (hC.2.at (by omega))⟩
        ·show cs.length - (m + 1) < cs.length - m; omega
       ·try rw [h8]
        try simp only [qa, qb, qc, qd, qe, List.length_map] at h8
        refine YB (Ql (QR (kp9 rfl rfl rfl rfl rfl rfl rfl rfl rfl) (ZF fun K hK => Qa rfl (Q9 rfl rfl (by first | exact Qp (by omega) (by omega) | rfl) (Qa rfl (hK _ ?_))))))
        refine Qo (c2, m + 1, nxI J3) ?_ ?_ ?_
        ·exact QnK (l := [0, 1, 5, 6, 7, 8, 9, 12, 13]) (B := [_, _, _, _]) (kp9 rfl rfl rfl rfl rfl rfl rfl rfl rfl) rfl hK1.keys (by repeat (first | exact Qr | refine Qg (by omega) ?_)) (by repeat (first | exact Qr | refine Qg (by omega) ?_)) (by repeat (first | exact Qr | refine Qg (by omega) ?_)) (by intro p hp h; simp only [List.mem_cons, List.not_mem_nil, or_false] at hp; rcases hp with rfl | rfl | rfl | rfl <;> first | (simp only at h; omega) | exact .inl rfl | exact .inr rfl) (by intro p hp k hk; simp only [List.mem_cons, List.not_mem_nil, or_false] at hp; rcases hp with rfl | rfl | rfl | rfl | rfl | rfl | rfl | rfl | rfl <;> first | (simp [D.ids, D.sid, QW, QJ, ZG] at hk; done) | (simp [D.ids, D.sid, QW, QJ, ZG] at hk; subst hk; first | exact .inl rfl | exact .inr (.inl rfl) | exact .inr (.inr (.inl rfl)) | (refine .inr (.inr (.inl ?_)); simp; done) | (first | exact .inr (.inr ⟨_, List.mem_append_right _ (List.mem_singleton.2 rfl), rfl⟩) | exact .inr (.inr (.inr ⟨_, List.mem_append_right _ (List.mem_singleton.2 rfl), rfl⟩)))))
        ·try dsimp only
         exact ⟨by omega, hM.2.keep⟩
        ·show cs.length - (m + 1) < cs.length - m; omega
      ·try rw [h7]
       try simp only [qa, qb, qc, qd, qe, List.length_map] at h7
       refine QbT (YG (QI (QQ (QR (kp7 rfl rfl rfl rfl rfl rfl rfl) (ZF fun K hK => Qa rfl (Qa rfl (Qa rfl (QO rfl rfl rfl (by omega) (Zt (by omega)) rfl (QC rfl rfl rfl (Qa rfl ?_))))))))))
       refine QP rfl rfl ?_
       refine QD rfl (by repeat (first | exact Yv hI.1.keys (.inl (by omega)) | exact Yv hK1.keys (.inl (by omega)) | refine Zi (by first | decide | omega) ?_)) ?_
       refine QhX (hk0 := by decide) rfl rfl (fun _ h => QaV rfl rfl rfl h) (Qg (by omega) (Qg (by omega) Qr)) (by simp) rfl rfl (.inr (Qjp hK1.keys (by omega))) (by simp; omega) (by simp; omega) (Qa rfl (hK _ ?_))
       refine Ql (QR (kp6 rfl rfl rfl rfl rfl rfl) (ZF fun K hK => Qa rfl (Q9 rfl rfl (by first | exact Qp (by omega) (by omega) | rfl) (Qa rfl (hK _ ?_)))))
       refine Qo (us ++ [(UR.mk (names5[n]'(by have := QZ; omega)) [] (500001 + us.length) cs)] ++ [(UR.mk (names5[n]'(by have := QZ; omega)) [102] (500001 + (us ++ [(UR.mk (names5[n]'(by have := QZ; omega)) [] (500001 + us.length) cs)]).length) c2)], J3, n + 1) ?_ ?_ ?_
       ·exact le_trans (Qgb (B := [_, _, _, _, _]) 500000 (Qed _ _)) (Qoz (u := (UR.mk (names5[n]'(by have := QZ; omega)) [102] (500001 + (us ++ [(UR.mk (names5[n]'(by have := QZ; omega)) [] (500001 + us.length) cs)]).length) c2)) (l := [0, 1, 5, 6, 7, 8]) (B := [_, _, _, _, _]) (kp6 rfl rfl rfl rfl rfl rfl) (by simp [D.scrub, f1, f2, e3, f4, e4] <;> omega) hK1.keys rfl (by repeat (first | exact Qr | refine Qg (by omega) ?_)) (by rw [Qny (u := (UR.mk (names5[n]'(by have := QZ; omega)) [102] (500001 + (us ++ [(UR.mk (names5[n]'(by have := QZ; omega)) [] (500001 + us.length) cs)]).length) c2))]; exact Qr) (by repeat (first | exact Qr | refine Qg (by omega) ?_)) (by intro p hp h; simp only [List.mem_cons, List.not_mem_nil, or_false] at hp; rcases hp with rfl | rfl | rfl | rfl | rfl <;> first | (simp only at h; omega) | exact .inl rfl | exact .inr rfl) hkg (by omega) (by intro p hp k hk; simp only [List.mem_cons, List.not_mem_nil, or_false] at hp; rcases hp with rfl | rfl | rfl | rfl | rfl | rfl <;> first | (simp [D.ids, D.sid, QW, QJ, ZG] at hk; done) | (simp [D.ids, D.sid, QW, QJ, ZG] at hk; subst hk; first | exact .inl rfl | exact .inr (.inl rfl) | (first | exact .inr (.inr ⟨_, List.mem_append_right _ (List.mem_singleton.2 rfl), rfl⟩) | exact .inr (.inr (.inr ⟨_, List.mem_append_right _ (List.mem_singleton.2 rfl), rfl⟩))))))
       ·try dsimp only
        exact ⟨hK1.snoc (by omega) hM.2.2, by simp; omega, by omega, by simp; omega⟩
       ·show 5 - (n + 1) < 5 - n; omega
     ·try rw [h6]
      try simp only [qa, qb, qc, qd, qe, List.length_map] at h6
      refine YB (Ql (QR (kp6 rfl rfl rfl rfl rfl rfl) (ZF fun K hK => Qa rfl (Q9 rfl rfl (by first | exact Qp (by omega) (by omega) | rfl) (Qa rfl (hK _ ?_))))))
      refine Qo (us ++ [(UR.mk (names5[n]'(by have := QZ; omega)) [] (500001 + us.length) cs)], nxI (nxI (nxI J)), n + 1) ?_ ?_ ?_
      ·exact Qpi (l := [0, 1, 5, 6, 7, 8]) (B := [_, _, _]) (kp6 rfl rfl rfl rfl rfl rfl) rfl hK1.keys (by repeat (first | exact Qr | refine Qg (by omega) ?_)) (by repeat (first | exact Qr | refine Qg (by omega) ?_)) (by intro p hp h; simp only [List.mem_cons, List.not_mem_nil, or_false] at hp; rcases hp with rfl | rfl | rfl <;> first | (simp only at h; omega) | rfl) (by omega) (by intro p hp k hk; simp only [List.mem_cons, List.not_mem_nil, or_false] at hp; rcases hp with rfl | rfl | rfl | rfl | rfl | rfl <;> first | (simp [D.ids, D.sid, QW, QJ, ZG] at hk; done) | (simp [D.ids, D.sid, QW, QJ, ZG] at hk; subst hk; first | exact .inl rfl | exact .inr (.inl rfl) | (first | exact .inr (.inr ⟨_, List.mem_append_right _ (List.mem_singleton.2 rfl), rfl⟩) | exact .inr (.inr (.inr ⟨_, List.mem_append_right _ (List.mem_singleton.2 rfl), rfl⟩)))))
      ·try dsimp only
       exact ⟨hK1, by simp; omega, by omega, by simp; omega⟩
      ·show 5 - (n + 1) < 5 - n; omega
    ·try rw [h5]
     try simp only [qa, qb, qc, qd, qe, List.length_map] at h5
     refine Qm rfl (Qm rfl (Qm rfl (Qj rfl rfl ?_)))
     refine hK _ _ (QE (kp8 rfl rfl rfl rfl rfl rfl rfl rfl) ?_)
     refine Qh0 rfl (YB (Ql (QR (kp6 rfl rfl rfl rfl rfl rfl) (ZF fun K hK => Qa rfl (Q9 rfl rfl (by first | exact Qp (by omega) (by omega) | rfl) (Qa rfl (hK _ ?_)))))))
     refine Qo (us ++ [(UR.mk (names5[n]'(by have := QZ; omega)) [] (500001 + us.length) cs)], nxI (nxI J), n + 1) ?_ ?_ ?_
     ·exact Qpi (l := [0, 1, 5, 6, 7, 8]) (B := [_, _]) (kp6 rfl rfl rfl rfl rfl rfl) rfl hK1.keys (by repeat (first | exact Qr | refine Qg (by omega) ?_)) (by repeat (first | exact Qr | refine Qg (by omega) ?_)) (by intro p hp h; simp only [List.mem_cons, List.not_mem_nil, or_false] at hp; rcases hp with rfl | rfl <;> first | (simp only at h; omega) | rfl) (by omega) (by intro p hp k hk; simp only [List.mem_cons, List.not_mem_nil, or_false] at hp; rcases hp with rfl | rfl | rfl | rfl | rfl | rfl <;> first | (simp [D.ids, D.sid, QW, QJ, ZG] at hk; done) | (simp [D.ids, D.sid, QW, QJ, ZG] at hk; subst hk; first | exact .inl rfl | exact .inr (.inl rfl) | (first | exact .inr (.inr ⟨_, List.mem_append_right _ (List.mem_singleton.2 rfl), rfl⟩) | exact .inr (.inr (.inr ⟨_, List.mem_append_right _ (List.mem_singleton.2 rfl), rfl⟩)))))
     ·try dsimp only
      exact ⟨hK1, by simp; omega, by omega, by simp; omega⟩
     ·show 5 - (n + 1) < 5 - n; omega
  ·try rw [h2]
   try simp only [qa, qb, qc, qd, qe, List.length_map] at h2
   refine QbT (YG (QI (QQ (QR (kp1 rfl) (QV fun K hK => Qa rfl (Qa rfl ?_))))))
   refine hK _ _ (QE (kp1 rfl) ?_)
   refine QeY ?_
   refine ⟨.osl 500000 us.length, ((500000, ⟨us.map dUR, 3, 37, false⟩) :: fbx 63 us) ++ [(kg, gB L (nxI J) eg), (kg, gB L I eg)], ⟨us, _, ⟨hI.1, by omega, by omega⟩, rfl, rfl⟩, (Qav (g3 := gB L J eg) hI.1.keys hkg rfl rfl (by omega)).1, (Qav (g3 := gB L J eg) hI.1.keys hkg rfl rfl (by omega)).2.1, XS rfl rfl (Qav (g3 := gB L J eg) hI.1.keys hkg rfl rfl (by omega)).2.2⟩
 ·try rw [h1]
  try simp only [qa, qb, qc, qd, qe, List.length_map] at h1
  refine Qm rfl (Qm rfl (Qm rfl (Qm rfl (Qj rfl rfl ?_))))
  refine hK _ _ (QE (kp7 rfl rfl rfl rfl rfl rfl rfl) ?_)
  refine Qh0 rfl (QbT (YG (QI (QQ (QR (kp1 rfl) (QV fun K hK => Qa rfl (Qa rfl ?_)))))))
  refine hK _ _ (QE (kp1 rfl) ?_)
  refine QeY ?_
  refine ⟨.osl 500000 us.length, ((500000, ⟨us.map dUR, 3, 37, false⟩) :: fbx 63 us) ++ [(kg, gB L (nxI J) eg), (kg, gB L I eg)], ⟨us, _, ⟨hI.1, by omega, by omega⟩, rfl, rfl⟩, (Qav (g3 := gB L J eg) hI.1.keys hkg rfl rfl (by omega)).1, (Qav (g3 := gB L J eg) hI.1.keys hkg rfl rfl (by omega)).2.1, XS rfl rfl (Qav (g3 := gB L J eg) hI.1.keys hkg rfl rfl (by omega)).2.2⟩
end Go.Proofs
namespace M25
open Go Go.Abs M3
/-! ### A world under way: one candidate after the other is filled -/
def PureC (z : CR) : Prop := z.x.sid = [] /\ z.y.sid = [] /\ z.z.sid = []
theorem PureC.all {z : CR} (h : PureC z) : ∀ d ∈ dCR z, d.sid = [] := fun d hd => by
 simp only [dCR, List.mem_cons, List.not_mem_nil, or_false] at hd
 rcases hd with rfl | rfl | rfl | rfl | rfl | rfl | rfl | rfl
 ·rfl
 ·rfl
 ·rfl
 ·rfl
 ·rfl
 ·exact h.1
 ·exact h.2.1
 ·exact h.2.2
def Qdk (u : UR) (k : Nat) (z : CR) : UR := { u with cs := u.cs.set k z }
def QbD (us : List UR) (i k : Nat) (z : CR) : List UR := us.modify i fun u => Qdk u k z
theorem Zj (us : List UR) (i k : Nat) (z : CR) : (QbD us i k z).length = us.length := List.length_modify ..
theorem Qjn (us : List UR) (i k : Nat) (z : CR) : (QbD us i k z).map dUR = us.map dUR := by
 refine List.ext_getElem (by simp [QbD]) fun j h1 h2 => ?_
 simp only [List.getElem_map, QbD, List.getElem_modify]
 split <;> simp [dUR, Qdk]
theorem Qai {us : List UR} {i k : Nat} {z : CR} {j : Nat} (h : j < us.length) : (QbD us i k z)[j]'(by rw [Zj]; exact h) = if i = j then Qdk us[j] k z else us[j] := by
 simp only [QbD, List.getElem_modify]
theorem QcP {us : List UR} {i k : Nat} {z : CR} (h : ZX us) : ZX (QbD us i k z) := fun j hj => by
 rw [Zj] at hj
 rw [Qai hj]
 split
 ·exact h j hj
 ·exact h j hj
def wA (us : List UR) (eu ec eg : Nat) (L : List Int) (J : Int) (b4 : Box) : List (Nat × Box) := [(500000, ⟨us.map dUR, 3, eu, false⟩), (12, gB L J eg), (4, b4)] ++ fbx ec us
theorem QaR {us : List UR} {eu ec eg : Nat} {L : List Int} {J : Int} {b4 : Box} (h : ZX us) {k : Nat} {b : Box} (hk : lk (wA us eu ec eg L J b4) k = some b) : (k = 500000 /\ b = ⟨us.map dUR, 3, eu, false⟩) \/ (k = 12 /\ b = gB L J eg) \/ (k = 4 /\ b = b4) \/ ∃ j, ∃ hj : j < us.length, k = 500001 + j /\ b = ⟨us[j].cs.map dCR, 8, ec, true⟩ := by
 unfold wA at hk
 rcases Qeu hk with hk | ⟨_, hk⟩
 ·simp only [List.mem_cons, List.not_mem_nil, or_false, Prod.mk.injEq] at hk
  rcases hk with h | h | h
  ·exact .inl h
  ·exact .inr (.inl h)
  ·exact .inr (.inr (.inl h))
 ·obtain ⟨u, hu, e1, e2⟩ := Qfq hk
  obtain ⟨j, hj, rfl⟩ := List.getElem_of_mem hu
  exact .inr (.inr (.inr ⟨j, hj, e1.trans (h j hj), e2⟩))
section
variable {us : List UR} {eu ec eg : Nat} {L : List Int} {J : Int} {b4 : Box}
theorem QdV : lk (wA us eu ec eg L J b4) 500000 = some ⟨us.map dUR, 3, eu, false⟩ := rfl
theorem Qdx : lk (wA us eu ec eg L J b4) 12 = some (gB L J eg) := rfl
theorem QeW : lk (wA us eu ec eg L J b4) 4 = some b4 := rfl
theorem Qcd (h : ZX us) {j : Nat} (hj : j < us.length) : lk (wA us eu ec eg L J b4) (500001 + j) = some ⟨us[j].cs.map dCR, 8, ec, true⟩ := by
 show lk ((500000, _) :: (12, _) :: (4, _) :: fbx ec us) _ = _
 rw [Qh, if_neg (by omega), Qh, if_neg (by omega), Qh, if_neg (by omega)]
 exact Qkf h hj
theorem ZP (h : ZX us) {k : Nat} (h1 : k ≠ 500000) (h2 : k ≠ 12) (h3 : k ≠ 4) (h4 : k < 500001 \/ 500001 + us.length <= k) : lk (wA us eu ec eg L J b4) k = none := by
 show lk ((500000, _) :: (12, _) :: (4, _) :: fbx ec us) _ = _
 rw [Qh, if_neg (Ne.symm h1), Qh, if_neg (Ne.symm h2), Qh, if_neg (Ne.symm h3)]
 exact Yv h h4
theorem QiH (h : ZX us) {k : Nat} (hk : k = 500000 \/ k = 12 \/ k = 4 \/ ∃ u ∈ us, k = u.k) : (lk (wA us eu ec eg L J b4) k).isSome = true := by
 rcases hk with rfl | rfl | rfl | ⟨u, hu, rfl⟩
 ·rfl
 ·rfl
 ·rfl
 ·obtain ⟨j, hj, rfl⟩ := List.getElem_of_mem hu
  rw [h j hj, Qcd h hj]; rfl
theorem XT (h : ZX us) (h4 : b4.pr = true) : Closed (wA us eu ec eg L J b4) := fun k b hk j hj => by
 rcases QaR h hk with ⟨rfl, rfl⟩ | ⟨rfl, rfl⟩ | ⟨rfl, rfl⟩ | ⟨i, hi, rfl, rfl⟩
 ·exact QiH h (.inr (.inr (.inr (QaQ hj))))
 ·simp [Box.ids, gB] at hj
 ·rw [XD h4] at hj; cases hj
 ·simp [Box.ids] at hj
theorem Qdc {α : Type} : ∀ {l : List α} {k : Nat} {a x : α}, x ∈ l.set k a -> x = a \/ x ∈ l
 | [], k, a, x, h => by simp at h
 | b :: l, 0, a, x, h => by
  simp only [List.set_cons_zero, List.mem_cons] at h ⊢
  rcases h with h | h
  ·exact .inl h
  ·exact .inr (.inr h)
 | b :: l, k + 1, a, x, h => by
  simp only [List.set_cons_succ, List.mem_cons] at h ⊢
  rcases h with h | h
  ·exact .inr (.inl h)
  ·rcases Qdc h with h | h
   ·exact .inl h
   ·exact .inr (.inr h)
theorem Qen {l : List Nat} {fr fr1 fr' : List (Nat × D)} {H : List (Nat × Box)} {i k : Nat} {row : List D} {p : Bool} (kk : Nat) (z' : CR) (hf : Q0 l fr = fr1) (ef : fr1 = fr') (hK : ZX us) (hi : i < us.length) (hk : k < us[i].cs.length)
  (hKi : lk H (500001 + i) = some ⟨(us[i].cs.map dCR).set k row, 8, ec, p⟩) (hp : p = true -> row.map (D.fzS H (· == kk)) = row) (hrow : (row.map (D.fzS H (· == kk))).map D.canS = dCR z') (hoth : ∀ z ∈ us[i].cs, PureC z) (hz : PureC z')
  (hF : ∀ j, ∀ hj : j < us.length, j ≠ i -> lk H (500001 + j) = some ⟨us[j].cs.map dCR, 8, ec, true⟩) (hu : lk H 500000 = some ⟨us.map dUR, 3, eu, false⟩) (hg : lk H 12 = some (gB L J eg)) (h4 : lk H 4 = some b4) (hb4 : b4.pr = true) (hkk : kk < 500000 /\ kk ≠ 12 /\ kk ≠ 4) (hsm : ∀ j, 1000000 <= j -> lk H j = none) (hlen : us.length <= 100)
  (hfr : ∀ p ∈ fr', ∀ j ∈ p.2.ids, j = 500000 \/ j = 12 \/ j = 4 \/ ∃ u ∈ us, j = u.k) : St.le ⟨fr, H⟩ ⟨fr', wA (QbD us i k z') eu ec eg L J b4⟩ := by
 subst hf ef
 have nokk : ∀ j, (j = 500000 \/ j = 12 \/ j = 4 \/ ∃ u ∈ us, j = u.k) -> j ≠ kk := fun j hj e => by
  subst e
  rcases hj with rfl | rfl | rfl | ⟨u, hu, rfl⟩
  ·omega
  ·exact hkk.2.1 rfl
  ·exact hkk.2.2 rfl
  ·have := (QaH hK hu).1; omega
 have eqkk : ∀ j, j ≠ kk -> (j == kk) = false := fun j hj => by simp [hj]
 have some1 : ∀ b j, (j = 500000 \/ j = 12 \/ j = 4 \/ ∃ u ∈ us, j = u.k) -> (lk ((500001 + i, b) :: wA us eu ec eg L J b4) j).isSome = true := fun b j hj => QL (QiH hK hj)
 have rowsz : ∀ r ∈ us[i].cs.map dCR, r.map (D.fzS H (· == kk)) = r := fun r hr => by
  obtain ⟨z, hzm, rfl⟩ := List.mem_map.1 hr
  exact YC fun d hd => Qc5 fun j hj => by rw [(hoth z hzm).all d hd] at hj; cases hj
 have mapz : ((us[i].cs.map dCR).set k row).map (fun r => r.map (D.fzS H (· == kk))) = (us[i].cs.map dCR).set k (row.map (D.fzS H (· == kk))) := by
  refine List.ext_getElem (by simp) fun j h1 h2 => ?_
  simp only [List.getElem_map, List.getElem_set]
  split
  ·rfl
  ·exact rowsz _ (List.mem_map_of_mem (List.getElem_mem _))
 refine le_trans (Qbe l fr H) (le_trans (QkC kk (H' := (500001 + i, ⟨(us[i].cs.map dCR).set k (row.map (D.fzS H (· == kk))), 8, ec, p⟩) :: wA us eu ec eg L J b4) (by omega) (fr' := Q0 l fr) (fun t d h => ⟨d, h, Qg6 fun j hj => eqkk j (nokk j (hfr (t, d) (Z8 h) j hj))⟩) (fun j b h => ?_) (fun t d h j hj => some1 _ j (hfr (t, d) (Z8 h) j hj)) (fun j b h j2 hj2 => ?_) fun j hj hs => ?_) ?_)
 ·rw [Qh] at h
  split at h
  ·rename_i e; cases h; subst e
   refine ⟨by omega, _, hKi, ?_⟩
   cases p with
   | true => rw [hp rfl]; rfl
   | false => show Box.mk _ _ _ _ = _; rw [mapz]
  ·rename_i e
   rcases QaR hK h with ⟨rfl, rfl⟩ | ⟨rfl, rfl⟩ | ⟨rfl, rfl⟩ | ⟨i2, hi2, rfl, rfl⟩
   ·refine ⟨by omega, _, hu, Xg (.inr fun j hj => eqkk j (nokk j (.inr (.inr (.inr (QaQ hj))))))⟩
   ·exact ⟨Ne.symm hkk.2.1, _, hg, rfl⟩
   ·exact ⟨Ne.symm hkk.2.2, _, h4, Xg (.inl hb4)⟩
   ·exact ⟨by omega, _, hF i2 hi2 (fun e2 => e (by omega)), rfl⟩
 ·rw [Qh] at h
  split at h
  ·cases h
   cases hpp : p with
   | true => rw [XD hpp] at hj2; cases hj2
   | false =>
   simp only [Box.ids, hpp, Bool.false_eq_true, if_false, List.mem_flatMap] at hj2
   obtain ⟨r, hr, d, hd, hj3⟩ := hj2
   rcases Qdc hr with rfl | hr
   ·have : (d.canS).sid = [] := hz.all _ (by rw [<- hrow]; exact List.mem_map_of_mem hd)
    rw [Qbr] at this
    rw [this] at hj3; cases hj3
   ·obtain ⟨z, hzm, rfl⟩ := List.mem_map.1 hr
    rw [(hoth z hzm).all d hd] at hj3; cases hj3
  ·exact QL (XT hK hb4 j b h j2 hj2)
 ·rw [hsm j hj] at hs; cases hs
 ·refine le_trans (QdI k Qr) (le_trans (Qf9 Qr (fun e => ?_) (fun r hr d hd => ?_)) (QaI rfl fun j => ?_))
  ·have := congrArg List.length e
   simp only [List.length_modify, List.length_set, List.length_map, List.length_nil] at this
   omega
  ·rcases Qar hr with h | ⟨y, hy, rfl⟩
   ·rcases Qdc h with rfl | h
    ·have : (d.canS).sid = [] := hz.all _ (by rw [<- hrow]; exact List.mem_map_of_mem hd)
     rwa [Qbr] at this
    ·obtain ⟨z, hzm, rfl⟩ := List.mem_map.1 h
     exact (hoth z hzm).all d hd
   ·obtain ⟨d0, hd0, rfl⟩ := List.mem_map.1 hd
    rw [Qbr]
    rcases Qdc hy with rfl | h
    ·have : (d0.canS).sid = [] := hz.all _ (by rw [<- hrow]; exact List.mem_map_of_mem hd0)
     rwa [Qbr] at this
    ·obtain ⟨z, hzm, rfl⟩ := List.mem_map.1 h
     exact (hoth z hzm).all d0 hd0
  ·have erows : ((us[i].cs.map dCR).set k (row.map (D.fzS H (· == kk)))).modify k (fun r => r.map D.canS) = ((us[i].cs.set k z').map dCR) := by
    refine List.ext_getElem (by simp) fun m h1 h2 => ?_
    simp only [List.getElem_modify, List.getElem_set, List.getElem_map]
    by_cases e : k = m
    ·subst e
     simp only [if_true]
     exact hrow
    ·simp only [if_neg e]
   have hK' := QcP (i := i) (k := k) (z := z') hK
   by_cases e : 500001 + i = j
   ·subst e
    rw [Qr, Qcd hK' (by rw [Zj]; exact hi)]
    simp only [Qai hi, if_true, erows]; rfl
   ·rw [Qh, if_neg e, Qh, if_neg e, Qh, if_neg e]
    cases h : lk (wA us eu ec eg L J b4) j with
    | none =>
     cases h' : lk (wA (QbD us i k z') eu ec eg L J b4) j with
     | none => rfl
     | some b =>
      have : (lk (wA us eu ec eg L J b4) j).isSome = true := by
       rcases QaR hK' h' with ⟨rfl, _⟩ | ⟨rfl, _⟩ | ⟨rfl, _⟩ | ⟨m, hm, rfl, _⟩
       ·rfl
       ·rfl
       ·rfl
       ·rw [Zj] at hm; rw [Qcd hK hm]; rfl
      rw [h] at this; cases this
    | some b =>
     rcases QaR hK h with ⟨rfl, rfl⟩ | ⟨rfl, rfl⟩ | ⟨rfl, rfl⟩ | ⟨m, hm, rfl, rfl⟩
     ·rw [QdV, Qjn]
     ·rfl
     ·rfl
     ·rw [Qcd hK' (by rw [Zj]; exact hm)]
      simp only [Qai hm, if_neg (show ¬ i = m by omega)]
end
theorem Qcy : ∀ {H : List (Nat × Box)} {j : Nat}, j ∈ H.map Prod.fst -> (lk H j).isSome = true
 | [], _, h => by cases h
 | (k, b) :: H, j, h => by
  by_cases e : k = j
  ·subst e; exact QN
  ·refine QL (Qcy ?_)
   simp only [List.map_cons, List.mem_cons] at h
   exact h.resolve_left (Ne.symm e)
theorem Qml {us : List UR} (h : ZX us) {i : Nat} (hi : i < us.length) : (us.map dUR)[((i : Nat) : Int).toNat]? = some [.str us[i].n, .str us[i].f, .osl (500001 + i) us[i].cs.length] := by
 rw [Int.toNat_natCast, List.getElem?_map, List.getElem?_eq_getElem hi, Option.map_some, dUR, h i hi]
theorem QoX {cs : List CR} {k : Nat} (hk : k < cs.length) : (cs.map dCR)[((k : Nat) : Int).toNat]? = some (dCR cs[k]) := by
 rw [Int.toNat_natCast, List.getElem?_map, List.getElem?_eq_getElem hk]; rfl
theorem QiD {us : List UR} {eu ec eg : Nat} {L : List Int} {J : Int} {b4 g1 : Box} (h : ZX us) (k : Nat) : lk (((500000, (⟨us.map dUR, 3, eu, false⟩ : Box)) :: fbx ec us) ++ ([(12, gB L J eg)] ++ [(12, g1), (4, b4)])) k = lk (wA us eu ec eg L J b4) k := by
 show lk ((500000, _) :: (fbx ec us ++ [(12, gB L J eg), (12, g1), (4, b4)])) k = lk ((500000, _) :: (12, _) :: (4, _) :: fbx ec us) k
 rw [Qh, Qh]
 split
 ·rfl
 ·rw [ZN]
  cases hh : lk (fbx ec us) k with
  | some v =>
   have := QfX h k v hh
   simp only
   rw [Qh, if_neg (by omega), Qh, if_neg (by omega), hh]
  | none =>
   simp only [Qh, hh]
   by_cases e : 12 = k
   ·rw [if_pos e, if_pos e]
   ·rw [if_neg e, if_neg e, if_neg e]; rfl
theorem Qjr {us : List UR} {eu ec eg : Nat} {L : List Int} {J : Int} {b4 : Box} (h : ZX us) (hv : ∀ y ∈ us, y.cs.length <= 16 /\ ∀ z ∈ y.cs, Qfc z.v) : Fam (wA us eu ec eg L J b4) 12 500000 eu ec us := by
 refine ⟨by decide, ⟨false, rfl⟩, fun y hy => ?_, hv⟩
 obtain ⟨j, hj, rfl⟩ := List.getElem_of_mem hy
 refine ⟨by rw [h j hj]; omega, true, by rw [h j hj]; exact Qcd h hj⟩
/-! ### Filled candidates -/
def Qm0 (n : Nat) (x : WantT) : Prop := 0 <= x.u /\ x.u < n /\ SetOk x.s
theorem WantIn.w {n : Nat} {x : WantT} (h : WantIn n x) : Qm0 n x := ⟨by have := h.1; omega, h.2.1, h.2.2⟩
structure XV (n : Nat) (c : CandT) : Prop where
 v : Qfc c.v
 nl : c.ns.length <= 10
 nr : ∀ r ∈ c.ns, r.length <= 2 /\ ∀ x ∈ r, Qm0 n x
 bl : c.bs.length <= 1
 bw : ∀ x ∈ c.bs, Qm0 n x
def QgD (c : CandT) : CR := ⟨c.v, .int .i64 c.sh, QJ c.ns, QW c.bs⟩
def DoneC (n : Nat) (z : CR) : Prop := ∃ c, z = QgD c /\ XV n c
def FreshC (z : CR) : Prop := ∃ v sh, z = zr v sh /\ Qfc v
theorem DoneC.pure {n : Nat} {z : CR} (h : DoneC n z) : PureC z := by obtain ⟨c, rfl, _⟩ := h; exact ⟨rfl, rfl, rfl⟩
theorem FreshC.pure {z : CR} (h : FreshC z) : PureC z := by obtain ⟨v, sh, rfl, _⟩ := h; exact ⟨rfl, rfl, rfl⟩
theorem DoneC.vr {n : Nat} {z : CR} (h : DoneC n z) : Qfc z.v := by obtain ⟨c, rfl, q⟩ := h; exact q.v
theorem FreshC.vr {z : CR} (h : FreshC z) : Qfc z.v := by obtain ⟨v, sh, rfl, q⟩ := h; exact q
structure Prog (n : Nat) (us : List UR) (i k : Nat) : Prop where
 keys : ZX us
 len : us.length = n /\ 2 <= n /\ n <= 11
 cl : ∀ u ∈ us, u.cs.length <= 4
 done : ∀ j, ∀ hj : j < us.length, ∀ m, ∀ hm : m < us[j].cs.length, (j < i \/ (j = i /\ m < k)) -> DoneC n us[j].cs[m]
 fresh : ∀ j, ∀ hj : j < us.length, ∀ m, ∀ hm : m < us[j].cs.length, ¬ (j < i \/ (j = i /\ m < k)) -> FreshC us[j].cs[m]
theorem Prog.pure {n : Nat} {us : List UR} {i k : Nat} (h : Prog n us i k) {j : Nat} (hj : j < us.length) : ∀ z ∈ us[j].cs, PureC z /\ Qfc z.v := fun z hz => by
 obtain ⟨m, hm, rfl⟩ := List.getElem_of_mem hz
 by_cases hd : j < i \/ (j = i /\ m < k)
 ·exact ⟨(h.done j hj m hm hd).pure, (h.done j hj m hm hd).vr⟩
 ·exact ⟨(h.fresh j hj m hm hd).pure, (h.fresh j hj m hm hd).vr⟩
theorem Prog.fam {n : Nat} {us : List UR} {i k : Nat} (h : Prog n us i k) : ∀ y ∈ us, y.cs.length <= 16 /\ ∀ z ∈ y.cs, Qfc z.v := fun y hy => by
 obtain ⟨j, hj, rfl⟩ := List.getElem_of_mem hy
 exact ⟨Nat.le_trans (h.cl _ hy) (by omega), fun z hz => (h.pure hj z hz).2⟩
theorem Prog.put {n : Nat} {us : List UR} {i k : Nat} (h : Prog n us i k) (hi : i < us.length) (hk : k < us[i].cs.length) {z : CR} (hz : DoneC n z) : Prog n (QbD us i k z) i (k + 1) := by
 have at' := fun (j : Nat) (hj : j < us.length) => Qai (i := i) (k := k) (z := z) hj
 refine ⟨QcP h.keys, by rw [Zj]; exact h.len, fun u hu => ?_, fun j hj m hm hd => ?_, fun j hj m hm hd => ?_⟩
 ·obtain ⟨j, hj, rfl⟩ := List.getElem_of_mem hu
  rw [Zj] at hj
  rw [at' j hj]
  split
  ·simp only [Qdk, List.length_set]; exact h.cl _ (List.getElem_mem _)
  ·exact h.cl _ (List.getElem_mem _)
 ·rw [Zj] at hj
  have e := at' j hj
  by_cases hij : i = j
  ·subst hij
   rw [if_pos rfl] at e
   have hm' : m < (Qdk us[i] k z).cs.length := by rw [<- e]; exact hm
   have e2 : (QbD us i k z)[i].cs[m] = (Qdk us[i] k z).cs[m]'hm' := by congr 1; rw [e]
   rw [e2]
   simp only [Qdk, List.getElem_set]
   split
   ·exact hz
   ·simp only [Qdk, List.length_set] at hm'
    exact h.done i hi m hm' (by omega)
  ·rw [if_neg hij] at e
   have hm' : m < us[j].cs.length := by rw [<- e]; exact hm
   have e2 : (QbD us i k z)[j].cs[m] = us[j].cs[m]'hm' := by congr 1; rw [e]
   rw [e2]; exact h.done j hj m hm' (by omega)
 ·rw [Zj] at hj
  have e := at' j hj
  by_cases hij : i = j
  ·subst hij
   rw [if_pos rfl] at e
   have hm' : m < (Qdk us[i] k z).cs.length := by rw [<- e]; exact hm
   have e2 : (QbD us i k z)[i].cs[m] = (Qdk us[i] k z).cs[m]'hm' := by congr 1; rw [e]
   rw [e2]
   simp only [Qdk, List.length_set] at hm'
   simp only [Qdk, List.getElem_set]
   rw [if_neg (by omega)]
   exact h.fresh i hi m hm' (by omega)
  ·rw [if_neg hij] at e
   have hm' : m < us[j].cs.length := by rw [<- e]; exact hm
   have e2 : (QbD us i k z)[j].cs[m] = us[j].cs[m]'hm' := by congr 1; rw [e]
   rw [e2]; exact h.fresh j hj m hm' (by omega)
theorem Prog.next {n : Nat} {us : List UR} {i k : Nat} (h : Prog n us i k) (hi : i < us.length) (hk : us[i].cs.length <= k) : Prog n us (i + 1) 0 := by
 refine ⟨h.keys, h.len, h.cl, fun j hj m hm hd => h.done j hj m hm ?_, fun j hj m hm hd => h.fresh j hj m hm (by omega)⟩
 by_cases e : j = i
 ·subst e; exact .inr ⟨rfl, by omega⟩
 ·exact .inl (by omega)
theorem Prog.again {n : Nat} {us : List UR} {i k : Nat} (h : Prog n us i (k + 1)) (hi : i < us.length) (hk : k < us[i].cs.length) {z : CR} (hz : DoneC n z) : Prog n (QbD us i k z) i (k + 1) := by
 have at' := fun (j : Nat) (hj : j < us.length) => Qai (i := i) (k := k) (z := z) hj
 refine ⟨QcP h.keys, by rw [Zj]; exact h.len, fun u hu => ?_, fun j hj m hm hd => ?_, fun j hj m hm hd => ?_⟩
 ·obtain ⟨j, hj, rfl⟩ := List.getElem_of_mem hu
  rw [Zj] at hj
  rw [at' j hj]
  split
  ·simp only [Qdk, List.length_set]; exact h.cl _ (List.getElem_mem _)
  ·exact h.cl _ (List.getElem_mem _)
 ·rw [Zj] at hj
  have e := at' j hj
  by_cases hij : i = j
  ·subst hij
   rw [if_pos rfl] at e
   have hm' : m < (Qdk us[i] k z).cs.length := by rw [<- e]; exact hm
   have e2 : (QbD us i k z)[i].cs[m] = (Qdk us[i] k z).cs[m]'hm' := by congr 1; rw [e]
   rw [e2]
   simp only [Qdk, List.getElem_set]
   split
   ·exact hz
   ·simp only [Qdk, List.length_set] at hm'
    exact h.done i hi m hm' (by omega)
  ·rw [if_neg hij] at e
   have hm' : m < us[j].cs.length := by rw [<- e]; exact hm
   have e2 : (QbD us i k z)[j].cs[m] = us[j].cs[m]'hm' := by congr 1; rw [e]
   rw [e2]; exact h.done j hj m hm' (by omega)
 ·rw [Zj] at hj
  have e := at' j hj
  by_cases hij : i = j
  ·subst hij
   rw [if_pos rfl] at e
   have hm' : m < (Qdk us[i] k z).cs.length := by rw [<- e]; exact hm
   have e2 : (QbD us i k z)[i].cs[m] = (Qdk us[i] k z).cs[m]'hm' := by congr 1; rw [e]
   rw [e2]
   simp only [Qdk, List.length_set] at hm'
   simp only [Qdk, List.getElem_set]
   rw [if_neg (by omega)]
   exact h.fresh i hi m hm' (by omega)
  ·rw [if_neg hij] at e
   have hm' : m < us[j].cs.length := by rw [<- e]; exact hm
   have e2 : (QbD us i k z)[j].cs[m] = us[j].cs[m]'hm' := by congr 1; rw [e]
   rw [e2]; exact h.fresh j hj m hm' (by omega)
theorem QkA {l : List Nat} {fr fr1 fr' : List (Nat × D)} {us : List UR} {eu ec eg e1 e3 : Nat} {L : List Int} {J : Int} {b4 bK : Box} {i : Nat} {x : WantT} (hf : Q0 l fr = fr1) (ef : fr1 = fr') (hK : ZX us) (hi : i < us.length) (hb4 : b4.pr = true) (hbK : ∀ j ∈ bK.ids, j = 64)
  (hfr : ∀ p ∈ fr', ∀ j ∈ p.2.ids, j = 500000 \/ j = 12 \/ j = 4 \/ ∃ u ∈ us, j = u.k) :
  St.le ⟨fr, (500001 + i, bK) :: (64, ⟨[[.osl 63 1]], 1, e1, false⟩) :: (63, ⟨[Qe1 x], 3, e3, true⟩) :: wA us eu ec eg L J b4⟩ ⟨fr', (500001 + i, bK) :: (64, ⟨[[QW [x]]], 1, e1, true⟩) :: wA us eu ec eg L J b4⟩ := by
 subst hf ef
 have no63 : ∀ j, (j = 500000 \/ j = 12 \/ j = 4 \/ ∃ u ∈ us, j = u.k) -> j ≠ 63 := fun j hj e => by
  subst e
  rcases hj with h | h | h | ⟨u, hu, h⟩
  ·cases h
  ·cases h
  ·cases h
  ·have := (QaH hK hu).1; omega
 have eq63 : ∀ j, j ≠ 63 -> (j == 63) = false := fun j hj => by simp [hj]
 have up : ∀ b b' j, (lk (wA us eu ec eg L J b4) j).isSome = true -> (lk ((500001 + i, b) :: (64, b') :: wA us eu ec eg L J b4) j).isSome = true := fun b b' j hj => QL (QL hj)
 refine le_trans (Qbe l fr _) (le_trans (QkC 63 (H' := (500001 + i, bK) :: (64, ⟨[[QW [x]]], 1, e1, false⟩) :: wA us eu ec eg L J b4) (by decide) (fr' := Q0 l fr) (fun t d h => ⟨d, h, Qg6 fun j hj => eq63 j (no63 j (hfr (t, d) (Z8 h) j hj))⟩) (fun j b h => ?_) (fun t d h j hj => up _ _ j (QiH hK (hfr (t, d) (Z8 h) j hj))) (fun j b h j2 hj2 => ?_) fun j hj hs => ?_) ?_)
 ·rw [Qh] at h
  split at h
  ·rename_i e; cases h; subst e
   refine ⟨by omega, _, Qr, Xg (.inr fun j hj => ?_)⟩
   rw [hbK j hj]; rfl
  ·rename_i e
   rw [Qh] at h
   split at h
   ·rename_i e2; cases h; subst e2
    refine ⟨by decide, _, Qg e Qr, ?_⟩
    have h63 : lk ((500001 + i, bK) :: (64, (⟨[[.osl 63 1]], 1, e1, false⟩ : Box)) :: (63, ⟨[Qe1 x], 3, e3, true⟩) :: wA us eu ec eg L J b4) 63 = some ⟨[Qe1 x], 3, e3, true⟩ := Qg (by omega) (Qg (by decide) Qr)
    simp only [Box.fz, Bool.false_eq_true, if_false, List.map_cons, List.map_nil, D.fzS, beq_self_eq_true, if_true, h63, List.length_singleton, and_self, QW]
   ·rename_i e2
    have h2 : lk ((500001 + i, bK) :: (64, (⟨[[.osl 63 1]], 1, e1, false⟩ : Box)) :: (63, ⟨[Qe1 x], 3, e3, true⟩) :: wA us eu ec eg L J b4) j = some b := by
     have hj : j ≠ 63 := by
      rcases QaR hK h with ⟨rfl, _⟩ | ⟨rfl, _⟩ | ⟨rfl, _⟩ | ⟨m, _, rfl, _⟩ <;> omega
     exact Qg e (Qg e2 (Qg (Ne.symm hj) h))
    rcases QaR hK h with ⟨rfl, rfl⟩ | ⟨rfl, rfl⟩ | ⟨rfl, rfl⟩ | ⟨m, hm, rfl, rfl⟩
    ·exact ⟨by decide, _, h2, Xg (.inr fun j hj => eq63 j (no63 j (.inr (.inr (.inr (QaQ hj))))))⟩
    ·exact ⟨by decide, _, h2, rfl⟩
    ·exact ⟨by decide, _, h2, Xg (.inl hb4)⟩
    ·exact ⟨by omega, _, h2, rfl⟩
 ·rw [Qh] at h
  split at h
  ·cases h
   rw [hbK j2 hj2]; exact QL QN
  ·rw [Qh] at h
   split at h
   ·cases h; simp [Box.ids, D.sid, QW] at hj2
   ·exact up _ _ j2 (XT hK hb4 j b h j2 hj2)
 ·by_cases e : 500001 + i = j
  ·subst e; exact QN
  ·rw [Qh, if_neg e, Qh, if_neg (by omega), Qh, if_neg (by omega)] at hs
   exact up _ _ j hs
 ·have h64 : lk ((500001 + i, bK) :: (64, (⟨[[QW [x]]], 1, e1, false⟩ : Box)) :: wA us eu ec eg L J b4) 64 = some ⟨[[QW [x]]], 1, e1, false⟩ := Qg (by omega) Qr
  refine le_trans (Qf9 h64 (by simp) (by intro r hr d hd; simp only [List.mem_singleton] at hr; subst hr; simp only [List.mem_singleton] at hd; subst hd; rfl)) (QaI rfl fun j => ?_)
  by_cases e : 64 = j
  ·subst e; rw [Qr, Qh, if_neg (by omega), Qr]
  ·by_cases eK : 500001 + i = j
   ·subst eK; rw [Qh, if_neg e, Qr, Qr]
   ·rw [Qh, if_neg e, Qh, if_neg eK, Qh, if_neg e, Qh, if_neg eK, Qh, if_neg e]
theorem Qkc {n : Nat} : ∀ {cs : List CR}, (∀ z ∈ cs, DoneC n z) -> ∃ l : List CandT, cs = l.map QgD /\ ∀ c ∈ l, XV n c
 | [], _ => ⟨[], rfl, by simp⟩
 | z :: cs, h => by
  obtain ⟨l, h1, h2⟩ := Qkc (cs := cs) fun y hy => h y (by simp [hy])
  obtain ⟨c, rfl, hc⟩ := h z (by simp)
  exact ⟨c :: l, by rw [h1]; rfl, fun y hy => by
   rcases List.mem_cons.1 hy with rfl | hy
   ·exact hc
   ·exact h2 y hy⟩
def QnX (n : Nat) (u : UR) (x : Qlq) : Prop := x.n = u.n /\ x.f = u.f /\ u.cs = x.cs.map QgD /\ ∀ c ∈ x.cs, XV n c
theorem Qkd {n : Nat} : ∀ {us : List UR}, (∀ u ∈ us, ∀ z ∈ u.cs, DoneC n z) -> ∃ w : Qs, w.length = us.length /\ ∀ j, ∀ h : j < us.length, ∀ h' : j < w.length, QnX n us[j] w[j]
 | [], _ => ⟨[], rfl, fun j h => by simp at h⟩
 | u :: us, h => by
  obtain ⟨w, h1, h2⟩ := Qkd (us := us) fun y hy => h y (by simp [hy])
  obtain ⟨l, q1, q2⟩ := Qkc (h u (by simp))
  refine ⟨⟨u.n, u.f, l⟩ :: w, by simp [h1], fun j hj hj' => ?_⟩
  cases j with
  | zero => exact ⟨rfl, rfl, q1, q2⟩
  | succ j => simp only [List.getElem_cons_succ]; exact h2 j (by simpa using hj) (by simpa using hj')
structure Qlr (w : Qs) : Prop where
 sm : WSm w
 len : 2 <= w.length /\ w.length <= 11
 cs : ∀ u ∈ w, u.cs.length <= 4
 cand : ∀ u ∈ w, ∀ c ∈ u.cs, XV w.length c
theorem Qnn {w : Qs} (h2 : 2 <= w.length) (h11 : w.length <= 11) (hc : ∀ u ∈ w, u.cs.length <= 4) (hd : ∀ u ∈ w, ∀ c ∈ u.cs, XV w.length c) : Qlr w := by
 refine ⟨⟨by omega, fun u hu => Nat.le_trans (hc u hu) (by omega), fun u hu c hcm => (hd u hu c hcm).v, fun u hu c hcm => ⟨Nat.le_trans (hd u hu c hcm).nl (by omega), Nat.le_trans (hd u hu c hcm).bl (by omega)⟩, fun u hu c hcm r hr => Nat.le_trans ((hd u hu c hcm).nr r hr).1 (by omega), fun u hu c hcm r hr x hx => (((hd u hu c hcm).nr r hr).2 x hx).2.2.sm, fun u hu c hcm x hx => ((hd u hu c hcm).bw x hx).2.2.sm⟩, ⟨h2, h11⟩, hc, hd⟩
theorem QlP {n : Nat} {us : List UR} {eu ec eg : Nat} {L : List Int} {J : Int} {b4 : Box} {k : Nat} (h : Prog n us us.length k) (hb4 : b4.pr = true) :
  ∃ w : Qs, w.length = us.length /\ Qlr w /\ ∀ {l : List Nat} {fr fr1 fr' : List (Nat × D)}, Q0 l fr = fr1 -> fr1 = fr' -> (∀ p ∈ fr', ∀ j ∈ p.2.ids, j = 500000 \/ j = 4) -> St.le ⟨fr, wA us eu ec eg L J b4⟩ ⟨fr', [(500000, ⟨w.map QaY, 3, eu, true⟩), (4, b4)]⟩ := by
 obtain ⟨w, hw1, hw2⟩ := Qkd (n := n) (us := us) fun u hu z hz => by
  obtain ⟨j, hj, rfl⟩ := List.getElem_of_mem hu
  obtain ⟨m, hm, rfl⟩ := List.getElem_of_mem hz
  exact h.done j hj m hm (.inl hj)
 have hcs : ∀ u ∈ w, u.cs.length <= 4 /\ ∀ c ∈ u.cs, XV n c := fun u hu => by
  obtain ⟨j, hj, rfl⟩ := List.getElem_of_mem hu
  obtain ⟨_, _, q3, q4⟩ := hw2 j (by omega) hj
  have := h.cl us[j] (List.getElem_mem _)
  rw [q3, List.length_map] at this
  exact ⟨this, q4⟩
 have hlen := h.len
 refine ⟨w, hw1, Qnn (by omega) (by omega) (fun u hu => (hcs u hu).1) (fun u hu c hc => by have := (hcs u hu).2 c hc; rwa [show w.length = n by omega]), ?_⟩
 intro l fr fr1 fr' hf ef hfr
 subst hf ef
 have hK := h.keys
 let S : Nat -> Bool := fun k => decide (500001 <= k) && decide (k < 1000000)
 have hS1 : ∀ k, k < 500001 -> S k = false := fun k hk => by
  show (decide (500001 <= k) && decide (k < 1000000)) = false
  rw [decide_eq_false (by omega)]; rfl
 have hS2 : ∀ k, 500001 <= k -> k < 1000000 -> S k = true := fun k h1 h2 => by
  show (decide (500001 <= k) && decide (k < 1000000)) = true
  rw [decide_eq_true h1, decide_eq_true h2]; rfl
 have hrow : ∀ j, ∀ h1 : j < us.length, ∀ h2 : j < w.length, (dUR us[j]).map (D.fzS (wA us eu ec eg L J b4) S) = QaY w[j] := fun j h1 h2 => by
  obtain ⟨q1, q2, q3, q4⟩ := hw2 j h1 h2
  have hk := hK j h1
  have hc := Qcd (eu := eu) (ec := ec) (eg := eg) (L := L) (J := J) (b4 := b4) hK h1
  generalize us[j] = u at q1 q2 q3 hk hc
  generalize w[j] = x at q1 q2 q3 q4
  obtain ⟨un, uf, uk, ucs⟩ := u
  simp only at q1 q2 q3 hk hc
  subst hk q3
  simp only [dUR, QaY, List.map_cons, List.map_nil, D.fzS]
  rw [hS2 _ (by omega) (by omega), hc]
  simp only [if_true, true_and, List.length_map, q1, q2, Qj7, List.map_map]
  rfl
 have hrows : (us.map dUR).map (fun r => r.map (D.fzS (wA us eu ec eg L J b4) S)) = w.map QaY := by
  refine List.ext_getElem (by simp [hw1]) fun j h1 h2 => ?_
  simp only [List.getElem_map]
  exact hrow j (by simpa using h1) (by simpa using h2)
 refine le_trans (Qbe l fr _) (le_trans (Qni S (fun k hk => by
  simp only [S, Bool.and_eq_true, decide_eq_true_eq] at hk; exact hk.2) (fr' := Q0 l fr) (H' := [(500000, ⟨w.map QaY, 3, eu, false⟩), (4, b4)]) (fun t d hd => ⟨d, hd, Qg6 fun j hj => ?_⟩) (fun j b hj => ?_) (fun t d hd j hj => ?_) (fun j b hb i hi => ?_) fun j hj hs => ?_) (le_trans (Qf9 (k := 500000) (b := ⟨w.map QaY, 3, eu, false⟩) rfl (fun e => ?_) (fun r hr d hd => ?_)) (QaI rfl fun j => ?_)))
 ·rcases hfr (t, d) (Z8 hd) j hj with rfl | rfl
  ·exact hS1 _ (by decide)
  ·exact hS1 _ (by decide)
 ·rw [Qh] at hj
  split at hj
  ·rename_i e; cases hj; subst e
   refine ⟨hS1 _ (by decide), _, QdV, ?_⟩
   simp only [Box.fz, Bool.false_eq_true, if_false, hrows]
  ·rw [Qh] at hj
   split at hj
   ·rename_i e; cases hj; subst e
    exact ⟨hS1 _ (by decide), _, QeW, Xg (.inl hb4)⟩
   ·cases hj
 ·rcases hfr (t, d) (Z8 hd) j hj with rfl | rfl
  ·rfl
  ·rfl
 ·rw [Qh] at hb
  split at hb
  ·cases hb
   simp only [Box.ids, Bool.false_eq_true, if_false, List.mem_flatMap, List.mem_map] at hi
   obtain ⟨r, ⟨u, _, rfl⟩, d, hd, hi⟩ := hi
   simp only [QaY, List.mem_cons, List.not_mem_nil, or_false] at hd
   rcases hd with rfl | rfl | rfl <;> simp [D.sid, Qj7] at hi
  ·rw [Qh] at hb
   split at hb
   ·cases hb; rw [XD hb4] at hi; cases hi
   ·cases hb
 ·obtain ⟨b, hb⟩ := Option.isSome_iff_exists.1 hs
  rcases QaR hK hb with ⟨rfl, _⟩ | ⟨rfl, _⟩ | ⟨rfl, _⟩ | ⟨m, hm, rfl, _⟩ <;> omega
 ·have := congrArg List.length e
  simp only [List.length_map, List.length_nil] at this
  omega
 ·obtain ⟨u, _, rfl⟩ := List.mem_map.1 hr
  simp only [QaY, List.mem_cons, List.not_mem_nil, or_false] at hd
  rcases hd with rfl | rfl | rfl <;> rfl
 ·by_cases e : 500000 = j
  ·subst e; rfl
  ·rw [Qh, if_neg e, Qh, if_neg e]; rw [Qh (k := 500000), if_neg e]
def Qh9 (us : List UR) (i : Nat) : Nat := match us[i]? with
 | some u => u.cs.length
 | none => 0
theorem Qaa {us : List UR} {i : Nat} (h : i < us.length) : Qh9 us i = us[i].cs.length := by rw [Qh9, List.getElem?_eq_getElem h]
theorem X1 (us : List UR) (i k : Nat) (z : CR) : Qh9 (QbD us i k z) i = Qh9 us i := by
 by_cases h : i < us.length
 ·rw [Qaa h, Qaa (by rw [Zj]; exact h), Qai h, if_pos rfl]
  simp [Qdk]
 ·have e : (QbD us i k z).length = us.length := Zj ..
  rw [Qh9, Qh9, List.getElem?_eq_none (show us.length <= i by omega), List.getElem?_eq_none (show (QbD us i k z).length <= i by omega)]
theorem QhH {us : List UR} {i k : Nat} {z : CR} (hi : i < us.length) (hk : k < us[i].cs.length) {us2 : List UR} (e : us2 = QbD us i k z) (hi2 : i < us2.length) (hk2 : k < us2[i].cs.length) : us2[i].cs[k] = z := by
 subst e
 have e1 := Qai (i := i) (k := k) (z := z) hi
 rw [if_pos rfl] at e1
 have e2 : (QbD us i k z)[i].cs[k] = (Qdk us[i] k z).cs[k]'(by simpa [Qdk] using hk) := by congr 1; rw [e1]
 rw [e2]; simp [Qdk]
theorem Qm9 {cs : List CR} {k : Nat} {z : CR} (hk : k < cs.length) (hz : cs[k] = z) : (cs.map dCR)[((k : Nat) : Int).toNat]? = some (dCR z) := by rw [QoX hk, hz]
theorem QmM {cs : List CR} {k : Nat} {row : List D} (hk : k < cs.length) : ((cs.map dCR).set ((k : Nat) : Int).toNat row)[((k : Nat) : Int).toNat]? = some row := by
 rw [Int.toNat_natCast, List.getElem?_set_self (by simpa using hk)]
theorem Qhg {K k e t : Nat} {L : List (List D)} {r1 r2 : List D} {p : Bool} {H : List (Nat × Box)} : lk ((K, (⟨(L.set k r1).set k r2, e, t, p⟩ : Box)) :: H) K = some ⟨L.set k r2, e, t, p⟩ := by rw [Qr, List.set_set]
theorem QdH {H : List (Nat × Box)} {kk m e t : Nat} {ys : List (List D)} {v : Vr} {sh : Int} (h : lk H kk = some ⟨ys, e, t, true⟩) (hm : m = ys.length) : ([D.int .i64 v.a, .int .i64 v.b, .int .i64 v.c, .str v.p, .str v.q, .int .i64 sh, .osl kk m, .fsl []].map (D.fzS H (· == kk))).map D.canS = [.int .i64 v.a, .int .i64 v.b, .int .i64 v.c, .str v.p, .str v.q, .int .i64 sh, .sl ys, .sl []] := by
 simp only [List.map_cons, List.map_nil, D.fzS, beq_self_eq_true, if_true, h, hm, and_self, D.canS]
theorem Qkn {H : List (Nat × Box)} {kk m e t : Nat} {ys : List (List D)} {v : Vr} {sh : Int} {ns : List (List WantT)} (h : lk H kk = some ⟨ys, e, t, true⟩) (hm : m = ys.length) : ([D.int .i64 v.a, .int .i64 v.b, .int .i64 v.c, .str v.p, .str v.q, .int .i64 sh, QJ ns, .osl kk m].map (D.fzS H (· == kk))).map D.canS = [.int .i64 v.a, .int .i64 v.b, .int .i64 v.c, .str v.p, .str v.q, .int .i64 sh, QJ ns, .sl ys] := by
 simp only [QJ, List.map_cons, List.map_nil, D.fzS, beq_self_eq_true, if_true, h, hm, and_self, D.canS]
theorem QoE {us : List UR} {eu ec eg : Nat} {L : List Int} {J J2 : Int} {b4 : Box} (k : Nat) : lk ((12, gB L J2 eg) :: wA us eu ec eg L J b4) k = lk (wA us eu ec eg L J2 b4) k := by
 show lk ((12, _) :: (500000, _) :: (12, _) :: (4, _) :: fbx ec us) k = lk ((500000, _) :: (12, _) :: (4, _) :: fbx ec us) k
 by_cases e : 12 = k
 ·subst e; rfl
 ·rw [Qh, if_neg e, Qh, Qh (k := 500000)]
  split
  ·rfl
  ·rw [Qh, if_neg e, Qh (k := 12), if_neg e]
theorem Qit {cs : List CR} {k e t : Nat} {row : List D} (h : ∀ z ∈ cs, PureC z) (hr : ∀ d ∈ row, ∀ j ∈ d.sid, j = 64) : ∀ j ∈ Box.ids ⟨(cs.map dCR).set k row, e, t, false⟩, j = 64 := fun j hj => by
 simp only [Box.ids, Bool.false_eq_true, if_false, List.mem_flatMap] at hj
 obtain ⟨r, hrm, d, hd, hj⟩ := hj
 rcases Qdc hrm with rfl | hrm
 ·exact hr d hd j hj
 ·obtain ⟨z, hz, rfl⟩ := List.mem_map.1 hrm
  rw [(h z hz).all d hd] at hj; cases hj
theorem Qpl {us : List UR} {eu ec eg : Nat} {L : List Int} {J : Int} {b4 b64 : Box} {n i k : Nat} (h : Prog n us i k) (hi : i < us.length) (hk : k < us[i].cs.length) {zx : CR} (hv : Qfc zx.v) (hrow : zx.x.sid = [] /\ zx.y.sid = [64] /\ zx.z.sid = []) (hb4 : b4.pr = true) (h64 : b64.pr = true) :
  Fam ((500001 + i, ⟨(us[i].cs.map dCR).set k (dCR zx), 8, ec, false⟩) :: (64, b64) :: wA us eu ec eg L J b4) 12 500000 eu ec (QbD us i k zx) /\ Closed ((500001 + i, ⟨(us[i].cs.map dCR).set k (dCR zx), 8, ec, false⟩) :: (64, b64) :: wA us eu ec eg L J b4) := by
 refine ⟨⟨by decide, ⟨false, ?_⟩, fun y hy => ?_, fun y hy => ?_⟩, ?_⟩
 ·rw [Qh, if_neg (by omega), Qh, if_neg (by decide), QdV, Qjn]
 ·obtain ⟨j, hj, rfl⟩ := List.getElem_of_mem hy
  have hK' := QcP (i := i) (k := k) (z := zx) h.keys
  have hj' := hj
  rw [Zj] at hj'
  refine ⟨by rw [hK' j hj]; omega, ?_⟩
  rw [hK' j hj]
  by_cases e : i = j
  ·subst e
   refine ⟨false, ?_⟩
   rw [Qr, Qai hj', if_pos rfl, Qdk, List.map_set]
  ·refine ⟨true, ?_⟩
   rw [Qh, if_neg (by omega), Qh, if_neg (by omega), Qcd h.keys hj', Qai hj', if_neg e]
 ·obtain ⟨j, hj, rfl⟩ := List.getElem_of_mem hy
  have hj' := hj
  rw [Zj] at hj'
  rw [Qai hj']
  have hfam := h.fam us[j] (List.getElem_mem _)
  split
  ·refine ⟨by simpa [Qdk] using hfam.1, fun z hz => ?_⟩
   rcases Qdc hz with rfl | hz
   ·exact hv
   ·exact hfam.2 z hz
  ·exact hfam
 ·refine ((XT h.keys hb4).pr h64).cons fun j hj => ?_
  have := Qit (e := 8) (t := ec) (k := k) (row := dCR zx) (fun z hz => (h.pure hi z hz).1) (fun d hd j hj => by
   simp only [dCR, List.mem_cons, List.not_mem_nil, or_false] at hd
   rcases hd with rfl | rfl | rfl | rfl | rfl | rfl | rfl | rfl
   ·cases hj
   ·cases hj
   ·cases hj
   ·cases hj
   ·cases hj
   ·rw [hrow.1] at hj; cases hj
   ·rw [hrow.2.1] at hj; simpa using hj
   ·rw [hrow.2.2] at hj; cases hj) j hj
  subst this; exact QN
theorem Prog.start {us : List UR} (h : UnitsIn us) (h2 : 2 <= us.length) (h11 : us.length <= 11) : Prog us.length us 0 0 := by
 refine ⟨h.keys, ⟨rfl, h2, h11⟩, fun u hu => (h.fresh u hu).1, fun j hj m hm hd => by omega, fun j hj m hm _ => ?_⟩
 obtain ⟨v, sh, e, hv⟩ := (h.fresh _ (List.getElem_mem hj)).2 _ (List.getElem_mem hm)
 exact ⟨v, sh, e, hv⟩
theorem Qc2 {n : Nat} {m : Int} {v : Vr} {sh : Int} {ns : List (List WantT)} (hv : Qfc v) (h : QdY n m ns) (hm : m <= 3) : XV n ⟨v, sh, ns, []⟩ :=
 ⟨hv, by show ns.length <= 10; have := h.1; omega, fun r hr => ⟨(h.2 r hr).1, fun x hx => ((h.2 r hr).2 x hx).w⟩, Nat.zero_le _, fun x hx => by cases hx⟩
theorem QgW {n i : Nat} {m : Int} {v : Vr} {sh : Int} {ns : List (List WantT)} (hv : Qfc v) (h : QdY n m ns) (hm : m <= 3) (h1 : 1 <= i) (hi : i < n) : XV n ⟨v, sh, [⟨(i : Int) - 1, YP v.a v.b v.c v.p v.q⟩] :: ns, []⟩ := by
 refine ⟨hv, by show (_ :: ns).length <= 10; have := h.1; simp only [List.length_cons]; omega, fun r hr => ?_, Nat.zero_le _, fun x hx => by cases hx⟩
 rcases List.mem_cons.1 hr with rfl | hr
 ·refine ⟨by simp, fun x hx => ?_⟩
  simp only [List.mem_singleton] at hx; subst hx
  have := Qbv (a := v.a) (b := v.b) (c := v.c) (q := v.q) hv.1
  exact ⟨by show 0 <= (i : Int) - 1; omega, by show (i : Int) - 1 < n; omega, this.1.up (by omega), this.2.up (by omega)⟩
 ·exact ⟨(h.2 r hr).1, fun x hx => ((h.2 r hr).2 x hx).w⟩
theorem QgV {n : Nat} {v : Vr} {sh : Int} {ns : List (List WantT)} (h : XV n ⟨v, sh, ns, []⟩) {x : WantT} (hx : WantIn n x) : XV n ⟨v, sh, ns, [x]⟩ := ⟨h.v, h.nl, h.nr, by simp, by intro y hy; simp only [List.mem_singleton] at hy; subst hy; exact hx.w⟩
theorem QhI {us : List UR} {i k : Nat} {z : CR} (hi : i < us.length) (hk : k < us[i].cs.length) {us2 : List UR} (e : QbD us i k z = us2) (hi2 : i < us2.length) : k < us2[i].cs.length := by
 rw [<- Qaa hi2, <- e, X1, Qaa hi]; exact hk
theorem QmJ {l : List (List WantT)} : ∀ r ∈ l.map (fun r => [QW r]), r.length = 1 := fun r hr => by obtain ⟨x, _, rfl⟩ := List.mem_map.1 hr; rfl
end M25
namespace Go.Proofs
open Go Go.Abs M3 M25
set_option linter.unusedVariables false
set_option linter.unusedSimpArgs false
theorem Qnp {kg : Nat} {L : List Int} {I most : Int} {eg eu ec : Nat} (heu : eu = 37) (hec : ec = 63) (hL : ∀ x ∈ L, I64 x) (hm0 : 1 <= most) (hm1 : most <= 5) :
  ∃ us I2, (UnitsIn us /\ 2 <= us.length /\ us.length <= 11) /\ ∀ (st : St) (args : List Opd), Zm st args = some [.ref kg 0 0, .int .i64 most] -> lk st.H kg = some (gB L I eg) -> (∀ j, 500000 <= j -> lk st.H j = none) -> QaX Try.prog 22 args st [(kg, gB L I eg)] ((500000, ⟨us.map dUR, 3, eu, false⟩) :: fbx ec us) [(kg, gB L I2 eg)] (.osl 500000 us.length) := by
 obtain ⟨d, H2, ⟨us, I2, hus, rfl, rfl⟩, hok⟩ := QbJ (kg := upN kg) (I := I) (eg := eg) heu hec (by unfold upN; omega) hL hm0 hm1
 refine ⟨us, I2, hus, fun st args ha hg hs => ⟨_, ha, fun k b h => ?_, fun k b h j hj => ?_, fun x hx j hj => ?_, fun k b h => ?_, fun k b h => ?_, fun k hk => ?_, hok⟩⟩
 ·obtain ⟨rfl, rfl⟩ := Xx h; exact hg
 ·obtain ⟨rfl, rfl⟩ := Xx h; simp [Box.ids, gB] at hj
 ·simp only [List.mem_cons, List.not_mem_nil, or_false] at hx
  rcases hx with rfl | rfl
  ·simp [D.ids, D.sid] at hj; subst hj; exact QN
  ·simp [D.ids, D.sid] at hj
 ·obtain ⟨rfl, rfl⟩ := Xx h
  exact ⟨QN, fun j hj => by simp [Box.ids, gB] at hj⟩
 ·have hK := hus.1.keys
  rw [Qh] at h
  split at h
  ·rename_i e; cases h; subst e
   refine ⟨by decide, hs _ (Nat.le_refl _), fun j hj => ?_⟩
   obtain ⟨u, hu, rfl⟩ := QaQ hj
   exact QL (Qcq hK hu)
  ·obtain ⟨u, hu, rfl, rfl⟩ := Qfq h
   have := QaH hK hu
   exact ⟨by omega, hs _ (by omega), fun j hj => by simp [Box.ids] at hj⟩
 ·simp [D.ids, D.sid] at hk; subst hk; exact QN
theorem Qin {H : List (Nat × Box)} {kg ku : Nat} {L : List Int} {I most : Int} {eg eu ec : Nat} {us : List UR} (hg : lk H kg = some (gB L I eg)) (hU : Fam H kg ku eu ec us) (hC : Closed H) (hL : ∀ x ∈ L, I64 x) (h2 : 2 <= us.length) (hn : us.length <= 48) (hm0 : 0 <= most) (hm1 : most <= 10) :
  ∃ ns I2, QdY us.length most ns /\ ∀ (st : St) (args : List Opd), Zm st args = some [.ref kg 0 0, .osl ku us.length, .int .i64 most] -> (∀ j x, lk H j = some x -> lk st.H j = some x) -> QaX Try.prog 23 args st H [] [(kg, gB L I2 eg)] (QJ ns) := by
 obtain ⟨d, H2, ⟨ns, I2, hx, rfl, rfl⟩, hok⟩ := QbI (H := upH H) (kg := upN kg) (ku := upN ku) (L := L) (I := I) (most := most) (eg := eg) (eu := eu) (ec := ec) (us := us.map UR.ren) (by unfold upN; omega) (by rw [X4, hg]; rfl) hU.up QiE (Qdm hC) hL (by simpa using h2) (by simpa using hn) hm0 hm1
 obtain ⟨pu, hu⟩ := hU.u
 rw [List.length_map] at hx hok
 refine ⟨ns, I2, hx, fun st args ha hF => QiQ (b' := gB L I2 eg) (ds' := [.ref (upN kg) 0 0, .osl (upN ku) us.length, .int .i64 most]) ha hF hC (fun x hx j hj => ?_) (Zh hg) rfl rfl rfl rfl hok⟩
 simp only [List.mem_cons, List.not_mem_nil, or_false] at hx
 rcases hx with rfl | rfl | rfl
 ·simp [D.ids, D.sid] at hj; subst hj; exact Zh hg
 ·simp [D.ids, D.sid] at hj; subst hj; exact Zh hu
 ·simp [D.ids, D.sid] at hj
theorem QbH {ws : List Int} (hL : ∀ x ∈ ws, I64 x) {most : Int} (hm0 : 1 <= most) (hm1 : most <= 5) : ∃ d, (∃ w, Qlr w /\ d = YY w) /\ Ok Try.prog 6 [ZG ws, .int .i64 most] d := by
 refine Ok.ofX (R := fun d => (∃ w, Qlr w /\ d = YY w)) Yb Try.func6 tp6 (Nat.le_of_ble_eq_true rfl) ?_
 show TX _ _ tf6.body _ _
 obtain ⟨us0, J0, ⟨hU, hu2, hu11⟩, hc0⟩ := Qnp (kg := 12) (L := ws) (I := 0) (most := most) (eg := 55) rfl rfl hL hm0 hm1
 have hU0 := Prog.start hU hu2 hu11
 obtain ⟨z0, rest0, hfirst⟩ := hU.first
 have hi0 : 0 < us0.length := by omega
 have hcl0 : us0[0].cs = [z0] := by subst hfirst; rfl
 have hk0 : 0 < us0[0].cs.length := by rw [hcl0]; exact Nat.zero_lt_one
 obtain ⟨va, sha, hza, hva⟩ := hU0.fresh 0 hi0 0 hk0 (by omega)
 obtain ⟨ns0, J00, hns0, hc00⟩ := Qin (H := wA (us0) 37 63 55 ws (J0) ⟨[[.fsl []]], 1, 27, true⟩) (most := 3) Qdx (Qjr hU.keys hU0.fam) (XT hU.keys rfl) hL hu2 (by omega) (by decide) (by decide)
 refine QV fun K hK => ZE rfl ?_
 refine hK _ _ (QE (kp3 rfl rfl rfl) ?_)
 refine QV fun K hK => Qa rfl (QP rfl rfl (ZV rfl rfl rfl (Qa rfl ?_)))
 refine hK _ _ (QE (kp3 rfl rfl rfl) ?_)
 refine QV fun K hK => Qa rfl (Qa rfl (Yp (hc0 _ _ rfl rfl (by intro j hj; rw [Qh, if_neg (by omega), Qh, if_neg (by omega)]; rfl)) (Qa rfl ?_)))
 refine hK _ _ (QE (kp3 rfl rfl rfl) ?_)
 refine QjX (QaI rfl (QiD hU.keys)) (QV fun K hK => Qa rfl (Qal (ds0 := [7, 6, 2, 1, 0]) rfl rfl rfl (by simp) (by omega) (by omega) rfl (by first | rfl | ((try simp only [QJ, D.ids, D.sid]); simp only [Dr.ok, Ze, Zf, Zg, List.all_append, List.all_cons, List.all_nil, Bool.and_true, Bool.true_and]; (try rw [Zr (by rfl)]); simp [D.ids, D.sid]; done) | ((try simp only [QJ, D.ids, D.sid]); simp only [Dr.ok, Ze, Zf, Zg, List.all_append, List.all_cons, List.all_nil, Bool.and_true, Bool.true_and]; (try rw [Zr (by rfl)]); simp [D.ids, D.sid]; omega)) rfl (Qi rfl rfl (Zb (ds0 := [2, 1, 0]) rfl (ZY rfl (Qml (i := 0) hU.keys hi0)) rfl (by first | rfl | ((try simp only [QJ, D.ids, D.sid]); simp only [Dr.ok, Ze, Zf, Zg, List.all_append, List.all_cons, List.all_nil, Bool.and_true, Bool.true_and]; (try rw [Zr (by rfl)]); simp [D.ids, D.sid]; done) | ((try simp only [QJ, D.ids, D.sid]); simp only [Dr.ok, Ze, Zf, Zg, List.all_append, List.all_cons, List.all_nil, Bool.and_true, Bool.true_and]; (try rw [Zr (by rfl)]); simp [D.ids, D.sid]; omega)) rfl (Qa rfl (Qa rfl (QhY (ds0 := [0]) (hc00 _ _ rfl (fun _ _ h => h)) (fun j hj => Qcy hj) (by first | rfl | ((try simp only [QJ, D.ids, D.sid]); simp only [Dr.ok, Ze, Zf, Zg, List.all_append, List.all_cons, List.all_nil, Bool.and_true, Bool.true_and]; (try rw [Zr (by rfl)]); simp [D.ids, D.sid]; done) | ((try simp only [QJ, D.ids, D.sid]); simp only [Dr.ok, Ze, Zf, Zg, List.all_append, List.all_cons, List.all_nil, Bool.and_true, Bool.true_and]; (try rw [Zr (by rfl)]); simp [D.ids, D.sid]; omega)) rfl (Qal (ds0 := [1, 0]) rfl rfl (Qg (by omega) (Qcd (j := 0) hU.keys hi0)) (by simp) (by omega) (by omega) rfl (by first | rfl | ((try simp only [QJ, D.ids, D.sid]); simp only [Dr.ok, Ze, Zf, Zg, List.all_append, List.all_cons, List.all_nil, Bool.and_true, Bool.true_and]; (try rw [Zr (by rfl)]); simp [D.ids, D.sid]; done) | ((try simp only [QJ, D.ids, D.sid]); simp only [Dr.ok, Ze, Zf, Zg, List.all_append, List.all_cons, List.all_nil, Bool.and_true, Bool.true_and]; (try rw [Zr (by rfl)]); simp [D.ids, D.sid]; omega)) rfl (Qi rfl (Zh (Qg (by omega) (Qcd (j := 0) hU.keys hi0))) (YR (ds0 := []) rfl (Qg (by omega) (Qcd (j := 0) hU.keys hi0)) (Qm9 (k := 0) hk0 hza) rfl rfl rfl rfl rfl (by first | rfl | ((try simp only [QJ, D.ids, D.sid]); simp only [Dr.ok, Ze, Zf, Zg, List.all_append, List.all_cons, List.all_nil, Bool.and_true, Bool.true_and]; (try rw [Zr (by rfl)]); simp [D.ids, D.sid]; done) | ((try simp only [QJ, D.ids, D.sid]); simp only [Dr.ok, Ze, Zf, Zg, List.all_append, List.all_cons, List.all_nil, Bool.and_true, Bool.true_and]; (try rw [Zr (by rfl)]); simp [D.ids, D.sid]; omega)) rfl ?_))))))))))
 refine hK _ _ (QE (kp3 rfl rfl rfl) ?_)
 refine Xo ?_ -- 0
 refine QV fun K hK => Qa rfl ?_
 refine hK _ _ (QE (kp4 rfl rfl rfl rfl) ?_)
 refine Yq ?_
 have hPs : Prog us0.length (QbD us0 0 0 (QgD (CandT.mk va sha ns0 []))) 1 0 := (hU0.put hi0 hk0 ⟨_, rfl, Qc2 hva hns0 (by decide)⟩).next (by rw [Zj]; exact hi0) (by rw [<- Qaa (by rw [Zj]; exact hi0), X1, Qaa hi0, hcl0]; exact Nat.le_refl 1)
 refine Qdo (ι := List UR × Int × Nat) (fun ⟨usA, JA, i⟩ => ⟨[(4, .ref 4 0 0), (5, .ref 12 0 0), (6, .osl 500000 usA.length), (7, .int .i64 i)], wA (usA) 37 63 55 ws (JA) ⟨[[.fsl []]], 1, 27, true⟩⟩) (fun ⟨usA, JA, i⟩ => Prog us0.length usA i 0 /\ 1 <= i /\ i <= us0.length) (fun ⟨usA, JA, i⟩ => us0.length - i) (QbD us0 0 0 (QgD (CandT.mk va sha ns0 [])), J00, 1) ?_ ?_ ?_
 ·exact Qen (l := [4, 5, 6, 7]) (i := 0) (k := 0) (row := [.int .i64 va.a, .int .i64 va.b, .int .i64 va.c, .str va.p, .str va.q, .int .i64 sha, QJ ns0, .fsl []]) (p := true) 13 (QgD (CandT.mk va sha ns0 [])) (kp4 rfl rfl rfl rfl) (by rw [Zj] <;> rfl) hU.keys hi0 hk0 Qr (fun _ => rfl) rfl (fun z hz => (hU0.pure hi0 z hz).1) ⟨rfl, rfl, rfl⟩ (fun j hj hne => (Qg (by omega) (Qg (by omega) (Qcd hU.keys hj)))) (by repeat (first | exact Qr | exact QdV | exact Qdx | exact QeW | refine Qg (by omega) ?_)) (by repeat (first | exact Qr | exact QdV | exact Qdx | exact QeW | refine Qg (by omega) ?_)) (by repeat (first | exact Qr | exact QdV | exact Qdx | exact QeW | refine Qg (by omega) ?_)) rfl (by decide) (by intro j hj; repeat (first | exact ZP hU.keys (by omega) (by omega) (by omega) (.inr (by omega)) | refine Zi (by omega) ?_)) (by omega) (by intro p hp j hj; simp only [List.mem_cons, List.not_mem_nil, or_false] at hp; rcases hp with rfl | rfl | rfl | rfl <;> first | (simp [D.ids, D.sid] at hj; done) | (simp [D.ids, D.sid] at hj; subst hj; first | exact .inl rfl | exact .inr (.inl rfl) | exact .inr (.inr (.inl rfl)) | exact .inr (.inr (.inr ⟨us0[0], List.getElem_mem hi0, rfl⟩))))
 ·exact ⟨hPs, Nat.le_refl _, by omega⟩
 intro ⟨usA, JA, i⟩ hPA
 try dsimp only at hPA
 have hlA := hPA.1.len.1
 try dsimp only
 refine Xo ?_ -- 1
 refine QV fun K hK => Qa rfl (Qa rfl ?_)
 first | refine Q4 rfl Q6 ?_ | refine Q4 rfl rfl ?_
 refine Y4 rfl rfl ?_
 refine hK _ _ (QE (kp5 rfl rfl rfl rfl rfl) ?_)
 refine Yy rfl (fun h1 => ?_) (fun h1 => ?_)
 ·try rw [h1]
  try simp only [qa, qb, qc, qd, qe, List.length_map] at h1
  refine YB (QR (kp4 rfl rfl rfl rfl) ?_)
  refine Xo ?_ -- 2
  refine Yq (QV fun K hK => Qa rfl ?_)
  refine hK _ _ (QE (kp5 rfl rfl rfl rfl rfl) ?_)
  refine Yq ?_
  refine Qdo (ι := List UR × Int × Nat) (fun ⟨us, J, k⟩ => ⟨[(4, .ref 4 0 0), (5, .ref 12 0 0), (6, .osl 500000 us.length), (7, .int .i64 i), (8, .int .i64 k)], wA (us) 37 63 55 ws (J) ⟨[[.fsl []]], 1, 27, true⟩⟩) (fun ⟨us, J, k⟩ => Prog us0.length us i k) (fun ⟨us, J, k⟩ => Qh9 us i - k) (usA, JA, 0) ?_ ?_ ?_
  ·exact Q7 (l := [4, 5, 6, 7, 8]) (kp5 rfl rfl rfl rfl rfl)
  ·exact hPA.1
  intro ⟨us, J, k⟩ hP
  try dsimp only at hP
  have hl := hP.len.1
  have hi : i < us.length := by omega
  have h1i := hPA.2.1
  have hcl4 := hP.cl us[i] (List.getElem_mem hi)
  try dsimp only
  refine Xo ?_ -- 3
  refine QV fun K hK => Qa rfl (Qa rfl (Qa rfl (Xy rfl rfl rfl (by simp) (by omega) (by omega) rfl (Qi rfl rfl (QC rfl (ZY rfl (Qml hP.keys hi)) rfl ?_)))))
  first | refine Q4 rfl Q6 ?_ | refine Q4 rfl rfl ?_
  refine Y4 rfl rfl ?_
  refine hK _ _ (QE (kp6 rfl rfl rfl rfl rfl rfl) ?_)
  refine Yy rfl (fun h2 => ?_) (fun h2 => ?_)
  ·try rw [h2]
   try simp only [qa, qb, qc, qd, qe, List.length_map] at h2
   try (have hk : k < us[i].cs.length := (by omega); obtain ⟨v, sh, hz, hv⟩ := hP.fresh i hi k hk (by omega))
   refine YB (QR (kp5 rfl rfl rfl rfl rfl) ?_)
   refine Xo ?_ -- 4
   refine Yq (QV fun K hK => Qa rfl (Qa rfl (Xy rfl rfl rfl (by simp) (by omega) (by omega) rfl (Qi rfl rfl (QC rfl (ZY rfl (Qml hP.keys hi)) rfl (Qa rfl (Xy rfl rfl (Qcd hP.keys hi) (by simp) (by omega) (by omega) rfl (Qa rfl ?_))))))))
   refine hK _ _ (QE (kp6 rfl rfl rfl rfl rfl rfl) ?_)
   refine Xo ?_ -- 5
   refine QV fun K hK => Qa rfl (Qa rfl (Xy rfl rfl rfl (by simp) (by omega) (by omega) rfl (Qi rfl rfl (QC rfl (ZY rfl (Qml hP.keys hi)) rfl (Qlo rfl rfl ?_)))))
   refine hK _ _ (QE (kp7 rfl rfl rfl rfl rfl rfl rfl) ?_)
   refine Yy rfl (fun h3 => ?_) (fun h3 => ?_)
   ·try rw [h3]
    try simp only [qa, qb, qc, qd, qe, List.length_map] at h3
    refine ZF fun K hK => Qa rfl (Qa rfl (Xz rfl rfl (by first | exact Qp (by omega) (by omega) | rfl) (Qa rfl (ZZ rfl rfl (Qi rfl (Zh (Qcd hP.keys hi)) (QF (cs := [_, _, _, _, _]) rfl (ZY (Qcd hP.keys hi) (Qm9 hk hz)) rfl rfl (QA (Xt hv.1 hv.2) rfl rfl (.inl rfl) (QP rfl rfl ?_))))))))
    refine QD rfl (by repeat (first | exact ZP hU.keys (by omega) (by omega) (by omega) (.inl (by omega)) | exact ZP hP.keys (by omega) (by omega) (by omega) (.inl (by omega)) | exact ZP hP2.keys (by omega) (by omega) (by omega) (.inl (by omega)) | refine Zi (by omega) ?_)) ?_
    refine QD rfl (by repeat (first | exact ZP hU.keys (by omega) (by omega) (by omega) (.inl (by omega)) | exact ZP hP.keys (by omega) (by omega) (by omega) (.inl (by omega)) | exact ZP hP2.keys (by omega) (by omega) (by omega) (.inl (by omega)) | refine Zi (by omega) ?_)) ?_
    refine ZZ rfl rfl (Qi rfl (Zh (Qg (by omega) (Qg (by omega) (Qcd hP.keys hi)))) (QS rfl (Qg (by omega) (Qg (by omega) (Qcd hP.keys hi))) (Qm9 hk hz) rfl rfl rfl rfl rfl (hK _ ?_)))
    refine QR (kp6 rfl rfl rfl rfl rfl rfl) ?_
    first | (refine QjX (QkA (l := [4, 5, 6, 7, 8, 9]) (fr' := [(4, .ref 4 0 0), (5, .ref 12 0 0), (6, .osl 500000 us.length), (7, .int .i64 i), (8, .int .i64 k), (9, .ref (500001 + i) k 0)]) (x := (WantT.mk ((i : Int) - 1) (YP v.a v.b v.c v.p v.q))) (kp6 rfl rfl rfl rfl rfl rfl) rfl hP.keys hi rfl (Qit (fun z hz => (hP.pure hi z hz).1) (by intro d hd j hj; simp [dCR, setRow, zr] at hd; rcases hd with rfl | rfl | rfl | rfl | rfl | rfl | rfl | rfl <;> simp [D.sid] at hj <;> exact hj)) (by intro p hp j hj; simp only [List.mem_cons, List.not_mem_nil, or_false] at hp; rcases hp with rfl | rfl | rfl | rfl | rfl | rfl <;> first | (simp [D.ids, D.sid] at hj; done) | (simp [D.ids, D.sid] at hj; subst hj; first | exact .inl rfl | exact .inr (.inl rfl) | exact .inr (.inr (.inl rfl)) | exact .inr (.inr (.inr ⟨us[i], List.getElem_mem hi, (hP.keys i hi).symm⟩))))) ?_) | skip
    refine QV fun K hK => Qa rfl (Qa rfl (ZZ rfl rfl (Qi rfl QN (Zb (ds0 := [3, 0]) rfl (ZY Qr (QmM hk)) rfl (by first | rfl | ((try simp only [QJ, D.ids, D.sid]); simp only [Dr.ok, Ze, Zf, Zg, List.all_append, List.all_cons, List.all_nil, Bool.and_true, Bool.true_and]; (try rw [Zr (by rfl)]); simp [D.ids, D.sid]; done) | ((try simp only [QJ, D.ids, D.sid]); simp only [Dr.ok, Ze, Zf, Zg, List.all_append, List.all_cons, List.all_nil, Bool.and_true, Bool.true_and]; (try rw [Zr (by rfl)]); simp [D.ids, D.sid]; omega)) rfl (Qa rfl (Qa rfl ?_))))))
    have hfx := Qpl (eu := 37) (ec := 63) (eg := 55) (L := ws) (J := J) (b4 := ⟨[[.fsl []]], 1, 27, true⟩) (b64 := ⟨[[QW [(WantT.mk ((i : Int) - 1) (YP v.a v.b v.c v.p v.q))]]], 1, 61, true⟩) (zx := (CR.mk v (.int .i64 sh) (.osl 64 1) (.fsl []))) hP hi hk hv ⟨rfl, rfl, rfl⟩ rfl rfl
    obtain ⟨ns, J1, hns, hc1⟩ := Qin (H := (500001 + i, ⟨(us[i].cs.map dCR).set k (dCR (CR.mk v (.int .i64 sh) (.osl 64 1) (.fsl []))), 8, 63, false⟩) :: (64, ⟨[[QW [(WantT.mk ((i : Int) - 1) (YP v.a v.b v.c v.p v.q))]]], 1, 61, true⟩) :: wA (us) 37 63 55 ws (J) ⟨[[.fsl []]], 1, 27, true⟩) (most := 2) (Qg (by omega) (Qg (by omega) Qdx)) hfx.1 hfx.2 hL (by first | omega | (rw [Zj]; omega)) (by first | omega | (rw [Zj]; omega)) (by decide) (by decide)
    rw [Zj] at hns
    refine QhY (ds0 := [3, 0]) (hc1 _ _ (by rw [Zj]; rfl) (fun _ _ h => h)) (fun j hj => Qcy hj) (by first | rfl | ((try simp only [QJ, D.ids, D.sid]); simp only [Dr.ok, Ze, Zf, Zg, List.all_append, List.all_cons, List.all_nil, Bool.and_true, Bool.true_and]; (try rw [Zr (by rfl)]); simp [D.ids, D.sid]; done) | ((try simp only [QJ, D.ids, D.sid]); simp only [Dr.ok, Ze, Zf, Zg, List.all_append, List.all_cons, List.all_nil, Bool.and_true, Bool.true_and]; (try rw [Zr (by rfl)]); simp [D.ids, D.sid]; omega)) rfl ?_
    refine QdZ (ds0 := [0]) rfl rfl (by simp [D.ids, D.sid, QJ]) ⟨rfl, QmJ, rfl⟩ (by repeat (first | exact ZP hU.keys (by omega) (by omega) (by omega) (.inl (by omega)) | exact ZP hP.keys (by omega) (by omega) (by omega) (.inl (by omega)) | exact ZP hP2.keys (by omega) (by omega) (by omega) (.inl (by omega)) | refine Zi (by omega) ?_)) (Qg (by omega) (Qg (by omega) Qr)) rfl rfl rfl (by have := hns.1; simp; omega) (by have := hns.1; simp; omega) (by first | rfl | ((try simp only [QJ, D.ids, D.sid]); simp only [Dr.ok, Ze, Zf, Zg, List.all_append, List.all_cons, List.all_nil, Bool.and_true, Bool.true_and]; (try rw [Zr (by rfl)]); simp [D.ids, D.sid]; done) | ((try simp only [QJ, D.ids, D.sid]); simp only [Dr.ok, Ze, Zf, Zg, List.all_append, List.all_cons, List.all_nil, Bool.and_true, Bool.true_and]; (try rw [Zr (by rfl)]); simp [D.ids, D.sid]; omega)) rfl ?_
    refine ZZ rfl rfl (Qi rfl (Zh (Qg (by omega) (Qg (by omega) (Qg (by omega) Qr)))) (YR (ds0 := []) rfl (Qg (by omega) (Qg (by omega) (Qg (by omega) Qr))) (QmM hk) rfl rfl rfl rfl rfl (by first | rfl | ((try simp only [QJ, D.ids, D.sid]); simp only [Dr.ok, Ze, Zf, Zg, List.all_append, List.all_cons, List.all_nil, Bool.and_true, Bool.true_and]; (try rw [Zr (by rfl)]); simp [D.ids, D.sid]; done) | ((try simp only [QJ, D.ids, D.sid]); simp only [Dr.ok, Ze, Zf, Zg, List.all_append, List.all_cons, List.all_nil, Bool.and_true, Bool.true_and]; (try rw [Zr (by rfl)]); simp [D.ids, D.sid]; omega)) rfl ?_))
    refine hK _ _ (QE (kp6 rfl rfl rfl rfl rfl rfl) ?_)
    first | (refine QjX (Qen (l := [4, 5, 6, 7, 8, 9]) (eu := 37) (ec := 63) (eg := 55) (L := ws) (J := J1) (b4 := ⟨[[.fsl []]], 1, 27, true⟩) (fr' := [(4, .ref 4 0 0), (5, .ref 12 0 0), (6, .osl 500000 us.length), (7, .int .i64 i), (8, .int .i64 k), (9, .ref (500001 + i) k 0)]) (row := [.int .i64 v.a, .int .i64 v.b, .int .i64 v.c, .str v.p, .str v.q, .int .i64 sh, .osl 75 (1 + (ns.map (fun r => [QW r])).length), .fsl []]) (p := false) 75 (QgD (CandT.mk v sh ([(WantT.mk ((i : Int) - 1) (YP v.a v.b v.c v.p v.q))] :: ns) [])) (kp6 rfl rfl rfl rfl rfl rfl) rfl hP.keys hi hk Qhg (fun h => by cases h) (QdH (Qg (by omega) Qr) (by first | (simp; done) | (simp; omega))) (fun z hz => (hP.pure hi z hz).1) ⟨rfl, rfl, rfl⟩ (fun j hj hne => (Qg (by omega) (Qg (by omega) (Qg (by omega) (Qg (by omega) (Qg (by omega) (Qg (by omega) (Qcd hP.keys hj)))))))) (by repeat (first | exact Qr | exact QdV | exact Qdx | exact QeW | refine Qg (by omega) ?_)) (by repeat (first | exact Qr | exact QdV | exact Qdx | exact QeW | refine Qg (by omega) ?_)) (by repeat (first | exact Qr | exact QdV | exact Qdx | exact QeW | refine Qg (by omega) ?_)) rfl (by decide) (by intro j hj; repeat (first | exact ZP hP.keys (by omega) (by omega) (by omega) (.inr (by omega)) | refine Zi (by omega) ?_)) (by omega) (by intro p hp j hj; simp only [List.mem_cons, List.not_mem_nil, or_false] at hp; rcases hp with rfl | rfl | rfl | rfl | rfl | rfl <;> first | (simp [D.ids, D.sid] at hj; done) | (simp [D.ids, D.sid] at hj; subst hj; first | exact .inl rfl | exact .inr (.inl rfl) | exact .inr (.inr (.inl rfl)) | exact .inr (.inr (.inr ⟨us[i], List.getElem_mem hi, (hP.keys i hi).symm⟩))))) ?_; have hc2 : XV us0.length (CandT.mk v sh ([(WantT.mk ((i : Int) - 1) (YP v.a v.b v.c v.p v.q))] :: ns) []) := (by rw [<- hl]; exact QgW hv hns (by decide) h1i hi); generalize hns2 : ([(WantT.mk ((i : Int) - 1) (YP v.a v.b v.c v.p v.q))] :: ns) = ns2 at hc2 ⊢) | (refine QjX (Qen (l := [4, 5, 6, 7, 8, 9]) (eu := 37) (ec := 63) (eg := 55) (L := ws) (J := J1) (b4 := ⟨[[.fsl []]], 1, 27, true⟩) (fr' := [(4, .ref 4 0 0), (5, .ref 12 0 0), (6, .osl 500000 us.length), (7, .int .i64 i), (8, .int .i64 k), (9, .ref (500001 + i) k 0)]) (row := [.int .i64 v.a, .int .i64 v.b, .int .i64 v.c, .str v.p, .str v.q, .int .i64 sh, .osl 75 (0 + (ns.map (fun r => [QW r])).length), .fsl []]) (p := false) 75 (QgD (CandT.mk v sh ns [])) (kp6 rfl rfl rfl rfl rfl rfl) rfl hP.keys hi hk Qr (fun h => by cases h) (QdH (Qg (by omega) Qr) (by first | (simp; done) | (simp; omega))) (fun z hz => (hP.pure hi z hz).1) ⟨rfl, rfl, rfl⟩ (fun j hj hne => (Qg (by omega) (Qg (by omega) (Qg (by omega) (Qcd hP.keys hj))))) (by repeat (first | exact Qr | exact QdV | exact Qdx | exact QeW | refine Qg (by omega) ?_)) (by repeat (first | exact Qr | exact QdV | exact Qdx | exact QeW | refine Qg (by omega) ?_)) (by repeat (first | exact Qr | exact QdV | exact Qdx | exact QeW | refine Qg (by omega) ?_)) rfl (by decide) (by intro j hj; repeat (first | exact ZP hP.keys (by omega) (by omega) (by omega) (.inr (by omega)) | refine Zi (by omega) ?_)) (by omega) (by intro p hp j hj; simp only [List.mem_cons, List.not_mem_nil, or_false] at hp; rcases hp with rfl | rfl | rfl | rfl | rfl | rfl <;> first | (simp [D.ids, D.sid] at hj; done) | (simp [D.ids, D.sid] at hj; subst hj; first | exact .inl rfl | exact .inr (.inl rfl) | exact .inr (.inr (.inl rfl)) | exact .inr (.inr (.inr ⟨us[i], List.getElem_mem hi, (hP.keys i hi).symm⟩))))) ?_; have hc2 : XV us0.length (CandT.mk v sh ns []) := (by rw [<- hl]; exact Qc2 hv hns (by decide)); generalize hns2 : ns = ns2 at hc2 ⊢)
    generalize hus2 : QbD us i k (QgD (CandT.mk v sh ns2 [])) = us2
    have hP2 : Prog us0.length us2 i (k + 1) := hus2 ▸ hP.put hi hk ⟨_, rfl, hc2⟩
    have hl2 : us2.length = us.length := by rw [<- hus2, Zj]
    have hi2 : i < us2.length := by omega
    have hk2 : k < us2[i].cs.length := QhI hi hk hus2 hi2
    have hz2 : us2[i].cs[k] = QgD (CandT.mk v sh ns2 []) := QhH hi hk hus2.symm hi2 hk2
    refine QV fun K hK => Qa rfl (Yp (Qbn (I := J1) rfl Qdx hL (by omega)) (ZJ rfl rfl ?_))
    refine hK _ _ (QE (kp7 rfl rfl rfl rfl rfl rfl rfl) ?_)
    refine Yy rfl (fun h4 => ?_) (fun h4 => ?_)
    ·try rw [h4]
     try simp only [qa, qb, qc, qd, qe, List.length_map] at h4
     refine ZF fun K hK => Qa rfl (Qa rfl (Qa rfl ?_))
     obtain ⟨xb, J3, hxb, hcb⟩ := Qjh (H := (12, gB ws (nxI J1) 55) :: wA (us2) 37 63 55 ws (J1) ⟨[[.fsl []]], 1, 27, true⟩) Qr (Qjr hP2.keys hP2.fam).cons ((XT hP2.keys rfl).pr rfl) hL (by omega) (by omega)
     refine Yp (hcb _ _ (by rw [hl2]; rfl) (fun _ _ h => h)) ?_
     refine QD rfl (by repeat (first | exact ZP hU.keys (by omega) (by omega) (by omega) (.inl (by omega)) | exact ZP hP.keys (by omega) (by omega) (by omega) (.inl (by omega)) | exact ZP hP2.keys (by omega) (by omega) (by omega) (.inl (by omega)) | refine Zi (by omega) ?_)) ?_
     refine ZZ rfl rfl (Qi rfl (Zh (Qg (by omega) (Qg (by omega) (Qg (by omega) (Qcd hP2.keys hi2))))) (QS rfl (Qg (by omega) (Qg (by omega) (Qg (by omega) (Qcd hP2.keys hi2)))) (Qm9 hk2 hz2) rfl rfl rfl rfl rfl (hK _ ?_)))
     refine Ql (QR (kp5 rfl rfl rfl rfl rfl) (ZF fun K hK => Qa rfl (Q9 rfl rfl (by first | exact Qp (by omega) (by omega) | rfl) (Qa rfl (hK _ ?_)))))
     refine Qo (QbD us2 i k (QgD (CandT.mk v sh ns2 [xb])), J3, k + 1) ?_ ?_ ?_
     ·exact Qen (l := [4, 5, 6, 7, 8]) (row := [.int .i64 v.a, .int .i64 v.b, .int .i64 v.c, .str v.p, .str v.q, .int .i64 sh, QJ ns2, .osl 85 1]) (p := false) 85 (QgD (CandT.mk v sh ns2 [xb])) (kp5 rfl rfl rfl rfl rfl) (by rw [Zj, hl2] <;> rfl) hP2.keys hi2 hk2 Qr (fun h => by cases h) (Qkn (Qg (by omega) Qr) rfl) (fun z hz => (hP2.pure hi2 z hz).1) ⟨rfl, rfl, rfl⟩ (fun j hj hne => (Qg (by omega) (Qg (by omega) (Qg (by omega) (Qg (by omega) (Qcd hP2.keys hj)))))) (by repeat (first | exact Qr | exact QdV | exact Qdx | exact QeW | refine Qg (by omega) ?_)) (by repeat (first | exact Qr | exact QdV | exact Qdx | exact QeW | refine Qg (by omega) ?_)) (by repeat (first | exact Qr | exact QdV | exact Qdx | exact QeW | refine Qg (by omega) ?_)) rfl (by decide) (by intro j hj; repeat (first | exact ZP hP2.keys (by omega) (by omega) (by omega) (.inr (by omega)) | refine Zi (by omega) ?_)) (by omega) (by intro p hp j hj; simp only [List.mem_cons, List.not_mem_nil, or_false] at hp; rcases hp with rfl | rfl | rfl | rfl | rfl <;> first | (simp [D.ids, D.sid] at hj; done) | (simp [D.ids, D.sid] at hj; subst hj; first | exact .inl rfl | exact .inr (.inl rfl) | exact .inr (.inr (.inl rfl)) | exact .inr (.inr (.inr ⟨us2[i], List.getElem_mem hi2, (hP2.keys i hi2).symm⟩))))
     ·exact hP2.again hi2 hk2 ⟨_, rfl, QgV hc2 (by have := hxb; rwa [hl2, hl] at this)⟩
     ·show Qh9 (QbD us2 i k _) i - (k + 1) < Qh9 us i - k; rw [X1, <- hus2, X1, Qaa hi]; omega
    ·try rw [h4]
     try simp only [qa, qb, qc, qd, qe, List.length_map] at h4
     refine YB (Ql (QR (kp5 rfl rfl rfl rfl rfl) (ZF fun K hK => Qa rfl (Q9 rfl rfl (by first | exact Qp (by omega) (by omega) | rfl) (Qa rfl (hK _ ?_))))))
     refine Qo (us2, nxI J1, k + 1) ?_ ?_ ?_
     ·exact le_trans (Q7 (l := [4, 5, 6, 7, 8]) (kp5 rfl rfl rfl rfl rfl)) (QaI (by rw [hl2] <;> rfl) QoE)
     ·exact hP2
     ·show Qh9 us2 i - (k + 1) < Qh9 us i - k; rw [<- hus2, X1, Qaa hi]; omega
   ·try rw [h3]
    try simp only [qa, qb, qc, qd, qe, List.length_map] at h3
    refine YB (QR (kp6 rfl rfl rfl rfl rfl rfl) ?_)
    first | (refine QjX (QkA (l := [4, 5, 6, 7, 8, 9]) (fr' := [(4, .ref 4 0 0), (5, .ref 12 0 0), (6, .osl 500000 us.length), (7, .int .i64 i), (8, .int .i64 k), (9, .ref (500001 + i) k 0)]) (x := (WantT.mk ((i : Int) - 1) (YP v.a v.b v.c v.p v.q))) (kp6 rfl rfl rfl rfl rfl rfl) rfl hP.keys hi rfl (Qit (fun z hz => (hP.pure hi z hz).1) (by intro d hd j hj; simp [dCR, setRow, zr] at hd; rcases hd with rfl | rfl | rfl | rfl | rfl | rfl | rfl | rfl <;> simp [D.sid] at hj <;> exact hj)) (by intro p hp j hj; simp only [List.mem_cons, List.not_mem_nil, or_false] at hp; rcases hp with rfl | rfl | rfl | rfl | rfl | rfl <;> first | (simp [D.ids, D.sid] at hj; done) | (simp [D.ids, D.sid] at hj; subst hj; first | exact .inl rfl | exact .inr (.inl rfl) | exact .inr (.inr (.inl rfl)) | exact .inr (.inr (.inr ⟨us[i], List.getElem_mem hi, (hP.keys i hi).symm⟩))))) ?_) | skip
    refine QV fun K hK => Qa rfl (Qa rfl (ZZ rfl rfl (Qi rfl (Zh (Qcd hP.keys hi)) (Zb (ds0 := [3, 0]) rfl (ZY (Qcd hP.keys hi) (Qm9 hk hz)) rfl (by first | rfl | ((try simp only [QJ, D.ids, D.sid]); simp only [Dr.ok, Ze, Zf, Zg, List.all_append, List.all_cons, List.all_nil, Bool.and_true, Bool.true_and]; (try rw [Zr (by rfl)]); simp [D.ids, D.sid]; done) | ((try simp only [QJ, D.ids, D.sid]); simp only [Dr.ok, Ze, Zf, Zg, List.all_append, List.all_cons, List.all_nil, Bool.and_true, Bool.true_and]; (try rw [Zr (by rfl)]); simp [D.ids, D.sid]; omega)) rfl (Qa rfl (Qa rfl ?_))))))
    obtain ⟨ns, J1, hns, hc1⟩ := Qin (H := wA (us) 37 63 55 ws (J) ⟨[[.fsl []]], 1, 27, true⟩) (most := 2) Qdx (Qjr hP.keys hP.fam) (XT hP.keys rfl) hL (by first | omega | (rw [Zj]; omega)) (by first | omega | (rw [Zj]; omega)) (by decide) (by decide)
    refine QhY (ds0 := [3, 0]) (hc1 _ _ rfl (fun _ _ h => h)) (fun j hj => Qcy hj) (by first | rfl | ((try simp only [QJ, D.ids, D.sid]); simp only [Dr.ok, Ze, Zf, Zg, List.all_append, List.all_cons, List.all_nil, Bool.and_true, Bool.true_and]; (try rw [Zr (by rfl)]); simp [D.ids, D.sid]; done) | ((try simp only [QJ, D.ids, D.sid]); simp only [Dr.ok, Ze, Zf, Zg, List.all_append, List.all_cons, List.all_nil, Bool.and_true, Bool.true_and]; (try rw [Zr (by rfl)]); simp [D.ids, D.sid]; omega)) rfl ?_
    refine QfM (ds0 := [0]) rfl rfl (fun _ h => ⟨QmJ, h⟩) (by repeat (first | exact ZP hU.keys (by omega) (by omega) (by omega) (.inl (by omega)) | exact ZP hP.keys (by omega) (by omega) (by omega) (.inl (by omega)) | exact ZP hP2.keys (by omega) (by omega) (by omega) (.inl (by omega)) | refine Zi (by omega) ?_)) (.inl rfl) (by simp) (by have := hns.1; simp; omega) (by have := hns.1; simp; omega) (by first | rfl | ((try simp only [QJ, D.ids, D.sid]); simp only [Dr.ok, Ze, Zf, Zg, List.all_append, List.all_cons, List.all_nil, Bool.and_true, Bool.true_and]; (try rw [Zr (by rfl)]); simp [D.ids, D.sid]; done) | ((try simp only [QJ, D.ids, D.sid]); simp only [Dr.ok, Ze, Zf, Zg, List.all_append, List.all_cons, List.all_nil, Bool.and_true, Bool.true_and]; (try rw [Zr (by rfl)]); simp [D.ids, D.sid]; omega)) rfl ?_
    refine ZZ rfl rfl (Qi rfl (Zh (Qg (by omega) (Qg (by omega) (Qcd hP.keys hi)))) (YR (ds0 := []) rfl (Qg (by omega) (Qg (by omega) (Qcd hP.keys hi))) (Qm9 hk hz) rfl rfl rfl rfl rfl (by first | rfl | ((try simp only [QJ, D.ids, D.sid]); simp only [Dr.ok, Ze, Zf, Zg, List.all_append, List.all_cons, List.all_nil, Bool.and_true, Bool.true_and]; (try rw [Zr (by rfl)]); simp [D.ids, D.sid]; done) | ((try simp only [QJ, D.ids, D.sid]); simp only [Dr.ok, Ze, Zf, Zg, List.all_append, List.all_cons, List.all_nil, Bool.and_true, Bool.true_and]; (try rw [Zr (by rfl)]); simp [D.ids, D.sid]; omega)) rfl ?_))
    refine hK _ _ (QE (kp6 rfl rfl rfl rfl rfl rfl) ?_)
    first | (refine QjX (Qen (l := [4, 5, 6, 7, 8, 9]) (eu := 37) (ec := 63) (eg := 55) (L := ws) (J := J1) (b4 := ⟨[[.fsl []]], 1, 27, true⟩) (fr' := [(4, .ref 4 0 0), (5, .ref 12 0 0), (6, .osl 500000 us.length), (7, .int .i64 i), (8, .int .i64 k), (9, .ref (500001 + i) k 0)]) (row := [.int .i64 v.a, .int .i64 v.b, .int .i64 v.c, .str v.p, .str v.q, .int .i64 sh, .osl 75 (1 + (ns.map (fun r => [QW r])).length), .fsl []]) (p := false) 75 (QgD (CandT.mk v sh ([(WantT.mk ((i : Int) - 1) (YP v.a v.b v.c v.p v.q))] :: ns) [])) (kp6 rfl rfl rfl rfl rfl rfl) rfl hP.keys hi hk Qhg (fun h => by cases h) (QdH (Qg (by omega) Qr) (by first | (simp; done) | (simp; omega))) (fun z hz => (hP.pure hi z hz).1) ⟨rfl, rfl, rfl⟩ (fun j hj hne => (Qg (by omega) (Qg (by omega) (Qg (by omega) (Qg (by omega) (Qg (by omega) (Qg (by omega) (Qcd hP.keys hj)))))))) (by repeat (first | exact Qr | exact QdV | exact Qdx | exact QeW | refine Qg (by omega) ?_)) (by repeat (first | exact Qr | exact QdV | exact Qdx | exact QeW | refine Qg (by omega) ?_)) (by repeat (first | exact Qr | exact QdV | exact Qdx | exact QeW | refine Qg (by omega) ?_)) rfl (by decide) (by intro j hj; repeat (first | exact ZP hP.keys (by omega) (by omega) (by omega) (.inr (by omega)) | refine Zi (by omega) ?_)) (by omega) (by intro p hp j hj; simp only [List.mem_cons, List.not_mem_nil, or_false] at hp; rcases hp with rfl | rfl | rfl | rfl | rfl | rfl <;> first | (simp [D.ids, D.sid] at hj; done) | (simp [D.ids, D.sid] at hj; subst hj; first | exact .inl rfl | exact .inr (.inl rfl) | exact .inr (.inr (.inl rfl)) | exact .inr (.inr (.inr ⟨us[i], List.getElem_mem hi, (hP.keys i hi).symm⟩))))) ?_; have hc2 : XV us0.length (CandT.mk v sh ([(WantT.mk ((i : Int) - 1) (YP v.a v.b v.c v.p v.q))] :: ns) []) := (by rw [<- hl]; exact QgW hv hns (by decide) h1i hi); generalize hns2 : ([(WantT.mk ((i : Int) - 1) (YP v.a v.b v.c v.p v.q))] :: ns) = ns2 at hc2 ⊢) | (refine QjX (Qen (l := [4, 5, 6, 7, 8, 9]) (eu := 37) (ec := 63) (eg := 55) (L := ws) (J := J1) (b4 := ⟨[[.fsl []]], 1, 27, true⟩) (fr' := [(4, .ref 4 0 0), (5, .ref 12 0 0), (6, .osl 500000 us.length), (7, .int .i64 i), (8, .int .i64 k), (9, .ref (500001 + i) k 0)]) (row := [.int .i64 v.a, .int .i64 v.b, .int .i64 v.c, .str v.p, .str v.q, .int .i64 sh, .osl 75 (0 + (ns.map (fun r => [QW r])).length), .fsl []]) (p := false) 75 (QgD (CandT.mk v sh ns [])) (kp6 rfl rfl rfl rfl rfl rfl) rfl hP.keys hi hk Qr (fun h => by cases h) (QdH (Qg (by omega) Qr) (by first | (simp; done) | (simp; omega))) (fun z hz => (hP.pure hi z hz).1) ⟨rfl, rfl, rfl⟩ (fun j hj hne => (Qg (by omega) (Qg (by omega) (Qg (by omega) (Qcd hP.keys hj))))) (by repeat (first | exact Qr | exact QdV | exact Qdx | exact QeW | refine Qg (by omega) ?_)) (by repeat (first | exact Qr | exact QdV | exact Qdx | exact QeW | refine Qg (by omega) ?_)) (by repeat (first | exact Qr | exact QdV | exact Qdx | exact QeW | refine Qg (by omega) ?_)) rfl (by decide) (by intro j hj; repeat (first | exact ZP hP.keys (by omega) (by omega) (by omega) (.inr (by omega)) | refine Zi (by omega) ?_)) (by omega) (by intro p hp j hj; simp only [List.mem_cons, List.not_mem_nil, or_false] at hp; rcases hp with rfl | rfl | rfl | rfl | rfl | rfl <;> first | (simp [D.ids, D.sid] at hj; done) | (simp [D.ids, D.sid] at hj; subst hj; first | exact .inl rfl | exact .inr (.inl rfl) | exact .inr (.inr (.inl rfl)) | exact .inr (.inr (.inr ⟨us[i], List.getElem_mem hi, (hP.keys i hi).symm⟩))))) ?_; have hc2 : XV us0.length (CandT.mk v sh ns []) := (by rw [<- hl]; exact Qc2 hv hns (by decide)); generalize hns2 : ns = ns2 at hc2 ⊢)
    generalize hus2 : QbD us i k (QgD (CandT.mk v sh ns2 [])) = us2
    have hP2 : Prog us0.length us2 i (k + 1) := hus2 ▸ hP.put hi hk ⟨_, rfl, hc2⟩
    have hl2 : us2.length = us.length := by rw [<- hus2, Zj]
    have hi2 : i < us2.length := by omega
    have hk2 : k < us2[i].cs.length := QhI hi hk hus2 hi2
    have hz2 : us2[i].cs[k] = QgD (CandT.mk v sh ns2 []) := QhH hi hk hus2.symm hi2 hk2
    refine QV fun K hK => Qa rfl (Yp (Qbn (I := J1) rfl Qdx hL (by omega)) (ZJ rfl rfl ?_))
    refine hK _ _ (QE (kp7 rfl rfl rfl rfl rfl rfl rfl) ?_)
    refine Yy rfl (fun h5 => ?_) (fun h5 => ?_)
    ·try rw [h5]
     try simp only [qa, qb, qc, qd, qe, List.length_map] at h5
     refine ZF fun K hK => Qa rfl (Qa rfl (Qa rfl ?_))
     obtain ⟨xb, J3, hxb, hcb⟩ := Qjh (H := (12, gB ws (nxI J1) 55) :: wA (us2) 37 63 55 ws (J1) ⟨[[.fsl []]], 1, 27, true⟩) Qr (Qjr hP2.keys hP2.fam).cons ((XT hP2.keys rfl).pr rfl) hL (by omega) (by omega)
     refine Yp (hcb _ _ (by rw [hl2]; rfl) (fun _ _ h => h)) ?_
     refine QD rfl (by repeat (first | exact ZP hU.keys (by omega) (by omega) (by omega) (.inl (by omega)) | exact ZP hP.keys (by omega) (by omega) (by omega) (.inl (by omega)) | exact ZP hP2.keys (by omega) (by omega) (by omega) (.inl (by omega)) | refine Zi (by omega) ?_)) ?_
     refine ZZ rfl rfl (Qi rfl (Zh (Qg (by omega) (Qg (by omega) (Qg (by omega) (Qcd hP2.keys hi2))))) (QS rfl (Qg (by omega) (Qg (by omega) (Qg (by omega) (Qcd hP2.keys hi2)))) (Qm9 hk2 hz2) rfl rfl rfl rfl rfl (hK _ ?_)))
     refine Ql (QR (kp5 rfl rfl rfl rfl rfl) (ZF fun K hK => Qa rfl (Q9 rfl rfl (by first | exact Qp (by omega) (by omega) | rfl) (Qa rfl (hK _ ?_)))))
     refine Qo (QbD us2 i k (QgD (CandT.mk v sh ns2 [xb])), J3, k + 1) ?_ ?_ ?_
     ·exact Qen (l := [4, 5, 6, 7, 8]) (row := [.int .i64 v.a, .int .i64 v.b, .int .i64 v.c, .str v.p, .str v.q, .int .i64 sh, QJ ns2, .osl 85 1]) (p := false) 85 (QgD (CandT.mk v sh ns2 [xb])) (kp5 rfl rfl rfl rfl rfl) (by rw [Zj, hl2] <;> rfl) hP2.keys hi2 hk2 Qr (fun h => by cases h) (Qkn (Qg (by omega) Qr) rfl) (fun z hz => (hP2.pure hi2 z hz).1) ⟨rfl, rfl, rfl⟩ (fun j hj hne => (Qg (by omega) (Qg (by omega) (Qg (by omega) (Qg (by omega) (Qcd hP2.keys hj)))))) (by repeat (first | exact Qr | exact QdV | exact Qdx | exact QeW | refine Qg (by omega) ?_)) (by repeat (first | exact Qr | exact QdV | exact Qdx | exact QeW | refine Qg (by omega) ?_)) (by repeat (first | exact Qr | exact QdV | exact Qdx | exact QeW | refine Qg (by omega) ?_)) rfl (by decide) (by intro j hj; repeat (first | exact ZP hP2.keys (by omega) (by omega) (by omega) (.inr (by omega)) | refine Zi (by omega) ?_)) (by omega) (by intro p hp j hj; simp only [List.mem_cons, List.not_mem_nil, or_false] at hp; rcases hp with rfl | rfl | rfl | rfl | rfl <;> first | (simp [D.ids, D.sid] at hj; done) | (simp [D.ids, D.sid] at hj; subst hj; first | exact .inl rfl | exact .inr (.inl rfl) | exact .inr (.inr (.inl rfl)) | exact .inr (.inr (.inr ⟨us2[i], List.getElem_mem hi2, (hP2.keys i hi2).symm⟩))))
     ·exact hP2.again hi2 hk2 ⟨_, rfl, QgV hc2 (by have := hxb; rwa [hl2, hl] at this)⟩
     ·show Qh9 (QbD us2 i k _) i - (k + 1) < Qh9 us i - k; rw [X1, <- hus2, X1, Qaa hi]; omega
    ·try rw [h5]
     try simp only [qa, qb, qc, qd, qe, List.length_map] at h5
     refine YB (Ql (QR (kp5 rfl rfl rfl rfl rfl) (ZF fun K hK => Qa rfl (Q9 rfl rfl (by first | exact Qp (by omega) (by omega) | rfl) (Qa rfl (hK _ ?_))))))
     refine Qo (us2, nxI J1, k + 1) ?_ ?_ ?_
     ·exact le_trans (Q7 (l := [4, 5, 6, 7, 8]) (kp5 rfl rfl rfl rfl rfl)) (QaI (by rw [hl2] <;> rfl) QoE)
     ·exact hP2
     ·show Qh9 us2 i - (k + 1) < Qh9 us i - k; rw [<- hus2, X1, Qaa hi]; omega
  ·try rw [h2]
   try simp only [qa, qb, qc, qd, qe, List.length_map] at h2
   try (have hk : k < us[i].cs.length := (by omega); obtain ⟨v, sh, hz, hv⟩ := hP.fresh i hi k hk (by omega))
   refine QbT (YG (QI (QQ (Ql (QR (kp4 rfl rfl rfl rfl) (ZF fun K hK => Qa rfl (Q9 rfl rfl (by first | exact Qp (by omega) (by omega) | rfl) (Qa rfl (hK _ ?_)))))))))
   refine Qo (us, J, i + 1) ?_ ?_ ?_
   ·exact Q7 (l := [4, 5, 6, 7]) (kp4 rfl rfl rfl rfl)
   ·try dsimp only
    exact ⟨hP.next hi (by omega), by omega, by omega⟩
   ·show us0.length - (i + 1) < us0.length - i; omega
 ·try rw [h1]
  try simp only [qa, qb, qc, qd, qe, List.length_map] at h1
  refine QbT (YG (QI (QQ (QR (kp2 rfl rfl) ?_))))
  have hend : i = usA.length := by have := hPA.1.len.1; omega
  obtain ⟨w, hwl, hwm, hle⟩ := QlP (eu := 37) (ec := 63) (eg := 55) (L := ws) (J := JA) (b4 := ⟨[[.fsl []]], 1, 27, true⟩) (hend ▸ hPA.1) rfl
  refine QjX (hle (fr' := [(4, .ref 4 0 0), (6, .osl 500000 usA.length)]) (l := [4, 6]) (kp2 rfl rfl) rfl (by intro p hp j hj; simp only [List.mem_cons, List.not_mem_nil, or_false] at hp; rcases hp with rfl | rfl <;> (simp [D.ids, D.sid] at hj; subst hj; first | exact .inl rfl | exact .inr rfl))) (QV fun K hK => Qa rfl (QP rfl rfl (QS rfl rfl rfl rfl rfl rfl rfl rfl ?_)))
  refine hK _ _ (QE (kp1 rfl) ?_)
  refine QeY ?_
  refine ⟨_, ⟨w, hwm, rfl⟩, ?_⟩
  exact Zu (cs := [.osl 500000 usA.length]) (ds := [.sl (w.map QaY)]) rfl rfl rfl rfl (by simp [Qaw, D.fz, D.fzS, Qcc, lk, D.can, D.canS, hwl])
end Go.Proofs
namespace M25
open Go Go.Abs M3
/-! ### Trails that may be -/
theorem QcH {w : Qs} {l : List StepT} {s : StepT} : Qad w (l ++ [s]) = (Qad w l && Qbk w l s) := by
 rw [QdN, QdN, List.length_append, List.length_singleton, List.range_succ, List.all_append]
 congr 1
 ·rw [Bool.eq_iff_iff, List.all_eq_true, List.all_eq_true]
  refine forall_congr' fun i => ?_
  constructor
  ·intro h hi
   have := h hi
   rw [List.mem_range] at hi
   rw [QaM (by simp; omega)] at this
   rw [QaM hi]
   rw [List.take_append_of_le_length (by omega), List.getElem_append_left hi] at this
   exact this
  ·intro h hi
   have := h hi
   rw [List.mem_range] at hi
   rw [QaM hi] at this
   rw [QaM (by simp; omega), List.take_append_of_le_length (by omega), List.getElem_append_left hi]
   exact this
 ·simp only [List.all_cons, List.all_nil, Bool.and_true]
  rw [QaM (by simp), List.take_append_of_le_length (Nat.le_refl _), List.take_length, List.getElem_append_right (Nat.le_refl _)]
  simp
theorem Qle {w : Qs} {l : List StepT} {s : StepT} (h : Qbk w l s = true) : Qax s.m (Q3 w l s.u) = s.m := by
 unfold Qbk at h
 simp only [Bool.and_eq_true, decide_eq_true_eq] at h
 exact h.1.2
theorem Qfr {x y : Int} (h : Qax x y = x) (hy : Lo y) : Lo x := by
 have hx : I64 x := by rw [<- h]; exact Qc7 x y
 refine Lo.of hx fun i hi => ?_
 cases ht : tb x i
 ·rfl
 ·have := (XX hx).1 h i ht
  rw [hy.hi hi] at this; cases this
theorem Qdb {w : Qs} : ∀ (n : Nat) (l : List StepT), l.length = n -> Qad w l = true -> QcV w l
 | 0, l, hl, _ => by rw [List.eq_nil_of_length_eq_zero hl]; intro s hs; cases hs
 | n + 1, l, hl, h => by
  have hne : l ≠ [] := by intro e; subst e; simp at hl
  have e := (List.dropLast_concat_getLast hne).symm
  rw [e, QcH, Bool.and_eq_true] at h
  have hp := Qdb n l.dropLast (by simp [hl]) h.1
  rw [e]
  exact QjM hp (Qfr (Qle h.2) (Qeq hp _))
end M25
namespace M25
open Go Go.Abs M3
/-! ### What every program says -/
/-! ### A world's facts, and more -/
end M25
namespace M25
open Go Go.Abs M3
/-! ### Powers of two -/
theorem Qio : ∀ (n : Nat), n ≠ 0 -> n &&& (n - 1) = 0 -> ∃ k, n = 2 ^ k := by
 intro n
 induction n using Nat.strongRecOn with
 | ind n ih =>
  intro h0 h
  have hd : (n &&& (n - 1)) / 2 = n / 2 &&& (n - 1) / 2 := Nat.and_div_two
  rw [h] at hd
  rcases Nat.mod_two_eq_zero_or_one n with e | e
  ·have h1 : (n - 1) / 2 = n / 2 - 1 := by omega
   rw [h1] at hd
   obtain ⟨k, hk⟩ := ih (n / 2) (by omega) (by omega) hd.symm
   exact ⟨k + 1, by rw [Nat.pow_succ]; omega⟩
  ·have h1 : (n - 1) / 2 = n / 2 := by omega
   rw [h1, Nat.and_self] at hd
   exact ⟨0, by simp; omega⟩
theorem Qh1 (k : Nat) : 2 ^ k &&& (2 ^ k - 1) = 0 := by
 refine Nat.eq_of_testBit_eq fun i => ?_
 rw [Nat.testBit_and, Nat.testBit_two_pow, Nat.testBit_two_pow_sub_one, Nat.zero_testBit]
 by_cases h : k = i
 ·subst h; simp
 ·simp [h]
theorem QiO {n m : Nat} (hn : n < 9223372036854775808) (hm : m < 9223372036854775808) : Qax (n : Int) (m : Int) = ((n &&& m : Nat) : Int) := by
 have h := Nat.and_le_left (n := n) (m := m)
 refine QhO (Qc7 _ _) ⟨by omega, by omega⟩ fun i => ?_
 rw [Qjo]
 by_cases hi : i < 64
 ·rw [QhP _ hi, QhP _ hi, QhP _ hi, Nat.testBit_and]
 ·rw [Qlh _ (by omega), Qlh _ (by omega), Qlh _ (by omega)]; rfl
def mOne (m : Int) : Bool := decide (1 < m) && decide (Qax m (m - 1) = 0)
theorem Qno {m : Int} (h : Lo m) : mOne m = true ↔ ∃ k, 1 <= k /\ k < 17 /\ m = 2 ^ k := by
 obtain ⟨n, rfl⟩ := Int.eq_ofNat_of_zero_le h.1
 have h2 := h.2
 unfold mOne
 simp only [Bool.and_eq_true, decide_eq_true_eq]
 constructor
 ·rintro ⟨h1, hb⟩
  rw [show (n : Int) - 1 = ((n - 1 : Nat) : Int) by omega, QiO (by omega) (by omega)] at hb
  obtain ⟨k, hk⟩ := Qio n (by omega) (by omega)
  have h17 : (2 : Nat) ^ 17 = 131072 := by decide
  refine ⟨k, ?_, ?_, by rw [hk]; simp⟩
  ·cases k with
   | zero => simp at hk; omega
   | succ k => omega
  ·refine Classical.byContradiction fun hn => ?_
   have := Nat.pow_le_pow_right (show 0 < 2 by omega) (show 17 <= k by omega)
   omega
 ·rintro ⟨k, h1, h3, hk⟩
  have e : n = 2 ^ k := by
   have : ((2 ^ k : Nat) : Int) = (2 : Int) ^ k := by simp
   omega
  have h4 : 2 ^ 1 <= 2 ^ k := Nat.pow_le_pow_right (by omega) h1
  refine ⟨by omega, ?_⟩
  rw [show (n : Int) - 1 = ((n - 1 : Nat) : Int) by omega, QiO (by omega) (by omega), e, Qh1]; rfl
theorem Qfg {k : Nat} (hk : k < 64) : ∀ n, n <= 64 -> Xi (2 ^ k) n = if k < n then [(k : Int) - 1] else []
 | 0, _ => by rw [if_neg (by omega)]; rfl
 | n + 1, hn => by
  rw [Xi, Qfg hk n (by omega)]
  have hb := QfR (x := (2 : Int) ^ k) (k := n) (by omega)
  rw [QfI hk] at hb
  by_cases e : n = k
  ·subst e
   rw [if_neg (by omega), if_neg (by rw [hb]; simp), if_pos (by omega)]; rfl
  ·rw [if_pos (hb.2 (decide_eq_false e)), List.append_nil]
   by_cases h : k < n
   ·rw [if_pos h, if_pos (by omega)]
   ·rw [if_neg h, if_neg (by omega)]
theorem Qhv {k : Nat} (hk : k < 17) : Xp (2 ^ k) = (k : Int) - 1 := by
 rw [Xp, Xm, Qfg (by omega) 17 (by omega), if_pos hk]; rfl
theorem Qbt {m x : Int} : ∀ n, n <= 64 -> (x ∈ Xi m n ↔ ∃ k, k < n /\ tb m k = true /\ x = (k : Int) - 1)
 | 0, _ => by simp [Xi]
 | n + 1, hn => by
  rw [Xi, List.mem_append, Qbt n (by omega)]
  have hb := QfR (x := m) (k := n) (by omega)
  constructor
  ·rintro (⟨k, h1, h2, h3⟩ | h)
   ·exact ⟨k, by omega, h2, h3⟩
   ·split at h
    ·cases h
    ·rename_i hn2
     simp only [List.mem_singleton] at h
     refine ⟨n, by omega, ?_, h⟩
     cases ht : tb m n
     ·exact absurd (hb.2 ht) hn2
     ·rfl
  ·rintro ⟨k, h1, h2, h3⟩
   by_cases e : k = n
   ·subst e
    right
    rw [if_neg (by rw [hb, h2]; simp), h3]; simp
   ·exact .inl ⟨k, by omega, h2, h3⟩
theorem QlZ : ∀ {l : List Int}, 0 <= QjL l -> ∃ x, l = [x] /\ 0 <= x
 | [], h => by simp [QjL] at h
 | [x], h => ⟨x, rfl, h⟩
 | _ :: _ :: _, h => by simp [QjL] at h
theorem QkX {m : Int} (h : Lo m) : 0 <= Xp m ↔ ∃ k, 1 <= k /\ k < 17 /\ m = 2 ^ k := by
 constructor
 ·intro hp
  obtain ⟨x, hx, h0⟩ := QlZ hp
  have hm := Qbt (m := m) (x := x) 17 (by omega)
  rw [<- Xm, hx] at hm
  obtain ⟨k, h1, h2, h3⟩ := hm.1 (by simp)
  refine ⟨k, by omega, h1, QhO h.i64 (QkF (by omega)).i64 fun i => ?_⟩
  rw [QfI (by omega)]
  by_cases e : i = k
  ·subst e; simp [h2]
  ·rw [decide_eq_false e]
   cases hi : tb m i
   ·rfl
   ·exfalso
    have hi17 : i < 17 := Classical.byContradiction fun hn => by rw [h.hi (by omega)] at hi; cases hi
    have := (Qbt (m := m) (x := (i : Int) - 1) 17 (by omega)).2 ⟨i, hi17, hi, rfl⟩
    rw [<- Xm, hx, List.mem_singleton] at this
    omega
 ·rintro ⟨k, h1, h2, rfl⟩
  rw [Qhv h2]; omega
theorem Qop {m : Int} (h : Lo m) : mOne m = decide (0 <= Xp m) := by
 rw [Bool.eq_iff_iff, Qno h, decide_eq_true_eq, QkX h]
/-! ### Qlp that may be: the program's -/
def mFits (w : Qs) (l : List StepT) (s : StepT) : Bool :=
 if Y7 w s.u = 0 \/ s.c < -1 \/ s.m = 0 \/ ¬ QhU s.m (X5 w l s.u) = 0 then false
 else if s.c = -1 then mOne s.m && !Y0 l s.u && decide (s.l = IntKind.i64.wrap (Yk l + 1))
 else !decide (s.m = X5 w l s.u) && decide (s.l = Yk l)
theorem Qne {w : Qs} {l : List StepT} {s : StepT} (hl : QcV w l) (hs : I64 s.m) : mFits w l s = Qbk w l s := by
 unfold mFits
 by_cases h1 : Y7 w s.u = 0
 ·rw [if_pos (.inl h1)]
  rw [Xj] at h1
  unfold Qbk; rw [h1]; rfl
 ·have hin : inW w s.u = true := by
   cases e : inW w s.u
   ·exact absurd (Xj.2 e) h1
   ·rfl
  rw [Qgc hin]
  have hi := Qc8.1 hin
  by_cases h2 : s.c < -1
  ·rw [if_pos (.inr (.inl h2)), YK (.inr (.inr h2))]
  ·rw [ZT hi.1 hi.2 (by omega)]
   have hlo := Qeq hl s.u
   have hb : QhU s.m (Q3 w l s.u) = 0 ↔ Qax s.m (Q3 w l s.u) = s.m := not_zero.trans (XX hs).symm
   by_cases h4 : QhU s.m (Q3 w l s.u) = 0
   ·have hlm : Lo s.m := Qfr (hb.1 h4) hlo
    rw [decide_eq_true (hb.1 h4), Bool.true_and]
    by_cases h3 : s.m = 0
    ·rw [if_pos (.inr (.inr (.inl h3)))]
     rw [h3]
     split
     ·have : Xp 0 = -1 := by decide
      rw [this]; rfl
     ·simp
    ·rw [if_neg (by simp [h1, h2, h3, h4])]
     split
     ·rw [Qop hlm]
     ·rw [decide_eq_false h3]; rfl
   ·rw [if_pos (.inr (.inr (.inr h4))), decide_eq_false (fun e => h4 (hb.2 e))]; rfl
def Qg4 (w : Qs) (l : List StepT) (i : Nat) : Bool := match l[i]? with
 | some s => mFits w (l.take i) s
 | none => true
theorem Qee {w : Qs} {l : List StepT} {i : Nat} (h : i < l.length) : Qg4 w l i = mFits w (l.take i) l[i] := by
 rw [Qg4, List.getElem?_eq_getElem h]
def QlV (w : Qs) (l : List StepT) : Bool := (List.range l.length).all (Qg4 w l)
theorem Qhq {w : Qs} {l : List StepT} (hI : ∀ s ∈ l, I64 s.m) : ∀ n, n <= l.length -> (List.range n).all (Qg4 w l) = Qad w (l.take n)
 | 0, _ => rfl
 | n + 1, hn => by
  have ih := Qhq (w := w) hI n (by omega)
  rw [List.range_succ, List.all_append, ih, List.take_succ_eq_append_getElem (by omega), QcH]
  cases hm : Qad w (l.take n)
  ·rfl
  ·simp only [List.all_cons, List.all_nil, Bool.and_true, Bool.true_and]
   rw [Qee (by omega), Qne (Qdb _ _ rfl hm) (hI _ (List.getElem_mem _))]
theorem Qjd {w : Qs} {l : List StepT} (hI : ∀ s ∈ l, I64 s.m) : QlV w l = Qad w l := by
 rw [QlV, Qhq hI l.length (Nat.le_refl _), List.take_length]
/-! ### Deciding -/
def YH (w : Qs) (l : List StepT) (u p : Int) : Option (List StepT) := match uAt w u with
 | none => none
 | some x => if p < 0 \/ (x.cs.length : Int) <= p then none
  else if Qax (Q3 w l u) (2 ^ (p + 1).toNat) = 0 \/ Y0 l u = true then none else some (l ++ [⟨u, 2 ^ (p + 1).toNat, IntKind.i64.wrap (Yk l + 1), -1⟩])
theorem Qn4 {p : Int} (h0 : 0 <= p) (h1 : p < 16) : IntKind.i64.wrap (2 * 2 ^ min p.toNat 64) = 2 ^ (p + 1).toNat := by
 rw [show min p.toNat 64 = p.toNat by omega, show (p + 1).toNat = p.toNat + 1 by omega, Int.pow_succ, Int.mul_comm]
 have := QkF (k := p.toNat + 1) (by omega)
 rw [Int.pow_succ] at this
 exact Qi3 this.i64
theorem Qap {w : Qs} (hw : ∀ u ∈ w, u.cs.length <= 16) {l : List StepT} (hl : QcV w l) (u p : Int) : YH w l u p = Qgh w l u p := by
 unfold YH Qgh
 cases hu : uAt w u with
 | none => rfl
 | some x =>
  simp only
  by_cases hp : p < 0 \/ (x.cs.length : Int) <= p
  ·rw [if_pos hp, if_pos hp]
  ·rw [if_neg hp, if_neg hp]
   have hux : 0 <= u /\ u < w.length /\ x ∈ w := by
    unfold uAt at hu
    split at hu
    ·cases hu
    ·have := (List.getElem?_eq_some_iff.1 hu).1
     exact ⟨by omega, by omega, List.mem_of_getElem? hu⟩
   have hx := hw x hux.2.2
   rw [Qn4 (by omega) (by omega)]
   have hk : (p + 1).toNat < 17 := by omega
   have hlm : Lo ((2 : Int) ^ (p + 1).toNat) := QkF (by omega)
   rw [ZT hux.1 hux.2.1 (by show (-1 : Int) <= -1; omega)]
   simp only [if_true]
   have hb : Qax (Q3 w l u) (2 ^ (p + 1).toNat) = 0 ↔ tb (Q3 w l u) (p + 1).toNat = false := QfR (by omega)
   have hb2 : Qax (2 ^ (p + 1).toNat) (Q3 w l u) = 2 ^ (p + 1).toNat ↔ tb (Q3 w l u) (p + 1).toNat = true := by
    rw [XX hlm.i64]
    constructor
    ·intro h; exact h _ (by rw [QfI (by omega)]; simp)
    ·intro h i hi
     rw [QfI (by omega)] at hi
     rw [of_decide_eq_true hi]; exact h
   have hpl : decide (0 <= Xp (2 ^ (p + 1).toNat)) = true := by rw [decide_eq_true_eq, Qhv hk]; omega
   rw [hpl]
   cases ht : tb (Q3 w l u) (p + 1).toNat
   ·rw [if_pos (.inl (hb.2 ht)), if_neg (by rw [decide_eq_false (by rw [hb2, ht]; simp)]; simp)]
   ·have h1 : ¬ Qax (Q3 w l u) (2 ^ (p + 1).toNat) = 0 := by rw [hb, ht]; simp
    cases hd : Y0 l u
    ·rw [if_neg (by simp [h1]), decide_eq_true (hb2.2 ht)]; simp
    ·rw [if_pos (.inr rfl)]; simp
end M25
