/- Part 4 of the means of the proof: a verified abstract evaluator, the prepared functions, and contracts of functions. It states nothing of the claim by itself. -/
import Derived.Test.YtfgihmikcbbbgaaGreatB3
set_option maxRecDepth 4000
set_option linter.unusedSimpArgs false
set_option linter.unusedVariables false
namespace Go.Proofs
open Go Go.Abs M3 M25
theorem JR {l : List (Cu × Cu)} (hl : Sm l) {a b c : Int} {p q : List UInt8} (hp : p.length <= 1000000) (hq : q.length <= 1000000) : Ok Tryz.prog 102 [ZH l, .agg [.int .i64 a, .int .i64 b, .int .i64 c, .str p, .str q]] (.bool (RQ l a b c p q)) := by
 refine Ok.ofT ZU Tryz.func102 Qey (Qgr Z) ?_
 show TW _ _ tf102.body _ _
 have hn := hl.1
 refine Qb fun K hK => Zw Z Z Z (Qa Z (kc2 hK Z Z ?_))
 refine QA ?_ -- 0
 refine Qb fun K hK => Qa Z (kc3 hK Z Z Z ?_)
 refine Qz ?_
 refine Zp (ι := Nat) (fun i => ⟨[(0, ZH l), (3, .ref 3 0 0), (5, .int .i64 i)], [(3, ⟨[[.int .i64 a, .int .i64 b, .int .i64 c, .str p, .str q]], 5, 58, true⟩)]⟩) (fun i => i <= l.length /\ (l.take i).any (fun s => RR s a b c p q) = false) (fun i => l.length - i) 0 ?_ ?_ ?_
 ·exact Q5 (l := [0, 3, 5]) (lH := [3]) (kp3 rfl rfl rfl) (Qc rfl Qn) rfl rfl rfl
 ·exact ⟨QgD _, by simp⟩
 intro i hI
 try dsimp only
 refine QA ?_ -- 1
 refine Qb fun K hK => mv2 Z Z (QH Z Z (Yh Z Z (Qa Z ?_)))
 refine Qu (g := 10) Z (fun h1 => ?_) (fun h1 => ?_)
 ·try rw [h1]
  try simp only [qA] at h1
  refine Qd Z (Qa Z (Qd Z (Qv (Z1 hl) Z Z (.inr Z) (Qh Z Z (kc4 hK Z Z Z Z ?_)))))
  refine Qs Z (fun h2 => ?_) (fun h2 => ?_)
  ·try rw [h2]
   try simp only [qA] at h2
   refine Qr (ks3 Z Z Z ?_)
   refine QA ?_ -- 2
   refine Qz (Qb fun K hK => mv2 Z Z (QF Z Z Z Wa (QP Wa) Z (QI (ds0 := [0]) (cs := [_, _, _, _, _, _, _, _, _, _, _, _, _, _]) Z Z Z Z Z Z (QI (ds0 := [0]) (cs := [_, _, _, _, _]) Z Z Z Z Z Z (QR (ds0 := []) (Gq (hl.at (i := i) Wa).1.1 (hl.at (i := i) Wa).1.2 (hl.at (i := i) Wa).2.1 (hl.at (i := i) Wa).2.2 hp hq) Z Z (.inr Z) Z Z (kc4 hK Z Z Z Z ?_))))))
   refine Qs Z (fun h3 => ?_) (fun h3 => ?_)
   ·try rw [h3]
    try simp only [qA] at h3
    refine Qb fun K hK => Qa Z (kc1 hK Z ?_)
    refine Qq (Qp (Qg (QZ (Qp (Qg (Qm Z ?_))))))
    first
     | exact (Rz (i := i) Wa hI.2).symm
     | exact (RA h2).symm
     | exact (RB h2 (i := i) Wa h3).symm
   ·try rw [h3]
    try simp only [qA] at h3
    refine Qr (Qe (ks3 Z Z Z (QK fun K hK => Qa Z (QX Z Z Wc (Qa Z (hK _ ?_))))))
    refine Qi (i + 1) ?_ ?_ ?_
    ·exact Q5 (l := [0, 3, 5]) (lH := [3]) (kp3 rfl rfl rfl) (Qc rfl Qn) rfl rfl rfl
    ·exact ⟨Wa, Pv Wa hI.2 h3⟩
    ·first | omega | (simp only; omega) | (dsimp only; omega)
  ·try rw [h2]
   try simp only [qA] at h2
   refine Zi (QJ (Qw (QE (Zf (ZD) (Qb fun K hK => Qa Z (kc1 hK Z ?_))))))
   refine Qq (Qm Z ?_)
   first
    | exact (Rz (i := i) Wa hI.2).symm
    | exact (RA h2).symm
    | exact (RB h2 (i := i) Wa h3).symm
 ·try rw [h1]
  try simp only [qA] at h1
  refine gn2 Z Z (Qh Z Z (kc4 hK Z Z Z Z ?_))
  refine Z2 Z (Zi (QJ (Qw (QE (Zf (ZD) (Qb fun K hK => Qa Z (kc1 hK Z ?_)))))))
  refine Qq (Qm Z ?_)
  first
   | exact (Rz (i := i) Wa hI.2).symm
   | exact (RA h2).symm
   | exact (RB h2 (i := i) Wa h3).symm
theorem YM {s : List (Cu × Cu) × List (Cu × Cu)} (h1s : Sm s.1) (h2s : Sm s.2) : Ok Tryz.prog 89 [Rn s] (.bool (JL s)) := by
 refine Ok.ofT ZU Tryz.func89 Qgd (Qgr Z) ?_
 show TW _ _ tf89.body _ _
 have hn := h1s.1
 refine Qb fun K hK => Zw Z Z Z (Qa Z (kc1 hK Z ?_))
 refine QA ?_ -- 0
 refine Qb fun K hK => Qf Z Z (Qy Z Z Z (Qv (Z1 h1s) Z Z (.inr Z) (Ya Z (Qa Z ?_))))
 refine Qu (g := 8) Z (fun h1 => ?_) (fun h1 => ?_)
 ·try rw [h1]
  try simp only [qA] at h1
  refine gn4 Z Z Z Z (Qh Z Z (kc2 hK Z Z ?_))
  refine Zo Z (Qb fun K hK => Qa Z (kc1 hK Z ?_))
  refine Qq (Qg (Qm Z ?_))
  first
   | exact (FA (i := i) h1 h2 Wa hI.2).symm
   | exact (Kd (i := i) Wa (.inl h4)).symm
   | exact (Kd (i := i) Wa (.inr h5)).symm
   | exact (Ke (.inl h1)).symm
   | exact (Ke (.inr h2)).symm
 ·try rw [h1]
  try simp only [qA] at h1
  refine Qd Z (Qf Z Z (Qd Z (Qy Z Z Z (Qd Z (Qv (Z1 h2s) Z Z (.inr Z) (Qd Z (Ya Z (Qh Z Z (kc2 hK Z Z ?_)))))))))
  refine Qs Z (fun h2 => ?_) (fun h2 => ?_)
  ·try rw [h2]
   try simp only [qA] at h2
   refine Qb fun K hK => Qa Z (kc1 hK Z ?_)
   refine Qq (Qg (Qm Z ?_))
   first
    | exact (FA (i := i) h1 h2 Wa hI.2).symm
    | exact (Kd (i := i) Wa (.inl h4)).symm
    | exact (Kd (i := i) Wa (.inr h5)).symm
    | exact (Ke (.inl h1)).symm
    | exact (Ke (.inr h2)).symm
  ·try rw [h2]
   try simp only [qA] at h2
   refine Qr (ks1 Z ?_)
   refine QA ?_ -- 1
   refine Qb fun K hK => Qa Z (kc2 hK Z Z ?_)
   refine Qz ?_
   refine Zp (ι := Nat) (fun i => ⟨[(1, .ref 1 0 0), (3, .int .i64 i)], [(1, ⟨[[ZH s.1, ZH s.2]], 2, 68, true⟩)]⟩) (fun i => i <= s.1.length /\ (s.1.take i).all (fun x => K9 x.1 && K9 x.2) = true) (fun i => s.1.length - i) 0 ?_ ?_ ?_
   ·exact Q5 (l := [1, 3]) (lH := [1]) (kp2 rfl rfl) (Qc rfl Qn) rfl rfl rfl
   ·exact ⟨QgD _, by simp⟩
   intro i hI
   try dsimp only
   refine QA ?_ -- 2
   refine Qb fun K hK => Qa Z (Qf Z Z (Qy Z Z Z (QH Z Z (Yh Z Z (kc3 hK Z Z Z ?_)))))
   refine Qs Z (fun h3 => ?_) (fun h3 => ?_)
   ·try rw [h3]
    try simp only [qA] at h3
    refine Qr (ks2 Z Z ?_)
    refine QA ?_ -- 3
    refine Qz (Qb fun K hK => Qf Z Z (Qy Z Z Z (Qa Z (QF Z Z Z Wa (QP Wa) Z (Q3 Z Z (QC (cs := [_, _, _, _, _, _, _]) Z Z Z Z (Qv (Jb) Z Z (.inr Z) (Ya Z (Qa Z ?_)))))))))
    refine Qu (g := 29) Z (fun h4 => ?_) (fun h4 => ?_)
    ·try rw [h4]
     try simp only [qA] at h4
     refine gn4 Z Z Z Z (gn4 Z Z Z Z (Qh Z Z (kc3 hK Z Z Z ?_)))
     refine Zo Z (Qb fun K hK => Qa Z (kc1 hK Z ?_))
     refine Qq (Qp (Qg (QZ (Qp (Qg (Qm Z ?_))))))
     first
      | exact (FA (i := i) h1 h2 Wa hI.2).symm
      | exact (Kd (i := i) Wa (.inl h4)).symm
      | exact (Kd (i := i) Wa (.inr h5)).symm
      | exact (Ke (.inl h1)).symm
      | exact (Ke (.inr h2)).symm
    ·try rw [h4]
     try simp only [qA] at h4
     refine Qd Z (Qf Z Z (Qd Z (Qy Z Z Z (Qd Z (Qa Z (Qd Z (QF Z Z Z Wa (QP Wa) Z (Qd Z (Q3 Z Z (Qd Z (QC (cs := [_, _, _, _, _, _, _]) Z Z Z Z ?_)))))))))))
     refine Qd Z (Qv (Jb) Z Z (.inr Z) (Qd Z (Ya Z (Qh Z Z (kc3 hK Z Z Z ?_)))))
     refine Qs Z (fun h5 => ?_) (fun h5 => ?_)
     ·try rw [h5]
      try simp only [qA] at h5
      refine Qb fun K hK => Qa Z (kc1 hK Z ?_)
      refine Qq (Qp (Qg (QZ (Qp (Qg (Qm Z ?_))))))
      first
       | exact (FA (i := i) h1 h2 Wa hI.2).symm
       | exact (Kd (i := i) Wa (.inl h4)).symm
       | exact (Kd (i := i) Wa (.inr h5)).symm
       | exact (Ke (.inl h1)).symm
       | exact (Ke (.inr h2)).symm
     ·try rw [h5]
      try simp only [qA] at h5
      refine Qr (Qe (ks2 Z Z (QK fun K hK => Qa Z (QX Z Z Wc (Qa Z (hK _ ?_))))))
      refine Qi (i + 1) ?_ ?_ ?_
      ·exact Q5 (l := [1, 3]) (lH := [1]) (kp2 rfl rfl) (Qc rfl Qn) rfl rfl rfl
      ·exact ⟨Wa, Yf Wa hI.2 (by rw [show K9 s.1[i].1 = true from h4, show K9 s.1[i].2 = true from h5]; rfl)⟩
      ·first | omega | (simp only; omega) | (dsimp only; omega)
   ·try rw [h3]
    try simp only [qA] at h3
    refine Zi (QJ (Qw (QE (Zf (ZD) (Qb fun K hK => Qa Z (kc1 hK Z ?_))))))
    refine Qq (Qm Z ?_)
    first
     | exact (FA (i := i) h1 h2 Wa hI.2).symm
     | exact (Kd (i := i) Wa (.inl h4)).symm
     | exact (Kd (i := i) Wa (.inr h5)).symm
     | exact (Ke (.inl h1)).symm
     | exact (Ke (.inr h2)).symm
theorem G6 {s : List (Cu × Cu) × List (Cu × Cu)} (h1s : Sm s.1) (h2s : Sm s.2) {a b c : Int} {p q : List UInt8} (hp : p.length <= 1000000) (hq : q.length <= 1000000) : Ok Tryz.prog 94 [Rn s, .agg [.int .i64 a, .int .i64 b, .int .i64 c, .str p, .str q]] (.bool (D5 s a b c p q)) := by
 refine Ok.ofT ZU Tryz.func94 Qgi (Qgr Z) ?_
 show TW _ _ tf94.body _ _
 refine Qb fun K hK => Zw Z Z Z (Zw Z Z Z (Qa Z (kc2 hK Z Z ?_)))
 refine QA ?_ -- 0
 refine Qb fun K hK => QC (cs := [_, _]) Z Z Z Z (Qv (YM h1s h2s) Z Z (.inr Z) (Ya Z (Qa Z ?_)))
 refine Qu (g := 8) Z (fun h1 => ?_) (fun h1 => ?_)
 ·try rw [h1]
  try simp only [qB] at h1
  refine gn3 Z Z Z (Qh Z Z (kc3 hK Z Z Z ?_))
  refine Zo Z (Qb fun K hK => Qa Z (kc1 hK Z ?_))
  refine Qq (Qg (Qm Z ?_))
  (repeat clear hK K); simp_all [D5]
 ·try rw [h1]
  try simp only [qB] at h1
  refine Qd Z (QC (cs := [_, _, _, _, _]) Z Z Z Z (Qd Z (Qv (Zb hp hq) Z Z (.inr Z) (Qd Z (Ya Z (Qh Z Z (kc3 hK Z Z Z ?_)))))))
  refine Qs Z (fun h2 => ?_) (fun h2 => ?_)
  ·try rw [h2]
   try simp only [qB] at h2
   refine Qb fun K hK => Qa Z (kc1 hK Z ?_)
   refine Qq (Qg (Qm Z ?_))
   (repeat clear hK K); simp_all [D5]
  ·try rw [h2]
   try simp only [qB] at h2
   refine Qr (ks2 Z Z ?_)
   refine QA ?_ -- 1
   refine Qb fun K hK => Qf Z Z (Qy Z Z Z (Mb Z Z (kc3 hK Z Z Z ?_)))
   refine Qs Z (fun h3 => ?_) (fun h3 => ?_)
   ·try rw [h3]
    try simp only [qB] at h3
    refine Qb fun K hK => Qf Z Z (Qy Z Z Z (QC (cs := [_, _, _, _, _]) Z Z Z Z (Qv (JR h1s hp hq) Z Z (.inr Z) (Qa Z (kc1 hK Z ?_)))))
    refine Qq (Qg (Qm Z ?_))
    (repeat clear hK K); simp_all [D5]
   ·try rw [h3]
    try simp only [qB] at h3
    refine Qr (ks2 Z Z (Qb fun K hK => Qf Z Z (Qy Z Z Z (QC (cs := [_, _, _, _, _]) Z Z Z Z (Qv (JR h2s hp hq) Z Z (.inr Z) (Qa Z (kc1 hK Z ?_)))))))
    refine Qq (Qm Z ?_)
    (repeat clear hK K); simp_all [D5]
open Go Go.Abs M3 M25
theorem _root_.Wr {p : Prop} (h : p := by first | exact .inl (by omega) | exact .inr ⟨by omega, by assumption, by assumption⟩) : p := h
theorem JT {l : List Cu} {c : Cu} (hl : l.length <= 3000000) (hs : ∀ x ∈ l, Cu.sm x) (hc : Cu.sm c) : Ok Tryz.prog 105 [Rm l, .agg (dCu c)] (Rm (HE l c)) := by
 refine Ok.ofT ZU Tryz.func105 QeB (Qgr Z) ?_
 show TW _ _ tf105.body _ _
 refine Qb fun K hK => Zw Z Z Z (Qa Z (kc2 hK Z Z ?_))
 refine Qb fun K hK => Qa Z (kc3 hK Z Z Z ?_)
 refine QA ?_ -- 0
 refine Qz ?_
 refine Zp (ι := Nat) (fun k => ⟨[(0, Rm l), (3, .ref 3 0 0), (5, .int .i64 k)], [(3, ⟨[dCu c], 7, 96, true⟩)]⟩) (fun k => k <= l.length /\ HE l c = l.take k ++ HE (l.drop k) c) (fun k => l.length - k) 0 ?_ ?_ ?_
 ·exact Q5 (l := [0, 3, 5]) (lH := [3]) (kp3 rfl rfl rfl) (Qc rfl Qn) rfl rfl rfl
 ·exact ⟨QgD _, by simp⟩
 intro k hI
 try dsimp only
 refine QA ?_ -- 1
 refine Qb fun K hK => mv2 Z Z (QH Z Z (Yh Z Z (Qa Z ?_)))
 refine Qu (g := 10) Z (fun h1 => ?_) (fun h1 => ?_)
 ·try rw [h1]
  try simp only [qA] at h1
  refine Qd Z (Qa Z (Qd Z (Qa Z (Qd Z (QF Z Z Z Wa (QP Wa) Z (Qd Z (QI (ds0 := [2, 1, 0]) (cs := [_, _, _, _, _, _, _]) Z Z Z Z Z Z (Qd Z (QI (ds0 := [2, 1, 0]) (cs := [_, _, _, _, _, _, _]) Z Z Z Z Z Z (Qd Z (QR (ds0 := [1, 0]) (Zu (hs _ (Qgw Wa)).1 (hs _ (Qgw Wa)).2 hc.1 hc.2) Z Z (.inr Z) Z Z ?_)))))))))))
  refine Qd Z (Yh Z Z (Qh Z Z (kc4 hK Z Z Z Z ?_)))
  refine Qs Z (fun h2 => ?_) (fun h2 => ?_)
  ·try rw [h2]
   try simp only [qA] at h2
   refine Qr (ks3 Z Z Z (Qz (QK fun K hK => Qa Z (QX Z Z Wc (Qa Z (hK _ ?_))))))
   refine Qe ?_
   refine Qi (k + 1) ?_ ?_ ?_
   ·exact Q5 (l := [0, 3, 5]) (lH := [3]) (kp3 rfl rfl rfl) (Qc rfl Qn) rfl rfl rfl
   ·exact ⟨Wa, Bq Wa h2 hI.2⟩
   ·first | omega | (simp only; omega) | (dsimp only; omega)
  ·try rw [h2]
   try simp only [qA] at h2
   refine Zi (QJ (Qw (QE (ks3 Z Z Z ?_))))
   refine QA ?_ -- 2
   refine Qb fun K hK => mv2 Z Z (QH Z Z (Yh Z Z (Qa Z ?_)))
   refine Qu (g := 25) Z (fun h3 => ?_) (fun h3 => ?_)
   ·try rw [h3]
    try simp only [qA] at h3
    refine Qd Z (Qa Z (Qd Z (Qa Z (Qd Z (QF Z Z Z Wa (QP Wa) Z (Qd Z (QI (ds0 := [2, 1, 0]) (cs := [_, _, _, _, _, _, _]) Z Z Z Z Z Z (Qd Z (QI (ds0 := [2, 1, 0]) (cs := [_, _, _, _, _, _, _]) Z Z Z Z Z Z (Qd Z (QR (ds0 := [1, 0]) (Zu (hs _ (Qgw Wa)).1 (hs _ (Qgw Wa)).2 hc.1 hc.2) Z Z (.inr Z) Z Z ?_)))))))))))
    refine Qd Z (ZE Z Z (Qh Z Z (kc4 hK Z Z Z Z ?_)))
    refine Qs Z (fun h4 => ?_) (fun h4 => ?_)
    ·try rw [h4]
     try simp only [qA] at h4
     refine Qb fun K hK => mv2 Z Z (kc1 hK Z ?_)
     refine Qq (Qg (Ye Z ?_))
     rw [Bp (k := k) Wa Wl hI.2]; rfl
    ·try rw [h4]
     try simp only [qA] at h4
     refine Qr (ks3 Z Z Z (Qb fun K hK => mv2 Z Z (Gz Z Z Z Z Wa Wa Wh Te Z (FR (ds0 := [5, 1, 0]) Z Z (fun _ h => ⟨Qbk, h⟩) Z (.inl Z) Wf Wh Wh Z Z (QI (ds0 := [6, 5, 1, 0]) (cs := [_, _, _, _, _, _, _]) Z Z Z Z Z Z (QD Z Z (Hh (ds0 := [1, 0]) Z Z Wn ⟨_, rfl, rfl, rfl, rfl, rfl⟩ Z Z Wf Z Z Wh Wh Z Z (mv2 Z Z ?_))))))))
     refine Gz Z Z Z Z Wa Wh Wf Te Z (Hh (ds0 := [0]) Z Z Wn ⟨rfl, Qbk, rfl⟩ Z Z Wf Z Z Wh Wh Z Z (Qa Z (kc1 hK Z ?_)))
     refine Qq (Ye Z ?_)
     rw [Di (k := k) Wr hI.2]; simp [J8, D.fz, D.fzS, FP, lk, D.can, D.canS, Rm, D.sid, (show ∀ a b : Nat, a + 1 + b = a + (b + 1) from fun a b => Wa), QgH (show (l.map dCu).length <= l.length by simp)] <;> rfl
   ·try rw [h3]
    try simp only [qA] at h3
    exact absurd h1 h3
 ·try rw [h1]
  try simp only [qA] at h1
  refine gn4 Z Z Z Z (gn3 Z Z Z (Qh Z Z (kc4 hK Z Z Z Z ?_)))
  refine Z2 Z (Zi (QJ (Qw (QE (ks3 Z Z Z ?_)))))
  refine QA ?_ -- 2
  refine Qb fun K hK => mv2 Z Z (QH Z Z (Yh Z Z (Qa Z ?_)))
  refine Qu (g := 25) Z (fun h5 => ?_) (fun h5 => ?_)
  ·try rw [h5]
   try simp only [qA] at h5
   exact absurd h5 h1
  ·try rw [h5]
   try simp only [qA] at h5
   refine gn4 Z Z Z Z (gn3 Z Z Z (Qh Z Z (kc4 hK Z Z Z Z ?_)))
   refine Z2 Z (Qr (ks3 Z Z Z (Qb fun K hK => mv2 Z Z (Gz Z Z Z Z Wa Wa Wh Te Z (FR (ds0 := [5, 1, 0]) Z Z (fun _ h => ⟨Qbk, h⟩) Z (.inl Z) Wf Wh Wh Z Z (QI (ds0 := [6, 5, 1, 0]) (cs := [_, _, _, _, _, _, _]) Z Z Z Z Z Z (QD Z Z (Hh (ds0 := [1, 0]) Z Z Wn ⟨_, rfl, rfl, rfl, rfl, rfl⟩ Z Z Wf Z Z Wh Wh Z Z (Qa Z ?_)))))))))
   refine Qa Z (Gz Z Z Z Z Wa Wh Wf Te Z (Hh (ds0 := [0]) Z Z Wn ⟨rfl, Qbk, rfl⟩ Z Z Wf Z Z Wh Wh Z Z (Qa Z (kc1 hK Z ?_))))
   refine Qq (Ye Z ?_)
   rw [Di (k := k) Wr hI.2]; simp [J8, D.fz, D.fzS, FP, lk, D.can, D.canS, Rm, D.sid, (show ∀ a b : Nat, a + 1 + b = a + (b + 1) from fun a b => Wa), QgH (show (l.map dCu).length <= l.length by simp)] <;> rfl
theorem _root_.Wk {p : Prop} (h : p := by decide) : p := h
theorem Jr {l : List (Cu × Cu)} (hl : Sm l) : Ok Tryz.prog 99 [ZH l] (Rm (Y1 l)) := by
 refine Ok.ofT ZU Tryz.func99 Qgn (Qgr Z) ?_
 show TW _ _ tf99.body _ _
 have hn := hl.1
 refine Qb fun K hK => Qa Z (kc1 hK Z ?_)
 refine Qb fun K hK => Qv (Y7) Z Z (.inl Z) (Qv (Xk) Z Z (.inl Z) (QD Z Z (Qa Z (kc2 hK Z Z ?_))))
 refine QA ?_ -- 0
 refine Qb fun K hK => Qa Z (kc3 hK Z Z Z ?_)
 refine Qz ?_
 refine Zp (ι := Nat) (fun i => ⟨[(0, ZH l), (3, Rm (Y1 (l.take i))), (4, .int .i64 i)], []⟩) (fun i => i <= l.length) (fun i => l.length - i) 0 ?_ ?_ ?_
 ·exact le_trans (SP 7 _ Wk) (Q5 (l := [0, 3, 4]) (lH := []) (kp3 rfl rfl rfl) Qn rfl rfl rfl)
 ·exact QgD _
 intro i hI
 try dsimp only
 refine QA ?_ -- 1
 refine Qb fun K hK => mv2 Z Z (QH Z Z (Yh Z Z (kc4 hK Z Z Z Z ?_)))
 refine Qs Z (fun h1 => ?_) (fun h1 => ?_)
 ·try rw [h1]
  try simp only [qA] at h1
  refine Qr (ks3 Z Z Z ?_)
  refine QA ?_ -- 2
  refine Qz (QK fun K hK => mv2 Z Z (Qa Z (QF Z Z Z Wa (QP Wa) Z (Q3 Z Z (QI (ds0 := [7, 1, 0]) (cs := [_, _, _, _, _, _, _]) Z Z Z Z Z Z (QR (ds0 := [1, 0]) (JT (QgK (NW hl i).1 Wa) (NW hl i).2 (hl.2 _ (Qgw Wa)).1) Z Z (.inl Z) Z Z (mv2 Z Z (QF Z Z Z Wa (QP Wa) Z ?_))))))))
  refine Q3 Z Z (QI (ds0 := [1, 0]) (cs := [_, _, _, _, _, _, _]) Z Z Z Z Z Z (QR (ds0 := [0]) (JT (QgK (NX _ _) (by have := (NW hl i).1; omega)) (RS (NW hl i).2 (hl.2 _ (Qgw Wa)).1) (hl.2 _ (Qgw Wa)).2) Z Z (.inl Z) Z Z (Qa Z (hK _ ?_))))
  refine Qe (ks3 Z Z Z (QK fun K hK => Qa Z (QX Z Z Wc (Qa Z (hK _ ?_)))))
  refine Qi (i + 1) ?_ ?_ ?_
  ·exact Q5 (l := [0, 3, 4]) (lH := []) (kp3 rfl rfl rfl) Qn (by rw [Qa3 Wa]; rfl) rfl rfl
  ·omega
  ·first | omega | (simp only; omega) | (dsimp only; omega)
 ·try rw [h1]
  try simp only [qA] at h1
  refine Zi (QJ (Qw (QE (ks1 Z (Qb fun K hK => mv2 Z Z (kc1 hK Z ?_))))))
  refine Qq (Ye Z ?_)
  rw [QgH (Wa : l.length <= i)]; rfl
open Go Go.Abs M3 M25
theorem Js {l : List (Cu × Cu)} {x y : Cu} (hn : l.length <= 3000000) (hl : ∀ s ∈ l, Cu.sm s.1 /\ Cu.sm s.2) (hx : Cu.sm x) (hy : Cu.sm y) : OkH Tryz.prog 101 [.osl 500000 l.length, .agg (dCu x), .agg (dCu y)] [(500000, ⟨l.map NC, 14, 99, true⟩)] (.osl 500000 (HD l x y).length) [(500000, ⟨(HD l x y).map NC, 14, 99, true⟩)] := by
 refine OkH.mv ZU Tryz.func101 Qex (Qgr Z) Z ?_
 show TW _ _ tf101.body _ _
 refine Qb fun K hK => Zw Z Z Z (Zw Z Z Z (Qa Z (kc3 hK Z Z Z ?_)))
 refine QA ?_ -- 0
 refine Qb fun K hK => Qa Z (QH Z Z (XU Z Z Wc (Qa Z (kc4 hK Z Z Z Z ?_))))
 refine Qb fun K hK => Qa Z (Mc Z Z (Qa Z ?_))
 refine Qu (g := 13) Z (fun h1 => ?_) (fun h1 => ?_)
 ·try rw [h1]
  try simp only [qA] at h1
  refine Qd Z (Qa Z (Qd Z (Qa Z (Qd Z (XT (ds0 := [5, 4, 2, 1, 0]) Z Z Z Wf Wa Wa Z Z Z (Qd Z (Qf Z Z (Qd Z (QI (ds0 := [2, 1, 0]) (cs := [_, _, _, _, _, _, _]) Z (Z9 Z (ZN Wa Wa)) Z Z Z Z (Qd Z (QI (ds0 := [2, 1, 0]) (cs := [_, _, _, _, _, _, _]) Z Z Z Z Z Z ?_)))))))))))
  refine Qd Z (QR (ds0 := [1, 0]) (Zu (hl _ (Qgw Wa)).2.1 (hl _ (Qgw Wa)).2.2 hx.1 hx.2) Z Z (.inr Z) Z Z (Qd Z (ZE Z Z (Qh Z Z (kc5 hK Z Z Z Z Z ?_)))))
  refine Qs Z (fun h2 => ?_) (fun h2 => ?_)
  ·try rw [h2]
   try simp only [qA] at h2
   refine Qb fun K hK => mv2 Z Z (QC (cs := [_, _, _, _, _, _, _]) Z Z Z Z (Xq Z Z Z Wf Wa Wa Z (Qf Z Z (Q1 Z Z (ZN Wa Wa) Z Z Z Z Z (kc1 hK Z ?_)))))
   refine Qb fun K hK => mv2 Z Z (kc1 hK Z ?_)
   refine Qq (Qg ?_)
   refine YH Z ?_ (HQ ?_)
   ·rw [SV (i := ((l.length : Int) - 1).toNat) Wa h2]; simp [Ci, D.fz, D.fzS, NI, D.can, D.canS]
   ·rw [SV (i := ((l.length : Int) - 1).toNat) Wa h2]; simp [lk, List.map_set, NC, dCu, setRow, D.sid]
  ·try rw [h2]
   try simp only [qA] at h2
   refine Qr (ks3 Z Z Z (Qb fun K hK => Qa Z (QC (cs := [_, _, _, _, _, _, _]) Z Z Z Z (QC (cs := [_, _, _, _, _, _, _]) Z Z Z Z (QQ Z Z (QD Z Z (XF Z Z (fun _ h => XC Z Z Z h) Z Wf Z Z Z Wh Wh (Qa Z (kc1 hK Z ?_)))))))))
   refine Qq ?_
   refine YH Z ?_ (HQ ?_)
   ·rw [Fv (.inr ⟨((l.length : Int) - 1).toNat, Wa, h2⟩)]; simp [Ci, D.fz, D.fzS, NI, D.can, D.canS]
   ·rw [Fv (.inr ⟨((l.length : Int) - 1).toNat, Wa, h2⟩)]; simp [lk, NC, dCu, D.sid]
 ·try rw [h1]
  try simp only [qA] at h1
  refine gn4 Z Z Z Z (gn4 Z Z Z Z (Qh Z Z (kc5 hK Z Z Z Z Z ?_)))
  refine Z2 Z (Qr (ks3 Z Z Z (Qb fun K hK => Qa Z (QC (cs := [_, _, _, _, _, _, _]) Z Z Z Z (QC (cs := [_, _, _, _, _, _, _]) Z Z Z Z (QQ Z Z (QD Z Z (XF Z Z (fun _ h => XC Z Z Z h) Z Wf Z Z Z Wh Wh (Qa Z (kc1 hK Z ?_))))))))))
  refine Qq ?_
  have h0 : l = [] := List.eq_nil_of_length_eq_zero Wa
  refine YH Z ?_ (HQ ?_)
  ·rw [Fv (.inl h0)]; simp [Ci, D.fz, D.fzS, NI, D.can, D.canS]
  ·rw [Fv (.inl h0)]; simp [lk, NC, dCu, D.sid]
open Go Go.Abs M3 M25
theorem GH {l : List (Cu × Cu)} (hl : Sm l) : Ok Tryz.prog 98 [ZH l] (.tup [ZH (T6 l), .bool (l.all Fy)]) := by
  refine Ok.ofT ZU Tryz.func98 Qgm (Qgr Z) ?_
  show TW _ _ tf98.body _ _
  have hn := hl.1
  have hc1 := HB l
  refine Qb fun K hK => mv2 Z Z (kc1 hK Z ?_)
  refine QA ?_ -- 0
  refine Qb fun K hK => Qa Z (kc2 hK Z Z ?_)
  refine Qz ?_
  refine Zp (ι := Nat) (fun i => ⟨[(0, ZH l), (4, .int .i64 i)], []⟩) (fun i => i <= l.length /\ (l.take i).all Fy = true) (fun i => l.length - i) 0 ?_ ?_ ?_
  · exact Q9 (kp2 rfl rfl)
  · exact ⟨QgD _, by simp⟩
  intro i hI
  try dsimp only
  refine QA ?_ -- 1
  refine Qb fun K hK => mv2 Z Z (QH Z Z (Yh Z Z (kc3 hK Z Z Z ?_)))
  refine Qs Z (fun h1 => ?_) (fun h1 => ?_)
  · try rw [h1]
    try simp only [qA] at h1
    refine Qr (ks2 Z Z ?_)
    refine QA ?_ -- 2
    refine Qz (Qb fun K hK => mv2 Z Z (QF Z Z Z Wa (QP Wa) Z (QC (cs := [_, _, _, _, _, _, _, _, _, _, _, _, _, _]) Z Z Z Z (Qv (YK (hl.at (i := i) Wa).1.1 (hl.at (i := i) Wa).1.2 (hl.at (i := i) Wa).2.1 (hl.at (i := i) Wa).2.2) Z Z (.inr Z) (Ya Z (kc3 hK Z Z Z ?_))))))
    refine Qs Z (fun h2 => ?_) (fun h2 => ?_)
    · try rw [h2]
      try simp only [qA] at h2
      refine Qb fun K hK => mv2 Z Z (kc2 hK Z Z ?_)
      refine Qq (Qp (Qg (QZ (Qp (Qg ?_)))))
      first
        | exact QS rfl rfl ⟨by rw [T6, if_neg (by rw [XV (i := i) Wa Wl]; simp)]; rfl, by rw [XV (i := i) Wa Wl]; rfl⟩
        | (have ha : l.all Fy = true := XL Wa hI.2
           exact QS rfl rfl ⟨by rw [T6, if_pos ha, hI2.done Wa]; simp [J8, D.fz, D.fzS, FP, lk, D.can, D.canS, ZH], by rw [ha]; rfl⟩)
    · try rw [h2]
      try simp only [qA] at h2
      refine Qr (Qe (ks2 Z Z (QK fun K hK => Qa Z (QX Z Z Wc (Qa Z (hK _ ?_))))))
      refine Qi (i + 1) ?_ ?_ ?_
      · exact Q9 (kp2 rfl rfl)
      · exact ⟨Wa, Yf Wa hI.2 Wl⟩
      · first | omega | (simp only; omega) | (dsimp only; omega)
  · try rw [h1]
    try simp only [qA] at h1
    refine Zi (QJ (Qw (QE (ks1 Z (Qb fun K hK => Qa Z (kc2 hK Z Z ?_))))))
    refine Qb fun K hK => Qa Z (Qv (Jr hl) Z Z (.inl Z) (Qa Z (kc3 hK Z Z Z ?_)))
    refine QA ?_ -- 3
    refine Qb fun K hK => Qa Z (kc4 hK Z Z Z Z ?_)
    refine Qz ?_
    refine Zp (ι := Nat × List (Cu × Cu)) (fun ⟨i, out⟩ => ⟨[(0, ZH l), (5, .osl 5 out.length), (6, Rm (Y1 l)), (7, .int .i64 i)], [(5, ⟨out.map NC, 14, 99, true⟩)]⟩) (fun ⟨i, out⟩ => i <= (Y1 l).length /\ FillI (mIn l) (Y1 l) i out) (fun ⟨i, out⟩ => (Y1 l).length - i) (0, []) ?_ ?_ ?_
    · exact le_trans (Ym 5 5 14 99 rfl rfl) (Q5 (l := [0, 5, 6, 7]) (lH := [5]) (kp4 rfl rfl rfl rfl) (Qc rfl Qn) rfl rfl rfl)
    · exact ⟨QgD _, FillI.zero⟩
    intro ⟨i, out⟩ hI
    obtain ⟨hI1, hI2⟩ := hI
    have hI3 := hI2.1
    try dsimp only
    refine QA ?_ -- 4
    refine Qb fun K hK => Qa Z (QX Z Z Wc (Qa Z (QH Z Z (Yh Z Z (kc5 hK Z Z Z Z Z ?_)))))
    refine Qs Z (fun h3 => ?_) (fun h3 => ?_)
    · try rw [h3]
      try simp only [qA] at h3
      refine Qr (ks4 Z Z Z Z ?_)
      refine QA ?_ -- 5
      refine Qz (Qb fun K hK => mv2 Z Z (Qa Z (QF Z Z Z Wa (QP Wa) Z (QI (ds0 := [0]) (cs := [_, _, _, _, _, _, _]) Z Z Z Z Z Z (mv2 Z Z (QX Z Z Wc (QF Z Z Z Wa (L3 Wa) Z (QI (ds0 := [0]) (cs := [_, _, _, _, _, _, _]) Z Z Z Z Z Z ?_))))))))
      refine QR (ds0 := []) (Kk hl (YG hl _ (Qgw Wa)) (YG hl _ (Qgw Wa))) Z Z (.inr Z) Z Z (kc5 hK Z Z Z Z Z ?_)
      refine Qs Z (fun h4 => ?_) (fun h4 => ?_)
      · try rw [h4]
        try simp only [qA] at h4
        refine QK fun K hK => Qa rfl (Qa rfl (Qa rfl (QF rfl rfl rfl Wa (QP Wa) rfl (QI (ds0 := [1, 0]) (cs := [_, _, _, _, _, _, _]) rfl rfl rfl rfl rfl rfl (Qa rfl (Qa rfl (QX rfl rfl Wc (QF rfl rfl rfl Wa (L3 Wa) rfl (QI (ds0 := [1, 0]) (cs := [_, _, _, _, _, _, _]) rfl rfl rfl rfl rfl rfl (LA (ds0 := [0]) (LK (k := 5) rfl rfl rfl Wk rfl Wk (by simp [D.ids, D.sid, dCu]) ⟨.osl 5 out.length, by simp, by simp [D.ids, D.sid]⟩ rfl rfl (Js Wa hI2.2.1 (YG hl _ (Qgw Wa)) (YG hl _ (Qgw Wa)))) (fun _ h => by cases h) rfl rfl ?_))))))))))
        refine Qa Z (hK _ ?_)
        refine Qe (ks4 Z Z Z Z (QK fun K hK => Qa Z (QX Z Z Wc (Qa Z (hK _ ?_)))))
        refine Qi (i + 1, HD out (Y1 l)[i] (Y1 l)[i + 1]) ?_ ?_ ?_
        · exact le_trans (Bc (l := [0, 6, 7]) (t := 50) (u := 5) 5 (kp3 rfl rfl rfl) rfl rfl rfl rfl) (Q5 (l := [0, 5, 6, 7]) (lH := [5]) (kp4 rfl rfl rfl rfl) (Qc rfl Qn) rfl rfl rfl)
        · exact ⟨Wa, hI2.take (YG hl) Wa Wl⟩
        · show (Y1 l).length - (i + 1) < (Y1 l).length - i; omega
      · try rw [h4]
        try simp only [qA] at h4
        refine Qr (Qe (ks4 Z Z Z Z (QK fun K hK => Qa Z (QX Z Z Wc (Qa Z (hK _ ?_))))))
        refine Qi (i + 1, out) ?_ ?_ ?_
        · exact Q5 (l := [0, 5, 6, 7]) (lH := [5]) (kp4 rfl rfl rfl rfl) (Qc rfl Qn) rfl rfl rfl
        · exact ⟨Wa, hI2.skip Wa Wl⟩
        · show (Y1 l).length - (i + 1) < (Y1 l).length - i; omega
    · try rw [h3]
      try simp only [qA] at h3
      refine Zi (QJ (Qw (QE (ks1 Z (Qb fun K hK => mv2 Z Z (Qa Z (kc2 hK Z Z ?_)))))))
      refine Qq ?_
      first
        | exact QS rfl rfl ⟨by rw [T6, if_neg (by rw [XV (i := i) Wa Wl]; simp)]; rfl, by rw [XV (i := i) Wa Wl]; rfl⟩
        | (have ha : l.all Fy = true := XL Wa hI.2
           exact QS rfl rfl ⟨by rw [T6, if_pos ha, hI2.done Wa]; simp [J8, D.fz, D.fzS, FP, lk, D.can, D.canS, ZH], by rw [ha]; rfl⟩)
open Go Go.Abs M3 M25
theorem Kj {a b : List (Cu × Cu)} (ha : Sm a) (hb : Sm b) (hab : a.length + b.length <= 1000000) : Ok Tryz.prog 90 [ZH a, ZH b] (ZH (QbT a b)) := by
 refine Ok.ofT ZU Tryz.func90 Qge (Qgr Z) ?_
 show TW _ _ tf90.body _ _
 refine Qb fun K hK => Qa Z (kc2 hK Z Z ?_)
 refine QA ?_ -- 0
 refine Qb fun K hK => Qa Z (Qv (Z1 ha) Z Z (.inr Z) (Ya Z (Qa Z ?_)))
 refine Qu (g := 10) Z (fun h1 => ?_) (fun h1 => ?_)
 ·try rw [h1]
  try simp only [qB] at h1
  refine gn3 Z Z Z (Qh Z Z (kc3 hK Z Z Z ?_))
  refine Zo Z (Qb fun K hK => Qa Z (kc1 hK Z ?_))
  refine Qq (Qg (Ye Z ?_))
  rw [QbT, if_neg (by simp [h1])]; rfl
 ·try rw [h1]
  try simp only [qB] at h1
  refine Qd Z (Qa Z (Qd Z (Qv (Z1 hb) Z Z (.inr Z) (Qd Z (Ya Z (Qh Z Z (kc3 hK Z Z Z ?_)))))))
  refine Qs Z (fun h2 => ?_) (fun h2 => ?_)
  ·try rw [h2]
   try simp only [qB] at h2
   refine Qb fun K hK => Qa Z (kc1 hK Z ?_)
   refine Qq (Qg (Ye Z ?_))
   rw [QbT, if_neg (by simp [h1, h2])]; rfl
  ·try rw [h2]
   try simp only [qB] at h2
   refine Qr (ks2 Z Z (Qb fun K hK => Qa Z (QbD Z Z (fun _ h => B3 QbX h) Z (.inl Z) Wf Wh Wh (Qa Z (XF Z Z (fun _ h => B3 QbX h) Z Wf Z Z Z Wh Wh ?_)))))
   apply Qb7 [17] Wf
   ·simp [St.freezeL, St.freeze, rem, D.fz, D.fzS, Box.fz, lk, D.scrub]; exact ⟨rfl, rfl⟩
   ·exact GH (ha.app hb hab)
   ·rfl
   ·simp [J8, D.fz, D.fzS, FP, D.can, D.canS, ZH]
   ·exact .inl rfl
   refine Qa Z (Q0 Z Z (Q0 Z Z (mv2 Z Z (kc1 hK Z ?_))))
   refine Qb fun K hK => mv2 Z Z (kc1 hK Z ?_)
   refine Qq (Ye Z ?_)
   rw [QbT, if_pos ⟨h1, h2⟩]; rfl
theorem JS {a : List (Cu × Cu)} (ha : Sm a) : Ok Tryz.prog 92 [ZH a] (ZH (T7 a)) := by
 refine Ok.ofT ZU Tryz.func92 Qgg (Qgr Z) ?_
 show TW _ _ tf92.body _ _
 have hn := ha.1
 have hc1 := HB a
 refine Qb fun K hK => Qa Z (kc1 hK Z ?_)
 refine QA ?_ -- 0
 refine Qb fun K hK => Qa Z (Qv (Z1 ha) Z Z (.inr Z) (Ya Z (kc2 hK Z Z ?_)))
 refine Qs Z (fun h1 => ?_) (fun h1 => ?_)
 ·try rw [h1]
  try simp only [qA] at h1
  refine Qb fun K hK => Qa Z (kc1 hK Z ?_)
  refine Qq (Qg (Ye Z ?_))
  rw [T7, if_neg (by simp [h1])]; rfl
 ·try rw [h1]
  try simp only [qA] at h1
  refine Qr (ks1 Z (Qb fun K hK => Qa Z (kc2 hK Z Z ?_)))
  refine Qb fun K hK => Qa Z (Qv (Jr ha) Z Z (.inl Z) (Qa Z (kc3 hK Z Z Z ?_)))
  refine QA ?_ -- 1
  refine Qb fun K hK => Qa Z (kc4 hK Z Z Z Z ?_)
  refine Qz ?_
  refine Zp (ι := Nat × List (Cu × Cu)) (fun ⟨i, out⟩ => ⟨[(0, ZH a), (3, .osl 3 out.length), (4, Rm (Y1 a)), (5, .int .i64 i)], [(3, ⟨out.map NC, 14, 99, true⟩)]⟩) (fun ⟨i, out⟩ => i <= (Y1 a).length /\ FillI (fun x y => !mIn a x y) (Y1 a) i out) (fun ⟨i, out⟩ => (Y1 a).length - i) (0, []) ?_ ?_ ?_
  ·exact le_trans (Ym 3 3 14 99 rfl rfl) (Q5 (l := [0, 3, 4, 5]) (lH := [3]) (kp4 rfl rfl rfl rfl) (Qc rfl Qn) rfl rfl rfl)
  ·exact ⟨QgD _, FillI.zero⟩
  intro ⟨i, out⟩ hI
  obtain ⟨hI1, hI2⟩ := hI
  have hI3 := hI2.1
  try dsimp only
  refine QA ?_ -- 2
  refine Qb fun K hK => Qa Z (QX Z Z Wc (Qa Z (QH Z Z (Yh Z Z (kc5 hK Z Z Z Z Z ?_)))))
  refine Qs Z (fun h2 => ?_) (fun h2 => ?_)
  ·try rw [h2]
   try simp only [qA] at h2
   refine Qr (ks4 Z Z Z Z ?_)
   refine QA ?_ -- 3
   refine Qz (Qb fun K hK => mv2 Z Z (Qa Z (QF Z Z Z Wa (QP Wa) Z (QI (ds0 := [1, 0]) (cs := [_, _, _, _, _, _, _]) Z Z Z Z Z Z (mv2 Z Z (QX Z Z Wc (QF Z Z Z Wa (L3 Wa) Z (QI (ds0 := [1, 0]) (cs := [_, _, _, _, _, _, _]) Z Z Z Z Z Z ?_))))))))
   refine QR (ds0 := [0]) (Kk ha (YG ha _ (Qgw Wa)) (YG ha _ (Qgw Wa))) Z Z (.inr Z) Z Z (Ya Z (kc5 hK Z Z Z Z Z ?_))
   refine Qs Z (fun h3 => ?_) (fun h3 => ?_)
   ·try rw [h3]
    try simp only [qA] at h3
    refine QK fun K hK => Qa rfl (Qa rfl (Qa rfl (QF rfl rfl rfl Wa (QP Wa) rfl (QI (ds0 := [1, 0]) (cs := [_, _, _, _, _, _, _]) rfl rfl rfl rfl rfl rfl (Qa rfl (Qa rfl (QX rfl rfl Wc (QF rfl rfl rfl Wa (L3 Wa) rfl (QI (ds0 := [1, 0]) (cs := [_, _, _, _, _, _, _]) rfl rfl rfl rfl rfl rfl (LA (ds0 := [0]) (LK (k := 3) rfl rfl rfl Wk rfl Wk (by simp [D.ids, D.sid, dCu]) ⟨.osl 3 out.length, by simp, by simp [D.ids, D.sid]⟩ rfl rfl (Js Wa hI2.2.1 (YG ha _ (Qgw Wa)) (YG ha _ (Qgw Wa)))) (fun _ h => by cases h) rfl rfl ?_))))))))))
    refine Qa Z (hK _ ?_)
    refine Qe (ks4 Z Z Z Z (QK fun K hK => Qa Z (QX Z Z Wc (Qa Z (hK _ ?_)))))
    refine Qi (i + 1, HD out (Y1 a)[i] (Y1 a)[i + 1]) ?_ ?_ ?_
    ·exact le_trans (Bc (l := [0, 4, 5]) (t := 40) (u := 3) 3 (kp3 rfl rfl rfl) rfl rfl rfl rfl) (Q5 (l := [0, 3, 4, 5]) (lH := [3]) (kp4 rfl rfl rfl rfl) (Qc rfl Qn) rfl rfl rfl)
    ·exact ⟨Wa, hI2.take (YG ha) Wa (by simp; assumption)⟩
    ·show (Y1 a).length - (i + 1) < (Y1 a).length - i; omega
   ·try rw [h3]
    try simp only [qA] at h3
    refine Qr (Qe (ks4 Z Z Z Z (QK fun K hK => Qa Z (QX Z Z Wc (Qa Z (hK _ ?_))))))
    refine Qi (i + 1, out) ?_ ?_ ?_
    ·exact Q5 (l := [0, 3, 4, 5]) (lH := [3]) (kp4 rfl rfl rfl rfl) (Qc rfl Qn) rfl rfl rfl
    ·exact ⟨Wa, hI2.skip Wa (by simp; assumption)⟩
    ·show (Y1 a).length - (i + 1) < (Y1 a).length - i; omega
  ·try rw [h2]
   try simp only [qA] at h2
   refine Zi (QJ (Qw (QE (ks1 Z (Qb fun K hK => mv2 Z Z (kc1 hK Z ?_))))))
   refine Qq (Ye Z ?_)
   rw [T7, if_pos h1, hI2.done Wa]; simp [J8, D.fz, D.fzS, FP, lk, D.can, D.canS, ZH]
open Go Go.Abs M3 M25
theorem FV {a b : FS} (h1a : Sm a.1) (h2a : Sm a.2) (h1b : Sm b.1) (h2b : Sm b.2) (hl1 : a.1.length + b.1.length <= 1000000) (hl2 : a.2.length + b.2.length <= 1000000) : Ok Tryz.prog 75 [Rn a, Rn b] (Rn (Qah a b)) := by
 refine Ok.ofT ZU Tryz.func75 QfZ (Qgr Z) ?_
 show TW _ _ tf75.body _ _
 refine Qb fun K hK => Zw Z Z Z (Zw Z Z Z (ZI Z (kc3 hK Z Z Z ?_)))
 refine QA ?_ -- 0
 refine Qb fun K hK => QC (cs := [_, _]) Z Z Z Z (Qv (YM h1a h2a) Z Z (.inr Z) (Ya Z (Qa Z ?_)))
 refine Qu (g := 8) Z (fun h1 => ?_) (fun h1 => ?_)
 ·try rw [h1]
  try simp only [qB] at h1
  refine gn3 Z Z Z (Qh Z Z (kc4 hK Z Z Z Z ?_))
  refine Zo Z (Qb fun K hK => Qv (Yb) Z Z (.inl Z) (Q1 Z Z Z Z Z Z Z Z (kc1 hK Z ?_)))
  refine Qq (Qg (Post.eq (ZF (ds := [.sl _, .sl _]) (cs := [_, _]) Z Z Z Z Z) ?_))
  rw [Qah, if_neg (by simp [h1])]; rfl
 ·try rw [h1]
  try simp only [qB] at h1
  refine Qd Z (QC (cs := [_, _]) Z Z Z Z (Qd Z (Qv (YM h1b h2b) Z Z (.inr Z) (Qd Z (Ya Z (Qh Z Z (kc4 hK Z Z Z Z ?_)))))))
  refine Qs Z (fun h2 => ?_) (fun h2 => ?_)
  ·try rw [h2]
   try simp only [qB] at h2
   refine Qb fun K hK => Qv (Yb) Z Z (.inl Z) (Q1 Z Z Z Z Z Z Z Z (kc1 hK Z ?_))
   refine Qq (Qg (Post.eq (ZF (ds := [.sl _, .sl _]) (cs := [_, _]) Z Z Z Z Z) ?_))
   rw [Qah, if_neg (by simp [h1, h2])]; rfl
  ·try rw [h2]
   try simp only [qB] at h2
   refine Qr (ks3 Z Z Z (Qb fun K hK => Qf Z Z (QN (ds0 := [7, 1, 0]) Z Z Z Z Z (Qf Z Z (QN (ds0 := [7, 1, 0]) Z Z Z Z Z (QR (ds0 := [1, 0]) (Kj h1a h1b hl1) Z Z (.inl Z) Z Z (Qf Z Z (QN (ds0 := [2, 1, 0]) Z Z Z Z Z (Qf Z Z (QN (ds0 := [2, 1, 0]) Z Z Z Z Z ?_))))))))))
   refine QR (ds0 := [1, 0]) (Kj h2a h2b hl2) Z Z (.inl Z) Z Z (QQ Z Z (Xr (ds0 := []) Z Z Z Z Z Z Z Z Z Z (kc1 hK Z ?_)))
   refine Qq (Post.eq (ZF (ds := [.sl _, .sl _]) (cs := [_, _]) Z Z Z Z Z) ?_)
   rw [Qah, if_pos ⟨h1, h2⟩]; rfl
theorem G7 {a : FS} (h1a : Sm a.1) (h2a : Sm a.2) : Ok Tryz.prog 77 [Rn a] (Rn (MR a)) := by
 refine Ok.ofT ZU Tryz.func77 Qf1 (Qgr Z) ?_
 show TW _ _ tf77.body _ _
 refine Qb fun K hK => Zw Z Z Z (ZI Z (kc2 hK Z Z ?_))
 refine QA ?_ -- 0
 refine Qb fun K hK => QC (cs := [_, _]) Z Z Z Z (Qv (YM h1a h2a) Z Z (.inr Z) (Ya Z (kc3 hK Z Z Z ?_)))
 refine Qs Z (fun h1 => ?_) (fun h1 => ?_)
 ·try rw [h1]
  try simp only [qB] at h1
  refine Qb fun K hK => Qv (Yb) Z Z (.inl Z) (Q1 Z Z Z Z Z Z Z Z (kc1 hK Z ?_))
  refine Qq (Qg (Post.eq (ZF (ds := [.sl _, .sl _]) (cs := [_, _]) Z Z Z Z Z) ?_))
  rw [MR, if_neg (by simp [h1])]; rfl
 ·try rw [h1]
  try simp only [qB] at h1
  refine Qr (ks2 Z Z (Qb fun K hK => Qf Z Z (QN (ds0 := [5, 1, 0]) Z Z Z Z Z (QR (ds0 := [1, 0]) (JS h1a) Z Z (.inl Z) Z Z (Qf Z Z (QN (ds0 := [2, 1, 0]) Z Z Z Z Z (QR (ds0 := [1, 0]) (JS h2a) Z Z (.inl Z) Z Z (QQ Z Z (Xr (ds0 := []) Z Z Z Z Z Z Z Z Z Z (kc1 hK Z ?_))))))))))
  refine Qq (Post.eq (ZF (ds := [.sl _, .sl _]) (cs := [_, _]) Z Z Z Z Z) ?_)
  rw [MR, if_pos h1]; rfl
open Go Go.Abs M3 M25
theorem ZB {v n : Int} (hn : n <= 9223372036854775807) (hv : I64 v) : Ok Tryz.prog 9 [.int .i64 v, .int .i64 n] (.int .i64 (mPl v n)) := by
 refine Ok.ofT ZU Tryz.func9 tp9 (Qgr Z) ?_
 show TW _ _ tf9.body _ _
 refine Qb fun K hK => Qa Z (kc2 hK Z Z ?_)
 refine QA ?_ -- 0
 refine Qb fun K hK => Qa Z (Yh Z Z (kc3 hK Z Z Z ?_))
 refine Qs Z (fun h1 => ?_) (fun h1 => ?_)
 ·try rw [h1]
  try simp only [qB] at h1
  refine Qb fun K hK => Qa Z (kc1 hK Z ?_)
  refine Qq (Qg (QB Z ?_))
  rw [mPl, if_pos h1]
 ·try rw [h1]
  try simp only [qB] at h1
  refine Qr (ks2 Z Z (Qb fun K hK => mv2 Z Z (Qam Z Z Wa (Qa Z (kc2 hK Z Z ?_)))))
  refine QA ?_ -- 1
  refine Qb fun K hK => Qa Z (Yh Z Z (kc3 hK Z Z Z ?_))
  refine Qs Z (fun h2 => ?_) (fun h2 => ?_)
  ·try rw [h2]
   try simp only [qB] at h2
   refine Qb fun K hK => mv2 Z Z (QX Z Z (Ql (by have := Int.lt_tmod_of_pos v (Wa : 0 < n); omega) (by have := Int.tmod_lt_of_pos v (Wa : 0 < n); omega)) (Qa Z (kc1 hK Z ?_)))
   refine Qq (Qg (QB Z ?_))
   rw [mPl, if_neg h1, MT, if_pos h2]
  ·try rw [h2]
   try simp only [qB] at h2
   refine Qr (ks1 Z (Qb fun K hK => mv2 Z Z (kc1 hK Z ?_)))
   refine Qq (QB Z ?_)
   rw [mPl, if_neg h1, MT, if_neg h2]
theorem FT {l : List Int} {i : Int} : Ok Tryz.prog 51 [ZJ l, .int .i64 i] (.int .i64 (Qag l i)) := by
 refine Ok.ofT ZU Tryz.func51 QfB (Qgr Z) ?_
 show TW _ _ tf51.body _ _
 refine Qb fun K hK => Qa Z (kc2 hK Z Z ?_)
 refine QA ?_ -- 0
 refine Qb fun K hK => Qa Z (Yh Z Z (Qa Z ?_))
 refine Qu (g := 7) Z (fun h1 => ?_) (fun h1 => ?_)
 ·try rw [h1]
  try simp only [qA] at h1
  refine gn4 Z Z Z Z (Qh Z Z (kc3 hK Z Z Z ?_))
  refine Zo Z (Qb fun K hK => Qa Z (Qam Z Z Wa (Qa Z (kc1 hK Z ?_))))
  refine Qq (Qg (QB Z ?_))
  rw [Qag, if_pos Wa]
 ·try rw [h1]
  try simp only [qA] at h1
  refine Qd Z (Qa Z (Qd Z (Qa Z (Qd Z (QH Z Z (Qd Z (Mc Z Z (Qh Z Z (kc3 hK Z Z Z ?_)))))))))
  refine Qs Z (fun h2 => ?_) (fun h2 => ?_)
  ·try rw [h2]
   try simp only [qA] at h2
   refine Qb fun K hK => Qa Z (Qam Z Z Wa (Qa Z (kc1 hK Z ?_)))
   refine Qq (Qg (QB Z ?_))
   rw [Qag, if_pos Wa]
  ·try rw [h2]
   try simp only [qA] at h2
   refine Qr (ks2 Z Z (Qb fun K hK => mv2 Z Z (QF Z Z Z Wa (ZN Wa Wa) Z (Qy Z Z Z (Qa Z (kc1 hK Z ?_))))))
   refine Qq (QB Z ?_)
   exact (Bj Wa Wa).symm
theorem XX {k : Nat} {L : List Int} {I n : Int} (hk : 1000000 <= k) (hL : ∀ x ∈ L, I64 x) (hn : n <= 9223372036854775807) (et : Nat) : OkH Tryz.prog 25 [.ref k 0 0, .int .i64 n] [(k, gB L I et)] (.int .i64 (nx L I n)) ((k, gB L (nxI I) et) :: [(k, gB L I et)]) := by
 refine OkH.lent hk ZU Tryz.func25 Qfb (Qgr Z) Z ?_
 show TW _ _ tf25.body _ _
 refine Qb fun K hK => Qa Z (kc2 hK Z Z ?_)
 refine Qb fun K hK => Qa Z (Yj Z Z (Qf Z NV (Qy Z (Z9 Nb Z) Z (QX Z Z Z (Yj Z Z (Qf Z NV (Q1 Z Nb Z Z Z Z Z Z (kc2 hK Z Z ?_))))))))
 refine Qb fun K hK => Qa Z (Yj Z Z (Qf Z NV (QN (ds0 := [3, 1, 0]) Z (Z9 Nb Z) Z Z Z (Qa Z (Yj Z Z (Qf Z NV (QN (ds0 := [4, 3, 1, 0]) Z (Z9 Nb Z) Z Z Z (XU Z Z Z (QR (ds0 := [1, 0]) (FT) Z Z (.inr Z) Z Z (Qa Z ?_))))))))))
 refine QR (ds0 := [0]) (ZB hn (Qa2 hL (Pe _))) Z Z (.inr Z) Z Z (Qa Z (kc1 hK Z ?_))
 refine Qq ?_
 exact YH rfl rfl (QcV Nb)
open Go Go.Abs M3 M25
theorem Xi {v : Int} (h0 : 0 <= v) (h1v : v <= 61) : Ok Tryz.prog 55 [.int .i64 v] (.int .i64 (2 ^ v.toNat)) := by
 refine Ok.ofT ZU Tryz.func55 QfF (Qgr Z) ?_
 show TW _ _ tf55.body _ _
 refine Qb fun K hK => Qa Z (kc1 hK Z ?_)
 refine Qb fun K hK => Qa Z (kc2 hK Z Z ?_)
 refine QA ?_ -- 0
 refine Qb fun K hK => Qa Z (kc3 hK Z Z Z ?_)
 refine Qz ?_
 refine Zp (ι := Nat) (fun i => ⟨[(0, .int .i64 v), (3, .int .i64 (2 ^ i)), (4, .int .i64 i)], []⟩) (fun i => (i : Int) <= v) (fun i => v.toNat - i) 0 ?_ ?_ ?_
 ·exact Q9 (kp3 rfl rfl rfl)
 ·exact h0
 intro i hI
 have hp := RZ (i := i + 1) Wa
 rw [Int.pow_succ] at hp
 try dsimp only
 refine QA ?_ -- 1
 refine Qb fun K hK => mv2 Z Z (Yh Z Z (kc4 hK Z Z Z Z ?_))
 refine Qs Z (fun h1 => ?_) (fun h1 => ?_)
 ·try rw [h1]
  try simp only [qB] at h1
  refine Qr (ks3 Z Z Z ?_)
  refine QA ?_ -- 2
  refine Qz (QK fun K hK => Qa rfl (Qcb rfl rfl (Ql (by obtain ⟨p1, p2⟩ := hp; generalize (2 : Int) ^ i = z at *; omega) (by obtain ⟨p1, p2⟩ := hp; generalize (2 : Int) ^ i = z at *; omega)) (Qa rfl (hK _ ?_))))
  refine Qe (ks3 Z Z Z (QK fun K hK => Qa Z (QX Z Z (Ql Wa Wa) (Qa Z (hK _ ?_)))))
  refine Qi (i + 1) ?_ ?_ ?_
  ·exact Q5 (l := [0, 3, 4]) (lH := []) (kp3 rfl rfl rfl) Qn (by rw [Int.pow_succ]; rfl) rfl rfl
  ·show ((i + 1 : Nat) : Int) <= v; omega
  ·first | omega | (simp only; omega) | (dsimp only; omega)
 ·try rw [h1]
  try simp only [qB] at h1
  refine Zi (QJ (Qw (QE (ks1 Z (Qb fun K hK => mv2 Z Z (kc1 hK Z ?_))))))
  refine Qq (QB Z ?_)
  rw [show v.toNat = i by omega]
theorem XY {h m : Int} : Ok Tryz.prog 93 [.int .i64 h, .int .i64 m] (.int .i64 (J5 h m)) := by
 refine Ok.ofT ZU Tryz.func93 Qgh (Qgr Z) ?_
 show TW _ _ tf93.body _ _
 refine Qb fun K hK => Qa Z (kc2 hK Z Z ?_)
 refine QA ?_ -- 0
 refine Qz (Qb fun K hK => mv2 Z Z (GV Z Z (Qa Z (ZE Z Z (Qa Z (kc3 hK Z Z Z ?_))))))
 refine Qs Z (fun h1 => ?_) (fun h1 => ?_)
 ·try rw [h1]
  try simp only [qB] at h1
  refine Qb fun K hK => Qa Z (kc1 hK Z ?_)
  refine Qq (Qp (Qg (QB Z ?_)))
  rw [J5, if_pos h1]
 ·try rw [h1]
  try simp only [qB] at h1
  refine Qb fun K hK => mv2 Z Z (GV Z Z (ZE Z Z (Qa Z (kc1 hK Z ?_))))
  refine Qs Z (fun h2 => ?_) (fun h2 => ?_)
  ·try rw [h2]
   try simp only [qB] at h2
   refine Qb fun K hK => Qa Z (kc1 hK Z ?_)
   refine Qq (Qp (Qg (QB Z ?_)))
   rw [J5, if_neg h1, if_pos h2]
  ·try rw [h2]
   try simp only [qB] at h2
   refine Qr (Qe (Zf (ZD) (Qb fun K hK => Qa Z (kc1 hK Z ?_))))
   refine Qq (QB Z ?_)
   rw [J5, if_neg h1, if_neg h2]
theorem Ss {h m : Int} : Ok Tryz.prog 44 [.int .i64 h, .int .i64 m] (.int .i64 (GO h m)) := by
 refine Ok.ofT ZU Tryz.func44 Qfu (Qgr Z) ?_
 show TW _ _ tf44.body _ _
 refine Qb fun K hK => Qa Z (kc2 hK Z Z ?_)
 refine QA ?_ -- 0
 refine Qz (Qb fun K hK => mv2 Z Z (NK Z Z (ZE Z Z (Qa Z (kc3 hK Z Z Z ?_)))))
 refine Qs Z (fun h1 => ?_) (fun h1 => ?_)
 ·try rw [h1]
  try simp only [qB] at h1
  refine Qb fun K hK => Qa Z (kc1 hK Z ?_)
  refine Qq (Qp (Qg (QB Z ?_)))
  rw [GO, if_pos h1]
 ·try rw [h1]
  try simp only [qB] at h1
  refine Qb fun K hK => mv2 Z Z (GV Z Z (ZE Z Z (Qa Z (kc1 hK Z ?_))))
  refine Qs Z (fun h2 => ?_) (fun h2 => ?_)
  ·try rw [h2]
   try simp only [qB] at h2
   refine Qb fun K hK => Qa Z (kc1 hK Z ?_)
   refine Qq (Qp (Qg (QB Z ?_)))
   rw [GO, if_neg h1, if_pos h2]
  ·try rw [h2]
   try simp only [qB] at h2
   refine Qr (Qe (Zf (ZD) (Qb fun K hK => Qa Z (kc1 hK Z ?_))))
   refine Qq (QB Z ?_)
   rw [GO, if_neg h1, if_neg h2]
open Go Go.Abs M3 M25
theorem Xu  : Ok Tryz.prog 43 [] (.sl (versions.map dVr)) := by
 refine Ok.ofT ZU Tryz.func43 Qft (Qgr Z) ?_
 show TW _ _ tf43.body _ _
 refine Qb fun K hK => Qa Z (hK _ _ (Rd (ZD) ?_))
 refine Qb fun K hK => QQ Z Z (QQ Z Z (QQ Z Z (QQ Z Z (QD Z Z (Qa Z (kc1 hK Z ?_))))))
 refine Qq (Ye Z ?_)
 rfl
end Go.Proofs
namespace M25
open Go Go.Abs M3
structure WantT where
 u : Int
 s : FS
structure CandT where
 v : Vr
 sh : Int
 ns : List (List WantT)
 bs : List WantT
structure Cs where
 n : List UInt8
 f : List UInt8
 cs : List CandT
abbrev Qo := List Cs
def ND (x : WantT) : List D := [.int .i64 x.u, ZH x.s.1, ZH x.s.2]
def Q7 (l : List WantT) : D := .sl (l.map ND)
def QT (l : List (List WantT)) : D := .sl (l.map fun r => [Q7 r])
def Qct (c : CandT) : List D := [.int .i64 c.v.a, .int .i64 c.v.b, .int .i64 c.v.c, .str c.v.p, .str c.v.q, .int .i64 c.sh, QT c.ns, Q7 c.bs]
def LN (l : List CandT) : D := .sl (l.map Qct)
def YY (u : Cs) : List D := [.str u.n, .str u.f, LN u.cs]
def Yd (w : Qo) : D := .agg [.sl (w.map YY)]
structure TermT where
 u : Int
 m : Int
 deriving DecidableEq
structure StepT where
 u : Int
 m : Int
 l : Int
 c : Int
 deriving DecidableEq
structure RowT where
 k : Int
 u : Int
 a : Int
 b : Int
 t : List TermT
def F2 (t : TermT) : List D := [.int .i64 t.u, .int .i64 t.m]
def ZL (l : List TermT) : D := .sl (l.map F2)
def GI (s : StepT) : List D := [.int .i64 s.u, .int .i64 s.m, .int .i64 s.l, .int .i64 s.c]
def Zn (l : List StepT) : D := .sl (l.map GI)
def CG (r : RowT) : List D := [.int .i64 r.k, .int .i64 r.u, .int .i64 r.a, .int .i64 r.b, ZL r.t]
def Qdx (l : List RowT) : D := .sl (l.map CG)
def dDb (l : List (List TermT)) : D := .sl (l.map fun t => [ZL t])
abbrev Kg (a b : Int) : Int := JJ .and .i64 a b
abbrev bor (a b : Int) : Int := JJ .or .i64 a b
abbrev Se (a b : Int) : Int := JJ .andNot .i64 a b
def uAt (w : Qo) (u : Int) : Option Cs := if u < 0 then none else w[u.toNat]?
theorem DG {w : Qo} {u : Int} (h0 : 0 <= u) (h : u < w.length) : uAt w u = some (w[u.toNat]'Wa) := by
 rw [uAt, if_neg Wa, List.getElem?_eq_getElem Wa]
theorem Ls {w : Qo} {u : Int} (h : u < 0 \/ (w.length : Int) <= u) : uAt w u = none := by
 unfold uAt
 split
 ·rfl
 ·rw [List.getElem?_eq_none]; omega
def YL (w : Qo) (u : Int) : Int := match uAt w u with
 | none => 0
 | some x => 2 ^ (min x.cs.length 16 + 1) - 1
theorem RP {w : Qo} {u : Int} (h0 : 0 <= u) (h : u < w.length) : YL w u = 2 ^ (min (w[u.toNat]'Wa).cs.length 16 + 1) - 1 := by
 rw [YL, DG h0 h]
theorem Fu {w : Qo} {u : Int} (h : u < 0 \/ (w.length : Int) <= u) : YL w u = 0 := by rw [YL, Ls h]
theorem RO (w : Qo) (u : Int) : 0 <= YL w u /\ YL w u <= 131071 := by
 unfold YL
 split
 ·omega
 ·rename_i x _
  have h1 : (2 : Nat) ^ (min x.cs.length 16 + 1) <= 2 ^ 17 := Nat.pow_le_pow_right Wa Wa
  have h2 : 1 <= (2 : Nat) ^ (min x.cs.length 16 + 1) := Nat.one_le_two_pow
  have h3 : ((2 ^ (min x.cs.length 16 + 1) : Nat) : Int) = (2 : Int) ^ (min x.cs.length 16 + 1) := by simp
  rw [<- h3]
  have h4 : (2 : Nat) ^ 17 = 131072 := by decide
  omega
def Pt (v : Vr) : Prop := v.p.length <= 1000000 /\ v.q.length <= 1000000
structure WSm (w : Qo) : Prop where
 len : w.length <= 48
 cs : ∀ u ∈ w, u.cs.length <= 16
 vs : ∀ u ∈ w, ∀ c ∈ u.cs, Pt c.v
 ns : ∀ u ∈ w, ∀ c ∈ u.cs, c.ns.length <= 1000 /\ c.bs.length <= 1000
 nl : ∀ u ∈ w, ∀ c ∈ u.cs, ∀ r ∈ c.ns, r.length <= 1000
 nw : ∀ u ∈ w, ∀ c ∈ u.cs, ∀ r ∈ c.ns, ∀ x ∈ r, Sm x.s.1 /\ Sm x.s.2
 bw : ∀ u ∈ w, ∀ c ∈ u.cs, ∀ x ∈ c.bs, Sm x.s.1 /\ Sm x.s.2
def Qeo (s : FS) (v : Vr) : Bool := D5 s v.a v.b v.c v.p v.q
def Hf (s : FS) (l : List CandT) : Nat -> Int
 | 0 => 0
 | n + 1 => Hf s l n + match l[n]? with
  | some c => if Qeo s c.v = true then 2 ^ (n + 1) else 0
  | none => 0
theorem Dm (s : FS) (l : List CandT) : ∀ n, 0 <= Hf s l n /\ Hf s l n <= 2 ^ (n + 1) - 2
 | 0 => by simp [Hf]
 | n + 1 => by
  obtain ⟨h1, h2⟩ := Dm s l n
  have h3 : (2 : Int) ^ (n + 1 + 1) = 2 ^ (n + 1) * 2 := Int.pow_succ ..
  have h4 : (0 : Int) < 2 ^ (n + 1) := Int.pow_pos Wa
  rw [Hf, h3]
  generalize (2 : Int) ^ (n + 1) = z at *
  split
  ·split <;> omega
  ·omega
theorem Bv {s : FS} {l : List CandT} {i : Nat} (h : i < l.length) (hp : Qeo s l[i].v = true) : Hf s l (i + 1) = Hf s l i + 2 ^ (i + 1) := by
 rw [Hf, List.getElem?_eq_getElem h]; simp only [hp, if_true]
theorem Qa7 {s : FS} {l : List CandT} {i : Nat} (h : i < l.length) (hp : Qeo s l[i].v = false) : Hf s l (i + 1) = Hf s l i := by
 rw [Hf, List.getElem?_eq_getElem h]; simp only [hp, Qgz, if_false, Int.add_zero]
def TA (w : Qo) (x : WantT) : Int := match uAt w x.u with
 | none => 0
 | some un => Hf x.s un.cs (min un.cs.length 16)
theorem Bo {w : Qo} {x : WantT} (h0 : 0 <= x.u) (h : x.u < w.length) : TA w x = Hf x.s (w[x.u.toNat]'Wa).cs (min (w[x.u.toNat]'Wa).cs.length 16) := by
 rw [TA, DG h0 h]
theorem Df {w : Qo} {x : WantT} (h : x.u < 0 \/ (w.length : Int) <= x.u) : TA w x = 0 := by rw [TA, Ls h]
theorem Qbg {n : Nat} (h : n <= 17) : 1 <= (2 : Int) ^ n /\ (2 : Int) ^ n <= 131072 := by
 have h1 : (2 : Nat) ^ n <= 2 ^ 17 := Nat.pow_le_pow_right Wa h
 have h2 : 1 <= (2 : Nat) ^ n := Nat.one_le_two_pow
 have h3 : ((2 ^ n : Nat) : Int) = (2 : Int) ^ n := by simp
 rw [<- h3]
 have h4 : (2 : Nat) ^ 17 = 131072 := by decide
 omega
theorem Dl (s : FS) (l : List CandT) {n : Nat} (h : n <= 16) : 0 <= Hf s l n /\ Hf s l n <= 131070 := by
 obtain ⟨h1, h2⟩ := Dm s l n
 have := Qbg (n := n + 1) Wa
 omega
theorem QcI (w : Qo) (x : WantT) : 0 <= TA w x /\ TA w x <= 131070 := by
 unfold TA
 split
 ·omega
 ·exact Dl _ _ Wa
def XZ (m : Int) : Nat -> List Int
 | 0 => []
 | n + 1 => XZ m n ++ if Kg m (2 ^ n) = 0 then [] else [(n : Int) - 1]
def He (m : Int) : List Int := XZ m 17
theorem F4 (m : Int) : ∀ n, (XZ m n).length <= n
 | 0 => Nat.le_refl _
 | n + 1 => by
  have := F4 m n
  rw [XZ, List.length_append]
  split <;> simp <;> omega
def Fx (f : Int) (u : Int) : List TermT -> Int
 | [] => f
 | t :: r => if t.u = u then t.m else Fx f u r
def Fw (w : Qo) (l : List TermT) (u : Int) : Int := Fx (YL w u) u l
theorem Ca {f u : Int} {l : List TermT} {i : Nat} (h : i < l.length) (hn : ¬ l[i].u = u) : Fx f u (l.drop i) = Fx f u (l.drop (i + 1)) := by
 rw [QgI h, Fx, if_neg hn]
theorem Bu {f u : Int} {l : List TermT} {i : Nat} (h : i < l.length) (hn : l[i].u = u) : Fx f u (l.drop i) = l[i].m := by
 rw [QgI h, Fx, if_pos hn]
def Hx (w : Qo) : Nat -> List Int
 | 0 => []
 | n + 1 => Hx w n ++ [YL w n]
theorem GK (w : Qo) : ∀ n, (Hx w n).length = n
 | 0 => rfl
 | n + 1 => by rw [Hx, List.length_append, GK w n]; rfl
def Kr (w : Qo) : List Int := Hx w w.length
def XJ (w : Qo) (ms : List Int) : Nat -> List TermT
 | 0 => []
 | n + 1 => XJ w ms n ++ if ms.getD n 0 = YL w n then [] else [⟨n, ms.getD n 0⟩]
theorem PW (w : Qo) (ms : List Int) : ∀ n, (XJ w ms n).length <= n
 | 0 => Nat.le_refl _
 | n + 1 => by
  have := PW w ms n
  rw [XJ, List.length_append]
  split <;> simp <;> omega
def SX (w : Qo) (ms : List Int) : Option (List TermT) := if ms.all (fun m => !decide (m = 0)) = true then some (XJ w ms ms.length) else none
def dOT (o : Option (List TermT)) : D := .tup [ZL (o.getD []), .bool o.isSome]
def XI (ms : List Int) (l : List TermT) : List Int := l.foldl (fun ms t => ms.set t.u.toNat (Kg (ms.getD t.u.toNat 0) t.m)) ms
def inW (w : Qo) (u : Int) : Bool := decide (0 <= u) && decide (u < w.length)
def Nw (w : Qo) (l : List TermT) : Option (List TermT) := if l.all (fun t => inW w t.u) = true then SX w (XI (Kr w) l) else none
def PP (l : List TermT) (u : Int) : List TermT := l.filter fun t => !decide (t.u = u)
def Yr (l : List TermT) : Nat -> List TermT
 | 0 => []
 | n + 1 => Yr l n ++ l.filter fun t => decide (t.u = ((n : Nat) : Int))
def RT (l : List TermT) : List TermT := Yr l 48
def Yp (w : Qo) (u : Int) (p : Nat) (l : List WantT) (bar : Bool) : Option (List TermT) :=
 Nw w (⟨u, Kg (YL w u) (2 * 2 ^ p)⟩ :: l.map fun x => ⟨x.u, if bar = true then TA w x else YL w x.u - TA w x⟩)
def T3 (r x : RowT) : Bool := decide (x.k = r.k) && decide (x.u = r.u) && decide (PP x.t r.u = PP r.t r.u)
def QaV (w : Qo) (r x : RowT) : RowT := { x with t := RT (⟨r.u, bor (Fw w x.t r.u) (Fw w r.t r.u)⟩ :: PP x.t r.u) }
def Xp (w : Qo) (r : RowT) : List RowT -> List RowT
 | [] => [r]
 | x :: l => if T3 r x = true then QaV w r x :: l else x :: Xp w r l
def YV (w : Qo) (u : Int) (p : Nat) (l : List (List WantT)) (rows : List RowT) : List RowT := l.foldl (fun rows n => match Yp w u p n false with
 | some t => Xp w ⟨2, u, 0, 0, t⟩ rows
 | none => rows) rows
def Ha (w : Qo) (u : Int) (p : Nat) (l : List WantT) (rows : List RowT) : List RowT := l.foldl (fun rows n => match Yp w u p [n] true with
 | some t => Xp w ⟨3, u, 0, 0, t⟩ rows
 | none => rows) rows
def YN (w : Qo) (u : Int) (cs : List CandT) : Nat -> List RowT -> List RowT
 | 0, rows => rows
 | n + 1, rows => match cs[n]? with
  | some c => Ha w u n c.bs (YV w u n c.ns (YN w u cs n rows))
  | none => YN w u cs n rows
def YA (w : Qo) : Nat -> List RowT
 | 0 => [⟨1, 0, 0, 0, [⟨0, 1⟩]⟩]
 | n + 1 => match w[n]? with
  | some u => YN w n u.cs u.cs.length (YA w n)
  | none => YA w n
def Fs (w : Qo) : List RowT := YA w w.length
def mDB (w : Qo) : List (List TermT) := (Fs w).map RowT.t
/-! ### Trails -/
def Zc (w : Qo) (l : List StepT) (u : Int) : Int := l.foldl (fun a s => if s.u = u /\ inW w u = true then s.m else a) (YL w u)
def Zx (l : List StepT) : Int := match l.getLast? with
 | none => 0
 | some s => s.l
def Xe (l : List StepT) (u : Int) : Bool := l.any fun s => decide (s.u = u) && decide (s.c = -1)
def Cb : List Int -> Int
 | [x] => x
 | _ => -1
def X5 (m : Int) : Int := Cb (He m)
def Ks (w : Qo) (l : List StepT) (s : StepT) : Bool :=
 inW w s.u && decide (-1 <= s.c) && decide (Kg s.m (Zc w l s.u) = s.m) &&
  if s.c = -1 then decide (0 <= X5 s.m) && !Xe l s.u && decide (s.l = IntKind.i64.wrap (Zx l + 1))
  else !decide (s.m = 0) && !decide (s.m = Zc w l s.u) && decide (s.l = Zx l)
def Y8 (w : Qo) (l : List StepT) : Bool := (List.range l.length).all fun i => match l[i]? with
 | some s => Ks w (l.take i) s
 | none => true
def GN (w : Qo) (l : List StepT) (inc : List TermT) : Bool := inc.all fun t => decide (J5 (Zc w l t.u) t.m = 2)
def Xx (have_ : Int -> Int) : List TermT -> Int -> Int
 | [], at_ => at_
 | t :: r, at_ => if J5 (have_ t.u) t.m = 0 then -1 else if J5 (have_ t.u) t.m = 1 then (if 0 <= at_ then -1 else Xx have_ r t.u) else Xx have_ r at_
def MS (w : Qo) (l : List StepT) (inc : List TermT) : Int := Xx (Zc w l) inc (-1)
def Xg (w : Qo) (l : List StepT) : Nat -> List (List TermT) -> Int × Int
 | _, [] => (-1, -1)
 | i, x :: r => if GN w l x = true then (i, -1) else if 0 <= MS w l x then (i, MS w l x) else Xg w l (i + 1) r
def Yv (w : Qo) (db : List (List TermT)) (l : List StepT) : Int × Int := Xg w l 0 db
def Yu (w : Qo) (l : List StepT) (t : TermT) (c : Int) : Option (List StepT) :=
 if c < 0 \/ inW w t.u = false then none
 else if IntKind.i64.wrap (Zc w l t.u - Kg (Zc w l t.u) t.m) = 0 \/ IntKind.i64.wrap (Zc w l t.u - Kg (Zc w l t.u) t.m) = Zc w l t.u then none
 else some (l ++ [⟨t.u, IntKind.i64.wrap (Zc w l t.u - Kg (Zc w l t.u) t.m), Zx l, c⟩])
def Yq (w : Qo) (l : List StepT) (u p : Int) : Option (List StepT) := match uAt w u with
 | none => none
 | some x => if p < 0 \/ (x.cs.length : Int) <= p then none
  else if Ks w l ⟨u, IntKind.i64.wrap (2 * 2 ^ min p.toNat 64), IntKind.i64.wrap (Zx l + 1), -1⟩ = true then some (l ++ [⟨u, IntKind.i64.wrap (2 * 2 ^ min p.toNat 64), IntKind.i64.wrap (Zx l + 1), -1⟩]) else none
def dOS (o : Option (List StepT)) : D := .tup [Zn (o.getD []), .bool o.isSome]
def NH (w : Qo) (db : List (List TermT)) : Nat -> List StepT -> List StepT × Int
 | 0, out => (out, -1)
 | n + 1, out => if (Yv w db out).2 < 0 then (out, (Yv w db out).1)
  else NH w db n ((Yu w out ⟨(Yv w db out).2, Fw w (db.getD (Yv w db out).1.toNat []) (Yv w db out).2⟩ (Yv w db out).1).getD [])
def MU (w : Qo) (db : List (List TermT)) (l : List StepT) : List StepT × Int := NH w db (w.length * 18 + 1) l
end M25
namespace M25
open Go Go.Abs M3
section
variable {fr : Qgp} {H : Qgo} {t u : Nat}
theorem LC {k n : Nat} {b : Box} {d : D} (hb : lk H k = some b) (hp : b.pr = true) (hn : n = b.rows.length) (hd : .sl b.rows = d) : J8 ⟨fr, H⟩ (.osl k n) = d := by
 unfold J8; rw [Qen (S := FP) rfl hb hp hn]; exact hd
theorem KU {e : YB} {k n : Nat} {b : Box} {d : D} (h : lk fr t = some (.osl k n)) (hb : lk H k = some b) (hp : b.pr = true) (hn : n = b.rows.length) (hd : .sl b.rows = d) (he : e = .ret \/ e = .normal := by first | exact .inl rfl | exact .inr rfl) : Post [.tmp t] d e ⟨fr, H⟩ :=
 Ye h (LC hb hp hn hd) he
theorem M0 {e : YB} {k n : Nat} {b : Box} {q d d' : D} (h : lk fr t = some (.osl k n)) (hb : lk H k = some b) (hp : b.pr = true) (hn : n = b.rows.length) (hd : .sl b.rows = d) (h2 : lk fr u = some q) (hd2 : J8 ⟨fr, H⟩ q = d') (he : e = .ret \/ e = .normal := by first | exact .inl rfl | exact .inr rfl) : Post [.tmp t, .tmp u] (.tup [d, d']) e ⟨fr, H⟩ :=
 QS h h2 ⟨LC hb hp hn hd, hd2⟩ he
end
theorem Qeq (n : Nat) : (min (n : Int) 16 + 1).toNat = min n 16 + 1 := Wa
theorem Tx {n : Nat} (h : n <= 62) : IntKind.i64.wrap ((2 : Int) ^ n - 1) = 2 ^ n - 1 := by
 have := RZ h; exact Ql Wa Wa
theorem QdO (i : Nat) : (2 : Int) ^ ((i : Int) + 1).toNat = 2 ^ (i + 1) := by rw [Qac]
theorem QbB (s : FS) (l : List CandT) {i : Nat} (h : i < 16) : IntKind.i64.wrap (Hf s l i + (2 : Int) ^ ((i : Int) + 1).toNat) = Hf s l i + 2 ^ (i + 1) := by
 rw [QdO]
 have h1 := Dl s l (n := i) Wa
 have h2 := Qbg (n := i + 1) Wa
 exact Ql Wa Wa
theorem Je {m : Int} {n : Nat} (h : ¬ Kg m (2 ^ n) = 0) : XZ m (n + 1) = XZ m n ++ [(n : Int) - 1] := by rw [XZ, if_neg h]
theorem KH {m : Int} {n : Nat} (h : Kg m (2 ^ n) = 0) : XZ m (n + 1) = XZ m n := by rw [XZ, if_pos h, List.append_nil]
theorem QbL {l : List TermT} {u : Int} {i : Nat} (h : i < l.length) : PP (l.take (i + 1)) u = PP (l.take i) u ++ if l[i].u = u then [] else [l[i]] := by
 rw [List.take_succ_eq_append_getElem h, PP, List.filter_append]
 congr 1
 simp only [List.filter_cons, List.filter_nil]
 by_cases hu : l[i].u = u <;> simp [hu]
theorem KB {l : List TermT} {u : Int} {i : Nat} (h : i < l.length) (hn : ¬ l[i].u = u) : PP (l.take (i + 1)) u = PP (l.take i) u ++ [l[i]] := by rw [QbL h, if_neg hn]
theorem G1 {l : List TermT} {u : Int} {i : Nat} (h : i < l.length) (hn : l[i].u = u) : PP (l.take (i + 1)) u = PP (l.take i) u := by rw [QbL h, if_pos hn, List.append_nil]
theorem Mk (l : List TermT) (u : Int) : (PP l u).length <= l.length := List.length_filter_le ..
theorem Qaw (l : List TermT) (u : Int) (i : Nat) : (PP (l.take i) u).length <= l.length := QgK (Mk ..) (List.length_take_le' ..)
def Nm (l : List TermT) (u : Nat) (i : Nat) : List TermT := (l.take i).filter fun t => decide (t.u = ((u : Nat) : Int))
theorem QcS {l : List TermT} {u i : Nat} (h : i < l.length) (hn : l[i].u = ((u : Nat) : Int)) : Nm l u (i + 1) = Nm l u i ++ [l[i]] := by
 rw [Nm, List.take_succ_eq_append_getElem h, List.filter_append]; simp [hn, Nm]
theorem QdQ {l : List TermT} {u i : Nat} (h : i < l.length) (hn : ¬ l[i].u = ((u : Nat) : Int)) : Nm l u (i + 1) = Nm l u i := by
 rw [Nm, List.take_succ_eq_append_getElem h, List.filter_append]; simp [hn, Nm]
theorem BV (l : List TermT) (u i : Nat) : (Nm l u i).length <= l.length := QgK (List.length_filter_le ..) (List.length_take_le' ..)
theorem To (l : List TermT) (u : Nat) : Yr l (u + 1) = Yr l u ++ Nm l u l.length := by rw [Yr, Nm, List.take_length]
theorem P7 (l : List TermT) : ∀ n, (Yr l n).length <= n * l.length
 | 0 => by simp [Yr]
 | n + 1 => by
  have := P7 l n
  rw [To, List.length_append, Nat.succ_mul]
  have := BV l n l.length
  omega
theorem Jf (w : Qo) (n : Nat) : Hx w (n + 1) = Hx w n ++ [YL w n] := rfl
theorem Ji {w : Qo} {ms : List Int} {n : Nat} (h : n < ms.length) (hn : ¬ ms[n] = YL w n) : XJ w ms (n + 1) = XJ w ms n ++ [⟨n, ms[n]⟩] := by
 rw [XJ, List.getD_eq_getElem?_getD, List.getElem?_eq_getElem h]; simp [hn]
theorem KS {w : Qo} {ms : List Int} {n : Nat} (h : n < ms.length) (hn : ms[n] = YL w n) : XJ w ms (n + 1) = XJ w ms n := by
 rw [XJ, List.getD_eq_getElem?_getD, List.getElem?_eq_getElem h]; simp [hn]
theorem D7 {w : Qo} {ms : List Int} {i : Nat} (h : i < ms.length) (hz : ms[i] = 0) : SX w ms = none := by
 rw [SX, if_neg]
 rw [XV h (by simp [hz])]; simp
theorem Bm {w : Qo} {ms : List Int} {i : Nat} (hi : ms.length <= i) (h : (ms.take i).all (fun m => !decide (m = 0)) = true) : SX w ms = some (XJ w ms ms.length) := by
 rw [QgH hi] at h; rw [SX, if_pos h]
theorem MD {w : Qo} {u : Int} (h0 : 0 <= u) (h : u < w.length) : inW w u = true := by simp [inW, h0, h]
theorem GM {w : Qo} {u : Int} (h : u < 0 \/ (w.length : Int) <= u) : inW w u = false := by
 simp only [inW, QgE, decide_eq_false_iff_not]; omega
theorem GL {w : Qo} {u : Int} : inW w u = true ↔ 0 <= u /\ u < w.length := by simp [inW]
theorem D8 (l : List TermT) : ∀ ms : List Int, (XI ms l).length = ms.length := by
 induction l with
 | nil => intro ms; rfl
 | cons t l ih => intro ms; rw [XI, List.foldl_cons]; exact (ih _).trans (List.length_set ..)
theorem Qa5 {ms : List Int} {l : List TermT} {i : Nat} (h : i < l.length) : XI ms (l.take (i + 1)) = (XI ms (l.take i)).set l[i].u.toNat (Kg ((XI ms (l.take i)).getD l[i].u.toNat 0) l[i].m) := by
 rw [List.take_succ_eq_append_getElem h, XI, List.foldl_append]; rfl
theorem Dj {ms : List Int} {l : List TermT} {i : Nat} (h : i < l.length) (hu : l[i].u.toNat < (XI ms (l.take i)).length) : XI ms (l.take (i + 1)) = (XI ms (l.take i)).set l[i].u.toNat (Kg ((XI ms (l.take i))[l[i].u.toNat]) l[i].m) := by
 rw [Qa5 h, List.getD_eq_getElem?_getD, List.getElem?_eq_getElem hu]; rfl
theorem Qaa {x y : TermT} : JV [0, 0] (F2 x) (F2 y) = some (decide (x = y)) := by
 obtain ⟨a, b⟩ := x
 obtain ⟨c, d⟩ := y
 simp only [F2, JV, if_true, Option.map_some, Bool.and_true, Qgu]
 rw [Bool.eq_iff_iff]
 simp only [Qgv, decide_eq_true_eq, TermT.mk.injEq]
theorem B6 {x y : StepT} : JV [0, 0, 0, 0] (GI x) (GI y) = some (decide (x = y)) := by
 obtain ⟨a, b, e, f⟩ := x
 obtain ⟨c, d, g, h⟩ := y
 simp only [GI, JV, if_true, Option.map_some, Bool.and_true, Qgu]
 rw [Bool.eq_iff_iff]
 simp only [Qgv, decide_eq_true_eq, StepT.mk.injEq]
theorem Ts {α : Type} {a b : List α} {i : Nat} (ha : i < a.length) (hb : i < b.length) (h : a.take i = b.take i) (he : a[i] = b[i]) : a.take (i + 1) = b.take (i + 1) := by
 rw [List.take_succ_eq_append_getElem ha, List.take_succ_eq_append_getElem hb, h, he]
theorem BU {α : Type} [DecidableEq α] {a b : List α} {i : Nat} (ha : i < a.length) (hb : i < b.length) (he : ¬ a[i] = b[i]) : decide (a = b) = false := decide_eq_false fun e => he (by subst e; rfl)
theorem N9 {e : Int} (h1 : 0 <= e) (h2 : e <= 18446744073709551615) : IntKind.u64.wrap e = e := by
 unfold IntKind.wrap
 simp only [IntKind.bits, IntKind.signed, Bool.false_and, Qgz, if_false]
 omega
theorem Qae {p : Nat} (h : p <= 60) : IntKind.i64.wrap ((2 : Int) * 2 ^ min ((p : Nat) : Int).toNat IntKind.i64.bits) = 2 * 2 ^ p := by
 rw [show min ((p : Nat) : Int).toNat IntKind.i64.bits = p from by simp only [IntKind.bits, Int.toNat_natCast]; omega]
 have := RZ (i := p + 1) Wa
 rw [Int.pow_succ] at this
 exact Ql Wa Wa
theorem Qc0 (w : Qo) (u : Int) (x : WantT) : IntKind.i64.wrap (YL w u - TA w x) = YL w u - TA w x := by
 have h1 := RO w u
 have h2 := QcI w x
 exact Ql Wa Wa
def clF (w : Qo) (bar : Bool) (x : WantT) : TermT := ⟨x.u, if bar = true then TA w x else YL w x.u - TA w x⟩
def clT (w : Qo) (u : Int) (p : Nat) (bar : Bool) (l : List WantT) : List TermT := ⟨u, Kg (YL w u) (2 * 2 ^ p)⟩ :: l.map (clF w bar)
theorem KE {w : Qo} {u : Int} {p : Nat} {bar : Bool} {l : List WantT} {i : Nat} (h : i < l.length) (hb : bar = false) : clT w u p bar (l.take (i + 1)) = clT w u p bar (l.take i) ++ [⟨l[i].u, YL w l[i].u - TA w l[i]⟩] := by
 rw [clT, List.take_succ_eq_append_getElem h, List.map_append, <- List.cons_append]; simp [clT, clF, hb]
theorem KD {w : Qo} {u : Int} {p : Nat} {bar : Bool} {l : List WantT} {i : Nat} (h : i < l.length) (hb : bar = true) : clT w u p bar (l.take (i + 1)) = clT w u p bar (l.take i) ++ [⟨l[i].u, TA w l[i]⟩] := by
 rw [clT, List.take_succ_eq_append_getElem h, List.map_append, <- List.cons_append]; simp [clT, clF, hb]
theorem CE (w : Qo) (u : Int) (p : Nat) (bar : Bool) (l : List WantT) : (clT w u p bar l).length = l.length + 1 := by simp [clT]
theorem PT {w : Qo} {l : List TermT} {i : Nat} (h : i < l.length) (hu : inW w l[i].u = false) : Nw w l = none := by
 rw [Nw, XV h hu]; rfl
theorem Bn {w : Qo} {l : List TermT} (h : l.all (fun t => inW w t.u) = true) : Nw w l = SX w (XI (Kr w) l) := by
 rw [Nw, if_pos h]
theorem Mx (w : Qo) (l : List TermT) : (XI (Kr w) l).length = w.length := by rw [D8, Kr, GK]
def srt (l : List TermT) (u i : Nat) : List TermT := Yr l u ++ Nm l u i
theorem K1 {l : List TermT} {u i : Nat} (h : i < l.length) (hn : l[i].u = ((u : Nat) : Int)) : srt l u (i + 1) = srt l u i ++ [l[i]] := by rw [srt, QcS h hn, <- List.append_assoc]; rfl
theorem FN {l : List TermT} {u i : Nat} (h : i < l.length) (hn : ¬ l[i].u = ((u : Nat) : Int)) : srt l u (i + 1) = srt l u i := by rw [srt, QdQ h hn]; rfl
theorem Jl (l : List TermT) (u : Nat) : srt l u 0 = Yr l u := by simp [srt, Nm]
theorem KZ (l : List TermT) (u : Nat) {i : Nat} (h : l.length = i) : Yr l (u + 1) = srt l u i := by rw [To, h]; rfl
theorem QcT (l : List TermT) (u i : Nat) : (srt l u i).length <= u * l.length + l.length := by
 have h1 := P7 l u
 have h2 := BV l u i
 rw [srt, List.length_append]; omega
end M25
namespace Go.Proofs
open Go Go.Abs M3 M25
theorem ZQ {w : Qo} (hw : WSm w) {u : Int} : Ok Tryz.prog 32 [Yd w, .int .i64 u] (.int .i64 (YL w u)) := by
 refine Ok.ofT ZU Tryz.func32 Qfi (Qgr Z) ?_
 show TW _ _ tf32.body _ _
 refine Qb fun K hK => Zw Z Z Z (Qa Z (kc2 hK Z Z ?_))
 refine QA ?_ -- 0
 refine Qb fun K hK => Qa Z (Yh Z Z (Qa Z ?_))
 refine Qu (g := 7) Z (fun h1 => ?_) (fun h1 => ?_)
 ·try rw [h1]
  try simp only [qA] at h1
  refine gn4 Z Z Z Z (Y4 Z (Qh Z Z (kc3 hK Z Z Z ?_)))
  refine Zo Z (Qb fun K hK => Qa Z (kc1 hK Z ?_))
  refine Qq (Qg (QB Z ?_))
  rw [Fu Wa]
 ·try rw [h1]
  try simp only [qA] at h1
  refine Qd Z (Qa Z (Qd Z (Qf Z Z (Qd Z (Qy Z Z Z (Qd Z (QH Z Z (Qd Z (Mc Z Z (Qh Z Z (kc3 hK Z Z Z ?_)))))))))))
  refine Qs Z (fun h2 => ?_) (fun h2 => ?_)
  ·try rw [h2]
   try simp only [qA] at h2
   refine Qb fun K hK => Qa Z (kc1 hK Z ?_)
   refine Qq (Qg (QB Z ?_))
   rw [Fu Wa]
  ·try rw [h2]
   try simp only [qA] at h2
   refine Qr (ks2 Z Z (Qb fun K hK => Qf Z Z (Qy Z Z Z (Qa Z (QF Z Z Z Wa (ZN Wa Wa) Z (Q3 Z Z (Qy Z Z Z (QH Z Z (Qed Z Z (QX Z Z Wc ?_))))))))))
   refine Qv (Xi Wa Wa) Z Z (.inr Z) (XU Z Z (Tx Wa) (Qa Z (kc1 hK Z ?_)))
   refine Qq (QB Z ?_)
   rw [RP Wa Wa, List.length_map, Qeq]
theorem Y6 {w : Qo} (hw : WSm w) {l : List TermT} (hl : l.length <= 1000000) {u : Int} : Ok Tryz.prog 54 [Yd w, ZL l, .int .i64 u] (.int .i64 (Fw w l u)) := by
 refine Ok.ofT ZU Tryz.func54 QfE (Qgr Z) ?_
 show TW _ _ tf54.body _ _
 refine Qb fun K hK => Zw Z Z Z (Qa Z (kc3 hK Z Z Z ?_))
 refine QA ?_ -- 0
 refine Qb fun K hK => Qa Z (kc4 hK Z Z Z Z ?_)
 refine Qz ?_
 refine Zp (ι := Nat) (fun i => ⟨[(1, ZL l), (2, .int .i64 u), (3, .ref 3 0 0), (7, .int .i64 i)], [(3, ⟨[[.sl ((w).map YY)]], 1, 28, true⟩)]⟩) (fun i => i <= l.length /\ Fx (YL w u) u l = Fx (YL w u) u (l.drop i)) (fun i => l.length - i) 0 ?_ ?_ ?_
 ·exact Q5 (l := [1, 2, 3, 7]) (lH := [3]) (kp4 rfl rfl rfl rfl) (Qc rfl Qn) rfl rfl rfl
 ·exact ⟨QgD _, by simp⟩
 intro i hI
 try dsimp only
 refine QA ?_ -- 1
 refine Qb fun K hK => mv2 Z Z (QH Z Z (Yh Z Z (kc5 hK Z Z Z Z Z ?_)))
 refine Qs Z (fun h1 => ?_) (fun h1 => ?_)
 ·try rw [h1]
  try simp only [qA] at h1
  refine Qr (ks4 Z Z Z Z ?_)
  refine QA ?_ -- 2
  refine Qz (Qb fun K hK => mv2 Z Z (QF Z Z Z Wa (QP Wa) Z (Q3 Z Z (Qy Z Z Z (Qa Z (ZE Z Z (kc5 hK Z Z Z Z Z ?_)))))))
  refine Qs Z (fun h2 => ?_) (fun h2 => ?_)
  ·try rw [h2]
   try simp only [qA] at h2
   refine Qb fun K hK => mv2 Z Z (QF Z Z Z Wa (QP Wa) Z (Q3 Z Z (Qy Z Z Z (Qa Z (kc1 hK Z ?_)))))
   refine Qq (Qp (Qg (QZ (Qp (Qg (QB Z ?_))))))
   rw [Fw, hI.2, Bu Wa h2]
  ·try rw [h2]
   try simp only [qA] at h2
   refine Qr (Qe (ks4 Z Z Z Z (QK fun K hK => Qa Z (QX Z Z Wc (Qa Z (hK _ ?_))))))
   refine Qi (i + 1) ?_ ?_ ?_
   ·exact Q5 (l := [1, 2, 3, 7]) (lH := [3]) (kp4 rfl rfl rfl rfl) (Qc rfl Qn) rfl rfl rfl
   ·exact ⟨Wa, by rw [hI.2, Ca Wa Wl]⟩
   ·first | omega | (simp only; omega) | (dsimp only; omega)
 ·try rw [h1]
  try simp only [qA] at h1
  refine Zi (QJ (Qw (QE (ks2 Z Z (Qb fun K hK => QC (cs := [_]) Z Z Z Z (Qa Z (Qv (ZQ hw) Z Z (.inr Z) (Qa Z (kc1 hK Z ?_)))))))))
  refine Qq (QB Z ?_)
  rw [Fw, hI.2, QgM Wa]; rfl
theorem GB {w : Qo} (hw : WSm w) {x : WantT} (hx : Sm x.s.1 /\ Sm x.s.2) : Ok Tryz.prog 80 [Yd w, .agg (ND x)] (.int .i64 (TA w x)) := by
 refine Ok.ofT ZU Tryz.func80 Qf4 (Qgr Z) ?_
 show TW _ _ tf80.body _ _
 refine Qb fun K hK => Zw Z Z Z (Zw Z Z Z (Qa Z (kc2 hK Z Z ?_)))
 refine QA ?_ -- 0
 refine Qb fun K hK => Qf Z Z (Qy Z Z Z (Yh Z Z (Qa Z ?_)))
 refine Qu (g := 11) Z (fun h1 => ?_) (fun h1 => ?_)
 ·try rw [h1]
  try simp only [qA] at h1
  refine gn4 Z Z Z Z (gn2 Z Z (Qh Z Z (kc3 hK Z Z Z ?_)))
  refine Zo Z (Qb fun K hK => Qa Z (kc1 hK Z ?_))
  refine Qq (Qg (QB Z ?_))
  rw [Df Wa]
 ·try rw [h1]
  try simp only [qA] at h1
  refine Qd Z (Qf Z Z (Qd Z (Qy Z Z Z (Qd Z (Qf Z Z (Qd Z (Qy Z Z Z (Qd Z (QH Z Z (Qd Z (Mc Z Z ?_)))))))))))
  refine Qh Z Z (kc3 hK Z Z Z ?_)
  refine Qs Z (fun h2 => ?_) (fun h2 => ?_)
  ·try rw [h2]
   try simp only [qA] at h2
   refine Qb fun K hK => Qa Z (kc1 hK Z ?_)
   refine Qq (Qg (QB Z ?_))
   rw [Df Wa]
  ·try rw [h2]
   try simp only [qA] at h2
   refine Qr (ks2 Z Z (Qb fun K hK => Qa Z (kc3 hK Z Z Z ?_)))
   refine Qb fun K hK => Qf Z Z (Qy Z Z Z (Qf Z Z (Qy Z Z Z (QF Z Z Z Wa (ZN Wa Wa) Z (Q3 Z Z (Qy Z Z Z (Qa Z (kc3 hK Z Z Z ?_))))))))
   refine QA ?_ -- 1
   refine Qb fun K hK => Qa Z (kc4 hK Z Z Z Z ?_)
   refine Qz ?_
   refine Zp (ι := Nat) (fun i => ⟨[(3, .ref 3 0 0), (5, .int .i64 (Hf x.s (w[x.u.toNat]'Wa).cs i)), (6, LN (w[x.u.toNat]'Wa).cs), (7, .int .i64 i)], [(3, ⟨[[.int .i64 (x).u, ZH (x).s.1, ZH (x).s.2]], 3, 71, true⟩)]⟩) (fun i => i <= (min (w[x.u.toNat]'Wa).cs.length 16)) (fun i => (min (w[x.u.toNat]'Wa).cs.length 16) - i) 0 ?_ ?_ ?_
   ·exact Q5 (l := [3, 5, 6, 7]) (lH := [3]) (kp4 rfl rfl rfl rfl) (Qc rfl Qn) rfl rfl rfl
   ·exact QgD _
   intro i hI
   try dsimp only
   refine QA ?_ -- 2
   refine Qb fun K hK => mv2 Z Z (QH Z Z (Yh Z Z (Qa Z ?_)))
   refine Qu (g := 30) Z (fun h3 => ?_) (fun h3 => ?_)
   ·try rw [h3]
    try simp only [qA] at h3
    refine Qd Z (Qa Z (Qd Z (Yh Z Z (Qh Z Z (kc5 hK Z Z Z Z Z ?_)))))
    refine Qs Z (fun h4 => ?_) (fun h4 => ?_)
    ·try rw [h4]
     try simp only [qA] at h4
     refine Qr (ks4 Z Z Z Z ?_)
     refine QA ?_ -- 3
     refine Qz (Qb fun K hK => Qf Z Z (QI (ds0 := [0]) (cs := [_, _]) Z Z Z Z Z Z (mv2 Z Z (QF Z Z Z Wa (QP Wa) Z (Q3 Z Z (QI (ds0 := [0]) (cs := [_, _, _, _, _]) Z Z Z Z Z Z (QR (ds0 := []) (G6 hx.1 hx.2 (hw.vs _ (Qgw _) _ (Qgw Wa)).1 (hw.vs _ (Qgw _) _ (Qgw Wa)).2) Z Z (.inr Z) Z Z (kc5 hK Z Z Z Z Z ?_))))))))
     refine Qs Z (fun h5 => ?_) (fun h5 => ?_)
     ·try rw [h5]
      try simp only [qA] at h5
      refine QK fun K hK => mv2 Z Z (QX Z Z Wc (Qv (Xi Wa Wa) Z Z (.inr Z) (QX Z Z (QbB _ _ Wa) (Qa Z (hK _ ?_)))))
      refine Qe (ks4 Z Z Z Z (QK fun K hK => Qa Z (QX Z Z Wc (Qa Z (hK _ ?_)))))
      refine Qi (i + 1) ?_ ?_ ?_
      ·exact Q5 (l := [3, 5, 6, 7]) (lH := [3]) (kp4 rfl rfl rfl rfl) (Qc rfl Qn) (by rw [Bv Wa Wl]; rfl) rfl rfl
      ·omega
      ·first | omega | (simp only; omega) | (dsimp only; omega)
     ·try rw [h5]
      try simp only [qA] at h5
      refine Qr (Qe (ks4 Z Z Z Z (QK fun K hK => Qa Z (QX Z Z Wc (Qa Z (hK _ ?_))))))
      refine Qi (i + 1) ?_ ?_ ?_
      ·exact Q5 (l := [3, 5, 6, 7]) (lH := [3]) (kp4 rfl rfl rfl rfl) (Qc rfl Qn) (by rw [Qa7 Wa Wl]; rfl) rfl rfl
      ·omega
      ·first | omega | (simp only; omega) | (dsimp only; omega)
    ·try rw [h4]
     try simp only [qA] at h4
     refine Zi (QJ (Qw (QE (ks1 Z (Qb fun K hK => mv2 Z Z (kc1 hK Z ?_))))))
     refine Qq (QB Z ?_)
     rw [Bo Wa Wa, show i = min (w[x.u.toNat]'Wa).cs.length 16 by omega]
   ·try rw [h3]
    try simp only [qA] at h3
    refine gn2 Z Z (Qh Z Z (kc5 hK Z Z Z Z Z ?_))
    refine Z2 Z (Zi (QJ (Qw (QE (ks1 Z (Qb fun K hK => mv2 Z Z (kc1 hK Z ?_)))))))
    refine Qq (QB Z ?_)
    rw [Bo Wa Wa, show i = min (w[x.u.toNat]'Wa).cs.length 16 by omega]
theorem X7 {m : Int} : Ok Tryz.prog 28 [.int .i64 m] (ZJ (He m)) := by
 refine Ok.ofT ZU Tryz.func28 Qfe (Qgr Z) ?_
 show TW _ _ tf28.body _ _
 refine Qb fun K hK => Qa Z (kc1 hK Z ?_)
 refine Qb fun K hK => Qa Z (kc2 hK Z Z ?_)
 refine QA ?_ -- 0
 refine Qb fun K hK => Qa Z (kc3 hK Z Z Z ?_)
 refine Qz ?_
 refine Zp (ι := Nat) (fun i => ⟨[(0, .int .i64 m), (3, .osl 3 (XZ m i).length), (4, .int .i64 i)], [(3, ⟨(XZ m i).map (fun x => [.int .i64 x]), 1, 3, true⟩)]⟩) (fun i => i <= 17) (fun i => 17 - i) 0 ?_ ?_ ?_
 ·exact le_trans (Ym 3 3 1 3 rfl rfl) (Q5 (l := [0, 3, 4]) (lH := [3]) (kp3 rfl rfl rfl) (Qc rfl Qn) rfl rfl rfl)
 ·exact QgD _
 intro i hI
 have hlen := F4 m i
 try dsimp only
 refine QA ?_ -- 1
 refine Qb fun K hK => Qa Z (Qca Z Z (kc4 hK Z Z Z Z ?_))
 refine Qs Z (fun h1 => ?_) (fun h1 => ?_)
 ·try rw [h1]
  try simp only [qB] at h1
  refine Qr (ks3 Z Z Z ?_)
  refine QA ?_ -- 2
  refine Qz (Qb fun K hK => mv2 Z Z (Qv (Xi Wa Wa) Z Z (.inr Z) (GV Z Z (X3 Z Z (kc4 hK Z Z Z Z ?_)))))
  refine Qs Z (fun h2 => ?_) (fun h2 => ?_)
  ·try rw [h2]
   try simp only [qB] at h2
   refine QK fun K hK => mv2 Z Z (XU Z Z Wc (QD Z Z (XF Z Z (fun _ h => XC Z Z Z h) Z Wf Z Z Z Wh Wh (Qa Z (hK _ ?_)))))
   refine Qe (ks3 Z Z Z (QK fun K hK => Qa Z (QX Z Z Wc (Qa Z (hK _ ?_)))))
   refine Qi (i + 1) ?_ ?_ ?_
   ·exact Q5 (l := [0, 3, 4]) (lH := [3]) (kp3 rfl rfl rfl) (Qc rfl Qn) (by first | (rw [Je (m := m) (n := i) h2]; done) | (rw [Je (m := m) (n := i) h2]; rfl) | (rw [Je (m := m) (n := i) h2, List.length_append]; rfl) | (simp [Je (m := m) (n := i) h2]; done) | (simp [Je (m := m) (n := i) h2]; omega) | rfl) (by first | (rw [Je (m := m) (n := i) h2]; done) | (rw [Je (m := m) (n := i) h2]; rfl) | (rw [Je (m := m) (n := i) h2, List.map_append]; rfl) | (simp [Je (m := m) (n := i) h2]; done) | rfl) rfl
   ·omega
   ·first | omega | (simp only; omega) | (dsimp only; omega)
  ·try rw [h2]
   try simp only [qB] at h2
   refine Qr (Qe (ks3 Z Z Z (QK fun K hK => Qa Z (QX Z Z Wc (Qa Z (hK _ ?_))))))
   refine Qi (i + 1) ?_ ?_ ?_
   ·exact Q5 (l := [0, 3, 4]) (lH := [3]) (kp3 rfl rfl rfl) (Qc rfl Qn) (by first | (rw [KH (m := m) (n := i) h2]; done) | (rw [KH (m := m) (n := i) h2]; rfl) | (rw [KH (m := m) (n := i) h2, List.length_append]; rfl) | (simp [KH (m := m) (n := i) h2]; done) | (simp [KH (m := m) (n := i) h2]; omega) | rfl) (by first | (rw [KH (m := m) (n := i) h2]; done) | (rw [KH (m := m) (n := i) h2]; rfl) | (rw [KH (m := m) (n := i) h2, List.map_append]; rfl) | (simp [KH (m := m) (n := i) h2]; done) | rfl) rfl
   ·omega
   ·first | omega | (simp only; omega) | (dsimp only; omega)
 ·try rw [h1]
  try simp only [qB] at h1
  refine Zi (QJ (Qw (QE (ks1 Z (Qb fun K hK => mv2 Z Z (kc1 hK Z ?_))))))
  refine Qq ?_
  exact KU rfl rfl rfl Wf (by rw [He, show (17 : Nat) = i by omega]; rfl)
theorem Gi {a b : List TermT} (ha : a.length <= 1000000) : Ok Tryz.prog 81 [ZL a, ZL b] (.bool (decide (a = b))) := by
 refine Ok.ofT ZU Tryz.func81 Qf5 (Qgr Z) ?_
 show TW _ _ tf81.body _ _
 refine Qb fun K hK => Qa Z (kc2 hK Z Z ?_)
 refine QA ?_ -- 0
 refine Qb fun K hK => Qa Z (QH Z Z (Qa Z (QH Z Z (X3 Z Z (kc3 hK Z Z Z ?_)))))
 refine Qs Z (fun h1 => ?_) (fun h1 => ?_)
 ·try rw [h1]
  try simp only [qA] at h1
  refine Qb fun K hK => Qa Z (kc1 hK Z ?_)
  refine Qq (Qg (Qm Z ?_))
  rw [decide_eq_false fun e => h1 (by rw [e])]
 ·try rw [h1]
  try simp only [qA] at h1
  refine Qr (ks2 Z Z ?_)
  refine QA ?_ -- 1
  refine Qb fun K hK => Qa Z (kc3 hK Z Z Z ?_)
  refine Qz ?_
  refine Zp (ι := Nat) (fun i => ⟨[(0, ZL a), (1, ZL b), (5, .int .i64 i)], []⟩) (fun i => i <= a.length /\ a.take i = b.take i) (fun i => a.length - i) 0 ?_ ?_ ?_
  ·exact Q9 (kp3 rfl rfl rfl)
  ·exact ⟨QgD _, by simp⟩
  intro i hI
  try dsimp only
  refine QA ?_ -- 2
  refine Qb fun K hK => mv2 Z Z (QH Z Z (Yh Z Z (kc4 hK Z Z Z Z ?_)))
  refine Qs Z (fun h2 => ?_) (fun h2 => ?_)
  ·try rw [h2]
   try simp only [qA] at h2
   refine Qr (ks3 Z Z Z ?_)
   refine QA ?_ -- 3
   refine Qz (Qb fun K hK => mv2 Z Z (QF Z Z Z Wa (QP Wa) Z (QI (ds0 := [0]) (cs := [_, _]) Z Z Z Z Z Z (mv2 Z Z (QF Z Z Z Wa (QP Wa) Z (QI (ds0 := [0]) (cs := [_, _]) Z Z Z Z Z Z (QbF Z Z Qaa (kc4 hK Z Z Z Z ?_))))))))
   refine Qs Z (fun h3 => ?_) (fun h3 => ?_)
   ·try rw [h3]
    try simp only [qA] at h3
    refine Qb fun K hK => Qa Z (kc1 hK Z ?_)
    refine Qq (Qp (Qg (QZ (Qp (Qg (Qm Z ?_))))))
    rw [BU (i := i) Wa Wa h3]
   ·try rw [h3]
    try simp only [qA] at h3
    refine Qr (Qe (ks3 Z Z Z (QK fun K hK => Qa Z (QX Z Z Wc (Qa Z (hK _ ?_))))))
    refine Qi (i + 1) ?_ ?_ ?_
    ·exact Q9 (kp3 rfl rfl rfl)
    ·exact ⟨Wa, Ts Wa Wa hI.2 h3⟩
    ·first | omega | (simp only; omega) | (dsimp only; omega)
  ·try rw [h2]
   try simp only [qA] at h2
   refine Zi (QJ (Qw (QE (Zf (ZD) (Qb fun K hK => Qa Z (kc1 hK Z ?_))))))
   refine Qq (Qm Z ?_)
   rw [QgH Wa, QgH Wa] at hI; exact (decide_eq_true hI.2).symm
open Go Go.Abs M3 M25
theorem Hl {w : Qo} (hw : WSm w) (et : Nat) (het : et = 3) : OkH Tryz.prog 58 [Yd w] [] (.osl 500000 (Kr w).length) [(500000, ⟨(Kr w).map (fun x => [.int .i64 x]), 1, et, true⟩)] := by
 subst het
 refine OkH.new ZU Tryz.func58 QfI (Qgr Z) Z ?_
 show TW _ _ tf58.body _ _
 have hn := hw.len
 refine Qb fun K hK => Zw Z Z Z (Qa Z (kc1 hK Z ?_))
 refine Qb fun K hK => Qa Z (kc2 hK Z Z ?_)
 refine QA ?_ -- 0
 refine Qb fun K hK => Qa Z (kc3 hK Z Z Z ?_)
 refine Qz ?_
 refine Zp (ι := Nat) (fun i => ⟨[(1, .ref 1 0 0), (3, .osl 500000 (Hx w i).length), (4, .int .i64 i)], [(1, ⟨[[.sl ((w).map YY)]], 1, 28, true⟩), (500000, ⟨(Hx w i).map (fun x => [.int .i64 x]), 1, 3, true⟩)]⟩) (fun i => i <= w.length) (fun i => w.length - i) 0 ?_ ?_ ?_
 ·exact le_trans (Ym 3 500000 1 3 rfl rfl) (Q5 (l := [1, 3, 4]) (lH := [1, 500000]) (kp3 rfl rfl rfl) (Qc rfl (Qc rfl Qn)) rfl rfl rfl)
 ·exact QgD _
 intro i hI
 have hlen := GK w i
 try dsimp only
 refine QA ?_ -- 1
 refine Qb fun K hK => Qa Z (Qf Z Z (Qy Z Z Z (QH Z Z (Yh Z Z (kc4 hK Z Z Z Z ?_)))))
 refine Qs Z (fun h1 => ?_) (fun h1 => ?_)
 ·try rw [h1]
  try simp only [qA] at h1
  refine Qr (ks3 Z Z Z ?_)
  refine QA ?_ -- 2
  refine Qz (QK fun K hK => Qa Z (QC (cs := [_]) Z Z Z Z (Qa Z (Qv (ZQ hw) Z Z (.inr Z) (QD Z Z (XF Z Z (fun _ h => XC Z Z Z h) Z Wf Z Z Z Wh Wh (Qa Z (hK _ ?_))))))))
  refine Qe (ks3 Z Z Z (QK fun K hK => Qa Z (QX Z Z Wc (Qa Z (hK _ ?_)))))
  refine Qi (i + 1) ?_ ?_ ?_
  ·exact Q5 (l := [1, 3, 4]) (lH := [1, 500000]) (kp3 rfl rfl rfl) (Qc rfl (Qc rfl Qn)) (by first | (rw [Jf]; done) | (rw [Jf]; rfl) | (rw [Jf, List.length_append]; rfl) | (simp [Jf]; done) | (simp [Jf]; omega) | rfl) (by first | (rw [Jf]; done) | (rw [Jf]; rfl) | (rw [Jf, List.map_append]; rfl) | (simp [Jf]; done) | rfl) rfl
  ·omega
  ·first | omega | (simp only; omega) | (dsimp only; omega)
 ·try rw [h1]
  try simp only [qA] at h1
  refine Zi (QJ (Qw (QE (ks1 Z (Qb fun K hK => mv2 Z Z (kc1 hK Z ?_))))))
  refine Qq ?_
  refine YH Z ?_ (HQ ?_)
  ·rw [Kr, show w.length = i by omega]; rfl
  ·rw [Kr, show w.length = i by omega]; rfl
theorem Gj {w : Qo} (hw : WSm w) {ms : List Int} (hm : ms.length <= 1000000) : Ok Tryz.prog 59 [Yd w, ZJ ms] (dOT (SX w ms)) := by
 refine Ok.ofT ZU Tryz.func59 QfJ (Qgr Z) ?_
 show TW _ _ tf59.body _ _
 refine Qb fun K hK => Zw Z Z Z (mv2 Z Z (kc2 hK Z Z ?_))
 refine Qb fun K hK => Qa Z (kc3 hK Z Z Z ?_)
 refine QA ?_ -- 0
 refine Qb fun K hK => Qa Z (kc4 hK Z Z Z Z ?_)
 refine Qz ?_
 refine Zp (ι := Nat) (fun i => ⟨[(1, ZJ ms), (2, .ref 2 0 0), (6, .osl 6 (XJ w ms i).length), (7, .int .i64 i)], [(2, ⟨[[.sl ((w).map YY)]], 1, 28, true⟩), (6, ⟨(XJ w ms i).map F2, 2, 24, true⟩)]⟩) (fun i => i <= ms.length /\ (ms.take i).all (fun m => !decide (m = 0)) = true) (fun i => ms.length - i) 0 ?_ ?_ ?_
 ·exact le_trans (Ym 6 6 2 24 rfl rfl) (Q5 (l := [1, 2, 6, 7]) (lH := [2, 6]) (kp4 rfl rfl rfl rfl) (Qc rfl (Qc rfl Qn)) rfl rfl rfl)
 ·exact ⟨QgD _, by simp⟩
 intro i hI
 have hlen := PW w ms i
 try dsimp only
 refine QA ?_ -- 1
 refine Qb fun K hK => mv2 Z Z (QH Z Z (Yh Z Z (kc5 hK Z Z Z Z Z ?_)))
 refine Qs Z (fun h1 => ?_) (fun h1 => ?_)
 ·try rw [h1]
  try simp only [qA] at h1
  refine Qr (ks4 Z Z Z Z ?_)
  refine QA ?_ -- 2
  refine Qz ?_
  refine QA ?_ -- 3
  refine Qb fun K hK => mv2 Z Z (QF Z Z Z Wa (QP Wa) Z (Qy Z Z Z (ZE Z Z (kc5 hK Z Z Z Z Z ?_))))
  refine Qs Z (fun h2 => ?_) (fun h2 => ?_)
  ·try rw [h2]
   try simp only [qA] at h2
   refine Qb fun K hK => mv2 Z Z (kc2 hK Z Z ?_)
   refine Qq (Qg (Qp (Qg (QZ (Qp (Qg ?_))))))
   rw [D7 (i := i) Wa h2]
   exact QS rfl rfl ⟨rfl, rfl⟩
  ·try rw [h2]
   try simp only [qA] at h2
   refine Qr (ks4 Z Z Z Z (Qb fun K hK => mv2 Z Z (QF Z Z Z Wa (QP Wa) Z (QN (ds0 := [0]) Z Z Z Z Z (QI (ds0 := [1, 0]) (cs := [_]) Z Z Z Z Z Z (Qa Z (QR (ds0 := [0]) (ZQ hw) Z Z (.inr Z) Z Z (X3 Z Z (kc5 hK Z Z Z Z Z ?_)))))))))
   refine Qs Z (fun h3 => ?_) (fun h3 => ?_)
   ·try rw [h3]
    try simp only [qA] at h3
    refine QK fun K hK => mv2 Z Z (mv2 Z Z (QF Z Z Z Wa (QP Wa) Z (Qy Z Z Z (QQ Z Z (QD Z Z (XF Z Z (fun _ h => XC Z Z Z h) Z Wf Z Z Z Wh Wh (Qa Z (hK _ ?_))))))))
    refine Qe (ks4 Z Z Z Z (QK fun K hK => Qa Z (QX Z Z Wc (Qa Z (hK _ ?_)))))
    refine Qi (i + 1) ?_ ?_ ?_
    ·exact Q5 (l := [1, 2, 6, 7]) (lH := [2, 6]) (kp4 rfl rfl rfl rfl) (Qc rfl (Qc rfl Qn)) (by first | (rw [Ji Wa h3]; done) | (rw [Ji Wa h3]; rfl) | (rw [Ji Wa h3, List.length_append]; rfl) | (simp [Ji Wa h3]; done) | (simp [Ji Wa h3]; omega) | rfl) (by first | (rw [Ji Wa h3]; done) | (rw [Ji Wa h3]; rfl) | (rw [Ji Wa h3, List.map_append]; rfl) | (simp [Ji Wa h3]; done) | rfl) rfl
    ·exact ⟨Wa, Yf Wa hI.2 (by simpa using h2)⟩
    ·first | omega | (simp only; omega) | (dsimp only; omega)
   ·try rw [h3]
    try simp only [qA] at h3
    refine Qr (Qe (ks4 Z Z Z Z (QK fun K hK => Qa Z (QX Z Z Wc (Qa Z (hK _ ?_))))))
    refine Qi (i + 1) ?_ ?_ ?_
    ·exact Q5 (l := [1, 2, 6, 7]) (lH := [2, 6]) (kp4 rfl rfl rfl rfl) (Qc rfl (Qc rfl Qn)) (by first | (rw [KS Wa h3]; done) | (rw [KS Wa h3]; rfl) | (rw [KS Wa h3, List.length_append]; rfl) | (simp [KS Wa h3]; done) | (simp [KS Wa h3]; omega) | rfl) (by first | (rw [KS Wa h3]; done) | (rw [KS Wa h3]; rfl) | (rw [KS Wa h3, List.map_append]; rfl) | (simp [KS Wa h3]; done) | rfl) rfl
    ·exact ⟨Wa, Yf Wa hI.2 (by simpa using h2)⟩
    ·first | omega | (simp only; omega) | (dsimp only; omega)
 ·try rw [h1]
  try simp only [qA] at h1
  refine Zi (QJ (Qw (QE (ks1 Z (Qb fun K hK => mv2 Z Z (Qa Z (kc2 hK Z Z ?_)))))))
  refine Qq ?_
  rw [Bm (i := i) Wa hI.2]
  exact M0 rfl rfl rfl Wf (by show D.sl _ = ZL (XJ w ms ms.length); rw [show ms.length = i by omega]; rfl) rfl rfl
theorem _root_.Wm {p : Prop} (h : p := by first | (simp; done) | (simp; omega)) : p := h
theorem Gg {w : Qo} (hw : WSm w) {l : List TermT} (hl : l.length <= 2000000) : Ok Tryz.prog 31 [Yd w, ZL l] (dOT (Nw w l)) := by
 refine Ok.ofT ZU Tryz.func31 Qfh (Qgr Z) ?_
 show TW _ _ tf31.body _ _
 have hn := hw.len
 refine Qb fun K hK => Zw Z Z Z (mv2 Z Z (kc2 hK Z Z ?_))
 refine Qb fun K hK => QC (cs := [_]) rfl rfl rfl rfl (YC (Qdv rfl (by intro x hx; simp at hx; subst hx; rfl) rfl rfl rfl (Hl hw _ rfl)) (Qa rfl (kc3 hK rfl rfl rfl ?_)))
 refine Sl (ι := Unit) (fun _ => ⟨[(2, .ref 2 0 0), (6, ZJ (XI (Kr w) l))], [(2, ⟨[[.sl ((w).map YY)]], 1, 28, true⟩)]⟩) (fun _ => l.all (fun t => inW w t.u) = true) ?_ ?_
 ·skip
  refine Qb fun K hK => Qa Z (kc4 hK Z Z Z Z ?_)
  refine Qz ?_
  refine Zp (ι := Nat) (fun i => ⟨[(1, ZL l), (2, .ref 2 0 0), (6, .osl 500000 (XI (Kr w) (l.take i)).length), (7, .int .i64 i)], [(2, ⟨[[.sl ((w).map YY)]], 1, 28, true⟩), (500000, ⟨(XI (Kr w) (l.take i)).map (fun x => [.int .i64 x]), 1, 3, true⟩)]⟩) (fun i => i <= l.length /\ (l.take i).all (fun t => inW w t.u) = true) (fun i => l.length - i) 0 ?_ ?_ ?_
  ·exact Q5 (l := [1, 2, 6, 7]) (lH := [2, 500000]) (kp4 rfl rfl rfl rfl) (Qc rfl (Qc rfl Qn)) rfl rfl rfl
  ·exact ⟨QgD _, by simp⟩
  intro i hI
  have hlen := Mx w (l.take i)
  try dsimp only
  refine QA ?_ -- 1
  refine Qb fun K hK => mv2 Z Z (QH Z Z (Yh Z Z (kc5 hK Z Z Z Z Z ?_)))
  refine Qs Z (fun h1 => ?_) (fun h1 => ?_)
  ·try rw [h1]
   try simp only [qA] at h1
   refine Qr (ks4 Z Z Z Z ?_)
   refine QA ?_ -- 2
   refine Qz ?_
   refine QA ?_ -- 3
   refine Qb fun K hK => mv2 Z Z (QF Z Z Z Wa (QP Wa) Z (Q3 Z Z (Qy Z Z Z (Yh Z Z (Qa Z ?_)))))
   refine Qu (g := 22) Z (fun h2 => ?_) (fun h2 => ?_)
   ·try rw [h2]
    try simp only [qA] at h2
    refine gn4 Z Z Z Z (gn4 Z Z Z Z (Qh Z Z (kc5 hK Z Z Z Z Z ?_)))
    refine Zo Z (Qb fun K hK => mv2 Z Z (kc2 hK Z Z ?_))
    refine Qq (Qg (Qp (Qg (QZ (Qp (Fp ?_))))))
    rw [PT (i := i) Wa (GM Wa)]
    exact QS rfl rfl ⟨rfl, rfl⟩
   ·try rw [h2]
    try simp only [qA] at h2
    refine Qd Z (Qa Z (Qd Z (Qa Z (Qd Z (QF Z Z Z Wa (QP Wa) Z (Qd Z (Q3 Z Z (Qd Z (Qy Z Z Z (Qd Z (Qa Z ?_)))))))))))
    refine Qd Z (QH Z Z (Qd Z (Mc Z Z (Qh Z Z (kc5 hK Z Z Z Z Z ?_)))))
    refine Qs Z (fun h3 => ?_) (fun h3 => ?_)
    ·try rw [h3]
     try simp only [qA] at h3
     refine Qb fun K hK => mv2 Z Z (kc2 hK Z Z ?_)
     refine Qq (Qg (Qp (Qg (QZ (Qp (Fp ?_))))))
     rw [PT (i := i) Wa (GM Wa)]
     exact QS rfl rfl ⟨rfl, rfl⟩
    ·try rw [h3]
     try simp only [qA] at h3
     refine Qr (ks4 Z Z Z Z (QK fun K hK => mv2 Z Z (Qa Z (QF Z Z Z Wa (QP Wa) Z (Q3 Z Z (QN (ds0 := [1, 0]) Z Z Z Z Z (mv2 Z Z (Qa Z ?_))))))))
     refine QF Z Z Z Wa (QP Wa) Z (Q3 Z Z (QN (ds0 := [9, 8, 2, 0]) Z Z Z Z Z (XT (ds0 := [8, 2, 0]) Z Z Z Wf Wa Wa Z Z Z (QN (ds0 := [2, 0]) Z (Z9 Z (ZN Wa Wa)) Z Z Z (mv2 Z Z (QF Z Z Z Wa (QP Wa) Z (Q3 Z Z (QN (ds0 := [2, 0]) Z Z Z Z Z (GV Z Z (XT (ds0 := [0]) Z Z Z Wf Wa Wa Z Z Z ?_))))))))))
     refine Xr (ds0 := []) Z Z (ZN Wa Wa) Z Z Z Z Z Z Z (hK _ ?_)
     refine Qe (ks4 Z Z Z Z (QK fun K hK => Qa Z (QX Z Z Wc (Qa Z (hK _ ?_)))))
     refine Qi (i + 1) ?_ ?_ ?_
     ·exact Q5 (l := [1, 2, 6, 7]) (lH := [2, 500000]) (kp4 rfl rfl rfl rfl) (Qc rfl (Qc rfl Qn)) (by rw [Dj Wa Wa, List.length_set]; rfl) (by rw [Dj Wa Wa, List.map_set]; rfl) rfl
     ·exact ⟨Wa, Yf Wa hI.2 (MD Wa Wa)⟩
     ·first | omega | (simp only; omega) | (dsimp only; omega)
  ·try rw [h1]
   try simp only [qA] at h1
   refine Zi (QJ (Qw (QE ?_)))
   refine Yo () ?_ ?_
   ·exact le_trans (L6 (l := [2]) (lH := [2]) 500000 6 (kp1 rfl) (Qc rfl Qn) rfl rfl rfl Wm rfl rfl rfl rfl) (Q5 (l := [2, 6]) (lH := [2]) (kp2 rfl rfl) (Qc rfl Qn) (by rw [QgH (Wa : l.length <= i)]; rfl) rfl rfl)
   ·exact XL Wa hI.2
 intro _ hJ
 try dsimp only
 refine Qb fun K hK => QC (cs := [_]) Z Z Z Z (Qa Z (Qv (Gj hw (by rw [Mx]; omega)) Z Z (.inl Z) (Q0 Z Z (Q0 Z Z (mv2 Z Z (kc2 hK Z Z ?_))))))
 refine Qq ?_
 rw [Bn hJ]
 exact QS rfl rfl ⟨rfl, rfl⟩
theorem Xj {l : List TermT} (hl : l.length <= 2000000) {u : Int} : Ok Tryz.prog 82 [ZL l, .int .i64 u] (ZL (PP l u)) := by
 refine Ok.ofT ZU Tryz.func82 Qf6 (Qgr Z) ?_
 show TW _ _ tf82.body _ _
 refine Qb fun K hK => Qa Z (kc2 hK Z Z ?_)
 refine Qb fun K hK => Qa Z (kc3 hK Z Z Z ?_)
 refine QA ?_ -- 0
 refine Qb fun K hK => Qa Z (kc4 hK Z Z Z Z ?_)
 refine Qz ?_
 refine Zp (ι := Nat) (fun i => ⟨[(0, ZL l), (1, .int .i64 u), (5, .osl 5 (PP (l.take i) u).length), (6, .int .i64 i)], [(5, ⟨(PP (l.take i) u).map F2, 2, 24, true⟩)]⟩) (fun i => i <= l.length) (fun i => l.length - i) 0 ?_ ?_ ?_
 ·exact le_trans (Ym 5 5 2 24 rfl rfl) (Q5 (l := [0, 1, 5, 6]) (lH := [5]) (kp4 rfl rfl rfl rfl) (Qc rfl Qn) rfl rfl rfl)
 ·exact QgD _
 intro i hI
 have hlen := Qaw l u i
 try dsimp only
 refine QA ?_ -- 1
 refine Qb fun K hK => mv2 Z Z (QH Z Z (Yh Z Z (kc5 hK Z Z Z Z Z ?_)))
 refine Qs Z (fun h1 => ?_) (fun h1 => ?_)
 ·try rw [h1]
  try simp only [qA] at h1
  refine Qr (ks4 Z Z Z Z ?_)
  refine QA ?_ -- 2
  refine Qz (Qb fun K hK => mv2 Z Z (QF Z Z Z Wa (QP Wa) Z (Q3 Z Z (Qy Z Z Z (Qa Z (X3 Z Z (kc5 hK Z Z Z Z Z ?_)))))))
  refine Qs Z (fun h2 => ?_) (fun h2 => ?_)
  ·try rw [h2]
   try simp only [qA] at h2
   refine QK fun K hK => mv2 Z Z (Qa Z (QF Z Z Z Wa (QP Wa) Z (QC (cs := [_, _]) Z Z Z Z (QD Z Z (XF Z Z (fun _ h => XC Z Z Z h) Z Wf Z Z Z Wh Wh (Qa Z (hK _ ?_)))))))
   refine Qe (ks4 Z Z Z Z (QK fun K hK => Qa Z (QX Z Z Wc (Qa Z (hK _ ?_)))))
   refine Qi (i + 1) ?_ ?_ ?_
   ·exact Q5 (l := [0, 1, 5, 6]) (lH := [5]) (kp4 rfl rfl rfl rfl) (Qc rfl Qn) (by first | (rw [KB Wa h2]; done) | (rw [KB Wa h2]; rfl) | (rw [KB Wa h2, List.length_append]; rfl) | (simp [KB Wa h2]; done) | (simp [KB Wa h2]; omega) | rfl) (by first | (rw [KB Wa h2]; done) | (rw [KB Wa h2]; rfl) | (rw [KB Wa h2, List.map_append]; rfl) | (simp [KB Wa h2]; done) | rfl) rfl
   ·omega
   ·first | omega | (simp only; omega) | (dsimp only; omega)
  ·try rw [h2]
   try simp only [qA] at h2
   refine Qr (Qe (ks4 Z Z Z Z (QK fun K hK => Qa Z (QX Z Z Wc (Qa Z (hK _ ?_))))))
   refine Qi (i + 1) ?_ ?_ ?_
   ·exact Q5 (l := [0, 1, 5, 6]) (lH := [5]) (kp4 rfl rfl rfl rfl) (Qc rfl Qn) (by first | (rw [G1 Wa h2]; done) | (rw [G1 Wa h2]; rfl) | (rw [G1 Wa h2, List.length_append]; rfl) | (simp [G1 Wa h2]; done) | (simp [G1 Wa h2]; omega) | rfl) (by first | (rw [G1 Wa h2]; done) | (rw [G1 Wa h2]; rfl) | (rw [G1 Wa h2, List.map_append]; rfl) | (simp [G1 Wa h2]; done) | rfl) rfl
   ·omega
   ·first | omega | (simp only; omega) | (dsimp only; omega)
 ·try rw [h1]
  try simp only [qA] at h1
  refine Zi (QJ (Qw (QE (ks1 Z (Qb fun K hK => mv2 Z Z (kc1 hK Z ?_))))))
  refine Qq ?_
  exact KU rfl rfl rfl Wf (by rw [QgH (Wa : l.length <= i)]; rfl)
theorem Hb {l : List TermT} (hl : l.length <= 3000000) : Ok Tryz.prog 83 [ZL l] (ZL (RT l)) := by
 refine Ok.ofT ZU Tryz.func83 Qf7 (Qgr Z) ?_
 show TW _ _ tf83.body _ _
 refine Qb fun K hK => Qa Z (kc1 hK Z ?_)
 refine Qb fun K hK => Qa Z (kc2 hK Z Z ?_)
 refine QA ?_ -- 0
 refine Qb fun K hK => Qa Z (kc3 hK Z Z Z ?_)
 refine Qz ?_
 refine Zp (ι := Nat) (fun u => ⟨[(0, ZL l), (3, .osl 3 (Yr l u).length), (4, .int .i64 u)], [(3, ⟨(Yr l u).map F2, 2, 24, true⟩)]⟩) (fun u => u <= 48) (fun u => 48 - u) 0 ?_ ?_ ?_
 ·exact le_trans (Ym 3 3 2 24 rfl rfl) (Q5 (l := [0, 3, 4]) (lH := [3]) (kp3 rfl rfl rfl) (Qc rfl Qn) rfl rfl rfl)
 ·exact QgD _
 intro u hU
 have hlen2 : u * l.length <= 48 * 3000000 := Nat.mul_le_mul Wa hl
 try dsimp only
 refine QA ?_ -- 1
 refine Qb fun K hK => Qa Z (Yh Z Z (kc4 hK Z Z Z Z ?_))
 refine Qs Z (fun h1 => ?_) (fun h1 => ?_)
 ·try rw [h1]
  try simp only [qA] at h1
  refine Qr (ks3 Z Z Z ?_)
  refine QA ?_ -- 2
  refine Qz (Qb fun K hK => Qa Z (kc4 hK Z Z Z Z ?_))
  refine Qz ?_
  refine Zp (ι := Nat) (fun i => ⟨[(0, ZL l), (3, .osl 3 (srt l u i).length), (4, .int .i64 u), (5, .int .i64 i)], [(3, ⟨(srt l u i).map F2, 2, 24, true⟩)]⟩) (fun i => i <= l.length) (fun i => l.length - i) 0 ?_ ?_ ?_
  ·exact Q5 (l := [0, 3, 4, 5]) (lH := [3]) (kp4 rfl rfl rfl rfl) (Qc rfl Qn) (by first | (rw [Jl]; done) | (rw [Jl]; rfl) | (rw [Jl, List.length_append]; rfl) | (simp [Jl]; done) | (simp [Jl]; omega) | rfl) (by first | (rw [Jl]; done) | (rw [Jl]; rfl) | (rw [Jl, List.map_append]; rfl) | (simp [Jl]; done) | rfl) rfl
  ·exact QgD _
  intro i hI
  have hlen3 := QcT l u i
  try dsimp only
  refine QA ?_ -- 3
  refine Qb fun K hK => mv2 Z Z (QH Z Z (Yh Z Z (kc5 hK Z Z Z Z Z ?_)))
  refine Qs Z (fun h2 => ?_) (fun h2 => ?_)
  ·try rw [h2]
   try simp only [qA] at h2
   refine Qr (ks4 Z Z Z Z ?_)
   refine QA ?_ -- 4
   refine Qz (Qb fun K hK => mv2 Z Z (QF Z Z Z Wa (QP Wa) Z (Q3 Z Z (Qy Z Z Z (Qa Z (ZE Z Z (kc5 hK Z Z Z Z Z ?_)))))))
   refine Qs Z (fun h3 => ?_) (fun h3 => ?_)
   ·try rw [h3]
    try simp only [qA] at h3
    refine QK fun K hK => mv2 Z Z (Qa Z (QF Z Z Z Wa (QP Wa) Z (QC (cs := [_, _]) Z Z Z Z (QD Z Z (XF Z Z (fun _ h => XC Z Z Z h) Z Wf Z Z Z Wh Wh (Qa Z (hK _ ?_)))))))
    refine Qe (ks4 Z Z Z Z (QK fun K hK => Qa Z (QX Z Z Wc (Qa Z (hK _ ?_)))))
    refine Qi (i + 1) ?_ ?_ ?_
    ·exact Q5 (l := [0, 3, 4, 5]) (lH := [3]) (kp4 rfl rfl rfl rfl) (Qc rfl Qn) (by first | (rw [K1 Wa h3]; done) | (rw [K1 Wa h3]; rfl) | (rw [K1 Wa h3, List.length_append]; rfl) | (simp [K1 Wa h3]; done) | (simp [K1 Wa h3]; omega) | rfl) (by first | (rw [K1 Wa h3]; done) | (rw [K1 Wa h3]; rfl) | (rw [K1 Wa h3, List.map_append]; rfl) | (simp [K1 Wa h3]; done) | rfl) rfl
    ·omega
    ·first | omega | (simp only; omega) | (dsimp only; omega)
   ·try rw [h3]
    try simp only [qA] at h3
    refine Qr (Qe (ks4 Z Z Z Z (QK fun K hK => Qa Z (QX Z Z Wc (Qa Z (hK _ ?_))))))
    refine Qi (i + 1) ?_ ?_ ?_
    ·exact Q5 (l := [0, 3, 4, 5]) (lH := [3]) (kp4 rfl rfl rfl rfl) (Qc rfl Qn) (by first | (rw [FN Wa h3]; done) | (rw [FN Wa h3]; rfl) | (rw [FN Wa h3, List.length_append]; rfl) | (simp [FN Wa h3]; done) | (simp [FN Wa h3]; omega) | rfl) (by first | (rw [FN Wa h3]; done) | (rw [FN Wa h3]; rfl) | (rw [FN Wa h3, List.map_append]; rfl) | (simp [FN Wa h3]; done) | rfl) rfl
    ·omega
    ·first | omega | (simp only; omega) | (dsimp only; omega)
  ·try rw [h2]
   try simp only [qA] at h2
   refine Zi (QJ (Qw (QE (Qe (ks3 Z Z Z (QK fun K hK => Qa Z (QX Z Z Wc (Qa Z (hK _ ?_)))))))))
   refine Qi (u + 1) ?_ ?_ ?_
   ·exact Q5 (l := [0, 3, 4]) (lH := [3]) (kp3 rfl rfl rfl) (Qc rfl Qn) (by first | (rw [KZ l u (Wa : l.length = i)]; done) | (rw [KZ l u (Wa : l.length = i)]; rfl) | (rw [KZ l u (Wa : l.length = i), List.length_append]; rfl) | (simp [KZ l u (Wa : l.length = i)]; done) | (simp [KZ l u (Wa : l.length = i)]; omega) | rfl) (by first | (rw [KZ l u (Wa : l.length = i)]; done) | (rw [KZ l u (Wa : l.length = i)]; rfl) | (rw [KZ l u (Wa : l.length = i), List.map_append]; rfl) | (simp [KZ l u (Wa : l.length = i)]; done) | rfl) rfl
   ·omega
   ·first | omega | (simp only; omega) | (dsimp only; omega)
 ·try rw [h1]
  try simp only [qA] at h1
  refine Zi (QJ (Qw (QE (ks1 Z (Qb fun K hK => mv2 Z Z (kc1 hK Z ?_))))))
  refine Qq ?_
  exact KU rfl rfl rfl Wf (by rw [RT, show (48 : Nat) = u by omega]; rfl)
theorem XG {w : Qo} (hw : WSm w) {u : Int} {p : Nat} (hp : p <= 60) {l : List WantT} (hl : l.length <= 1000000) (hx : ∀ x ∈ l, Sm x.s.1 /\ Sm x.s.2) {bar : Bool} : Ok Tryz.prog 56 [Yd w, .int .i64 u, .int .i64 (p : Nat), Q7 l, .bool bar] (dOT (Yp w u p l bar)) := by
 refine Ok.ofT ZU Tryz.func56 QfG (Qgr Z) ?_
 show TW _ _ tf56.body _ _
 refine Qb fun K hK => Zw Z Z Z (mv2 Z Z (kc5 hK Z Z Z Z Z ?_))
 refine Qb fun K hK => Qa Z (QC (cs := [_]) Z Z Z Z (Qa Z (Qv (ZQ hw) Z Z (.inr Z) (Qa Z (Sj Z (N9 Wa Wa) (Qan Z Z Wa (Qae hp) (GV Z Z (QQ Z Z (QD Z Z (Qa Z ?_))))))))))
 refine kc4 hK Z Z Z Z ?_
 refine Sl (ι := Unit) (fun _ => ⟨[(5, .ref 5 0 0), (12, ZL (clT w u p bar l))], [(5, ⟨[[.sl ((w).map YY)]], 1, 28, true⟩)]⟩) (fun _ => True) ?_ ?_
 ·skip
  refine Qb fun K hK => Qa Z (kc5 hK Z Z Z Z Z ?_)
  refine Qz ?_
  refine Zp (ι := Nat) (fun i => ⟨[(3, Q7 l), (4, .bool bar), (5, .ref 5 0 0), (12, .osl 24 (clT w u p bar (l.take i)).length), (13, .int .i64 i)], [(5, ⟨[[.sl ((w).map YY)]], 1, 28, true⟩), (24, ⟨(clT w u p bar (l.take i)).map F2, 2, 24, true⟩)]⟩) (fun i => i <= l.length) (fun i => l.length - i) 0 ?_ ?_ ?_
  ·exact Q5 (l := [3, 4, 5, 12, 13]) (lH := [5, 24]) (kp5 rfl rfl rfl rfl rfl) (Qc rfl (Qc rfl Qn)) rfl rfl rfl
  ·exact QgD _
  intro i hI
  have hlen := CE w u p bar (l.take i)
  have hlen2 : (l.take i).length <= l.length := List.length_take_le' ..
  try dsimp only
  refine QA ?_ -- 1
  refine Qb fun K hK => mv2 Z Z (QH Z Z (Yh Z Z (kc6 hK Z Z Z Z Z Z ?_)))
  refine Qs Z (fun h1 => ?_) (fun h1 => ?_)
  ·try rw [h1]
   try simp only [qA] at h1
   refine Qr (ks5 Z Z Z Z Z ?_)
   refine QA ?_ -- 2
   refine Qz (Qb fun K hK => QI (ds0 := [1, 0]) (cs := [_]) Z Z Z Z Z Z (mv2 Z Z (QF Z Z Z Wa (QP Wa) Z (QI (ds0 := [1, 0]) (cs := [_, _, _]) Z Z Z Z Z Z (QR (ds0 := [0]) (GB hw (hx _ (Qgw Wa))) Z Z (.inr Z) Z Z (Qa Z (kc6 hK Z Z Z Z Z Z ?_)))))))
   refine QA ?_ -- 3
   refine Qb fun K hK => Qa Z (Ya Z (kc7 hK Z Z Z Z Z Z Z ?_))
   refine Qs Z (fun h2 => ?_) (fun h2 => ?_)
   ·try rw [h2]
    try simp only [qA] at h2
    refine QK fun K hK => QI (ds0 := [3, 1, 0]) (cs := [_]) Z Z Z Z Z Z (mv2 Z Z (QF Z Z Z Wa (QP Wa) Z (Q3 Z Z (QN (ds0 := [3, 1, 0]) Z Z Z Z Z (QR (ds0 := [1, 0]) (ZQ hw) Z Z (.inr Z) Z Z (Qa Z (XU Z Z (Qc0 w _ _) (Qa Z (hK _ ?_)))))))))
    refine ks6 Z Z Z Z Z Z (QK fun K hK => mv2 Z Z (Qa Z (QF Z Z Z Wa (QP Wa) Z (Q3 Z Z (Qy Z Z Z (Qa Z (QQ Z Z (QD Z Z (XF Z Z (fun _ h => XC Z Z Z h) Z Wf Z Z Z Wh Wh ?_)))))))))
    refine Qa Z (hK _ ?_)
    refine Qe (ks5 Z Z Z Z Z (QK fun K hK => Qa Z (QX Z Z Wc (Qa Z (hK _ ?_)))))
    refine Qi (i + 1) ?_ ?_ ?_
    ·exact Q5 (l := [3, 4, 5, 12, 13]) (lH := [5, 24]) (kp5 rfl rfl rfl rfl rfl) (Qc rfl (Qc rfl Qn)) (by first | (rw [KE Wa h2]; done) | (rw [KE Wa h2]; rfl) | (rw [KE Wa h2, List.length_append]; rfl) | (simp [KE Wa h2]; done) | (simp [KE Wa h2]; omega) | rfl) (by first | (rw [KE Wa h2]; done) | (rw [KE Wa h2]; rfl) | (rw [KE Wa h2, List.map_append]; rfl) | (simp [KE Wa h2]; done) | rfl) rfl
    ·omega
    ·first | omega | (simp only; omega) | (dsimp only; omega)
   ·try rw [h2]
    try simp only [qA] at h2
    refine Qr (ks6 Z Z Z Z Z Z (QK fun K hK => mv2 Z Z (Qa Z (QF Z Z Z Wa (QP Wa) Z (Q3 Z Z (Qy Z Z Z (Qa Z (QQ Z Z (QD Z Z ?_)))))))))
    refine XF Z Z (fun _ h => XC Z Z Z h) Z Wf Z Z Z Wh Wh (Qa Z (hK _ ?_))
    refine Qe (ks5 Z Z Z Z Z (QK fun K hK => Qa Z (QX Z Z Wc (Qa Z (hK _ ?_)))))
    refine Qi (i + 1) ?_ ?_ ?_
    ·exact Q5 (l := [3, 4, 5, 12, 13]) (lH := [5, 24]) (kp5 rfl rfl rfl rfl rfl) (Qc rfl (Qc rfl Qn)) (by first | (rw [KD Wa h2]; done) | (rw [KD Wa h2]; rfl) | (rw [KD Wa h2, List.length_append]; rfl) | (simp [KD Wa h2]; done) | (simp [KD Wa h2]; omega) | rfl) (by first | (rw [KD Wa h2]; done) | (rw [KD Wa h2]; rfl) | (rw [KD Wa h2, List.map_append]; rfl) | (simp [KD Wa h2]; done) | rfl) rfl
    ·omega
    ·first | omega | (simp only; omega) | (dsimp only; omega)
  ·try rw [h1]
   try simp only [qA] at h1
   refine Zi (QJ (Qw (QE ?_)))
   refine Yo () ?_ ?_
   ·exact le_trans (L6 (l := [5]) (lH := [5]) 24 12 (kp1 rfl) (Qc rfl Qn) rfl rfl rfl Wm rfl rfl rfl rfl) (Q5 (l := [5, 12]) (lH := [5]) (kp2 rfl rfl) (Qc rfl Qn) (by rw [QgH (Wa : l.length <= i)]; rfl) rfl rfl)
   ·exact trivial
 intro _ hJ
 try dsimp only
 refine Qb fun K hK => QC (cs := [_]) Z Z Z Z (Qa Z (Qv (Gg hw (by rw [CE]; omega)) Z Z (.inl Z) (Q0 Z Z (Q0 Z Z (mv2 Z Z (kc2 hK Z Z ?_))))))
 refine Qq ?_
 exact QS rfl rfl ⟨rfl, rfl⟩
end Go.Proofs
namespace M25
open Go Go.Abs M3
def IncOk (w : Qo) (l : List TermT) : Prop := l.Pairwise (fun a b => a.u < b.u) /\ ∀ t ∈ l, 0 <= t.u /\ t.u < w.length
theorem P4 : ∀ (l : List TermT) (a b : Int), l.Pairwise (fun x y => x.u < y.u) -> (∀ t ∈ l, a <= t.u /\ t.u < b) -> a <= b -> (l.length : Int) <= b - a
 | [], a, b, _, _, h => by simp; omega
 | t :: l, a, b, hp, hb, h => by
  rw [List.pairwise_cons] at hp
  have h1 := hb t Wf
  have := P4 l (t.u + 1) b hp.2 (fun s hs => ⟨by have := hp.1 s hs; omega, (hb s (by simp [hs])).2⟩) Wa
  simp only [List.length_cons]; omega
theorem IncOk.len {w : Qo} {l : List TermT} (h : IncOk w l) : l.length <= w.length := by
 have := P4 l 0 w.length h.1 h.2 Wa
 omega
theorem IncOk.nil (w : Qo) : IncOk w [] := ⟨List.Pairwise.nil, by simp⟩
theorem S0 (w : Qo) (ms : List Int) : ∀ n, (XJ w ms n).Pairwise (fun a b => a.u < b.u) /\ ∀ t ∈ XJ w ms n, 0 <= t.u /\ t.u < n
 | 0 => ⟨List.Pairwise.nil, by simp [XJ]⟩
 | n + 1 => by
  obtain ⟨h1, h2⟩ := S0 w ms n
  rw [XJ]
  split
  ·rw [List.append_nil]; exact ⟨h1, fun t ht => by have := h2 t ht; omega⟩
  ·refine ⟨List.pairwise_append.2 ⟨h1, List.pairwise_singleton _ _, fun a ha b hb => ?_⟩, fun t ht => ?_⟩
   ·simp only [QgA] at hb; subst hb; exact (h2 a ha).2
   ·rcases QgC.1 ht with ht | ht
    ·have := h2 t ht; omega
    ·simp only [QgA] at ht; subst ht; simp only; omega
theorem MQ {w : Qo} {l t : List TermT} (h : Nw w l = some t) : IncOk w t := by
 unfold Nw at h
 split at h
 ·unfold SX at h
  split at h
  ·cases h
   obtain ⟨h1, h2⟩ := S0 w (XI (Kr w) l) (XI (Kr w) l).length
   refine ⟨h1, fun t ht => ?_⟩
   have := h2 t ht
   rw [Mx] at this
   exact this
  ·cases h
 ·cases h
theorem IncOk.ne {w : Qo} {l : List TermT} (h : IncOk w l) : l.Pairwise (fun a b => a.u ≠ b.u) := h.1.imp fun h => Wa
theorem Pc {l : List TermT} (hl : l.Pairwise (fun a b => a.u ≠ b.u)) : ∀ n, (Yr l n).Pairwise (fun a b => a.u < b.u) /\ ∀ t ∈ Yr l n, t ∈ l /\ 0 <= t.u /\ t.u < n
 | 0 => ⟨List.Pairwise.nil, by simp [Yr]⟩
 | n + 1 => by
  obtain ⟨h1, h2⟩ := Pc hl n
  rw [Yr]
  have hf : ∀ t ∈ l.filter (fun t => decide (t.u = ((n : Nat) : Int))), t ∈ l /\ t.u = n := fun t ht => by
   simpa using List.mem_filter.1 ht
  refine ⟨List.pairwise_append.2 ⟨h1, ?_, fun a ha b hb => ?_⟩, fun t ht => ?_⟩
  ·refine List.Pairwise.imp_of_mem (fun {a b} ha hb hab => ?_) (hl.filter _)
   have := (hf a ha).2
   have := (hf b hb).2
   omega
  ·rw [(hf b hb).2]; exact (h2 a ha).2.2
  ·rcases QgC.1 ht with ht | ht
   ·have := h2 t ht; exact ⟨this.1, Wa, Wa⟩
   ·have := hf t ht; exact ⟨this.1, Wa, Wa⟩
theorem D9 {w : Qo} {l : List TermT} (hl : l.Pairwise (fun a b => a.u ≠ b.u)) (hb : ∀ t ∈ l, 0 <= t.u /\ t.u < w.length) : IncOk w (RT l) := by
 obtain ⟨h1, h2⟩ := Pc hl 48
 exact ⟨h1, fun t ht => hb t (h2 t ht).1⟩
theorem QaW {w : Qo} {r x : RowT} (hx : IncOk w x.t) (h0 : 0 <= r.u) (h1 : r.u < w.length) : IncOk w (QaV w r x).t := by
 refine D9 (List.pairwise_cons.2 ⟨fun t ht => ?_, hx.ne.filter _⟩) fun t ht => ?_
 ·have := (List.mem_filter.1 ht).2
  simp only [Bool.not_eq_true', decide_eq_false_iff_not] at this
  exact fun e => this e.symm
 ·rcases Qgt.1 ht with rfl | ht
  ·exact ⟨h0, h1⟩
  ·exact hx.2 t (List.mem_filter.1 ht).1
def Ki (w : Qo) (rows : List RowT) : Prop := ∀ x ∈ rows, IncOk w x.t
theorem Lc {w : Qo} {r : RowT} (hr : IncOk w r.t) (h0 : 0 <= r.u) (h1 : r.u < w.length) : ∀ {rows : List RowT}, Ki w rows -> Ki w (Xp w r rows)
 | [], _ => fun x hx => by
  simp only [Xp, QgA] at hx; subst hx; exact hr
 | y :: rows, h => fun x hx => by
  rw [Xp] at hx
  split at hx
  ·rcases Qgt.1 hx with rfl | hx
   ·exact QaW (h y Wf) h0 h1
   ·exact h x (by simp [hx])
  ·rcases Qgt.1 hx with rfl | hx
   ·exact h x Wf
   ·exact Lc hr h0 h1 (fun z hz => h z (by simp [hz])) x hx
theorem R0 (w : Qo) (r : RowT) : ∀ rows : List RowT, (Xp w r rows).length <= rows.length + 1
 | [] => by simp [Xp]
 | x :: rows => by
  have := R0 w r rows
  rw [Xp]; split <;> simp <;> omega
theorem T4 {r x : RowT} (h : ¬ x.k = r.k \/ ¬ x.u = r.u \/ ¬ PP x.t r.u = PP r.t r.u) : T3 r x = false := by
 simp only [T3, QgE, decide_eq_false_iff_not]
 rcases h with h | h | h
 ·exact .inl (.inl h)
 ·exact .inl (.inr h)
 ·exact .inr h
theorem Bh {r x : RowT} (h1 : x.k = r.k) (h2 : x.u = r.u) (h3 : PP x.t r.u = PP r.t r.u) : T3 r x = true := by simp [T3, h1, h2, h3]
theorem M4 {w : Qo} {r : RowT} {rows : List RowT} {i : Nat} (h : i < rows.length) (hn : T3 r rows[i] = false) (hi : Xp w r rows = rows.take i ++ Xp w r (rows.drop i)) : Xp w r rows = rows.take (i + 1) ++ Xp w r (rows.drop (i + 1)) := by
 rw [hi, QgI h, Xp, if_neg (by rw [hn]; simp), List.take_succ_eq_append_getElem h, List.append_assoc]; rfl
theorem Dv {w : Qo} {r : RowT} {rows : List RowT} {i : Nat} (h : i < rows.length) (hn : T3 r rows[i] = true) (hi : Xp w r rows = rows.take i ++ Xp w r (rows.drop i)) : Xp w r rows = rows.set i (QaV w r rows[i]) := by
 rw [hi, QgI h, Xp, if_pos hn, List.set_eq_take_append_cons_drop, if_pos h]
theorem Dw {w : Qo} {r : RowT} {rows : List RowT} {i : Nat} (h : rows.length <= i) (hi : Xp w r rows = rows.take i ++ Xp w r (rows.drop i)) : Xp w r rows = rows ++ [r] := by
 rw [hi, QgM h, QgH h, Xp]
theorem Dt {w : Qo} {u : Int} {p : Nat} {l : List (List WantT)} {rows : List RowT} {i : Nat} (h : i < l.length) : YV w u p (l.take (i + 1)) rows = match Yp w u p l[i] false with
  | some t => Xp w ⟨2, u, 0, 0, t⟩ (YV w u p (l.take i) rows)
  | none => YV w u p (l.take i) rows := by
 rw [List.take_succ_eq_append_getElem h, YV, List.foldl_append]; rfl
theorem S4 {w : Qo} {u : Int} {p : Nat} {l : List (List WantT)} {rows : List RowT} {i : Nat} (h : i < l.length) (ho : (Yp w u p l[i] false).isSome = true) : YV w u p (l.take (i + 1)) rows = Xp w ⟨2, u, 0, 0, (Yp w u p l[i] false).getD []⟩ (YV w u p (l.take i) rows) := by
 rw [Dt h]
 cases hc : Yp w u p l[i] false with
 | none => rw [hc] at ho; cases ho
 | some t => rfl
theorem Dq {w : Qo} {u : Int} {p : Nat} {l : List (List WantT)} {rows : List RowT} {i : Nat} (h : i < l.length) (ho : (Yp w u p l[i] false).isSome = false) : YV w u p (l.take (i + 1)) rows = YV w u p (l.take i) rows := by
 rw [Dt h]
 cases hc : Yp w u p l[i] false with
 | none => rfl
 | some t => rw [hc] at ho; cases ho
theorem Cy {w : Qo} {u : Int} {p : Nat} {l : List WantT} {rows : List RowT} {i : Nat} (h : i < l.length) : Ha w u p (l.take (i + 1)) rows = match Yp w u p [l[i]] true with
  | some t => Xp w ⟨3, u, 0, 0, t⟩ (Ha w u p (l.take i) rows)
  | none => Ha w u p (l.take i) rows := by
 rw [List.take_succ_eq_append_getElem h, Ha, List.foldl_append]; rfl
theorem LH {w : Qo} {u : Int} {p : Nat} {l : List WantT} {rows : List RowT} {i : Nat} (h : i < l.length) (ho : (Yp w u p [l[i]] true).isSome = true) : Ha w u p (l.take (i + 1)) rows = Xp w ⟨3, u, 0, 0, (Yp w u p [l[i]] true).getD []⟩ (Ha w u p (l.take i) rows) := by
 rw [Cy h]
 cases hc : Yp w u p [l[i]] true with
 | none => rw [hc] at ho; cases ho
 | some t => rfl
theorem Cx {w : Qo} {u : Int} {p : Nat} {l : List WantT} {rows : List RowT} {i : Nat} (h : i < l.length) (ho : (Yp w u p [l[i]] true).isSome = false) : Ha w u p (l.take (i + 1)) rows = Ha w u p (l.take i) rows := by
 rw [Cy h]
 cases hc : Yp w u p [l[i]] true with
 | none => rfl
 | some t => rw [hc] at ho; cases ho
theorem CX {w : Qo} {u : Int} {p : Nat} {l : List WantT} {b : Bool} : IncOk w ((Yp w u p l b).getD []) := by
 cases hc : Yp w u p l b with
 | none => exact IncOk.nil w
 | some t => exact MQ hc
theorem FC {w : Qo} {u : Int} {p : Nat} (h0 : 0 <= u) (h1 : u < w.length) : ∀ {l : List (List WantT)} {rows : List RowT}, Ki w rows -> Ki w (YV w u p l rows) /\ (YV w u p l rows).length <= rows.length + l.length
 | [], rows, h => ⟨h, Nat.le_refl _⟩
 | x :: l, rows, h => by
  rw [YV, List.foldl_cons]
  cases hc : Yp w u p x false with
  | none =>
   obtain ⟨q1, q2⟩ := FC h0 h1 (l := l) h
   exact ⟨q1, QgK q2 Wf⟩
  | some t =>
   obtain ⟨q1, q2⟩ := FC (p := p) h0 h1 (l := l) (Lc (r := ⟨2, u, 0, 0, t⟩) (MQ hc) h0 h1 h)
   have := R0 w ⟨2, u, 0, 0, t⟩ rows
   exact ⟨q1, QgK q2 (by simp only [List.length_cons]; omega)⟩
theorem NP {w : Qo} {u : Int} {p : Nat} (h0 : 0 <= u) (h1 : u < w.length) : ∀ {l : List WantT} {rows : List RowT}, Ki w rows -> Ki w (Ha w u p l rows) /\ (Ha w u p l rows).length <= rows.length + l.length
 | [], rows, h => ⟨h, Nat.le_refl _⟩
 | x :: l, rows, h => by
  rw [Ha, List.foldl_cons]
  cases hc : Yp w u p [x] true with
  | none =>
   obtain ⟨q1, q2⟩ := NP h0 h1 (l := l) h
   exact ⟨q1, QgK q2 Wf⟩
  | some t =>
   obtain ⟨q1, q2⟩ := NP (p := p) h0 h1 (l := l) (Lc (r := ⟨3, u, 0, 0, t⟩) (MQ hc) h0 h1 h)
   have := R0 w ⟨3, u, 0, 0, t⟩ rows
   exact ⟨q1, QgK q2 (by simp only [List.length_cons]; omega)⟩
theorem Rl {w : Qo} {u : Int} {cs : List CandT} {n : Nat} {rows : List RowT} (h : n < cs.length) : YN w u cs (n + 1) rows = Ha w u n cs[n].bs (YV w u n cs[n].ns (YN w u cs n rows)) := by
 rw [YN, List.getElem?_eq_getElem h]
theorem Mo {w : Qo} {u : Int} {cs : List CandT} (h0 : 0 <= u) (h1 : u < w.length) (hc : ∀ c ∈ cs, c.ns.length <= 1000 /\ c.bs.length <= 1000) {rows : List RowT} (h : Ki w rows) : ∀ n, n <= cs.length -> Ki w (YN w u cs n rows) /\ (YN w u cs n rows).length <= rows.length + n * 2000
 | 0, _ => ⟨h, by simp [YN]⟩
 | n + 1, hn => by
  obtain ⟨q1, q2⟩ := Mo h0 h1 hc h n Wa
  rw [Rl Wa]
  obtain ⟨q3, q4⟩ := FC (p := n) h0 h1 (l := cs[n].ns) q1
  obtain ⟨q5, q6⟩ := NP (p := n) h0 h1 (l := cs[n].bs) q3
  have := hc cs[n] (Qgw _)
  exact ⟨q5, Wa⟩
theorem Lg {w : Qo} {n : Nat} (h : n < w.length) : YA w (n + 1) = YN w n w[n].cs w[n].cs.length (YA w n) := by
 rw [YA, List.getElem?_eq_getElem h]
theorem HN {w : Qo} (hw : WSm w) (h0 : 0 < w.length) : ∀ n, n <= w.length -> Ki w (YA w n) /\ (YA w n).length <= 1 + n * 32000
 | 0, _ => ⟨fun x hx => by
   simp only [YA, QgA] at hx; subst hx
   exact ⟨List.pairwise_singleton _ _, fun t ht => by simp only [QgA] at ht; subst ht; exact ⟨Int.le_refl _, by simp only; omega⟩⟩, by simp [YA]⟩
 | n + 1, hn => by
  obtain ⟨q1, q2⟩ := HN hw h0 n Wa
  rw [Lg Wa]
  obtain ⟨q3, q4⟩ := Mo (u := n) Wa Wa (fun c hc => hw.ns w[n] (Qgw _) c hc) q1 w[n].cs.length (Nat.le_refl _)
  have := hw.cs w[n] (Qgw _)
  refine ⟨q3, ?_⟩
  have h5 : w[n].cs.length * 2000 <= 16 * 2000 := Nat.mul_le_mul_right _ this
  omega
theorem QdI {w : Qo} (hw : WSm w) (h0 : 0 < w.length) : ∀ t ∈ mDB w, IncOk w t := fun t ht => by
 obtain ⟨r, hr, rfl⟩ := QgF.1 ht
 exact (HN hw h0 w.length (Nat.le_refl _)).1 r hr
theorem QcH {w : Qo} (hw : WSm w) (h0 : 0 < w.length) : (mDB w).length <= 1600000 := by
 have := (HN hw h0 w.length (Nat.le_refl _)).2
 have := hw.len
 rw [mDB, List.length_map, Fs]; omega
theorem Qet {l : List TermT} : ∀ r ∈ l.map F2, r.length = 2 := fun r hr => by obtain ⟨x, _, rfl⟩ := QgF.1 hr; rfl
theorem Qeu {l : List WantT} : ∀ r ∈ l.map ND, r.length = 3 := fun r hr => by obtain ⟨x, _, rfl⟩ := QgF.1 hr; rfl
theorem Po {l : List StepT} : ∀ r ∈ l.map GI, r.length = 4 := fun r hr => by obtain ⟨x, _, rfl⟩ := QgF.1 hr; rfl
theorem BY {α : Type} {f : α -> List D} {l : List α} {i : Nat} (h : i < l.length) : ((l.map f).take ((i : Int) + 1).toNat).drop ((i : Nat) : Int).toNat = [l[i]].map f := by
 rw [Qac, Int.toNat_natCast, List.drop_take, show i + 1 - i = 1 by omega, QgI (by simpa using h)]
 simp
theorem WSm.nsLen {w : Qo} (hw : WSm w) {u i : Nat} (hu : u < w.length) (hi : i < w[u].cs.length) : w[u].cs[i].ns.length <= 1000 := (hw.ns _ (Qgw _) _ (Qgw _)).1
theorem WSm.bsLen {w : Qo} (hw : WSm w) {u i : Nat} (hu : u < w.length) (hi : i < w[u].cs.length) : w[u].cs[i].bs.length <= 1000 := (hw.ns _ (Qgw _) _ (Qgw _)).2
theorem WSm.csLen {w : Qo} (hw : WSm w) {u : Nat} (hu : u < w.length) : w[u].cs.length <= 16 := hw.cs _ (Qgw _)
theorem QcG {w : Qo} (hw : WSm w) {u i : Nat} (hu : u < w.length) (hi : i <= w[u].cs.length) : Ki w (YN w u w[u].cs i (YA w u)) /\ (YN w u w[u].cs i (YA w u)).length <= 10000000 := by
 obtain ⟨q1, q2⟩ := HN hw Wa u Wa
 obtain ⟨q3, q4⟩ := Mo (u := u) Wa Wa (fun c hc => hw.ns w[u] (Qgw _) c hc) q1 i hi
 have := hw.csLen hu
 have := hw.len
 have h5 : i * 2000 <= 16 * 2000 := Nat.mul_le_mul_right _ Wa
 have h6 : u * 32000 <= 48 * 32000 := Nat.mul_le_mul_right _ Wa
 exact ⟨q3, Wa⟩
theorem RN {w : Qo} (hw : WSm w) {u i : Nat} (hu : u < w.length) (hi : i < w[u].cs.length) (k : Nat) : Ki w (YV w u i (w[u].cs[i].ns.take k) (YN w u w[u].cs i (YA w u))) /\ (YV w u i (w[u].cs[i].ns.take k) (YN w u w[u].cs i (YA w u))).length <= 20000000 := by
 obtain ⟨q1, q2⟩ := QcG hw hu (Nat.le_of_lt hi)
 obtain ⟨q3, q4⟩ := FC (u := u) (p := i) Wa Wa (l := w[u].cs[i].ns.take k) q1
 have := hw.nsLen hu hi
 have h2 : (w[u].cs[i].ns.take k).length <= w[u].cs[i].ns.length := List.length_take_le' ..
 exact ⟨q3, Wa⟩
theorem Db {w : Qo} (hw : WSm w) {u i : Nat} (hu : u < w.length) (hi : i < w[u].cs.length) (k : Nat) : Ki w (Ha w u i (w[u].cs[i].bs.take k) (YV w u i w[u].cs[i].ns (YN w u w[u].cs i (YA w u)))) /\ (Ha w u i (w[u].cs[i].bs.take k) (YV w u i w[u].cs[i].ns (YN w u w[u].cs i (YA w u)))).length <= 30000000 := by
 obtain ⟨q1, q2⟩ := RN hw hu hi w[u].cs[i].ns.length
 rw [List.take_length] at q1 q2
 obtain ⟨q3, q4⟩ := NP (u := u) (p := i) Wa Wa (l := w[u].cs[i].bs.take k) q1
 have := hw.bsLen hu hi
 have h2 : (w[u].cs[i].bs.take k).length <= w[u].cs[i].bs.length := List.length_take_le' ..
 exact ⟨q3, Wa⟩
end M25
namespace Go.Proofs
open Go Go.Abs M3 M25
theorem Jo {w : Qo} (hw : WSm w) {r : RowT} {rows : List RowT} (hr : Ki w rows) (hrr : IncOk w r.t) (hl : rows.length <= 100000000) : OkH Tryz.prog 57 [Yd w, .osl 500000 rows.length, .agg (CG r)] [(500000, ⟨(rows).map CG, 5, 79, true⟩)] (.osl 500000 (Xp w r rows).length) [(500000, ⟨(Xp w r rows).map CG, 5, 79, true⟩)] := by
 refine OkH.mv ZU Tryz.func57 QfH (Qgr Z) Z ?_
 show TW _ _ tf57.body _ _
 have hn := hw.len
 refine Qb fun K hK => Zw Z Z Z (Zw Z Z Z (Qa Z (kc3 hK Z Z Z ?_)))
 refine QA ?_ -- 0
 refine Qb fun K hK => Qa Z (kc4 hK Z Z Z Z ?_)
 refine Qz ?_
 refine Zp (ι := Nat) (fun i => ⟨[(1, .osl 500000 rows.length), (3, .ref 3 0 0), (5, .ref 5 0 0), (7, .int .i64 i)], [(3, ⟨[[.sl ((w).map YY)]], 1, 28, true⟩), (5, ⟨[[.int .i64 (r).k, .int .i64 (r).u, .int .i64 (r).a, .int .i64 (r).b, ZL (r).t]], 5, 79, true⟩), (500000, ⟨(rows).map CG, 5, 79, true⟩)]⟩) (fun i => i <= rows.length /\ Xp w r rows = rows.take i ++ Xp w r (rows.drop i)) (fun i => rows.length - i) 0 ?_ ?_ ?_
 ·exact Q5 (l := [1, 3, 5, 7]) (lH := [3, 5, 500000]) (kp4 rfl rfl rfl rfl) (Qc rfl (Qc rfl (Qc rfl Qn))) rfl rfl rfl
 ·exact ⟨QgD _, by simp⟩
 intro i hI
 try dsimp only
 refine QA ?_ -- 1
 refine Qb fun K hK => mv2 Z Z (QH Z Z (Yh Z Z (kc5 hK Z Z Z Z Z ?_)))
 refine Qs Z (fun h1 => ?_) (fun h1 => ?_)
 ·try rw [h1]
  try simp only [qA] at h1
  refine Qr (ks4 Z Z Z Z ?_)
  refine QA ?_ -- 2
  refine Qz (Qb fun K hK => mv2 Z Z (Xq Z Z Z Wf Wa Wa Z (QC (cs := [_, _, _, _, _]) Z (Z9 Z (QP Wa)) Z Z (ZI Z (Q1 Z Z Z Z Z Z Z Z (kc5 hK Z Z Z Z Z ?_))))))
  refine Qb fun K hK => Qf Z Z (QN (ds0 := [20, 19, 18, 17, 16, 15, 14, 13, 12, 11, 10, 9, 8, 7, 6, 5, 4, 3, 2, 1, 0]) Z Z Z Z Z (Qf Z Z (QN (ds0 := [20, 19, 18, 17, 16, 15, 14, 13, 12, 11, 10, 9, 8, 7, 6, 5, 4, 3, 2, 1, 0]) Z Z Z Z Z ?_)))
  first | refine ZE rfl rfl ?_ | refine Mb rfl rfl ?_
  refine Qa Z ?_
  refine Qu (g := 25) Z (fun h2 => ?_) (fun h2 => ?_)
  ·try rw [h2]
   try simp only [qA] at h2
   refine Qd Z (Qf Z Z (Qd Z (QN (ds0 := [14, 13, 12, 11, 10, 9, 8, 7, 6, 5, 4, 3, 2, 1, 0]) Z Z Z Z Z (Qd Z (Qf Z Z (Qd Z (QN (ds0 := [14, 13, 12, 11, 10, 9, 8, 7, 6, 5, 4, 3, 2, 1, 0]) Z Z Z Z Z (Qd Z ?_))))))))
   first | refine ZE rfl rfl ?_ | refine Mb rfl rfl ?_
   refine Qh Z Z (Qa Z ?_)
   refine Qu (g := 32) Z (fun h3 => ?_) (fun h3 => ?_)
   ·try rw [h3]
    try simp only [qA] at h3
    refine Qd Z (Qf Z Z (Qd Z (QN (ds0 := [7, 1, 0]) Z Z Z Z Z (Qd Z (Qf Z Z (Qd Z (QN (ds0 := [7, 1, 0]) Z Z Z Z Z (Qd Z (QR (ds0 := [1, 0]) (Xj (QgK (hr _ (Qgw Wa)).len Wa)) Z Z (.inl Z) Z Z (Qd Z (Qf Z Z ?_)))))))))))
    refine Qd Z (QN (ds0 := [2, 1, 0]) Z Z Z Z Z (Qd Z (Qf Z Z (Qd Z (QN (ds0 := [2, 1, 0]) Z Z Z Z Z (Qd Z (QR (ds0 := [1, 0]) (Xj (QgK hrr.len Wa)) Z Z (.inl Z) Z Z (Qd Z (QR (ds0 := [0]) (Gi (QgK (Mk _ _) (QgK (hr _ (Qgw Wa)).len Wa))) Z Z (.inr Z) Z Z (Qh Z Z (kc6 hK Z Z Z Z Z Z ?_)))))))))))
    refine Qs Z (fun h4 => ?_) (fun h4 => ?_)
    ·try rw [h4]
     try simp only [qA] at h4
     refine Qb fun K hK => Qf Z Z (QN (ds0 := [8, 7, 1, 0]) Z Z Z Z Z (QI (ds0 := [16, 9, 8, 7, 1, 0]) (cs := [_]) Z Z Z Z Z Z (Qf Z Z (QN (ds0 := [16, 9, 8, 7, 1, 0]) Z Z Z Z Z (Qf Z Z (QN (ds0 := [16, 9, 8, 7, 1, 0]) Z Z Z Z Z (QR (ds0 := [9, 8, 7, 1, 0]) (Y6 hw (QgK (hr _ (Qgw Wa)).len Wa)) Z Z (.inr Z) Z Z (QI (ds0 := [10, 9, 8, 7, 1, 0]) (cs := [_]) Z Z Z Z Z Z (Qf Z Z (QN (ds0 := [10, 9, 8, 7, 1, 0]) Z Z Z Z Z ?_))))))))))
     refine Qf Z Z (QN (ds0 := [10, 9, 8, 7, 1, 0]) Z Z Z Z Z (QR (ds0 := [9, 8, 7, 1, 0]) (Y6 hw (QgK hrr.len Wa)) Z Z (.inr Z) Z Z (QeT Z Z (QQ Z Z (QD Z Z (Qf Z Z (QN (ds0 := [2, 1, 0]) Z Z Z Z Z (Qf Z Z (QN (ds0 := [2, 1, 0]) Z Z Z Z Z (QR (ds0 := [1, 0]) (Xj (QgK (hr _ (Qgw Wa)).len Wa)) Z Z (.inl Z) Z Z (Hh (ds0 := [0]) Z Z (by simp [D.ids, D.sid, ZL]) ⟨rfl, Qet, rfl⟩ Z Z Wf Z Z (by have q1 := Mk (rows[i]'Wa).t r.u; have q2 := (hr _ (Qgw (Wa : i < rows.length))).len; simp; omega) (by have q1 := Mk (rows[i]'Wa).t r.u; have q2 := (hr _ (Qgw (Wa : i < rows.length))).len; simp; omega) Z Z ?_)))))))))))
     refine Qa Z (kc3 hK Z Z Z ?_)
     refine Cr (L6 (l := [1, 7]) (lH := [500000]) 67 9 (kp2 Z Z) (Qc Z Qn) Z Z Z Wm Z Z Z Z) (Qb fun K hK => mv2 Z Z (Qa Z (Qv (Hb (l := ⟨r.u, bor (Fw w (rows[i]'Wa).t r.u) (Fw w r.t r.u)⟩ :: PP (rows[i]'Wa).t r.u) (by have q1 := Mk (rows[i]'Wa).t r.u; have q2 := (hr _ (Qgw (Wa : i < rows.length))).len; simp; omega)) Z Z (.inl Z) (Xq Z Z Z Wf Wa Wa Z (Qf Z Z (Q1 Z Z (QP Wa) Z Z Z Z Z (kc1 hK Z ?_)))))))
     refine Qb fun K hK => mv2 Z Z (kc1 hK Z ?_)
     refine Qq (Qp (Qg (QZ (Qp (Qg ?_)))))
     refine YH Z ?_ (HQ ?_)
     ·rw [Dv (i := i) Wa (Bh h2 h3 h4) hI.2]; simp [Ci, D.fz, D.fzS, NI, D.can, D.canS]
     ·rw [Dv (i := i) Wa (Bh h2 h3 h4) hI.2]; simp [lk, List.map_set, CG, QaV, setRow, D.sid, ZL]
    ·try rw [h4]
     try simp only [qA] at h4
     refine Qr (Qe (ks4 Z Z Z Z (QK fun K hK => Qa Z (QX Z Z Wc (Qa Z (hK _ ?_))))))
     refine Qi (i + 1) ?_ ?_ ?_
     ·exact Q5 (l := [1, 3, 5, 7]) (lH := [3, 5, 500000]) (kp4 rfl rfl rfl rfl) (Qc rfl (Qc rfl (Qc rfl Qn))) rfl rfl rfl
     ·exact ⟨Wa, M4 Wa (T4 (by first | exact .inl h2 | exact .inr (.inl h3) | exact .inr (.inr h4))) hI.2⟩
     ·first | omega | (simp only; omega) | (dsimp only; omega)
   ·try rw [h3]
    try simp only [qA] at h3
    refine gn4 Z Z Z Z (gn4 Z Z Z Z (gn3 Z Z Z (Qh Z Z ?_)))
    refine kc6 hK Z Z Z Z Z Z ?_
    refine Z2 Z (Qr (Qe (ks4 Z Z Z Z (QK fun K hK => Qa Z (QX Z Z Wc (Qa Z (hK _ ?_)))))))
    refine Qi (i + 1) ?_ ?_ ?_
    ·exact Q5 (l := [1, 3, 5, 7]) (lH := [3, 5, 500000]) (kp4 rfl rfl rfl rfl) (Qc rfl (Qc rfl (Qc rfl Qn))) rfl rfl rfl
    ·exact ⟨Wa, M4 Wa (T4 (by first | exact .inl h2 | exact .inr (.inl h3) | exact .inr (.inr h4))) hI.2⟩
    ·first | omega | (simp only; omega) | (dsimp only; omega)
  ·try rw [h2]
   try simp only [qA] at h2
   refine gn4 Z Z Z Z (Y4 Z (Qh Z Z (Qa Z (gn4 Z Z Z Z (Y4 Z ?_)))))
   refine gn4 Z Z Z Z (gn2 Z Z (Qh Z Z (kc6 hK Z Z Z Z Z Z ?_)))
   refine Z2 Z (Qr (Qe (ks4 Z Z Z Z (QK fun K hK => Qa Z (QX Z Z Wc (Qa Z (hK _ ?_)))))))
   refine Qi (i + 1) ?_ ?_ ?_
   ·exact Q5 (l := [1, 3, 5, 7]) (lH := [3, 5, 500000]) (kp4 rfl rfl rfl rfl) (Qc rfl (Qc rfl (Qc rfl Qn))) rfl rfl rfl
   ·exact ⟨Wa, M4 Wa (T4 (by first | exact .inl h2 | exact .inr (.inl h3) | exact .inr (.inr h4))) hI.2⟩
   ·first | omega | (simp only; omega) | (dsimp only; omega)
 ·try rw [h1]
  try simp only [qA] at h1
  refine Zi (QJ (Qw (QE (ks2 Z Z (Qb fun K hK => Qa Z (QC (cs := [_, _, _, _, _]) Z Z Z Z (QD Z Z (XF Z Z (fun _ h => XC Z Z Z h) Z Wf Z Z Z Wh Wh (Qa Z (kc1 hK Z ?_))))))))))
  refine Qq ?_
  refine YH Z ?_ (HQ ?_)
  ·rw [Dw (i := i) Wa hI.2]; simp [Ci, D.fz, D.fzS, NI, D.can, D.canS]
  ·rw [Dw (i := i) Wa hI.2]; simp [lk, CG, D.sid, ZL]
theorem GC {w : Qo} (hw : WSm w) : Ok Tryz.prog 30 [Yd w] (Qdx (Fs w)) := by
 refine Ok.ofT ZU Tryz.func30 Qfg (Qgr Z) ?_
 show TW _ _ tf30.body _ _
 have hn := hw.len
 refine Qb fun K hK => Zw Z Z Z (Qa Z (kc1 hK Z ?_))
 refine Qb fun K hK => QQ Z Z (QD Z Z (QQ Z Z (QD Z Z (Qa Z (kc2 hK Z Z ?_)))))
 refine QA ?_ -- 0
 refine Qb fun K hK => Qa Z (kc3 hK Z Z Z ?_)
 refine Qz ?_
 refine Zp (ι := Nat) (fun j => ⟨[(1, .ref 1 0 0), (3, .osl 3 (YA w j).length), (4, .int .i64 j)], [(1, ⟨[[.sl ((w).map YY)]], 1, 28, true⟩), (3, ⟨(YA w j).map CG, 5, 79, true⟩)]⟩) (fun j => j <= w.length) (fun j => w.length - j) 0 ?_ ?_ ?_
 ·exact le_trans (SP 14 _ Wk) (le_trans (MF (k := 16) (b := ⟨[[.int .i64 1, .int .i64 0, .int .i64 0, .int .i64 0, .sl [[.int .i64 0, .int .i64 1]]]], 5, 79, false⟩) rfl Wf Wu) (le_trans (ME (l := [1, 4]) (lH := [1]) 16 3 3 (kp2 rfl rfl) (Qc rfl Qn) rfl rfl rfl rfl rfl rfl rfl) (Q5 (l := [1, 3, 4]) (lH := [1, 3]) (kp3 rfl rfl rfl) (Qc rfl (Qc rfl Qn)) rfl rfl rfl)))
 ·exact QgD _
 intro j hU
 try dsimp only
 refine QA ?_ -- 1
 refine Qb fun K hK => Qa Z (Qf Z Z (Qy Z Z Z (QH Z Z (Yh Z Z (kc4 hK Z Z Z Z ?_)))))
 refine Qs Z (fun h1 => ?_) (fun h1 => ?_)
 ·try rw [h1]
  try simp only [qA] at h1
  refine Qr (ks3 Z Z Z ?_)
  refine QA ?_ -- 2
  refine Qz (Qb fun K hK => Qa Z (kc4 hK Z Z Z Z ?_))
  refine Qz ?_
  refine Zp (ι := Nat) (fun i => ⟨[(1, .ref 1 0 0), (3, .osl 3 (YN w j (w[j]'Wa).cs i (YA w j)).length), (4, .int .i64 j), (5, .int .i64 i)], [(1, ⟨[[.sl ((w).map YY)]], 1, 28, true⟩), (3, ⟨(YN w j (w[j]'Wa).cs i (YA w j)).map CG, 5, 79, true⟩)]⟩) (fun i => i <= (w[j]'Wa).cs.length) (fun i => (w[j]'Wa).cs.length - i) 0 ?_ ?_ ?_
  ·exact Q5 (l := [1, 3, 4, 5]) (lH := [1, 3]) (kp4 rfl rfl rfl rfl) (Qc rfl (Qc rfl Qn)) rfl rfl rfl
  ·exact QgD _
  intro i hI
  have hcs := hw.csLen (u := j) Wa
  try dsimp only
  refine QA ?_ -- 3
  refine Qb fun K hK => Qa Z (Qf Z Z (Qy Z Z Z (Qa Z (QF Z Z Z Wa (QP Wa) Z (Q3 Z Z (Qy Z Z Z (QH Z Z (Yh Z Z (kc5 hK Z Z Z Z Z ?_)))))))))
  refine Qs Z (fun h2 => ?_) (fun h2 => ?_)
  ·try rw [h2]
   try simp only [qA] at h2
   refine Qr (ks4 Z Z Z Z ?_)
   refine QA ?_ -- 4
   refine Qz (Qb fun K hK => Qf Z Z (Qy Z Z Z (Qa Z (QF Z Z Z Wa (QP Wa) Z (Q3 Z Z (Qy Z Z Z (Qa Z (QF Z Z Z Wa (QP Wa) Z (QC (cs := [_, _, _, _, _, _, _, _]) Z Z Z Z (ZI Z ?_))))))))))
   refine Q1 Z Z Z Z Z Z Z Z (kc5 hK Z Z Z Z Z ?_)
   refine QA ?_ -- 5
   refine Qb fun K hK => Qa Z (kc6 hK Z Z Z Z Z Z ?_)
   refine Qz ?_
   refine Zp (ι := Nat) (fun k => ⟨[(1, .ref 1 0 0), (3, .osl 3 (YV w j i (((w[j]'Wa).cs[i]'Wa).ns.take k) (YN w j (w[j]'Wa).cs i (YA w j))).length), (4, .int .i64 j), (5, .int .i64 i), (6, .ref 6 0 0), (7, .int .i64 k)], [(1, ⟨[[.sl ((w).map YY)]], 1, 28, true⟩), (3, ⟨(YV w j i (((w[j]'Wa).cs[i]'Wa).ns.take k) (YN w j (w[j]'Wa).cs i (YA w j))).map CG, 5, 79, true⟩), (6, ⟨[Qct ((w[j]'Wa).cs[i]'Wa)], 8, 61, true⟩)]⟩) (fun k => k <= ((w[j]'Wa).cs[i]'Wa).ns.length) (fun k => ((w[j]'Wa).cs[i]'Wa).ns.length - k) 0 ?_ ?_ ?_
   ·exact Q5 (l := [1, 3, 4, 5, 6, 7]) (lH := [1, 3, 6]) (kp6 rfl rfl rfl rfl rfl rfl) (Qc rfl (Qc rfl (Qc rfl Qn))) rfl rfl rfl
   ·exact QgD _
   intro k hK1
   have hnl := hw.nsLen (u := j) (i := i) Wa Wa
   try dsimp only
   refine QA ?_ -- 6
   refine Qb fun K hK => Qa Z (Qf Z Z (Qy Z Z Z (QH Z Z (Yh Z Z (kc7 hK Z Z Z Z Z Z Z ?_)))))
   refine Qs Z (fun h3 => ?_) (fun h3 => ?_)
   ·try rw [h3]
    try simp only [qA] at h3
    refine Qr (ks6 Z Z Z Z Z Z ?_)
    refine QA ?_ -- 7
    refine Qz (Qb fun K hK => QI (ds0 := [5, 4, 3, 2, 1, 0]) (cs := [_]) Z Z Z Z Z Z (mv2 Z Z (Qf Z Z (QN (ds0 := [7, 6, 5, 4, 3, 2, 1, 0]) Z Z Z Z Z (Qa Z (QF Z Z Z Wa (QP Wa) Z (QN (ds0 := [5, 4, 3, 2, 1, 0]) Z Z Z Z Z (QR (ds0 := [4, 3, 2, 1, 0]) (XG hw (p := i) Wa (QgK (hw.nl _ (Qgw Wa) _ (Qgw Wa) _ (Qgw Wa)) Wa) (hw.nw _ (Qgw Wa) _ (Qgw Wa) _ (Qgw Wa))) Z Z (.inl Z) Z Z (Qa Z ?_)))))))))
    refine Q0 Z Z (Q0 Z Z (mv2 Z Z (kc8 hK Z Z Z Z Z Z Z Z ?_)))
    refine Qb fun K hK => Qa Z (kc8 hK Z Z Z Z Z Z Z Z ?_)
    refine Qs Z (fun h4 => ?_) (fun h4 => ?_)
    ·try rw [h4]
     try simp only [qA] at h4
     refine QK fun K hK => QC (cs := [_]) Z Z Z Z (mv2 Z Z (Qa Z (QQ Z Z (Cp (LK (k := 3) Z Z Z Wk Z Wk (by simp [D.ids, D.sid, ZL]) ⟨.osl 3 (YV w j i (((w[j]'Wa).cs[i]'Wa).ns.take k) (YN w j (w[j]'Wa).cs i (YA w j))).length, by simp, by simp [D.ids, D.sid]⟩ Z Z (Jo hw (r := ⟨2, j, 0, 0, (Yp w j i (((w[j]'Wa).cs[i]'Wa).ns[k]'Wa) false).getD []⟩) (RN hw Wa Wa _).1 CX (QgK (RN hw Wa Wa _).2 Wa))) (Qa Z (hK _ ?_))))))
     refine Qe (ks6 Z Z Z Z Z Z (QK fun K hK => Qa Z (QX Z Z Wc (Qa Z (hK _ ?_)))))
     refine Qi (k + 1) ?_ ?_ ?_
     ·exact le_trans (ME (l := [1, 4, 5, 6, 7]) (lH := [1, 6]) 69 3 3 (kp5 rfl rfl rfl rfl rfl) (Qc rfl (Qc rfl Qn)) rfl rfl rfl rfl rfl rfl rfl) (Q5 (l := [1, 3, 4, 5, 6, 7]) (lH := [1, 3, 6]) (kp6 rfl rfl rfl rfl rfl rfl) (Qc rfl (Qc rfl (Qc rfl Qn))) (by rw [S4 Wa h4] <;> rfl) (by rw [S4 Wa h4] <;> rfl) rfl)
     ·omega
     ·first | omega | (simp only; omega) | (dsimp only; omega)
    ·try rw [h4]
     try simp only [qA] at h4
     refine Qr (Qe (ks6 Z Z Z Z Z Z (QK fun K hK => Qa Z (QX Z Z Wc (Qa Z (hK _ ?_))))))
     refine Qi (k + 1) ?_ ?_ ?_
     ·exact Q5 (l := [1, 3, 4, 5, 6, 7]) (lH := [1, 3, 6]) (kp6 rfl rfl rfl rfl rfl rfl) (Qc rfl (Qc rfl (Qc rfl Qn))) (by rw [Dq Wa h4] <;> rfl) (by rw [Dq Wa h4] <;> rfl) rfl
     ·omega
     ·first | omega | (simp only; omega) | (dsimp only; omega)
   ·try rw [h3]
    try simp only [qA] at h3
    refine Zi (QJ (Qw (QE (ks5 Z Z Z Z Z (Qb fun K hK => Qa Z (kc6 hK Z Z Z Z Z Z ?_))))))
    refine Qz ?_
    refine Zp (ι := Nat) (fun m => ⟨[(1, .ref 1 0 0), (3, .osl 3 (Ha w j i (((w[j]'Wa).cs[i]'Wa).bs.take m) (YV w j i ((w[j]'Wa).cs[i]'Wa).ns (YN w j (w[j]'Wa).cs i (YA w j)))).length), (4, .int .i64 j), (5, .int .i64 i), (6, .ref 6 0 0), (10, .int .i64 m)], [(1, ⟨[[.sl ((w).map YY)]], 1, 28, true⟩), (3, ⟨(Ha w j i (((w[j]'Wa).cs[i]'Wa).bs.take m) (YV w j i ((w[j]'Wa).cs[i]'Wa).ns (YN w j (w[j]'Wa).cs i (YA w j)))).map CG, 5, 79, true⟩), (6, ⟨[Qct ((w[j]'Wa).cs[i]'Wa)], 8, 61, true⟩)]⟩) (fun m => m <= ((w[j]'Wa).cs[i]'Wa).bs.length) (fun m => ((w[j]'Wa).cs[i]'Wa).bs.length - m) 0 ?_ ?_ ?_
    ·exact Q5 (l := [1, 3, 4, 5, 6, 10]) (lH := [1, 3, 6]) (kp6 rfl rfl rfl rfl rfl rfl) (Qc rfl (Qc rfl (Qc rfl Qn))) (by rw [QgH (Wa : ((w[j]'Wa).cs[i]'Wa).ns.length <= k)] <;> rfl) (by rw [QgH (Wa : ((w[j]'Wa).cs[i]'Wa).ns.length <= k)] <;> rfl) rfl
    ·exact QgD _
    intro m hM
    have hbl := hw.bsLen (u := j) (i := i) Wa Wa
    try dsimp only
    refine QA ?_ -- 8
    refine Qb fun K hK => Qa Z (Qf Z Z (Qy Z Z Z (QH Z Z (Yh Z Z (kc7 hK Z Z Z Z Z Z Z ?_)))))
    refine Qs Z (fun h5 => ?_) (fun h5 => ?_)
    ·try rw [h5]
     try simp only [qA] at h5
     refine Qr (ks6 Z Z Z Z Z Z ?_)
     refine QA ?_ -- 9
     refine Qz (Qb fun K hK => QI (ds0 := [5, 4, 3, 2, 1, 0]) (cs := [_]) rfl rfl rfl rfl rfl rfl (Qa rfl (Qa rfl (Qf rfl rfl (QN (ds0 := [6, 5, 4, 3, 2, 1, 0]) rfl rfl rfl rfl rfl (Qa rfl (Qa rfl (QX rfl rfl Wc (Gz rfl rfl rfl rfl Wa Wa Wh Qeu (BY Wa) (QR (ds0 := [4, 3, 2, 1, 0]) (XG hw (p := i) (l := [((w[j]'Wa).cs[i]'Wa).bs[m]'Wa]) Wa Wf (by intro x hx; simp only [QgA] at hx; subst hx; exact hw.bw _ (Qgw Wa) _ (Qgw Wa) _ (Qgw Wa))) rfl rfl (.inl rfl) rfl rfl ?_))))))))))
     refine Qa Z (Q0 Z Z (Q0 Z Z (mv2 Z Z (kc8 hK Z Z Z Z Z Z Z Z ?_))))
     refine Qb fun K hK => Qa Z (kc8 hK Z Z Z Z Z Z Z Z ?_)
     refine Qs Z (fun h6 => ?_) (fun h6 => ?_)
     ·try rw [h6]
      try simp only [qA] at h6
      refine QK fun K hK => QC (cs := [_]) Z Z Z Z (mv2 Z Z (Qa Z (QQ Z Z (Cp (LK (k := 3) Z Z Z Wk Z Wk (by simp [D.ids, D.sid, ZL]) ⟨.osl 3 (Ha w j i (((w[j]'Wa).cs[i]'Wa).bs.take m) (YV w j i ((w[j]'Wa).cs[i]'Wa).ns (YN w j (w[j]'Wa).cs i (YA w j)))).length, by simp, by simp [D.ids, D.sid]⟩ Z Z (Jo hw (r := ⟨3, j, 0, 0, (Yp w j i [((w[j]'Wa).cs[i]'Wa).bs[m]'Wa] true).getD []⟩) (Db hw Wa Wa _).1 CX (QgK (Db hw Wa Wa _).2 Wa))) (Qa Z (hK _ ?_))))))
      refine Qe (ks6 Z Z Z Z Z Z (QK fun K hK => Qa Z (QX Z Z Wc (Qa Z (hK _ ?_)))))
      refine Qi (m + 1) ?_ ?_ ?_
      ·exact le_trans (ME (l := [1, 4, 5, 6, 10]) (lH := [1, 6]) 96 3 3 (kp5 rfl rfl rfl rfl rfl) (Qc rfl (Qc rfl Qn)) rfl rfl rfl rfl rfl rfl rfl) (Q5 (l := [1, 3, 4, 5, 6, 10]) (lH := [1, 3, 6]) (kp6 rfl rfl rfl rfl rfl rfl) (Qc rfl (Qc rfl (Qc rfl Qn))) (by rw [LH Wa h6] <;> rfl) (by rw [LH Wa h6] <;> rfl) rfl)
      ·omega
      ·first | omega | (simp only; omega) | (dsimp only; omega)
     ·try rw [h6]
      try simp only [qA] at h6
      refine Qr (Qe (ks6 Z Z Z Z Z Z (QK fun K hK => Qa Z (QX Z Z Wc (Qa Z (hK _ ?_))))))
      refine Qi (m + 1) ?_ ?_ ?_
      ·exact Q5 (l := [1, 3, 4, 5, 6, 10]) (lH := [1, 3, 6]) (kp6 rfl rfl rfl rfl rfl rfl) (Qc rfl (Qc rfl (Qc rfl Qn))) (by rw [Cx Wa h6] <;> rfl) (by rw [Cx Wa h6] <;> rfl) rfl
      ·omega
      ·first | omega | (simp only; omega) | (dsimp only; omega)
    ·try rw [h5]
     try simp only [qA] at h5
     refine Zi (QJ (Qw (QE (Qe (ks4 Z Z Z Z (QK fun K hK => Qa Z (QX Z Z Wc (Qa Z (hK _ ?_)))))))))
     refine Qi (i + 1) ?_ ?_ ?_
     ·exact Q5 (l := [1, 3, 4, 5]) (lH := [1, 3]) (kp4 rfl rfl rfl rfl) (Qc rfl (Qc rfl Qn)) (by rw [Rl Wa, QgH (Wa : ((w[j]'Wa).cs[i]'Wa).bs.length <= m)] <;> rfl) (by rw [Rl Wa, QgH (Wa : ((w[j]'Wa).cs[i]'Wa).bs.length <= m)] <;> rfl) rfl
     ·omega
     ·first | omega | (simp only; omega) | (dsimp only; omega)
  ·try rw [h2]
   try simp only [qA] at h2
   refine Zi (QJ (Qw (QE (Qe (ks3 Z Z Z (QK fun K hK => Qa Z (QX Z Z Wc (Qa Z (hK _ ?_)))))))))
   refine Qi (j + 1) ?_ ?_ ?_
   ·exact Q5 (l := [1, 3, 4]) (lH := [1, 3]) (kp3 rfl rfl rfl) (Qc rfl (Qc rfl Qn)) (by rw [Lg Wa, show (w[j]'Wa).cs.length = i by omega] <;> rfl) (by rw [Lg Wa, show (w[j]'Wa).cs.length = i by omega] <;> rfl) rfl
   ·omega
   ·first | omega | (simp only; omega) | (dsimp only; omega)
 ·try rw [h1]
  try simp only [qA] at h1
  refine Zi (QJ (Qw (QE (ks1 Z (Qb fun K hK => mv2 Z Z (kc1 hK Z ?_))))))
  refine Qq ?_
  exact KU rfl rfl rfl Wf (by rw [Fs, show w.length = j by omega] <;> rfl)
end Go.Proofs
namespace M25
open Go Go.Abs M3
/-! ### Bits of numbers -/
theorem Sc (e : Int) : IntKind.i64.wrap e = (BitVec.ofInt 64 e).toInt := by
 have hb : (BitVec.ofInt 64 e).toInt = if e % 18446744073709551616 < 9223372036854775808 then e % 18446744073709551616 else e % 18446744073709551616 - 18446744073709551616 := by
  rw [BitVec.toInt_ofInt]; rfl
 rw [hb]
 unfold IntKind.wrap
 simp only [IntKind.bits, IntKind.signed, Bool.true_and]
 split
 ·rename_i h
  have := of_decide_eq_true h
  split <;> omega
 ·rename_i h
  have : ¬ (e % 2 ^ 64 >= 2 ^ (64 - 1)) := fun hh => h (decide_eq_true hh)
  split <;> omega
theorem MY (b : BitVec 64) : BitVec.ofInt 64 (b.toNat : Int) = b := by
 rw [BitVec.ofInt_natCast, BitVec.ofNat_toNat, BitVec.setWidth_eq]
theorem QbM (x y : Int) : BitVec.ofInt 64 (Kg x y) = BitVec.ofInt 64 x &&& BitVec.ofInt 64 y := by
 show BitVec.ofInt 64 (IntKind.i64.wrap ((BitVec.ofInt 64 x &&& BitVec.ofInt 64 y).toNat : Int)) = _
 rw [Sc, BitVec.ofInt_toInt, MY]
theorem QbN (x y : Int) : BitVec.ofInt 64 (Se x y) = BitVec.ofInt 64 x &&& ~~~ BitVec.ofInt 64 y := by
 show BitVec.ofInt 64 (IntKind.i64.wrap ((BitVec.ofInt 64 x &&& ~~~ BitVec.ofInt 64 y).toNat : Int)) = _
 rw [Sc, BitVec.ofInt_toInt, MY]
theorem L2 {x : Int} (h : I64 x) : IntKind.i64.wrap x = x := Ql h.1 h.2
theorem LI {x : Int} (h : I64 x) : (BitVec.ofInt 64 x).toInt = x := by rw [<- Sc, L2 h]
theorem RC (x y : Int) : I64 (Kg x y) := Pe _
theorem RD (x y : Int) : I64 (Se x y) := Pe _
def tb (x : Int) (i : Nat) : Bool := (BitVec.ofInt 64 x).getLsbD i
theorem DD (x y : Int) (i : Nat) : tb (Kg x y) i = (tb x i && tb y i) := by rw [tb, QbM, BitVec.getLsbD_and]; rfl
theorem DF (x y : Int) {i : Nat} : tb (Se x y) i = (tb x i && !tb y i) := by
 rw [tb, QbN, BitVec.getLsbD_and, BitVec.getLsbD_not]
 by_cases h : i < 64
 ·simp [h, tb]
 ·simp [tb, BitVec.getLsbD_of_ge _ i (by omega : 64 <= i)]
theorem B9 (x : Int) {i : Nat} (h : 64 <= i) : tb x i = false := BitVec.getLsbD_of_ge _ i h
theorem Tt {x y : Int} (hx : I64 x) (hy : I64 y) (h : ∀ i, tb x i = tb y i) : x = y := by
 rw [<- LI hx, <- LI hy]
 congr 1
 exact BitVec.eq_of_getLsbD_eq fun i _ => h i
theorem Lp (i : Nat) : tb 0 i = false := by
 show (BitVec.ofInt 64 0).getLsbD i = false
 rw [show BitVec.ofInt 64 0 = 0#64 from rfl, BitVec.getLsbD_zero]
theorem Mr {x : Int} (hx : I64 x) : x = 0 ↔ ∀ i, tb x i = false := by
 constructor
 ·rintro rfl i; exact Lp i
 ·intro h; exact Tt hx ⟨Wa, Wa⟩ fun i => by rw [h i, Lp]
theorem Tu (n : Nat) {i : Nat} (h : i < 64) : tb (n : Int) i = n.testBit i := by
 rw [tb, BitVec.ofInt_natCast, BitVec.getLsbD_ofNat]; simp [h]
theorem P8 {k : Nat} (hk : k < 64) (i : Nat) : tb ((2 : Int) ^ k) i = decide (i = k) := by
 have e : ((2 ^ k : Nat) : Int) = (2 : Int) ^ k := by simp
 by_cases h : i < 64
 ·rw [<- e, Tu _ h, Nat.testBit_two_pow]
  exact decide_eq_decide.2 eq_comm
 ·rw [B9 _ Wa]; exact (decide_eq_false Wa).symm
theorem GR (x m : Int) : IntKind.i64.wrap (x - Kg x m) = Se x m := by
 have h : BitVec.ofInt 64 (x - Kg x m) = BitVec.ofInt 64 x &&& ~~~ BitVec.ofInt 64 m := by
  rw [Int.sub_eq_add_neg, BitVec.ofInt_add, BitVec.ofInt_neg, <- BitVec.sub_eq_add_neg, QbM]
  generalize BitVec.ofInt 64 x = a
  generalize BitVec.ofInt 64 m = b
  have h1 : (a &&& ~~~b) + (a &&& b) = a := by
   rw [BitVec.add_eq_or_of_and_eq_zero]
   ·ext i hi; simp; cases a[i] <;> cases b[i] <;> rfl
   ·ext i hi; simp
    cases a[i] <;> cases b[i] <;> simp
  exact (BitVec.sub_eq_iff_eq_add).2 h1.symm
 have e : Se x m = (BitVec.ofInt 64 (Se x m)).toInt := (LI (RD x m)).symm
 rw [e, Sc, h, QbN]
theorem NN {x m : Int} : Kg x m = 0 ↔ ∀ i, tb x i = true -> tb m i = false := by
 rw [Mr (RC x m)]
 refine forall_congr' fun i => ?_
 rw [DD]; cases tb x i <;> cases tb m i <;> simp
theorem not_zero {x m : Int} : Se x m = 0 ↔ ∀ i, tb x i = true -> tb m i = true := by
 rw [Mr (RD x m)]
 refine forall_congr' fun i => ?_
 rw [DF]; cases tb x i <;> cases tb m i <;> simp
theorem XW {x m : Int} (hx : I64 x) : Kg x m = x ↔ ∀ i, tb x i = true -> tb m i = true := by
 constructor
 ·intro h i hi
  have := congrArg (fun z => tb z i) h
  simp only [DD, hi, Bool.true_and] at this
  exact this
 ·intro h
  refine Tt (RC x m) hx fun i => ?_
  rw [DD]
  cases hx2 : tb x i
  ·rfl
  ·rw [h i hx2]; rfl
theorem Nx {x m : Int} (hx : I64 x) : Se x m = x ↔ ∀ i, tb x i = true -> tb m i = false := by
 constructor
 ·intro h i hi
  have := congrArg (fun z => tb z i) h
  simp only [DF, hi, Bool.true_and] at this
  simpa using this
 ·intro h
  refine Tt (RD x m) hx fun i => ?_
  rw [DF]
  cases hx2 : tb x i
  ·rfl
  ·rw [h i hx2]; rfl
def Lo (x : Int) : Prop := 0 <= x /\ x < 131072
theorem Lo.i64 {x : Int} (h : Lo x) : I64 x := ⟨by have := h.1; omega, by have := h.2; omega⟩
theorem Lo.hi {x : Int} (h : Lo x) {i : Nat} (hi : 17 <= i) : tb x i = false := by
 obtain ⟨n, rfl⟩ := Int.eq_ofNat_of_zero_le h.1
 by_cases h6 : i < 64
 ·rw [Tu _ h6, Nat.testBit_lt_two_pow]
  have h1 : (2 : Nat) ^ 17 <= 2 ^ i := Nat.pow_le_pow_right Wa hi
  have h2 : (2 : Nat) ^ 17 = 131072 := by decide
  have := h.2
  omega
 ·exact B9 _ Wa
theorem Lo.of {x : Int} (hx : I64 x) (h : ∀ i, 17 <= i -> tb x i = false) : Lo x := by
 have hb : (BitVec.ofInt 64 x).toNat < 2 ^ 17 := by
  refine Nat.lt_pow_two_of_testBit _ fun i hi => ?_
  exact h i hi
 have h2 : (2 : Nat) ^ 17 = 131072 := by decide
 have e := LI hx
 rw [BitVec.toInt_eq_toNat_of_lt Wa] at e
 exact ⟨Wa, Wa⟩
theorem Bi {k : Nat} (h : k <= 16) : Lo ((2 : Int) ^ k) := by
 have := Qbg (n := k) Wa
 refine ⟨Wa, ?_⟩
 have h1 : (2 : Nat) ^ k <= 2 ^ 16 := Nat.pow_le_pow_right Wa h
 have h2 : (2 : Nat) ^ 16 = 65536 := by decide
 have h3 : ((2 ^ k : Nat) : Int) = (2 : Int) ^ k := by simp
 omega
theorem QcF (w : Qo) (u : Int) : Lo (YL w u) := ⟨(RO w u).1, by have := (RO w u).2; omega⟩
theorem Qbw {x : Int} (hx : I64 x) (m : Int) : GO x m = J5 x m := by
 unfold J5 GO
 have : (JJ .andNot .i64 x m = 0) ↔ (JJ .and .i64 x m = x) := (not_zero (x := x) (m := m)).trans (XW hx).symm
 by_cases h : JJ .andNot .i64 x m = 0
 ·rw [if_pos h, if_pos (this.1 h)]
 ·rw [if_neg h, if_neg (fun e => h (this.2 e))]
theorem Rj {x : Int} {k : Nat} (hk : k < 64) : Kg x (2 ^ k) = 0 ↔ tb x k = false := by
 rw [NN]
 constructor
 ·intro h
  cases hx : tb x k
  ·rfl
  ·have := h k hx; rw [P8 hk] at this; simp at this
 ·intro h i hi
  rw [P8 hk]
  by_cases e : i = k
  ·subst e; rw [h] at hi; cases hi
  ·exact decide_eq_false e
open Go Go.Abs M3
/-! ### Trails: the loops' laws -/
theorem Fr (w : Qo) (l : List StepT) (s : StepT) (u : Int) : Zc w (l ++ [s]) u = if s.u = u /\ inW w u = true then s.m else Zc w l u := by
 rw [Zc, List.foldl_append]; rfl
theorem HR {α : Type} {l : List α} {i k : Nat} (hk : k + 1 = i) (h : k < l.length) : l.take i = l.take k ++ [l[k]] := by
 subst hk; rw [List.take_succ_eq_append_getElem h]
theorem QaZ {w : Qo} {l : List StepT} {u : Int} {i k : Nat} (hk : k + 1 = i) (h : k < l.length) (hu : l[k].u = u) (hw : inW w u = true) : Zc w (l.take i) u = l[k].m := by
 rw [HR hk h, Fr, if_pos ⟨hu, hw⟩]
theorem MJ {w : Qo} {l : List StepT} {u : Int} {i k : Nat} (hk : k + 1 = i) (h : k < l.length) (hu : ¬ l[k].u = u \/ ¬ 0 <= u \/ ¬ u < w.length) : Zc w (l.take i) u = Zc w (l.take (i - 1)) u := by
 rw [HR hk h, Fr, if_neg, show i - 1 = k by omega]
 rintro ⟨h1, h2⟩
 rw [GL] at h2
 rcases hu with hu | hu | hu
 ·exact hu h1
 ·exact hu h2.1
 ·exact hu h2.2
theorem RJ {w : Qo} {l : List StepT} {u : Int} (h : inW w u = false) : Zc w l u = 0 := by
 have hf : YL w u = 0 := Fu (by
  refine Classical.byContradiction fun hn => ?_
  rw [MD Wa Wa] at h; cases h)
 suffices hs : ∀ a, l.foldl (fun a s => if s.u = u /\ inW w u = true then s.m else a) a = a by rw [Zc, hs, hf]
 induction l with
 | nil => intro a; rfl
 | cons s l ih => intro a; rw [List.foldl_cons, if_neg (by rw [h]; simp), ih]
def JZ (w : Qo) (l : List StepT) (u : Int) : Int := l.foldl (fun a s => if s.u = u then s.m else a) (YL w u)
theorem RI {w : Qo} {l : List StepT} {u : Int} (h : inW w u = true) : JZ w l u = Zc w l u := by
 unfold JZ Zc
 simp only [h, and_true]
theorem PM (w : Qo) (l : List StepT) (s : StepT) (u : Int) : JZ w (l ++ [s]) u = if s.u = u then s.m else JZ w l u := by
 rw [JZ, List.foldl_append]; rfl
theorem Bg {w : Qo} {l : List StepT} {u : Int} {i k : Nat} (hk : k + 1 = i) (h : k < l.length) (hu : l[k].u = u) : JZ w (l.take i) u = l[k].m := by
 rw [HR hk h, PM, if_pos hu]
theorem D4 {w : Qo} {l : List StepT} {u : Int} {i k : Nat} (hk : k + 1 = i) (h : k < l.length) (hu : ¬ l[k].u = u) : JZ w (l.take i) u = JZ w (l.take (i - 1)) u := by
 rw [HR hk h, PM, if_neg hu, show i - 1 = k by omega]
theorem X0 {w : Qo} {u : Int} : YL w u = 0 ↔ inW w u = false := by
 constructor
 ·intro h
  cases hw : inW w u
  ·rfl
  ·rw [GL] at hw
   rw [RP hw.1 hw.2] at h
   have h2 : 2 <= (2 : Int) ^ (min (w[u.toNat]'Wa).cs.length 16 + 1) := by
    rw [Int.pow_succ]
    have := Qbg (n := min (w[u.toNat]'Wa).cs.length 16) Wa
    omega
   omega
 ·intro h
  refine Fu (Classical.byContradiction fun hn => ?_)
  rw [MD Wa Wa] at h; cases h
theorem SQ {l : List StepT} (h : (l.length : Int) = 0) : Zx l = 0 := by
 have e : l = [] := List.eq_nil_of_length_eq_zero Wa
 subst e; rfl
theorem L8 {l : List StepT} {k : Nat} (hk : k + 1 = l.length) : Zx l = (l[k]'Wa).l := by
 rw [Zx, List.getLast?_eq_getElem?, show l.length - 1 = k by omega, List.getElem?_eq_getElem Wa]
theorem Qba : ∀ {l : List Int}, ¬ (l.length : Int) = 1 -> Cb l = -1
 | [], _ => rfl
 | [x], h => by simp at h
 | x :: y :: l, _ => rfl
theorem BB : ∀ {l : List Int} (h : (l.length : Int) = 1), Cb l = l[(0 : Int).toNat]'Wh
 | [], h => by simp at h
 | [x], _ => rfl
 | x :: y :: l, h => by simp at h; omega
theorem Qbf {m : Int} (h : ¬ ((He m).length : Int) = 1) : X5 m = -1 := Qba h
theorem BG {m : Int} (h : ((He m).length : Int) = 1) : X5 m = (He m)[(0 : Int).toNat]'Wh := BB h
theorem Nn {α : Type} {f : α -> List D} {l : List α} {i : Nat} : ((l.map f).take ((i : Nat) : Int).toNat).drop (((0 : Nat) : Int)).toNat = (l.take i).map f := by simp [List.map_take]
def QcK (w : Qo) (l : List StepT) (i : Nat) : Bool := match l[i]? with
 | some s => Ks w (l.take i) s
 | none => true
theorem FB {w : Qo} {l : List StepT} {i : Nat} (h : i < l.length) : QcK w l i = Ks w (l.take i) l[i] := by
 rw [QcK, List.getElem?_eq_getElem h]
theorem De (w : Qo) (l : List StepT) : Y8 w l = (List.range l.length).all (QcK w l) := rfl
theorem Xh {w : Qo} {l : List StepT} {s : StepT} (h : s.u < 0 \/ (w.length : Int) <= s.u \/ s.c < -1) : Ks w l s = false := by
 unfold Ks
 rcases h with h | h | h
 ·rw [GM (.inl h)]; rfl
 ·rw [GM (.inr h)]; rfl
 ·rw [decide_eq_false (Wa : ¬ -1 <= s.c)]; simp
theorem Z4 {w : Qo} {l : List StepT} {s : StepT} (h0 : 0 <= s.u) (h1 : s.u < w.length) (h2 : -1 <= s.c) : Ks w l s = (decide (Kg s.m (Zc w l s.u) = s.m) &&
  if s.c = -1 then decide (0 <= X5 s.m) && !Xe l s.u && decide (s.l = IntKind.i64.wrap (Zx l + 1))
  else !decide (s.m = 0) && !decide (s.m = Zc w l s.u) && decide (s.l = Zx l)) := by
 rw [Ks, MD h0 h1, decide_eq_true h2]; rfl
theorem HV {w : Qo} {l : List StepT} {t : TermT} {c : Int} (h : c < 0 \/ t.u < 0 \/ (w.length : Int) <= t.u) : Yu w l t c = none := by
 rw [Yu, if_pos]
 rcases h with h | h
 ·exact .inl h
 ·exact .inr (GM h)
theorem KF {w : Qo} {l : List StepT} {t : TermT} {c : Int} (h : IntKind.i64.wrap (Zc w l t.u - Kg (Zc w l t.u) t.m) = 0 \/ IntKind.i64.wrap (Zc w l t.u - Kg (Zc w l t.u) t.m) = Zc w l t.u) : Yu w l t c = none := by
 rw [Yu]
 split
 ·rfl
 ·first | rfl | rw [if_pos h]
theorem PB {w : Qo} {l : List StepT} {t : TermT} {c : Int} (h0 : ¬ c < 0) (h1 : inW w t.u = true) (h2 : ¬ IntKind.i64.wrap (Zc w l t.u - Kg (Zc w l t.u) t.m) = 0) (h3 : ¬ IntKind.i64.wrap (Zc w l t.u - Kg (Zc w l t.u) t.m) = Zc w l t.u) :
  Yu w l t c = some (l ++ [⟨t.u, IntKind.i64.wrap (Zc w l t.u - Kg (Zc w l t.u) t.m), Zx l, c⟩]) := by
 rw [Yu, if_neg (by rw [h1]; simp [h0]), if_neg (by simp [h2, h3])]
theorem PA (w : Qo) (l : List StepT) (t : TermT) (c : Int) : ((Yu w l t c).getD []).length <= l.length + 1 := by
 unfold Yu
 split
 ·simp
 ·split <;> simp
def GU (w : Qo) (l : List StepT) : Prop := ∀ s ∈ l, Lo s.m
theorem F9 {w : Qo} {l : List StepT} (h : GU w l) (u : Int) : Lo (Zc w l u) := by
 suffices hs : ∀ (l : List StepT) a, (∀ s ∈ l, Lo s.m) -> Lo a -> Lo (l.foldl (fun a s => if s.u = u /\ inW w u = true then s.m else a) a) from hs l _ h (QcF w u)
 intro l
 induction l with
 | nil => intro a _ h; exact h
 | cons s l ih =>
  intro a hl ha
  rw [List.foldl_cons]
  refine ih _ (fun t ht => hl t (by simp [ht])) ?_
  split
  ·exact hl s Wf
  ·exact ha
theorem CJ {w : Qo} {l : List StepT} {t : TermT} {c : Int} (hl : GU w l) (h : Kg (Zc w l t.u) t.m = 0) : Yu w l t c = none :=
 KF (.inr (by rw [GR, Nx (F9 hl _).i64, <- NN]; exact h))
theorem CK {w : Qo} {l : List StepT} {t : TermT} {c : Int} (h : Se (Zc w l t.u) t.m = 0) : Yu w l t c = none :=
 KF (.inl (by rw [GR]; exact h))
theorem CL {w : Qo} {l : List StepT} {t : TermT} {c : Int} (hl : GU w l) (h0 : ¬ c < 0) (h1 : ¬ Kg (Zc w l t.u) t.m = 0) (h2 : ¬ Se (Zc w l t.u) t.m = 0) : Yu w l t c = some (l ++ [⟨t.u, Se (Zc w l t.u) t.m, Zx l, c⟩]) := by
 have hin : inW w t.u = true := by
  cases hw : inW w t.u
  ·rw [RJ hw] at h1
   exact absurd (NN.2 fun i hi => by rw [Lp] at hi; cases hi) h1
  ·rfl
 rw [PB h0 hin (by rw [GR]; exact h2) (by rw [GR, Nx (F9 hl _).i64, <- NN]; exact h1), GR]
theorem F3 {w : Qo} {l : List StepT} {u p : Int} (h : (u < 0 \/ (w.length : Int) <= u) \/ p < 0) : Yq w l u p = none := by
 unfold Yq
 split
 ·rfl
 ·rename_i x hx
  rcases h with h | h
  ·rw [Ls h] at hx; cases hx
  ·rw [if_pos (.inl h)]
theorem DU {w : Qo} {l : List StepT} {u p : Int} (h0 : 0 <= u) (h1 : u < w.length) (h : ((w[u.toNat]'Wa).cs.length : Int) <= p) : Yq w l u p = none := by
 rw [Yq, DG h0 h1]
 simp only []
 rw [if_pos (.inr h)]
def Qcv (l : List StepT) (u p : Int) : StepT := ⟨u, IntKind.i64.wrap (2 * 2 ^ min p.toNat 64), IntKind.i64.wrap (Zx l + 1), -1⟩
theorem CI {w : Qo} {l : List StepT} {u p : Int} (h : Ks w l (Qcv l u p) = false) : Yq w l u p = none := by
 unfold Yq
 split
 ·rfl
 ·split
  ·rfl
  ·simp only [Qcv] at h
   rw [if_neg (by rw [h]; simp)]
theorem DW {w : Qo} {l : List StepT} {u p : Int} (h0 : 0 <= u) (h1 : u < w.length) (h2 : ¬ p < 0) (h3 : ¬ ((w[u.toNat]'Wa).cs.length : Int) <= p) (h : Ks w l (Qcv l u p) = true) : Yq w l u p = some (l ++ [Qcv l u p]) := by
 rw [Yq, DG h0 h1]
 simp only []
 rw [if_neg Wa]
 simp only [Qcv] at h ⊢
 rw [if_pos h]
theorem KT {h : Int -> Int} {inc : List TermT} {a : Int} {i : Nat} (hi : i < inc.length) : Xx h (inc.drop i) a = if J5 (h inc[i].u) inc[i].m = 0 then -1 else if J5 (h inc[i].u) inc[i].m = 1 then (if 0 <= a then -1 else Xx h (inc.drop (i + 1)) inc[i].u) else Xx h (inc.drop (i + 1)) a := by
 rw [QgI hi, Xx]
theorem S5 {h : Int -> Int} {inc : List TermT} {a : Int} {i : Nat} (hi : inc.length <= i) : Xx h (inc.drop i) a = a := by
 rw [QgM hi, Xx]
theorem Lh {w : Qo} {l : List StepT} {db : List (List TermT)} {i : Nat} (hi : i < db.length) : Xg w l i (db.drop i) = if GN w l db[i] = true then ((i : Int), -1) else if 0 <= MS w l db[i] then ((i : Int), MS w l db[i]) else Xg w l (i + 1) (db.drop (i + 1)) := by
 rw [QgI hi, Xg]
theorem Qbo {w : Qo} {l : List StepT} {db : List (List TermT)} {i : Nat} (hi : db.length <= i) : Xg w l i (db.drop i) = (-1, -1) := by
 rw [QgM hi, Xg]
theorem DA (w : Qo) (l : List StepT) : ∀ (db : List (List TermT)) (i : Nat), (Xg w l i db = (-1, -1)) \/ ∃ k, i <= k /\ ∃ hk : k - i < db.length, (Xg w l i db = ((k : Int), -1) /\ GN w l db[k - i] = true) \/ (GN w l db[k - i] = false /\ 0 <= MS w l db[k - i] /\ Xg w l i db = ((k : Int), MS w l db[k - i]))
 | [], i => .inl rfl
 | x :: db, i => by
  rw [Xg]
  by_cases h1 : GN w l x = true
  ·rw [if_pos h1]; exact .inr ⟨i, Nat.le_refl _, by simp, .inl ⟨rfl, by simpa using h1⟩⟩
  ·rw [if_neg h1]
   by_cases h2 : 0 <= MS w l x
   ·rw [if_pos h2]; exact .inr ⟨i, Nat.le_refl _, by simp, .inr ⟨by simpa using h1, by simpa using h2, by simp⟩⟩
   ·rw [if_neg h2]
    rcases DA w l db (i + 1) with h | ⟨k, hk, hlt, h⟩
    ·exact .inl h
    ·refine .inr ⟨k, Wa, by simp only [List.length_cons]; omega, ?_⟩
     have e : (x :: db)[k - i]'(by simp only [List.length_cons]; omega) = db[k - (i + 1)] := by
      obtain ⟨j, hj⟩ : ∃ j, k - i = j + 1 := ⟨k - i - 1, Wa⟩
      simp only [hj, List.getElem_cons_succ]
      congr 1; omega
     rw [e]; exact h
theorem Tg {w : Qo} {l : List StepT} {db : List (List TermT)} (h : ¬ (Yv w db l).2 < 0) : 0 <= (Yv w db l).1 /\ (Yv w db l).1 < db.length := by
 unfold Yv at h ⊢
 rcases DA w l db 0 with e | ⟨k, _, hk, ⟨e, _⟩ | ⟨_, _, e⟩⟩
 ·rw [e] at h; simp at h
 ·rw [e] at h; simp at h
 ·rw [e]; simp only; omega
theorem Ce {w : Qo} {db : List (List TermT)} {n : Nat} {out : List StepT} (h : (Yv w db out).2 < 0) (hn : 0 < n) : NH w db n out = (out, (Yv w db out).1) := by
 obtain ⟨m, rfl⟩ : ∃ m, n = m + 1 := ⟨n - 1, Wa⟩
 rw [NH, if_pos h]
theorem Qbm {w : Qo} {db : List (List TermT)} {n : Nat} {out : List StepT} (h : ¬ (Yv w db out).2 < 0) (hn : 0 < n) (hd : (Yv w db out).1.toNat < db.length) : NH w db n out = NH w db (n - 1) ((Yu w out ⟨(Yv w db out).2, Fw w db[(Yv w db out).1.toNat] (Yv w db out).2⟩ (Yv w db out).1).getD []) := by
 obtain ⟨m, rfl⟩ : ∃ m, n = m + 1 := ⟨n - 1, Wa⟩
 rw [NH, if_neg h, List.getD_eq_getElem?_getD, List.getElem?_eq_getElem hd]; rfl
end M25
namespace Go.Proofs
open Go Go.Abs M3 M25
theorem Z6 {w : Qo} (hw : WSm w) {l : List StepT} (hl : l.length <= 10000000) {u : Int} : Ok Tryz.prog 29 [Yd w, Zn l, .int .i64 u] (.int .i64 (Zc w l u)) := by
 refine Ok.ofT ZU Tryz.func29 Qff (Qgr Z) ?_
 show TW _ _ tf29.body _ _
 refine Qb fun K hK => Zw Z Z Z (Qa Z (kc3 hK Z Z Z ?_))
 refine QA ?_ -- 0
 refine Qb fun K hK => Qa Z ?_
 first | refine QH rfl QM ?_ | refine QH rfl rfl ?_
 refine XU Z Z Wc (Qa Z (kc4 hK Z Z Z Z ?_))
 refine Qz ?_
 refine Zp (ι := Nat) (fun i => ⟨[(1, Zn l), (2, .int .i64 u), (3, .ref 3 0 0), (7, .int .i64 ((i : Int) - 1))], [(3, ⟨[[.sl ((w).map YY)]], 1, 28, true⟩)]⟩) (fun i => i <= l.length /\ Zc w l u = Zc w (l.take i) u) (fun i => i) l.length ?_ ?_ ?_
 ·exact Q5 (l := [1, 2, 3, 7]) (lH := [3]) (kp4 rfl rfl rfl rfl) (Qc rfl Qn) rfl rfl rfl
 ·exact ⟨Nat.le_refl _, by rw [List.take_length]⟩
 intro i hI
 try dsimp only
 refine QA ?_ -- 1
 refine Qb fun K hK => Qa Z (Mc Z Z (kc5 hK Z Z Z Z Z ?_))
 refine Qs Z (fun h1 => ?_) (fun h1 => ?_)
 ·try rw [h1]
  try simp only [qA] at h1
  refine Qr (ks4 Z Z Z Z ?_)
  refine QA ?_ -- 2
  refine Qz (Qb fun K hK => mv2 Z Z (QF Z Z Z Wa (ZN Wa Wa) Z (Q3 Z Z (Qy Z Z Z (Qa Z (ZE Z Z (Qa Z ?_)))))))
  refine Qu (g := 22) Z (fun h2 => ?_) (fun h2 => ?_)
  ·try rw [h2]
   try simp only [qA] at h2
   refine Qd Z (Qa Z (Qd Z (Mc Z Z (Qh Z Z (Qa Z ?_)))))
   refine Qu (g := 26) Z (fun h3 => ?_) (fun h3 => ?_)
   ·try rw [h3]
    try simp only [qA] at h3
    refine Qd Z (Qa Z (Qd Z (Qf Z Z (Qd Z (Qy Z Z Z (Qd Z ?_))))))
    first | refine QH rfl QM ?_ | refine QH rfl rfl ?_
    refine Qd Z (Yh Z Z (Qh Z Z (kc5 hK Z Z Z Z Z ?_)))
    refine Qs Z (fun h4 => ?_) (fun h4 => ?_)
    ·try rw [h4]
     try simp only [qA] at h4
     refine Qb fun K hK => mv2 Z Z (QF Z Z Z Wa (ZN Wa Wa) Z (Q3 Z Z (Qy Z Z Z (Qa Z (kc1 hK Z ?_)))))
     refine Qq (Qp (Qg (QZ (Qp (Qg (QB Z ?_))))))
     rw [hI.2, QaZ (k := ((i : Int) - 1).toNat) Wa Wa h2 (MD Wa Wa)]
    ·try rw [h4]
     try simp only [qA] at h4
     refine Qr (Qe (ks4 Z Z Z Z (QK fun K hK => Qa Z (XU Z Z Wc (Qa Z (hK _ ?_))))))
     refine Qi (i - 1) ?_ ?_ ?_
     ·exact Q5 (l := [1, 2, 3, 7]) (lH := [3]) (kp4 rfl rfl rfl rfl) (Qc rfl Qn) (by simp only [List.cons.injEq, Prod.mk.injEq, D.int.injEq, and_true, true_and]; omega) rfl rfl
     ·exact ⟨Wa, by rw [hI.2, MJ (k := ((i : Int) - 1).toNat) Wa Wa (by first | exact .inl h2 | exact .inr (.inl h3) | exact .inr (.inr h4))]⟩
     ·first | omega | (simp only; omega) | (dsimp only; omega)
   ·try rw [h3]
    try simp only [qA] at h3
    refine gn4 Z Z Z Z (Y4 Z (Qh Z Z (kc5 hK Z Z Z Z Z ?_)))
    refine Z2 Z (Qr (Qe (ks4 Z Z Z Z (QK fun K hK => Qa Z (XU Z Z Wc (Qa Z (hK _ ?_)))))))
    refine Qi (i - 1) ?_ ?_ ?_
    ·exact Q5 (l := [1, 2, 3, 7]) (lH := [3]) (kp4 rfl rfl rfl rfl) (Qc rfl Qn) (by simp only [List.cons.injEq, Prod.mk.injEq, D.int.injEq, and_true, true_and]; omega) rfl rfl
    ·exact ⟨Wa, by rw [hI.2, MJ (k := ((i : Int) - 1).toNat) Wa Wa (by first | exact .inl h2 | exact .inr (.inl h3) | exact .inr (.inr h4))]⟩
    ·first | omega | (simp only; omega) | (dsimp only; omega)
  ·try rw [h2]
   try simp only [qA] at h2
   refine gn2 Z Z (Qh Z Z (Qa Z (gn4 Z Z Z Z (Y4 Z (Qh Z Z (kc5 hK Z Z Z Z Z ?_))))))
   refine Z2 Z (Qr (Qe (ks4 Z Z Z Z (QK fun K hK => Qa Z (XU Z Z Wc (Qa Z (hK _ ?_)))))))
   refine Qi (i - 1) ?_ ?_ ?_
   ·exact Q5 (l := [1, 2, 3, 7]) (lH := [3]) (kp4 rfl rfl rfl rfl) (Qc rfl Qn) (by simp only [List.cons.injEq, Prod.mk.injEq, D.int.injEq, and_true, true_and]; omega) rfl rfl
   ·exact ⟨Wa, by rw [hI.2, MJ (k := ((i : Int) - 1).toNat) Wa Wa (by first | exact .inl h2 | exact .inr (.inl h3) | exact .inr (.inr h4))]⟩
   ·first | omega | (simp only; omega) | (dsimp only; omega)
 ·try rw [h1]
  try simp only [qA] at h1
  refine Zi (QJ (Qw (QE (ks2 Z Z (Qb fun K hK => QC (cs := [_]) Z Z Z Z (Qa Z (Qv (ZQ hw) Z Z (.inr Z) (Qa Z (kc1 hK Z ?_)))))))))
  refine Qq (QB Z ?_)
  rw [hI.2, show i = 0 by omega]; rfl
theorem Yk {l : List StepT} (hl : l.length <= 10000000) : Ok Tryz.prog 37 [Zn l] (.int .i64 (Zx l)) := by
 refine Ok.ofT ZU Tryz.func37 Qfn (Qgr Z) ?_
 show TW _ _ tf37.body _ _
 refine Qb fun K hK => Qa Z (kc1 hK Z ?_)
 refine QA ?_ -- 0
 refine Qb fun K hK => Qa Z ?_
 first | refine QH rfl QM ?_ | refine QH rfl rfl ?_
 refine ZE Z Z (kc2 hK Z Z ?_)
 refine Qs Z (fun h1 => ?_) (fun h1 => ?_)
 ·try rw [h1]
  try simp only [qA] at h1
  refine Qb fun K hK => Qa Z (kc1 hK Z ?_)
  refine Qq (Qg (QB Z ?_))
  rw [SQ h1]
 ·try rw [h1]
  try simp only [qA] at h1
  refine Qr (ks1 Z (Qb fun K hK => mv2 Z Z ?_))
  first | refine QH rfl QM ?_ | refine QH rfl rfl ?_
  refine XU Z Z Wc (QF Z Z Z Wa (ZN Wa Wa) Z (Q3 Z Z (Qy Z Z Z (Qa Z (kc1 hK Z ?_)))))
  refine Qq (QB Z ?_)
  rw [L8 (k := ((l.length : Int) - 1).toNat) Wa]
theorem KC {l : List StepT} (hl : l.length <= 10000000) {u : Int} : Ok Tryz.prog 65 [Zn l, .int .i64 u] (.bool (Xe l u)) := by
 refine Ok.ofT ZU Tryz.func65 QfP (Qgr Z) ?_
 show TW _ _ tf65.body _ _
 refine Qb fun K hK => Qa Z (kc2 hK Z Z ?_)
 refine QA ?_ -- 0
 refine Qb fun K hK => Qa Z (kc3 hK Z Z Z ?_)
 refine Qz ?_
 refine Zp (ι := Nat) (fun i => ⟨[(0, Zn l), (1, .int .i64 u), (5, .int .i64 i)], []⟩) (fun i => i <= l.length /\ (l.take i).any (fun s => decide (s.u = u) && decide (s.c = -1)) = false) (fun i => l.length - i) 0 ?_ ?_ ?_
 ·exact Q9 (kp3 rfl rfl rfl)
 ·exact ⟨QgD _, by simp⟩
 intro i hI
 try dsimp only
 refine QA ?_ -- 1
 refine Qb fun K hK => mv2 Z Z ?_
 first | refine QH rfl QM ?_ | refine QH rfl rfl ?_
 refine Yh Z Z (kc4 hK Z Z Z Z ?_)
 refine Qs Z (fun h1 => ?_) (fun h1 => ?_)
 ·try rw [h1]
  try simp only [qA] at h1
  refine Qr (ks3 Z Z Z ?_)
  refine QA ?_ -- 2
  refine Qz (Qb fun K hK => mv2 Z Z (QF Z Z Z Wa (QP Wa) Z (Q3 Z Z (Qy Z Z Z (Qa Z (ZE Z Z (Qa Z ?_)))))))
  refine Qu (g := 19) Z (fun h2 => ?_) (fun h2 => ?_)
  ·try rw [h2]
   try simp only [qA] at h2
   refine Qd Z (Qa Z (Qd Z (Qa Z (Qd Z (QF Z Z Z Wa (QP Wa) Z (Qd Z (Q3 Z Z (Qd Z (Qy Z Z Z (Qd Z (ZE Z Z ?_)))))))))))
   refine Qh Z Z (kc4 hK Z Z Z Z ?_)
   refine Qs Z (fun h3 => ?_) (fun h3 => ?_)
   ·try rw [h3]
    try simp only [qA] at h3
    refine Qb fun K hK => Qa Z (kc1 hK Z ?_)
    refine Qq (Qp (Qg (QZ (Qp (Qg (Qm Z ?_))))))
    rw [Xe, Re (i := i) Wa (by simp [h2, h3])]
   ·try rw [h3]
    try simp only [qA] at h3
    refine Qr (Qe (ks3 Z Z Z (QK fun K hK => Qa Z (QX Z Z Wc (Qa Z (hK _ ?_))))))
    refine Qi (i + 1) ?_ ?_ ?_
    ·exact Q9 (kp3 rfl rfl rfl)
    ·exact ⟨Wa, Pv Wa hI.2 (by first | (simp [h2, h3]; done) | (simp [h2]; done))⟩
    ·first | omega | (simp only; omega) | (dsimp only; omega)
  ·try rw [h2]
   try simp only [qA] at h2
   refine gn4 Z Z Z Z (gn2 Z Z (Qh Z Z (kc4 hK Z Z Z Z ?_)))
   refine Z2 Z (Qr (Qe (ks3 Z Z Z (QK fun K hK => Qa Z (QX Z Z Wc (Qa Z (hK _ ?_)))))))
   refine Qi (i + 1) ?_ ?_ ?_
   ·exact Q9 (kp3 rfl rfl rfl)
   ·exact ⟨Wa, Pv Wa hI.2 (by first | (simp [h2, h3]; done) | (simp [h2]; done))⟩
   ·first | omega | (simp only; omega) | (dsimp only; omega)
 ·try rw [h1]
  try simp only [qA] at h1
  refine Zi (QJ (Qw (QE (Zf (ZD) (Qb fun K hK => Qa Z (kc1 hK Z ?_))))))
  refine Qq (Qm Z ?_)
  rw [Xe, Cv (i := i) Wa hI.2]
theorem Hm {m : Int} : Ok Tryz.prog 64 [.int .i64 m] (.int .i64 (X5 m)) := by
 refine Ok.ofT ZU Tryz.func64 QfO (Qgr Z) ?_
 show TW _ _ tf64.body _ _
 refine Qb fun K hK => Qa Z (kc1 hK Z ?_)
 refine Qb fun K hK => Qa Z (Qv (X7) Z Z (.inl Z) (Qa Z (kc1 hK Z ?_)))
 refine QA ?_ -- 0
 refine Qb fun K hK => Qa Z ?_
 first | refine QH rfl QM ?_ | refine QH rfl rfl ?_
 refine X3 Z Z (kc2 hK Z Z ?_)
 refine Qs Z (fun h1 => ?_) (fun h1 => ?_)
 ·try rw [h1]
  try simp only [qA] at h1
  refine Qb fun K hK => Qa Z (kc1 hK Z ?_)
  refine Qq (Qg (QB Z ?_))
  rw [Qbf h1]
 ·try rw [h1]
  try simp only [qA] at h1
  refine Qr (ks1 Z (Qb fun K hK => Qa Z (QF Z Z Z Wa (ZN Wa Wa) Z (Qy Z Z Z (Qa Z (kc1 hK Z ?_))))))
  refine Qq (QB Z ?_)
  rw [BG h1]
theorem Gn {w : Qo} (hw : WSm w) {l : List StepT} (hl : l.length <= 10000000) {s : StepT} : Ok Tryz.prog 38 [Yd w, Zn l, .agg (GI s)] (.bool (Ks w l s)) := by
 refine Ok.ofT ZU Tryz.func38 Qfo (Qgr Z) ?_
 show TW _ _ tf38.body _ _
 refine Qb fun K hK => Zw Z Z Z (Zw Z Z Z (Qa Z (kc3 hK Z Z Z ?_)))
 refine QA ?_ -- 0
 refine Qb fun K hK => Qf Z Z (Qy Z Z Z (Yh Z Z (Qa Z ?_)))
 refine Qu (g := 11) Z (fun h1 => ?_) (fun h1 => ?_)
 ·try rw [h1]
  try simp only [qA] at h1
  refine gn4 Z Z Z Z (gn2 Z Z (Qh Z Z (Qa Z (gn3 Z Z Z (Qh Z Z ?_)))))
  refine kc4 hK Z Z Z Z ?_
  refine Zo Z (Qb fun K hK => Qa Z (kc1 hK Z ?_))
  refine Qq (Qg (Qm Z ?_))
  (repeat clear hK K); first | (rw [Xh Wa]; done) | (rw [Z4 Wa Wa Wa]; simp_all; done) | (rw [Z4 Wa Wa Wa]; simp_all; omega)
 ·try rw [h1]
  try simp only [qA] at h1
  refine Qd Z (Qf Z Z (Qd Z (Qy Z Z Z (Qd Z (Qf Z Z (Qd Z (Qy Z Z Z (Qd Z ?_))))))))
  first | refine QH rfl QM ?_ | refine QH rfl rfl ?_
  refine Qd Z (Mc Z Z (Qh Z Z (Qa Z ?_)))
  refine Qu (g := 19) Z (fun h2 => ?_) (fun h2 => ?_)
  ·try rw [h2]
   try simp only [qA] at h2
   refine gn3 Z Z Z (Qh Z Z (kc4 hK Z Z Z Z ?_))
   refine Zo Z (Qb fun K hK => Qa Z (kc1 hK Z ?_))
   refine Qq (Qg (Qm Z ?_))
   (repeat clear hK K); first | (rw [Xh Wa]; done) | (rw [Z4 Wa Wa Wa]; simp_all; done) | (rw [Z4 Wa Wa Wa]; simp_all; omega)
  ·try rw [h2]
   try simp only [qA] at h2
   refine Qd Z (Qf Z Z (Qd Z (Qy Z Z Z (Qd Z (Yh Z Z (Qh Z Z (kc4 hK Z Z Z Z ?_)))))))
   refine Qs Z (fun h3 => ?_) (fun h3 => ?_)
   ·try rw [h3]
    try simp only [qA] at h3
    refine Qb fun K hK => Qa Z (kc1 hK Z ?_)
    refine Qq (Qg (Qm Z ?_))
    (repeat clear hK K); first | (rw [Xh Wa]; done) | (rw [Z4 Wa Wa Wa]; simp_all; done) | (rw [Z4 Wa Wa Wa]; simp_all; omega)
   ·try rw [h3]
    try simp only [qA] at h3
    refine Qr (ks3 Z Z Z (Qb fun K hK => QC (cs := [_]) Z Z Z Z (Qa Z (Qf Z Z (Qy Z Z Z (Qv (Z6 hw hl) Z Z (.inr Z) (Qa Z (kc3 hK Z Z Z ?_))))))))
    refine QA ?_ -- 1
    refine Qb fun K hK => Qf Z Z (Qy Z Z Z (ZE Z Z (kc4 hK Z Z Z Z ?_)))
    refine Qs Z (fun h4 => ?_) (fun h4 => ?_)
    ·try rw [h4]
     try simp only [qA] at h4
     refine Qb fun K hK => Qf Z Z (QN (ds0 := [26, 25, 24, 23, 22, 21, 20, 19, 18, 17, 16, 15, 14, 13, 12, 11, 10, 9, 8, 7, 6, 5, 4, 3, 2, 1, 0]) Z Z Z Z Z (QR (ds0 := [25, 24, 23, 22, 21, 20, 19, 18, 17, 16, 15, 14, 13, 12, 11, 10, 9, 8, 7, 6, 5, 4, 3, 2, 1, 0]) (Hm) Z Z (.inr Z) Z Z (Mc Z Z (Qa Z ?_))))
     refine Qu (g := 36) Z (fun h5 => ?_) (fun h5 => ?_)
     ·try rw [h5]
      try simp only [qA] at h5
      refine Qd Z (Qf Z Z (Qd Z (QN (ds0 := [20, 17, 16, 15, 14, 13, 12, 11, 10, 9, 8, 7, 6, 5, 4, 3, 2, 1, 0]) Z Z Z Z Z (Qd Z (Qa Z (Qd Z (GV Z Z (Qd Z (Qf Z Z (Qd Z (QN (ds0 := [17, 16, 15, 14, 13, 12, 11, 10, 9, 8, 7, 6, 5, 4, 3, 2, 1, 0]) Z Z Z Z Z ?_)))))))))))
      refine Qd Z (ZE Z Z (Qh Z Z (Qa Z ?_)))
      refine Qu (g := 45) Z (fun h6 => ?_) (fun h6 => ?_)
      ·try rw [h6]
       try simp only [qA] at h6
       refine Qd Z (Qa Z (Qd Z (Qf Z Z (Qd Z (QN (ds0 := [11, 10, 9, 8, 7, 6, 5, 4, 3, 2, 1, 0]) Z Z Z Z Z (Qd Z (QR (ds0 := [10, 9, 8, 7, 6, 5, 4, 3, 2, 1, 0]) (KC hl) Z Z (.inr Z) Z Z (Qd Z (Ya Z (Qh Z Z (Qa Z ?_)))))))))))
       refine Qu (g := 52) Z (fun h7 => ?_) (fun h7 => ?_)
       ·try rw [h7]
        try simp only [qA] at h7
        refine Qd Z (Qf Z Z (Qd Z (QN (ds0 := [2, 1, 0]) Z Z Z Z Z (Qd Z (Qa Z (Qd Z (QR (ds0 := [3, 2, 1, 0]) (Yk hl) Z Z (.inr Z) Z Z (Qd Z (QX Z Z Z (Qd Z (ZE Z Z ?_)))))))))))
        refine Qh Z Z (Qa Z (kc1 hK Z ?_))
        refine Qq (Qg (Qm Z ?_))
        (repeat clear hK K); first | (rw [Xh Wa]; done) | (rw [Z4 Wa Wa Wa]; simp_all; done) | (rw [Z4 Wa Wa Wa]; simp_all; omega)
       ·try rw [h7]
        try simp only [qA] at h7
        refine gn4 Z Z Z Z (gn2 Z Z (Qh Z Z (Qa Z (kc1 hK Z ?_))))
        refine Qq (Qg (Qm Z ?_))
        (repeat clear hK K); first | (rw [Xh Wa]; done) | (rw [Z4 Wa Wa Wa]; simp_all; done) | (rw [Z4 Wa Wa Wa]; simp_all; omega)
      ·try rw [h6]
       try simp only [qA] at h6
       refine gn4 Z Z Z Z (Y4 Z (Qh Z Z (Qa Z (gn4 Z Z Z Z (Y4 Z ?_)))))
       refine Y4 Z (Qh Z Z (Qa Z (kc1 hK Z ?_)))
       refine Qq (Qg (Qm Z ?_))
       (repeat clear hK K); first | (rw [Xh Wa]; done) | (rw [Z4 Wa Wa Wa]; simp_all; done) | (rw [Z4 Wa Wa Wa]; simp_all; omega)
     ·try rw [h5]
      try simp only [qA] at h5
      refine gn4 Z Z Z Z (gn3 Z Z Z (Qh Z Z (Qa Z (gn3 Z Z Z ?_))))
      refine gn2 Z Z (Qh Z Z (Qa Z (gn4 Z Z Z Z (gn2 Z Z (Qh Z Z (Qa Z ?_))))))
      refine kc1 hK Z ?_
      refine Qq (Qg (Qm Z ?_))
      (repeat clear hK K); first | (rw [Xh Wa]; done) | (rw [Z4 Wa Wa Wa]; simp_all; done) | (rw [Z4 Wa Wa Wa]; simp_all; omega)
    ·try rw [h4]
     try simp only [qA] at h4
     refine Qr (ks3 Z Z Z (Qb fun K hK => Qf Z Z (QN (ds0 := [23, 22, 21, 20, 19, 18, 17, 16, 15, 14, 13, 12, 11, 10, 9, 8, 7, 6, 5, 4, 3, 2, 1, 0]) Z Z Z Z Z (X3 Z Z (Qa Z ?_)))))
     refine Qu (g := 63) Z (fun h8 => ?_) (fun h8 => ?_)
     ·try rw [h8]
      try simp only [qA] at h8
      refine Qd Z (Qf Z Z (Qd Z (QN (ds0 := [18, 15, 14, 13, 12, 11, 10, 9, 8, 7, 6, 5, 4, 3, 2, 1, 0]) Z Z Z Z Z (Qd Z (Qa Z (Qd Z (GV Z Z (Qd Z (Qf Z Z (Qd Z (QN (ds0 := [15, 14, 13, 12, 11, 10, 9, 8, 7, 6, 5, 4, 3, 2, 1, 0]) Z Z Z Z Z ?_)))))))))))
      refine Qd Z (ZE Z Z (Qh Z Z (Qa Z ?_)))
      refine Qu (g := 72) Z (fun h9 => ?_) (fun h9 => ?_)
      ·try rw [h9]
       try simp only [qA] at h9
       refine Qd Z (Qf Z Z (Qd Z (QN (ds0 := [9, 8, 7, 6, 5, 4, 3, 2, 1, 0]) Z Z Z Z Z (Qd Z (Qa Z (Qd Z (X3 Z Z (Qh Z Z (Qa Z ?_)))))))))
       refine Qu (g := 78) Z (fun h10 => ?_) (fun h10 => ?_)
       ·try rw [h10]
        try simp only [qA] at h10
        refine Qd Z (Qf Z Z (Qd Z (QN (ds0 := [2, 1, 0]) Z Z Z Z Z (Qd Z (Qa Z (Qd Z (QR (ds0 := [2, 1, 0]) (Yk hl) Z Z (.inr Z) Z Z (Qd Z (ZE Z Z (Qh Z Z (Qa Z ?_)))))))))))
        refine kc1 hK Z ?_
        refine Qq (Qm Z ?_)
        (repeat clear hK K); first | (rw [Xh Wa]; done) | (rw [Z4 Wa Wa Wa]; simp_all; done) | (rw [Z4 Wa Wa Wa]; simp_all; omega)
       ·try rw [h10]
        try simp only [qA] at h10
        refine gn4 Z Z Z Z (Y4 Z (Qh Z Z (Qa Z (kc1 hK Z ?_))))
        refine Qq (Qm Z ?_)
        (repeat clear hK K); first | (rw [Xh Wa]; done) | (rw [Z4 Wa Wa Wa]; simp_all; done) | (rw [Z4 Wa Wa Wa]; simp_all; omega)
      ·try rw [h9]
       try simp only [qA] at h9
       refine gn4 Z Z Z Z (Qh Z Z (Qa Z (gn4 Z Z Z Z (Y4 Z (Qh Z Z ?_)))))
       refine Qa Z (kc1 hK Z ?_)
       refine Qq (Qm Z ?_)
       (repeat clear hK K); first | (rw [Xh Wa]; done) | (rw [Z4 Wa Wa Wa]; simp_all; done) | (rw [Z4 Wa Wa Wa]; simp_all; omega)
     ·try rw [h8]
      try simp only [qA] at h8
      refine gn4 Z Z Z Z (gn3 Z Z Z (Qh Z Z (Qa Z (gn3 Z Z Z ?_))))
      refine Y4 Z (Qh Z Z (Qa Z (gn4 Z Z Z Z (Y4 Z (Qh Z Z (Qa Z (kc1 hK Z ?_)))))))
      refine Qq (Qm Z ?_)
      (repeat clear hK K); first | (rw [Xh Wa]; done) | (rw [Z4 Wa Wa Wa]; simp_all; done) | (rw [Z4 Wa Wa Wa]; simp_all; omega)
theorem Hd {w : Qo} (hw : WSm w) {l : List StepT} (hl : l.length <= 10000000) {t : TermT} {c : Int} : Ok Tryz.prog 13 [Yd w, Zn l, .agg (F2 t), .int .i64 c] (dOS (Yu w l t c)) := by
 refine Ok.ofT ZU Tryz.func13 Qe0 (Qgr Z) ?_
 show TW _ _ tf13.body _ _
 refine Qb fun K hK => Zw Z Z Z (Zw Z Z Z (mv2 Z Z (kc4 hK Z Z Z Z ?_)))
 refine QA ?_ -- 0
 refine Qb fun K hK => Qa Z (Yh Z Z (Qa Z ?_))
 refine Qu (g := 14) Z (fun h1 => ?_) (fun h1 => ?_)
 ·try rw [h1]
  try simp only [qA] at h1
  refine gn3 Z Z Z (Qh Z Z (Qa Z (gn4 Z Z Z Z (gn2 Z Z (Qh Z Z ?_)))))
  refine kc5 hK Z Z Z Z Z ?_
  refine Zo Z (Qb fun K hK => mv2 Z Z (kc2 hK Z Z ?_))
  refine Qq (Qg ?_)
  rw [HV Wa]
  exact QS rfl rfl ⟨rfl, rfl⟩
 ·try rw [h1]
  try simp only [qA] at h1
  refine Qd Z (Qf Z Z (Qd Z (Qy Z Z Z (Qd Z (Yh Z Z (Qh Z Z (Qa Z ?_)))))))
  refine Qu (g := 19) Z (fun h2 => ?_) (fun h2 => ?_)
  ·try rw [h2]
   try simp only [qA] at h2
   refine gn4 Z Z Z Z (gn2 Z Z (Qh Z Z (kc5 hK Z Z Z Z Z ?_)))
   refine Zo Z (Qb fun K hK => mv2 Z Z (kc2 hK Z Z ?_))
   refine Qq (Qg ?_)
   rw [HV Wa]
   exact QS rfl rfl ⟨rfl, rfl⟩
  ·try rw [h2]
   try simp only [qA] at h2
   refine Qd Z (Qf Z Z (Qd Z (Qy Z Z Z (Qd Z (Qf Z Z (Qd Z (Qy Z Z Z (Qd Z ?_))))))))
   first | refine QH rfl QM ?_ | refine QH rfl rfl ?_
   refine Qd Z (Mc Z Z (Qh Z Z (kc5 hK Z Z Z Z Z ?_)))
   refine Qs Z (fun h3 => ?_) (fun h3 => ?_)
   ·try rw [h3]
    try simp only [qA] at h3
    refine Qb fun K hK => mv2 Z Z (kc2 hK Z Z ?_)
    refine Qq (Qg ?_)
    rw [HV Wa]
    exact QS rfl rfl ⟨rfl, rfl⟩
   ·try rw [h3]
    try simp only [qA] at h3
    refine Qr (ks4 Z Z Z Z (Qb fun K hK => QC (cs := [_]) Z Z Z Z (Qa Z (Qf Z Z (Qy Z Z Z (Qv (Z6 hw hl) Z Z (.inr Z) (Qa Z (kc4 hK Z Z Z Z ?_))))))))
    refine Qb fun K hK => Qf Z Z (QN (ds0 := [2, 0]) Z Z Z Z Z (mv2 Z Z (Qf Z Z (QN (ds0 := [7, 6, 2, 0]) Z Z Z Z Z (GV Z Z (XU Z Z Z (Qa Z (QR (ds0 := [2, 0]) (Yk hl) Z Z (.inr Z) Z Z (Qa Z ?_)))))))))
    refine QQ Z Z (ZI Z (Xr (ds0 := []) Z Z Z Z Z Z Z Z Z Z (kc3 hK Z Z Z ?_)))
    refine QA ?_ -- 1
    refine Qb fun K hK => Qf Z Z (Qy Z Z Z (ZE Z Z (Qa Z ?_)))
    refine Qu (g := 47) Z (fun h4 => ?_) (fun h4 => ?_)
    ·try rw [h4]
     try simp only [qA] at h4
     refine gn4 Z Z Z Z (Qh Z Z (kc3 hK Z Z Z ?_))
     refine Zo Z (Qb fun K hK => mv2 Z Z (kc2 hK Z Z ?_))
     refine Qq (Qg ?_)
     rw [KF (by first | exact .inl h4 | exact .inr h5)]
     exact QS rfl rfl ⟨rfl, rfl⟩
    ·try rw [h4]
     try simp only [qA] at h4
     refine Qd Z (Qf Z Z (Qd Z (Qy Z Z Z (Qd Z (Qa Z (Qd Z (ZE Z Z (Qh Z Z (kc3 hK Z Z Z ?_)))))))))
     refine Qs Z (fun h5 => ?_) (fun h5 => ?_)
     ·try rw [h5]
      try simp only [qA] at h5
      refine Qb fun K hK => mv2 Z Z (kc2 hK Z Z ?_)
      refine Qq (Qg ?_)
      rw [KF (by first | exact .inl h4 | exact .inr h5)]
      exact QS rfl rfl ⟨rfl, rfl⟩
     ·try rw [h5]
      try simp only [qA] at h5
      refine Qr (ks2 Z Z (Qb fun K hK => Qa Z (FR (ds0 := [2, 1]) Z Z (fun _ h => ⟨Po, h⟩) Z (.inl Z) Wf Wh Wh Z Z (QI (ds0 := [3, 2, 1]) (cs := [_, _, _, _]) Z Z Z Z Z Z (QD Z Z (Hh (ds0 := [1]) Z Z Wn ⟨_, rfl, rfl, rfl, rfl, rfl⟩ Z Z Wf Z Z Wh Wh Z Z (mv2 Z Z (kc2 hK Z Z ?_))))))))
      refine Qq ?_
      rw [PB Wa (MD Wa Wa) h4 h5]
      exact M0 rfl rfl rfl Wf (by simp [Zn, GI]) rfl rfl
theorem Hc {w : Qo} (hw : WSm w) {l : List StepT} (hl : l.length <= 10000000) {u p : Int} : Ok Tryz.prog 11 [Yd w, Zn l, .int .i64 u, .int .i64 p] (dOS (Yq w l u p)) := by
 refine Ok.ofT ZU Tryz.func11 QeY (Qgr Z) ?_
 show TW _ _ tf11.body _ _
 refine Qb fun K hK => Zw Z Z Z (mv2 Z Z (kc4 hK Z Z Z Z ?_))
 refine QA ?_ -- 0
 refine Qb fun K hK => Qa Z (Yh Z Z (Qa Z ?_))
 refine Qu (g := 13) Z (fun h1 => ?_) (fun h1 => ?_)
 ·try rw [h1]
  try simp only [qA] at h1
  refine gn4 Z Z Z Z (Y4 Z (Qh Z Z (Qa Z (gn2 Z Z (Qh Z Z (Qa Z (Y4 Z ?_)))))))
  refine gn4 Z Z Z Z (gn4 Z Z Z Z (Qh Z Z (kc5 hK Z Z Z Z Z ?_)))
  refine Zo Z (Qb fun K hK => mv2 Z Z (kc2 hK Z Z ?_))
  refine Qq (Qg ?_)
  rw [F3 Wa]
  exact QS rfl rfl ⟨rfl, rfl⟩
 ·try rw [h1]
  try simp only [qA] at h1
  refine Qd Z (Qa Z (Qd Z (Qf Z Z (Qd Z (Qy Z Z Z (Qd Z ?_))))))
  first | refine QH rfl QM ?_ | refine QH rfl rfl ?_
  refine Qd Z (Mc Z Z (Qh Z Z (Qa Z ?_)))
  refine Qu (g := 20) Z (fun h2 => ?_) (fun h2 => ?_)
  ·try rw [h2]
   try simp only [qA] at h2
   refine gn2 Z Z (Qh Z Z (Qa Z (gn4 Z Z Z Z (gn4 Z Z Z Z ?_))))
   refine Y4 Z (Qh Z Z (kc5 hK Z Z Z Z Z ?_))
   refine Zo Z (Qb fun K hK => mv2 Z Z (kc2 hK Z Z ?_))
   refine Qq (Qg ?_)
   rw [F3 Wa]
   exact QS rfl rfl ⟨rfl, rfl⟩
  ·try rw [h2]
   try simp only [qA] at h2
   refine Qd Z (Qa Z (Qd Z (Yh Z Z (Qh Z Z (Qa Z ?_)))))
   refine Qu (g := 24) Z (fun h3 => ?_) (fun h3 => ?_)
   ·try rw [h3]
    try simp only [qA] at h3
    refine gn4 Z Z Z Z (gn4 Z Z Z Z (Y4 Z (Qh Z Z (kc5 hK Z Z Z Z Z ?_))))
    refine Zo Z (Qb fun K hK => mv2 Z Z (kc2 hK Z Z ?_))
    refine Qq (Qg ?_)
    rw [F3 Wa]
    exact QS rfl rfl ⟨rfl, rfl⟩
   ·try rw [h3]
    try simp only [qA] at h3
    refine Qd Z (Qa Z (Qd Z (Qf Z Z (Qd Z (Qy Z Z Z (Qd Z (Qa Z (Qd Z (QF Z Z Z Wa (ZN Wa Wa) Z (Qd Z (Q3 Z Z ?_)))))))))))
    refine Qd Z (Qy Z Z Z (Qd Z ?_))
    first | refine QH rfl QM ?_ | refine QH rfl rfl ?_
    refine Qd Z (Mc Z Z (Qh Z Z (kc5 hK Z Z Z Z Z ?_)))
    refine Qs Z (fun h4 => ?_) (fun h4 => ?_)
    ·try rw [h4]
     try simp only [qA] at h4
     refine Qb fun K hK => mv2 Z Z (kc2 hK Z Z ?_)
     refine Qq (Qg ?_)
     rw [DU Wa Wa Wa]
     exact QS rfl rfl ⟨rfl, rfl⟩
    ·try rw [h4]
     try simp only [qA] at h4
     refine Qr (ks4 Z Z Z Z (Qb fun K hK => mv2 Z Z (Sj Z (N9 Wa (by have := hw.cs _ (Qgw (Wa : u.toNat < w.length)); omega)) (Qan Z Z Wa Z (Qa Z (Qv (Yk hl) Z Z (.inr Z) (QX Z Z Z (QQ Z Z (ZI Z ?_)))))))))
     refine Q1 Z Z Z Z Z Z Z Z (kc3 hK Z Z Z ?_)
     refine QA ?_ -- 1
     refine Qb fun K hK => QC (cs := [_]) Z Z Z Z (Qa Z (QC (cs := [_, _, _, _]) Z Z Z Z (Qv (Gn (s := Qcv l u p) hw hl) Z Z (.inr Z) (Ya Z (kc3 hK Z Z Z ?_)))))
     refine Qs Z (fun h5 => ?_) (fun h5 => ?_)
     ·try rw [h5]
      try simp only [qA] at h5
      refine Qb fun K hK => mv2 Z Z (kc2 hK Z Z ?_)
      refine Qq (Qg ?_)
      rw [CI h5]
      exact QS rfl rfl ⟨rfl, rfl⟩
     ·try rw [h5]
      try simp only [qA] at h5
      refine Qr (ks2 Z Z (Qb fun K hK => Qa Z (FR (ds0 := [2, 1]) Z Z (fun _ h => ⟨Po, h⟩) Z (.inl Z) Wf Wh Wh Z Z (QI (ds0 := [3, 2, 1]) (cs := [_, _, _, _]) Z Z Z Z Z Z (QD Z Z (Hh (ds0 := [1]) Z Z Wn ⟨_, rfl, rfl, rfl, rfl, rfl⟩ Z Z Wf Z Z Wh Wh Z Z (mv2 Z Z (kc2 hK Z Z ?_))))))))
      refine Qq ?_
      rw [DW Wa Wa Wa Wa h5]
      exact M0 rfl rfl rfl Wf (by simp [Zn, GI, Qcv]; rfl) rfl rfl
theorem Gl {w : Qo} (hw : WSm w) {l : List StepT} (hl : l.length <= 10000000) {inc : List TermT} (hi : inc.length <= 1000000) : Ok Tryz.prog 78 [Yd w, Zn l, ZL inc] (.bool (GN w l inc)) := by
 refine Ok.ofT ZU Tryz.func78 Qf2 (Qgr Z) ?_
 show TW _ _ tf78.body _ _
 refine Qb fun K hK => Zw Z Z Z (Qa Z (kc3 hK Z Z Z ?_))
 refine QA ?_ -- 0
 refine Qb fun K hK => Qa Z (kc4 hK Z Z Z Z ?_)
 refine Qz ?_
 refine Zp (ι := Nat) (fun i => ⟨[(1, Zn l), (2, ZL inc), (3, .ref 3 0 0), (7, .int .i64 i)], [(3, ⟨[[.sl ((w).map YY)]], 1, 28, true⟩)]⟩) (fun i => i <= inc.length /\ (inc.take i).all (fun t => decide (J5 (Zc w l t.u) t.m = 2)) = true) (fun i => inc.length - i) 0 ?_ ?_ ?_
 ·exact Q5 (l := [1, 2, 3, 7]) (lH := [3]) (kp4 rfl rfl rfl rfl) (Qc rfl Qn) rfl rfl rfl
 ·exact ⟨QgD _, by simp⟩
 intro i hI
 try dsimp only
 refine QA ?_ -- 1
 refine Qb fun K hK => mv2 Z Z ?_
 first | refine QH rfl QM ?_ | refine QH rfl rfl ?_
 refine Yh Z Z (kc5 hK Z Z Z Z Z ?_)
 refine Qs Z (fun h1 => ?_) (fun h1 => ?_)
 ·try rw [h1]
  try simp only [qA] at h1
  refine Qr (ks4 Z Z Z Z ?_)
  refine QA ?_ -- 2
  refine Qz (Qb fun K hK => QI (ds0 := [7, 1, 0]) (cs := [_]) Z Z Z Z Z Z (mv2 Z Z (Qa Z (QF Z Z Z Wa (QP Wa) Z (Q3 Z Z (QN (ds0 := [7, 1, 0]) Z Z Z Z Z (QR (ds0 := [1, 0]) (Z6 hw hl) Z Z (.inr Z) Z Z (mv2 Z Z ?_))))))))
  refine QF Z Z Z Wa (QP Wa) Z (Q3 Z Z (QN (ds0 := [1, 0]) Z Z Z Z Z (QR (ds0 := [0]) (XY) Z Z (.inr Z) Z Z (X3 Z Z (kc5 hK Z Z Z Z Z ?_)))))
  refine Qs Z (fun h2 => ?_) (fun h2 => ?_)
  ·try rw [h2]
   try simp only [qA] at h2
   refine Qb fun K hK => Qa Z (kc1 hK Z ?_)
   refine Qq (Qp (Qg (QZ (Qp (Qg (Qm Z ?_))))))
   rw [GN, XV (i := i) Wa (by simpa using h2)]
  ·try rw [h2]
   try simp only [qA] at h2
   refine Qr (Qe (ks4 Z Z Z Z (QK fun K hK => Qa Z (QX Z Z Wc (Qa Z (hK _ ?_))))))
   refine Qi (i + 1) ?_ ?_ ?_
   ·exact Q5 (l := [1, 2, 3, 7]) (lH := [3]) (kp4 rfl rfl rfl rfl) (Qc rfl Qn) rfl rfl rfl
   ·exact ⟨Wa, Yf Wa hI.2 (by simpa using h2)⟩
   ·first | omega | (simp only; omega) | (dsimp only; omega)
 ·try rw [h1]
  try simp only [qA] at h1
  refine Zi (QJ (Qw (QE (Zf (ZD) (Qb fun K hK => Qa Z (kc1 hK Z ?_))))))
  refine Qq (Qm Z ?_)
  rw [GN, XL (i := i) Wa hI.2]
theorem Gm {w : Qo} (hw : WSm w) {l : List StepT} (hl : l.length <= 10000000) {inc : List TermT} (hi : inc.length <= 1000000) : Ok Tryz.prog 79 [Yd w, Zn l, ZL inc] (.int .i64 (MS w l inc)) := by
 refine Ok.ofT ZU Tryz.func79 Qf3 (Qgr Z) ?_
 show TW _ _ tf79.body _ _
 refine Qb fun K hK => Zw Z Z Z (Qa Z (kc3 hK Z Z Z ?_))
 refine Qb fun K hK => Qa Z (kc4 hK Z Z Z Z ?_)
 refine QA ?_ -- 0
 refine Qb fun K hK => Qa Z (kc5 hK Z Z Z Z Z ?_)
 refine Qz ?_
 refine Zp (ι := Nat × Int) (fun ⟨i, a⟩ => ⟨[(1, Zn l), (2, ZL inc), (3, .ref 3 0 0), (7, .int .i64 a), (8, .int .i64 i)], [(3, ⟨[[.sl ((w).map YY)]], 1, 28, true⟩)]⟩) (fun ⟨i, a⟩ => i <= inc.length /\ Xx (Zc w l) inc (-1) = Xx (Zc w l) (inc.drop i) a) (fun ⟨i, a⟩ => inc.length - i) (0, -1) ?_ ?_ ?_
 ·exact Q5 (l := [1, 2, 3, 7, 8]) (lH := [3]) (kp5 rfl rfl rfl rfl rfl) (Qc rfl Qn) rfl rfl rfl
 ·exact ⟨QgD _, by simp⟩
 intro ⟨i, a⟩ hI
 dsimp only at hI
 try dsimp only
 refine QA ?_ -- 1
 refine Qb fun K hK => mv2 Z Z ?_
 first | refine QH rfl QM ?_ | refine QH rfl rfl ?_
 refine Yh Z Z (kc6 hK Z Z Z Z Z Z ?_)
 refine Qs Z (fun h1 => ?_) (fun h1 => ?_)
 ·try rw [h1]
  try simp only [qA] at h1
  refine Qr (ks5 Z Z Z Z Z ?_)
  refine QA ?_ -- 2
  refine Qz (Qb fun K hK => QI (ds0 := [6, 0]) (cs := [_]) Z Z Z Z Z Z (mv2 Z Z (Qa Z (QF Z Z Z Wa (QP Wa) Z (Q3 Z Z (QN (ds0 := [6, 0]) Z Z Z Z Z (QR (ds0 := [0]) (Z6 hw hl) Z Z (.inr Z) Z Z (mv2 Z Z ?_))))))))
  refine QF Z Z Z Wa (QP Wa) Z (Q3 Z Z (QN (ds0 := [0]) Z Z Z Z Z (QR (ds0 := []) (XY) Z Z (.inr Z) Z Z (kc6 hK Z Z Z Z Z Z ?_))))
  refine Qz (Qb fun K hK => ZE Z Z (Qa Z (kc7 hK Z Z Z Z Z Z Z ?_)))
  refine Qs Z (fun h2 => ?_) (fun h2 => ?_)
  ·try rw [h2]
   try simp only [qA] at h2
   refine Qb fun K hK => Qa Z (kc1 hK Z ?_)
   refine Qq (Qp (Qp (Qg (QZ (Qp (Qg (QB Z ?_)))))))
   rw [MS, hI.2, KT Wa, if_pos h2]
  ·try rw [h2]
   try simp only [qA] at h2
   refine Qb fun K hK => ZE Z Z (Qa Z (kc6 hK Z Z Z Z Z Z ?_))
   refine Qs Z (fun h3 => ?_) (fun h3 => ?_)
   ·try rw [h3]
    try simp only [qA] at h3
    refine QA ?_ -- 3
    refine Qb fun K hK => Qa Z (Mc Z Z (kc5 hK Z Z Z Z Z ?_))
    refine Qs Z (fun h4 => ?_) (fun h4 => ?_)
    ·try rw [h4]
     try simp only [qA] at h4
     refine Qb fun K hK => Qa Z (kc1 hK Z ?_)
     refine Qq (Qg (Qp (Qp (Qg (QZ (Qp (Qg (QB Z ?_))))))))
     rw [MS, hI.2, KT Wa, if_neg h2, if_pos h3, if_pos h4]
    ·try rw [h4]
     try simp only [qA] at h4
     refine Qr (ks4 Z Z Z Z (QK fun K hK => mv2 Z Z (QF Z Z Z Wa (QP Wa) Z (Q3 Z Z (Qy Z Z Z (Qa Z (hK _ ?_)))))))
     refine Qe (Qe (ks5 Z Z Z Z Z (QK fun K hK => Qa Z (QX Z Z Wc (Qa Z (hK _ ?_))))))
     refine Qi (i + 1, (inc[i]'Wa).u) ?_ ?_ ?_
     ·exact Q5 (l := [1, 2, 3, 7, 8]) (lH := [3]) (kp5 rfl rfl rfl rfl rfl) (Qc rfl Qn) rfl rfl rfl
     ·exact ⟨Wa, by rw [hI.2, KT Wa, if_neg h2, if_pos h3, if_neg h4]⟩
     ·show inc.length - (i + 1) < inc.length - i; omega
   ·try rw [h3]
    try simp only [qA] at h3
    refine Qr (Qe (Qe (ks5 Z Z Z Z Z (QK fun K hK => Qa Z (QX Z Z Wc (Qa Z (hK _ ?_)))))))
    refine Qi (i + 1, a) ?_ ?_ ?_
    ·exact Q5 (l := [1, 2, 3, 7, 8]) (lH := [3]) (kp5 rfl rfl rfl rfl rfl) (Qc rfl Qn) rfl rfl rfl
    ·exact ⟨Wa, by rw [hI.2, KT Wa, if_neg h2, if_neg h3]⟩
    ·show inc.length - (i + 1) < inc.length - i; omega
 ·try rw [h1]
  try simp only [qA] at h1
  refine Zi (QJ (Qw (QE (ks1 Z (Qb fun K hK => mv2 Z Z (kc1 hK Z ?_))))))
  refine Qq (QB Z ?_)
  rw [MS, hI.2, S5 Wa]
theorem Gk {w : Qo} (hw : WSm w) {db : List (List TermT)} (hd : db.length <= 100000000) (hi : ∀ x ∈ db, x.length <= 1000000) {l : List StepT} (hl : l.length <= 10000000) : Ok Tryz.prog 53 [Yd w, dDb db, Zn l] (.tup [.int .i64 (Yv w db l).1, .int .i64 (Yv w db l).2]) := by
 refine Ok.ofT ZU Tryz.func53 QfD (Qgr Z) ?_
 show TW _ _ tf53.body _ _
 refine Qb fun K hK => Zw Z Z Z (mv2 Z Z (kc3 hK Z Z Z ?_))
 refine QA ?_ -- 0
 refine Qb fun K hK => Qa Z (kc4 hK Z Z Z Z ?_)
 refine Qz ?_
 refine Zp (ι := Nat) (fun i => ⟨[(1, dDb db), (2, Zn l), (3, .ref 3 0 0), (8, .int .i64 i)], [(3, ⟨[[.sl ((w).map YY)]], 1, 28, true⟩)]⟩) (fun i => i <= db.length /\ Yv w db l = Xg w l i (db.drop i)) (fun i => db.length - i) 0 ?_ ?_ ?_
 ·exact Q5 (l := [1, 2, 3, 8]) (lH := [3]) (kp4 rfl rfl rfl rfl) (Qc rfl Qn) rfl rfl rfl
 ·exact ⟨QgD _, rfl⟩
 intro i hI
 try dsimp only
 refine QA ?_ -- 1
 refine Qb fun K hK => mv2 Z Z ?_
 first | refine QH rfl QM ?_ | refine QH rfl rfl ?_
 refine Yh Z Z (kc5 hK Z Z Z Z Z ?_)
 refine Qs Z (fun h1 => ?_) (fun h1 => ?_)
 ·try rw [h1]
  try simp only [qA] at h1
  refine Qr (ks4 Z Z Z Z ?_)
  refine QA ?_ -- 2
  refine Qz ?_
  refine QA ?_ -- 3
  refine Qb fun K hK => QI (ds0 := [0]) (cs := [_]) Z Z Z Z Z Z (mv2 Z Z (Qa Z (QF Z Z Z Wa (QP Wa) Z (QN (ds0 := [0]) Z Z Z Z Z (QR (ds0 := []) (Gl hw hl (hi _ (Qgw Wa))) Z Z (.inr Z) Z Z (kc5 hK Z Z Z Z Z ?_))))))
  refine Qs Z (fun h2 => ?_) (fun h2 => ?_)
  ·try rw [h2]
   try simp only [qA] at h2
   refine Qb fun K hK => mv2 Z Z (Qa Z (kc2 hK Z Z ?_))
   refine Qq (Qg (Qp (Qg (QZ (Qp (Qg ?_))))))
   rw [hI.2, Lh Wa, if_pos h2]
   exact QS rfl rfl ⟨rfl, rfl⟩
  ·try rw [h2]
   try simp only [qA] at h2
   refine Qr (ks4 Z Z Z Z (Qb fun K hK => QI (ds0 := [1, 0]) (cs := [_]) Z Z Z Z Z Z (mv2 Z Z (Qa Z (QF Z Z Z Wa (QP Wa) Z (QN (ds0 := [1, 0]) Z Z Z Z Z (QR (ds0 := [0]) (Gm hw hl (hi _ (Qgw Wa))) Z Z (.inr Z) Z Z (Qa Z (kc5 hK Z Z Z Z Z ?_)))))))))
   refine Qb fun K hK => Qa Z (Mc Z Z (kc6 hK Z Z Z Z Z Z ?_))
   refine Qs Z (fun h3 => ?_) (fun h3 => ?_)
   ·try rw [h3]
    try simp only [qA] at h3
    refine Qb fun K hK => mv2 Z Z (mv2 Z Z (kc2 hK Z Z ?_))
    refine Qq (Qp (Qg (QZ (Qp (Qg ?_)))))
    rw [hI.2, Lh Wa, if_neg (by rw [h2]; simp), if_pos h3]
    exact QS rfl rfl ⟨rfl, rfl⟩
   ·try rw [h3]
    try simp only [qA] at h3
    refine Qr (Qe (ks4 Z Z Z Z (QK fun K hK => Qa Z (QX Z Z Wc (Qa Z (hK _ ?_))))))
    refine Qi (i + 1) ?_ ?_ ?_
    ·exact Q5 (l := [1, 2, 3, 8]) (lH := [3]) (kp4 rfl rfl rfl rfl) (Qc rfl Qn) rfl rfl rfl
    ·exact ⟨Wa, by rw [hI.2, Lh Wa, if_neg (by rw [h2]; simp), if_neg h3]⟩
    ·first | omega | (simp only; omega) | (dsimp only; omega)
 ·try rw [h1]
  try simp only [qA] at h1
  refine Zi (QJ (Qw (QE (Zf (ZD) (Qb fun K hK => mv2 Z Z (kc2 hK Z Z ?_))))))
  refine Qq ?_
  rw [hI.2, Qbo Wa]
  exact QS rfl rfl ⟨rfl, rfl⟩
end Go.Proofs
namespace M25
open Go Go.Abs M3
def Qay (w : Qo) (i : Nat) : List (List TermT) := ((Fs w).take i).map RowT.t
theorem Ro {w : Qo} {i : Nat} (h : i < (Fs w).length) : Qay w (i + 1) = Qay w i ++ [(Fs w)[i].t] := by
 rw [Qay, List.take_succ_eq_append_getElem h, List.map_append]; rfl
theorem QbO {w : Qo} {i : Nat} (h : (Fs w).length <= i) : Qay w i = mDB w := by rw [Qay, QgH h]; rfl
theorem Qaz (w : Qo) (i : Nat) : (Qay w i).length <= (Fs w).length := by rw [Qay, List.length_map]; exact List.length_take_le' ..
theorem Qar {w : Qo} (hw : WSm w) (h0 : 0 < w.length) : (Fs w).length <= 1600000 := by
 have := (HN hw h0 w.length (Nat.le_refl _)).2
 have := hw.len
 rw [Fs]; omega
theorem BR {w : Qo} {db : List (List TermT)} : ∀ (n : Nat) (out : List StepT), (NH w db n out).1.length <= out.length + n
 | 0, out => Nat.le_refl _
 | n + 1, out => by
  rw [NH]
  split
  ·simp
  ·refine QgK (BR n _) ?_
   have := PA w out ⟨(Yv w db out).2, Fw w (db.getD (Yv w db out).1.toNat []) (Yv w db out).2⟩ (Yv w db out).1
   omega
theorem Tz {v : Int} (h : (v + 1).toNat <= 61) : IntKind.i64.wrap ((1 : Int) * 2 ^ min (v + 1).toNat IntKind.i64.bits) = 2 ^ (v + 1).toNat := by
 rw [show min (v + 1).toNat IntKind.i64.bits = (v + 1).toNat from by simp only [IntKind.bits]; omega, Int.one_mul]
 have := RZ (i := (v + 1).toNat) Wa
 exact Ql Wa Wa
theorem BX {α : Type} {f : α -> List D} {l : List α} {k : Int} (h : k = (l.length : Int)) : ((l.map f).take k.toNat).drop (((0 : Nat) : Int)).toNat = l.map f := by
 subst h; rw [Int.toNat_natCast, QgH Wf]; rfl
end M25
namespace Go.Proofs
open Go Go.Abs M3 M25
theorem GD {w : Qo} (hw : WSm w) {db : List (List TermT)} (hd : db.length <= 100000000) (hi : ∀ x ∈ db, x.length <= 1000000) {l : List StepT} (hl : l.length <= 1000000) : Ok Tryz.prog 27 [Yd w, dDb db, Zn l] (.tup [Zn (MU w db l).1, .int .i64 (MU w db l).2]) := by
 refine Ok.ofT ZU Tryz.func27 Qfd (Qgr Z) ?_
 show TW _ _ tf27.body _ _
 have hn := hw.len
 refine Qb fun K hK => Zw Z Z Z (mv2 Z Z (kc3 hK Z Z Z ?_))
 refine Qb fun K hK => Qa Z (QbD Z Z (fun _ h => B3 Po h) Z (.inl Z) Wf Wh Wh (Qa Z (kc3 hK Z Z Z ?_)))
 refine QA ?_ -- 0
 refine Qb fun K hK => Qa Z (kc4 hK Z Z Z Z ?_)
 refine Qz ?_
 refine Zp (ι := Nat × List StepT) (fun ⟨n, out⟩ => ⟨[(1, dDb db), (3, .ref 3 0 0), (8, Zn out), (9, .int .i64 n)], [(3, ⟨[[.sl ((w).map YY)]], 1, 28, true⟩)]⟩) (fun ⟨n, out⟩ => n <= w.length * 18 + 1 /\ out.length <= l.length + n /\ MU w db l = NH w db (w.length * 18 + 1 - n) out) (fun ⟨n, out⟩ => w.length * 18 + 1 - n) (0, l) ?_ ?_ ?_
 ·exact le_trans (L6 (l := [1, 3, 9]) (lH := [3]) 13 8 (kp3 rfl rfl rfl) (Qc rfl Qn) rfl rfl rfl Wf rfl rfl rfl rfl) (Q5 (l := [1, 3, 8, 9]) (lH := [3]) (kp4 rfl rfl rfl rfl) (Qc rfl Qn) rfl rfl rfl)
 ·exact ⟨QgD _, Nat.le_refl _, rfl⟩
 intro ⟨n, out⟩ hI
 obtain ⟨hI1, hI2, hI3⟩ := hI
 try dsimp only at hI1 hI2 hI3
 try dsimp only
 refine QA ?_ -- 1
 refine Qb fun K hK => Qa Z (Qf Z Z (Qy Z Z Z ?_))
 first | refine QH rfl QM ?_ | refine QH rfl rfl ?_
 refine Qcb Z Z Wc (Qca Z Z (kc5 hK Z Z Z Z Z ?_))
 refine Qs Z (fun h1 => ?_) (fun h1 => ?_)
 ·try rw [h1]
  try simp only [qA] at h1
  refine Qr (ks4 Z Z Z Z ?_)
  refine QA ?_ -- 2
  refine Qz (Qb fun K hK => QC (cs := [_]) Z Z Z Z (mv2 Z Z (Qv (Gk hw hd hi Wa) Z Z (.inl Z) (Qa Z (Q0 Z Z (Q0 Z Z (mv2 Z Z (kc6 hK Z Z Z Z Z Z ?_))))))))
  refine QA ?_ -- 3
  refine Qb fun K hK => Qa Z (Yh Z Z (kc7 hK Z Z Z Z Z Z Z ?_))
  refine Qs Z (fun h2 => ?_) (fun h2 => ?_)
  ·try rw [h2]
   try simp only [qA] at h2
   try have hu := Tg h2
   refine Qb fun K hK => mv2 Z Z (mv2 Z Z (kc2 hK Z Z ?_))
   refine Qq (Qg (Qp (Qg (QZ (Qp (Qg ?_))))))
   rw [hI3, Ce h2 Wa]
   exact QS rfl rfl ⟨rfl, rfl⟩
  ·try rw [h2]
   try simp only [qA] at h2
   try have hu := Tg h2
   refine Qr (ks6 Z Z Z Z Z Z (QK fun K hK => QI (ds0 := [4, 3, 2, 1, 0]) (cs := [_]) Z Z Z Z Z Z (mv2 Z Z (QI (ds0 := [7, 6, 4, 3, 2, 1, 0]) (cs := [_]) Z Z Z Z Z Z (mv2 Z Z (QF Z Z Z Wa (ZN Wa Wa) Z (QN (ds0 := [7, 6, 4, 3, 2, 1, 0]) Z Z Z Z Z (Qa Z ?_))))))))
   refine QR (ds0 := [6, 4, 3, 2, 1, 0]) (Y6 hw (hi _ (Qgw Wa))) Z Z (.inr Z) Z Z (QQ Z Z (Qa Z (QR (ds0 := [3, 2, 1, 0]) (Hd (t := ⟨(Yv w db out).2, Fw w (db[(Yv w db out).1.toNat]'Wa) (Yv w db out).2⟩) hw Wa) Z Z (.inl Z) Z Z (Qa Z (Q0 Z Z (Q0 Z Z (Qa Z (hK _ ?_))))))))
   refine Qe (ks4 Z Z Z Z (QK fun K hK => Qa Z (QX Z Z Wc (Qa Z (hK _ ?_)))))
   refine Qi (n + 1, (Yu w out ⟨(Yv w db out).2, Fw w (db[(Yv w db out).1.toNat]'Wa) (Yv w db out).2⟩ (Yv w db out).1).getD []) ?_ ?_ ?_
   ·exact Q5 (l := [1, 3, 8, 9]) (lH := [3]) (kp4 rfl rfl rfl rfl) (Qc rfl Qn) rfl rfl rfl
   ·exact ⟨Wa, by have := PA w out ⟨(Yv w db out).2, Fw w (db[(Yv w db out).1.toNat]'Wa) (Yv w db out).2⟩ (Yv w db out).1; simp only; omega, by rw [hI3, Qbm h2 Wa Wa, show w.length * 18 + 1 - (n + 1) = w.length * 18 + 1 - n - 1 by omega]⟩
   ·show w.length * 18 + 1 - (n + 1) < w.length * 18 + 1 - n; omega
 ·try rw [h1]
  try simp only [qA] at h1
  refine Zi (QJ (Qw (QE (ks1 Z (Qb fun K hK => mv2 Z Z (Qa Z (kc2 hK Z Z ?_)))))))
  refine Qq ?_
  rw [hI3, show w.length * 18 + 1 - n = 0 by omega]
  exact QS rfl rfl ⟨rfl, rfl⟩
theorem Z0 {a b : List StepT} (ha : a.length <= 10000000) : Ok Tryz.prog 14 [Zn a, Zn b] (.bool (decide (a = b))) := by
 refine Ok.ofT ZU Tryz.func14 Qe1 (Qgr Z) ?_
 show TW _ _ tf14.body _ _
 refine Qb fun K hK => Qa Z (kc2 hK Z Z ?_)
 refine QA ?_ -- 0
 refine Qb fun K hK => Qa Z ?_
 first | refine QH rfl QM ?_ | refine QH rfl rfl ?_
 refine Qa Z ?_
 first | refine QH rfl QM ?_ | refine QH rfl rfl ?_
 refine X3 Z Z (kc3 hK Z Z Z ?_)
 refine Qs Z (fun h1 => ?_) (fun h1 => ?_)
 ·try rw [h1]
  try simp only [qA] at h1
  refine Qb fun K hK => Qa Z (kc1 hK Z ?_)
  refine Qq (Qg (Qm Z ?_))
  rw [decide_eq_false fun e => h1 (by rw [e])]
 ·try rw [h1]
  try simp only [qA] at h1
  refine Qr (ks2 Z Z ?_)
  refine QA ?_ -- 1
  refine Qb fun K hK => Qa Z (kc3 hK Z Z Z ?_)
  refine Qz ?_
  refine Zp (ι := Nat) (fun i => ⟨[(0, Zn a), (1, Zn b), (5, .int .i64 i)], []⟩) (fun i => i <= a.length /\ a.take i = b.take i) (fun i => a.length - i) 0 ?_ ?_ ?_
  ·exact Q9 (kp3 rfl rfl rfl)
  ·exact ⟨QgD _, by simp⟩
  intro i hI
  try dsimp only
  refine QA ?_ -- 2
  refine Qb fun K hK => mv2 Z Z ?_
  first | refine QH rfl QM ?_ | refine QH rfl rfl ?_
  refine Yh Z Z (kc4 hK Z Z Z Z ?_)
  refine Qs Z (fun h2 => ?_) (fun h2 => ?_)
  ·try rw [h2]
   try simp only [qA] at h2
   refine Qr (ks3 Z Z Z ?_)
   refine QA ?_ -- 3
   refine Qz (Qb fun K hK => mv2 Z Z (QF Z Z Z Wa (QP Wa) Z (QI (ds0 := [0]) (cs := [_, _, _, _]) Z Z Z Z Z Z (mv2 Z Z (QF Z Z Z Wa (QP Wa) Z (QI (ds0 := [0]) (cs := [_, _, _, _]) Z Z Z Z Z Z (QbF Z Z B6 (kc4 hK Z Z Z Z ?_))))))))
   refine Qs Z (fun h3 => ?_) (fun h3 => ?_)
   ·try rw [h3]
    try simp only [qA] at h3
    refine Qb fun K hK => Qa Z (kc1 hK Z ?_)
    refine Qq (Qp (Qg (QZ (Qp (Qg (Qm Z ?_))))))
    rw [BU (i := i) Wa Wa h3]
   ·try rw [h3]
    try simp only [qA] at h3
    refine Qr (Qe (ks3 Z Z Z (QK fun K hK => Qa Z (QX Z Z Wc (Qa Z (hK _ ?_))))))
    refine Qi (i + 1) ?_ ?_ ?_
    ·exact Q9 (kp3 rfl rfl rfl)
    ·exact ⟨Wa, Ts Wa Wa hI.2 h3⟩
    ·first | omega | (simp only; omega) | (dsimp only; omega)
  ·try rw [h2]
   try simp only [qA] at h2
   refine Zi (QJ (Qw (QE (Zf (ZD) (Qb fun K hK => Qa Z (kc1 hK Z ?_))))))
   refine Qq (Qm Z ?_)
   rw [QgH Wa, QgH Wa] at hI; exact (decide_eq_true hI.2).symm
theorem _root_.Ws {p : Prop} (h : p := by rfl) : p := h
theorem FU {w : Qo} (hw : WSm w) (h0 : 0 < w.length) : Ok Tryz.prog 8 [Yd w, ZJ []] (dDb (mDB w)) := by
 refine Ok.ofT ZU Tryz.func8 tp8 (Qgr Z) ?_
 show TW _ _ tf8.body _ _
 have hn := Qar hw h0
 refine Qb fun K hK => Zw Z Z Z (Qa Z (kc2 hK Z Z ?_))
 refine Qb fun K hK => QC (cs := [_]) Z Z Z Z (Qv (GC hw) Z Z (.inl Z) (Qa Z (kc3 hK Z Z Z ?_)))
 refine Qb fun K hK => Qa Z (kc4 hK Z Z Z Z ?_)
 refine QA ?_ -- 0
 refine Qb fun K hK => Qa Z (kc5 hK Z Z Z Z Z ?_)
 refine Qz ?_
 refine Zp (ι := Nat) (fun i => ⟨[(1, ZJ []), (2, .ref 2 0 0), (5, Qdx (Fs w)), (6, .osl 6 (Qay w i).length), (7, .int .i64 i)], [(2, ⟨[[.sl ((w).map YY)]], 1, 28, true⟩), (6, ⟨(Qay w i).map (fun t => [ZL t]), 1, 50, true⟩)]⟩) (fun i => i <= (Fs w).length) (fun i => (Fs w).length - i) 0 ?_ ?_ ?_
 ·exact le_trans (Ym 6 6 1 50 rfl rfl) (Q5 (l := [1, 2, 5, 6, 7]) (lH := [2, 6]) (kp5 rfl rfl rfl rfl rfl) (Qc rfl (Qc rfl Qn)) rfl rfl rfl)
 ·exact QgD _
 intro i hI
 have hlen := Qaz w i
 try dsimp only
 refine QA ?_ -- 1
 refine Qb fun K hK => mv2 Z Z ?_
 first | refine QH rfl QM ?_ | refine QH rfl rfl ?_
 refine Yh Z Z (kc6 hK Z Z Z Z Z Z ?_)
 refine Qs Z (fun h1 => ?_) (fun h1 => ?_)
 ·try rw [h1]
  try simp only [qA, List.length_nil] at h1
  refine Qr (ks5 Z Z Z Z Z ?_)
  refine QA ?_ -- 2
  refine Qz (QK fun K hK => mv2 Z Z (Qa Z (QF Z Z Z Wa (QP Wa) Z (Q3 Z Z (Qy Z Z Z (QD Z Z (XF Z Z (fun _ h => XC Z Z Z h) Z Wf Z Z Z Wh Wh (Qa Z (hK _ ?_)))))))))
  refine Qe (ks5 Z Z Z Z Z (QK fun K hK => Qa Z (QX Z Z Wc (Qa Z (hK _ ?_)))))
  refine Qi (i + 1) ?_ ?_ ?_
  ·exact Q5 (l := [1, 2, 5, 6, 7]) (lH := [2, 6]) (kp5 rfl rfl rfl rfl rfl) (Qc rfl (Qc rfl Qn)) (by first | (rw [Ro Wa]; done) | (rw [Ro Wa]; rfl) | (rw [Ro Wa, List.length_append]; rfl) | (simp [Ro Wa]; done) | (simp [Ro Wa]; omega) | rfl) (by first | (rw [Ro Wa]; done) | (rw [Ro Wa]; rfl) | (rw [Ro Wa, List.map_append]; rfl) | (simp [Ro Wa]; done) | rfl) rfl
  ·omega
  ·first | omega | (simp only; omega) | (dsimp only; omega)
 ·try rw [h1]
  try simp only [qA, List.length_nil] at h1
  refine Zi (QJ (Qw (QE (ks3 Z Z Z ?_))))
  refine QA ?_ -- 3
  refine Qb fun K hK => Qa Z (kc4 hK Z Z Z Z ?_)
  refine Qz ?_
  refine Zp (ι := Unit) (fun _ => ⟨[(1, ZJ []), (2, .ref 2 0 0), (6, .osl 6 (mDB w).length), (8, .int .i64 0)], [(2, ⟨[[.sl ((w).map YY)]], 1, 28, true⟩), (6, ⟨(mDB w).map (fun t => [ZL t]), 1, 50, true⟩)]⟩) (fun _ => True) (fun _ => 0) () ?_ ?_ ?_
  ·exact Q5 (l := [1, 2, 6, 8]) (lH := [2, 6]) (kp4 rfl rfl rfl rfl) (Qc rfl (Qc rfl Qn)) (by rw [QbO Wa]) (by rw [QbO Wa]) rfl
  ·trivial
  intro _ hJ
  try dsimp only
  refine QA ?_ -- 4
  refine Qb fun K hK => mv2 Z Z ?_
  first | refine QH rfl QM ?_ | refine QH rfl rfl ?_
  refine Yh Z Z (Qa Z ?_)
  refine Qu (g := 31) Z (fun h2 => ?_) (fun h2 => ?_)
  ·try rw [h2]
   try simp only [qA, List.length_nil] at h2
   exact absurd h2 Wk
  ·try rw [h2]
   try simp only [qA, List.length_nil] at h2
   refine gn4 Z Z Z Z (Y4 Z (Qh Z Z (kc5 hK Z Z Z Z Z ?_)))
   refine Z2 Z (Zi (QJ (Qw (QE (ks1 Z (Qb fun K hK => mv2 Z Z (kc1 hK Z ?_)))))))
   refine Qq ?_
   exact KU rfl rfl rfl Wf Ws
theorem DS {v : Int} (h0 : -1 <= v) (h1v : v <= 60) : Ok Tryz.prog 61 [.int .i64 v] (.int .i64 (2 ^ (v + 1).toNat)) := by
 refine Ok.ofT ZU Tryz.func61 QfL (Qgr Z) ?_
 show TW _ _ tf61.body _ _
 refine Qb fun K hK => Qa Z (kc1 hK Z ?_)
 refine Qb fun K hK => Qa Z (QX Z Z Wc (Qan Z Z Wa (Tz Wa) (Qa Z (kc1 hK Z ?_))))
 refine Qq (QB Z ?_)
 rfl
theorem DT {w : Qo} (hw : WSm w) {u : Int} : Ok Tryz.prog 60 [Yd w, .int .i64 u] (.bool (inW w u)) := by
 refine Ok.ofT ZU Tryz.func60 QfK (Qgr Z) ?_
 show TW _ _ tf60.body _ _
 refine Qb fun K hK => Zw Z Z Z (Qa Z (kc2 hK Z Z ?_))
 refine Qb fun K hK => Qa Z (Mc Z Z (Qa Z ?_))
 refine Qu (g := 7) Z (fun h1 => ?_) (fun h1 => ?_)
 ·try rw [h1]
  try simp only [qA] at h1
  refine Qd Z (Qa Z (Qd Z (Qf Z Z (Qd Z (Qy Z Z Z (Qd Z ?_))))))
  first | refine QH rfl QM ?_ | refine QH rfl rfl ?_
  refine Qd Z (Yh Z Z (Qh Z Z (Qa Z (kc1 hK Z ?_))))
  refine Qq (Qm Z ?_)
  first | rfl | (rw [GM Wa]; done) | (rw [inW, decide_eq_true h1, Bool.true_and])
 ·try rw [h1]
  try simp only [qA] at h1
  refine gn4 Z Z Z Z (Y4 Z (Qh Z Z (Qa Z (kc1 hK Z ?_))))
  refine Qq (Qm Z ?_)
  first | rfl | (rw [GM Wa]; done) | (rw [inW, decide_eq_true h1, Bool.true_and])
theorem Jt {w : Qo} (hw : WSm w) {u : Int} : Ok Tryz.prog 33 [Yd w, .int .i64 u] (.int .i64 (YL w u)) := by
 refine Ok.ofT ZU Tryz.func33 Qfj (Qgr Z) ?_
 show TW _ _ tf33.body _ _
 refine Qb fun K hK => Zw Z Z Z (Qa Z (kc2 hK Z Z ?_))
 refine QA ?_ -- 0
 refine Qb fun K hK => QC (cs := [_]) Z Z Z Z (Qa Z (Qv (DT hw) Z Z (.inr Z) (Ya Z (kc3 hK Z Z Z ?_))))
 refine Qs Z (fun h1 => ?_) (fun h1 => ?_)
 ·try rw [h1]
  try simp only [qA] at h1
  try have h1b := GL.1 h1
  refine Qb fun K hK => Qa Z (kc1 hK Z ?_)
  refine Qq (Qg (QB Z ?_))
  rw [X0.2 h1]
 ·try rw [h1]
  try simp only [qA] at h1
  try have h1b := GL.1 h1
  refine Qr (ks2 Z Z (Qb fun K hK => Qf Z Z (Qy Z Z Z (Qa Z (QF Z Z Z Wa (ZN Wa Wa) Z (Q3 Z Z (Qy Z Z Z ?_)))))))
  first | refine QH rfl QM ?_ | refine QH rfl rfl ?_
  refine Qv (DS Wa (by have := hw.cs _ (Qgw (Wa : u.toNat < w.length)); omega)) Z Z (.inr Z) (XU Z Z (Tx (by have := hw.cs _ (Qgw (Wa : u.toNat < w.length)); omega)) (Qa Z (kc1 hK Z ?_)))
  refine Qq (QB Z ?_)
  rw [RP h1b.1 h1b.2, show min (w[u.toNat]'Wa).cs.length 16 = (w[u.toNat]'Wa).cs.length from Nat.min_eq_left (hw.cs _ (Qgw _)), Qac]
theorem Hs {w : Qo} (hw : WSm w) {l : List StepT} (hl : l.length <= 10000000) {u : Int} : Ok Tryz.prog 34 [Yd w, Zn l, .int .i64 u] (.int .i64 (JZ w l u)) := by
 refine Ok.ofT ZU Tryz.func34 Qfk (Qgr Z) ?_
 show TW _ _ tf34.body _ _
 refine Qb fun K hK => Zw Z Z Z (Qa Z (kc3 hK Z Z Z ?_))
 refine QA ?_ -- 0
 refine Qb fun K hK => Qa Z ?_
 first | refine QH rfl QM ?_ | refine QH rfl rfl ?_
 refine XU Z Z Wc (Qa Z (kc4 hK Z Z Z Z ?_))
 refine Qz ?_
 refine Zp (ι := Nat) (fun i => ⟨[(1, Zn l), (2, .int .i64 u), (3, .ref 3 0 0), (7, .int .i64 ((i : Int) - 1))], [(3, ⟨[[.sl ((w).map YY)]], 1, 28, true⟩)]⟩) (fun i => i <= l.length /\ JZ w l u = JZ w (l.take i) u) (fun i => i) l.length ?_ ?_ ?_
 ·exact Q5 (l := [1, 2, 3, 7]) (lH := [3]) (kp4 rfl rfl rfl rfl) (Qc rfl Qn) rfl rfl rfl
 ·exact ⟨Nat.le_refl _, by rw [List.take_length]⟩
 intro i hI
 try dsimp only
 refine QA ?_ -- 1
 refine Qb fun K hK => Qa Z (Mc Z Z (kc5 hK Z Z Z Z Z ?_))
 refine Qs Z (fun h1 => ?_) (fun h1 => ?_)
 ·try rw [h1]
  try simp only [qA] at h1
  refine Qr (ks4 Z Z Z Z ?_)
  refine QA ?_ -- 2
  refine Qz (Qb fun K hK => mv2 Z Z (QF Z Z Z Wa (ZN Wa Wa) Z (Q3 Z Z (Qy Z Z Z (Qa Z (ZE Z Z (kc5 hK Z Z Z Z Z ?_)))))))
  refine Qs Z (fun h2 => ?_) (fun h2 => ?_)
  ·try rw [h2]
   try simp only [qA] at h2
   refine Qb fun K hK => mv2 Z Z (QF Z Z Z Wa (ZN Wa Wa) Z (Q3 Z Z (Qy Z Z Z (Qa Z (kc1 hK Z ?_)))))
   refine Qq (Qp (Qg (QZ (Qp (Qg (QB Z ?_))))))
   rw [hI.2, Bg (k := ((i : Int) - 1).toNat) Wa Wa h2]
  ·try rw [h2]
   try simp only [qA] at h2
   refine Qr (Qe (ks4 Z Z Z Z (QK fun K hK => Qa Z (XU Z Z Wc (Qa Z (hK _ ?_))))))
   refine Qi (i - 1) ?_ ?_ ?_
   ·exact Q5 (l := [1, 2, 3, 7]) (lH := [3]) (kp4 rfl rfl rfl rfl) (Qc rfl Qn) (by simp only [List.cons.injEq, Prod.mk.injEq, D.int.injEq, and_true, true_and]; omega) rfl rfl
   ·exact ⟨Wa, by rw [hI.2, D4 (k := ((i : Int) - 1).toNat) Wa Wa h2]⟩
   ·first | omega | (simp only; omega) | (dsimp only; omega)
 ·try rw [h1]
  try simp only [qA] at h1
  refine Zi (QJ (Qw (QE (ks2 Z Z (Qb fun K hK => QC (cs := [_]) Z Z Z Z (Qa Z (Qv (Jt hw) Z Z (.inr Z) (Qa Z (kc1 hK Z ?_)))))))))
  refine Qq (QB Z ?_)
  rw [hI.2, show i = 0 by omega]; rfl
theorem Ns {w : Qo} (hw : WSm w) {l : List StepT} (hl : l.length <= 10000000) {u : Int} : Ok Tryz.prog 20 [Yd w, Zn l, .int .i64 u] (.int .i64 (Zc w l u)) := by
 refine Ok.ofT ZU Tryz.func20 Qe6 (Qgr Z) ?_
 show TW _ _ tf20.body _ _
 refine Qb fun K hK => Zw Z Z Z (Qa Z (kc3 hK Z Z Z ?_))
 refine QA ?_ -- 0
 refine Qb fun K hK => QC (cs := [_]) Z Z Z Z (Qa Z (Qv (Jt hw) Z Z (.inr Z) (ZE Z Z (kc4 hK Z Z Z Z ?_))))
 refine Qs Z (fun h1 => ?_) (fun h1 => ?_)
 ·try rw [h1]
  try simp only [qA] at h1
  refine Qb fun K hK => Qa Z (kc1 hK Z ?_)
  refine Qq (Qg (QB Z ?_))
  rw [RJ (X0.1 h1)]
 ·try rw [h1]
  try simp only [qA] at h1
  refine Qr (ks3 Z Z Z (Qb fun K hK => QC (cs := [_]) Z Z Z Z (mv2 Z Z (Qv (Hs hw hl) Z Z (.inr Z) (Qa Z (kc1 hK Z ?_))))))
  refine Qq (QB Z ?_)
  rw [RI (by simpa using fun e => h1 (X0.2 e))]
theorem ZM {l : List StepT} (hl : l.length <= 10000000) : Ok Tryz.prog 18 [Zn l] (.int .i64 (Zx l)) := by
 refine Ok.ofT ZU Tryz.func18 Qe4 (Qgr Z) ?_
 show TW _ _ tf18.body _ _
 refine Qb fun K hK => Qa Z (kc1 hK Z ?_)
 refine QA ?_ -- 0
 refine Qb fun K hK => Qa Z ?_
 first | refine QH rfl QM ?_ | refine QH rfl rfl ?_
 refine ZE Z Z (kc2 hK Z Z ?_)
 refine Qs Z (fun h1 => ?_) (fun h1 => ?_)
 ·try rw [h1]
  try simp only [qA] at h1
  refine Qb fun K hK => Qa Z (kc1 hK Z ?_)
  refine Qq (Qg (QB Z ?_))
  rw [SQ h1]
 ·try rw [h1]
  try simp only [qA] at h1
  refine Qr (ks1 Z (Qb fun K hK => mv2 Z Z ?_))
  first | refine QH rfl QM ?_ | refine QH rfl rfl ?_
  refine XU Z Z Wc (QF Z Z Z Wa (ZN Wa Wa) Z (Q3 Z Z (Qy Z Z Z (Qa Z (kc1 hK Z ?_)))))
  refine Qq (QB Z ?_)
  rw [L8 (k := ((l.length : Int) - 1).toNat) Wa]
theorem Pw {l : List StepT} (hl : l.length <= 10000000) {s : StepT} : Ok Tryz.prog 36 [Zn l, .agg (GI s)] (Zn (l ++ [s])) := by
 refine Ok.ofT ZU Tryz.func36 Qfm (Qgr Z) ?_
 show TW _ _ tf36.body _ _
 refine Qb fun K hK => Zw Z Z Z (Qa Z (kc2 hK Z Z ?_))
 refine Qb fun K hK => mv2 Z Z ?_
 first | refine QH rfl QM ?_ | refine QH rfl rfl ?_
 refine Qa Z ?_
 first | refine QH rfl QM ?_ | refine QH rfl rfl ?_
 refine NM Z Z Z Z Z Wa Wa Wf Po (BX Z) (QI (ds0 := [2, 1, 0]) (cs := [_, _, _, _]) Z Z Z Z Z Z (QD Z Z (FR (ds0 := [0]) Z Z (fun _ h => XC Z Z Z h) Z (.inr Wf) Po Wh Wh Z Z (Qa Z (kc1 hK Z ?_)))))
 refine Qq ?_
 exact KU rfl rfl rfl Wf (by simp [Zn, GI])
theorem Ph {w : Qo} (hw : WSm w) {l : List StepT} (hl : l.length <= 10000000) (hp : GU w l) {t : TermT} {c : Int} : Ok Tryz.prog 12 [Yd w, Zn l, .agg (F2 t), .int .i64 c] (dOS (Yu w l t c)) := by
 refine Ok.ofT ZU Tryz.func12 QeZ (Qgr Z) ?_
 show TW _ _ tf12.body _ _
 refine Qb fun K hK => Zw Z Z Z (Zw Z Z Z (mv2 Z Z (kc4 hK Z Z Z Z ?_)))
 refine Qb fun K hK => QC (cs := [_]) Z Z Z Z (Qa Z (Qf Z Z (Qy Z Z Z (Qv (Ns hw hl) Z Z (.inr Z) (Qa Z (kc4 hK Z Z Z Z ?_))))))
 refine QA ?_ -- 0
 refine Qb fun K hK => Qa Z (Yh Z Z (Qa Z ?_))
 refine Qu (g := 18) Z (fun h1 => ?_) (fun h1 => ?_)
 ·try rw [h1]
  try simp only [qA] at h1
  refine gn4 Z Z Z Z (Y4 Z (Qh Z Z (Qa Z (gn4 Z Z Z Z (Y4 Z ?_)))))
  refine Qh Z Z (kc5 hK Z Z Z Z Z ?_)
  refine Zo Z (Qb fun K hK => mv2 Z Z (kc2 hK Z Z ?_))
  refine Qq (Qg ?_)
  rw [HV (.inl h1)]
  exact QS rfl rfl ⟨rfl, rfl⟩
 ·try rw [h1]
  try simp only [qA] at h1
  refine Qd Z (Qa Z (Qd Z (Qf Z Z (Qd Z (Qy Z Z Z (Qd Z (GV Z Z (Qd Z (ZE Z Z (Qh Z Z (Qa Z ?_)))))))))))
  refine Qu (g := 25) Z (fun h2 => ?_) (fun h2 => ?_)
  ·try rw [h2]
   try simp only [qA] at h2
   refine gn4 Z Z Z Z (Y4 Z (Qh Z Z (kc5 hK Z Z Z Z Z ?_)))
   refine Zo Z (Qb fun K hK => mv2 Z Z (kc2 hK Z Z ?_))
   refine Qq (Qg ?_)
   rw [CJ hp h2]
   exact QS rfl rfl ⟨rfl, rfl⟩
  ·try rw [h2]
   try simp only [qA] at h2
   refine Qd Z (Qa Z (Qd Z (Qf Z Z (Qd Z (Qy Z Z Z (Qd Z (NK Z Z (Qd Z (ZE Z Z (Qh Z Z (kc5 hK Z Z Z Z Z ?_)))))))))))
   refine Qs Z (fun h3 => ?_) (fun h3 => ?_)
   ·try rw [h3]
    try simp only [qA] at h3
    refine Qb fun K hK => mv2 Z Z (kc2 hK Z Z ?_)
    refine Qq (Qg ?_)
    rw [CK h3]
    exact QS rfl rfl ⟨rfl, rfl⟩
   ·try rw [h3]
    try simp only [qA] at h3
    refine Qr (ks4 Z Z Z Z (Qb fun K hK => Qa Z (Qf Z Z (QN (ds0 := [3, 2, 1]) Z Z Z Z Z (Qa Z (Qf Z Z (QN (ds0 := [7, 3, 2, 1]) Z Z Z Z Z (NK Z Z (Qa Z (QR (ds0 := [3, 2, 1]) (ZM hl) Z Z (.inr Z) Z Z ?_))))))))))
    refine Qa Z (QQ Z Z (QR (ds0 := [1]) (Pw (s := ⟨t.u, Se (Zc w l t.u) t.m, Zx l, c⟩) hl) Z Z (.inl Z) Z Z (mv2 Z Z (kc2 hK Z Z ?_))))
    refine Qq ?_
    rw [CL hp Wa h2 h3]
    exact QS rfl rfl ⟨rfl, rfl⟩
end Go.Proofs
namespace M25
open Go Go.Abs M3
/-! ### prop: what is left of each unit, scans -/
structure Qdf (w : Qo) (db : List (List TermT)) (l : List StepT) (a : Nat) (k : Nat) : Prop where
  ha : a < db.length
  hk : k < db[a].length
  eq : Yv w db l = ((a : Int), db[a][k].u)
  one : J5 (Zc w l db[a][k].u) db[a][k].m = 1
  two : ∀ j, ∀ hj : j < db[a].length, j ≠ k -> J5 (Zc w l db[a][j].u) db[a][j].m = 2
theorem Cc {w : Qo} {l : List StepT} {s : StepT} (hp : GU w l) (hs : Lo s.m) : GU w (l ++ [s]) := fun t ht => by
  rcases QgC.1 ht with ht | ht
  · exact hp t ht
  · simp only [QgA] at ht; subst ht; exact hs
def QeU (w : Qo) (l : List StepT) (t : TermT) (c : Int) : StepT := ⟨t.u, Se (Zc w l t.u) t.m, Zx l, c⟩
open Go Go.Abs M3
/-! ### Sets that are made: moderate sizes -/
theorem QaR (l : List (Cu × Cu)) (x y : Cu) : (HD l x y).length <= l.length + 1 := SW l x y
theorem Rr (f : Cu -> Cu -> Bool) : ∀ (c : List Cu) (out : List (Cu × Cu)), (∀ x ∈ c, Cu.sm x) -> (∀ s ∈ out, Cu.sm s.1 /\ Cu.sm s.2) -> (HC f c out).length <= out.length + c.length /\ ∀ s ∈ HC f c out, Cu.sm s.1 /\ Cu.sm s.2
 | [], out, _, h => ⟨by simp [HC], by simpa [HC] using h⟩
 | [x], out, _, h => ⟨by simp [HC], by simpa [HC] using h⟩
 | x :: y :: r, out, hc, h => by
  rw [HC]
  have hxy := QaR out x y
  split
  ·obtain ⟨h1, h2⟩ := Rr f (y :: r) (HD out x y) (fun z hz => hc z (by simp at hz ⊢; exact .inr hz)) (Dd h (hc x Wf) (hc y Wf))
   exact ⟨by simp only [List.length_cons] at h1 ⊢; omega, h2⟩
  ·obtain ⟨h1, h2⟩ := Rr f (y :: r) out (fun z hz => hc z (by simp at hz ⊢; exact .inr hz)) h
   exact ⟨by simp only [List.length_cons] at h1 ⊢; omega, h2⟩
def SmN (n : Nat) (l : List (Cu × Cu)) : Prop := l.length <= n /\ ∀ s ∈ l, Cu.sm s.1 /\ Cu.sm s.2
theorem SmN.sm {n : Nat} {l : List (Cu × Cu)} (h : SmN n l) (hn : n <= 1000000) : Sm l := ⟨QgK h.1 hn, h.2⟩
theorem SmN.up {n m : Nat} {l : List (Cu × Cu)} (h : SmN n l) (hn : n <= m) : SmN m l := ⟨QgK h.1 hn, h.2⟩
theorem SmN.nil (n : Nat) : SmN n [] := ⟨QgD _, by simp⟩
theorem QbW {a b : List (Cu × Cu)} {n m : Nat} (ha : SmN n a) (hb : SmN m b) (h : n + m <= 1000000) : SmN (2 + 2 * (n + m)) (QbT a b) := by
 unfold QbT
 split
 ·have hab : Sm (a ++ b) := (ha.sm Wa).app (hb.sm Wa) (by have := ha.1; have := hb.1; omega)
  unfold T6
  split
  ·obtain ⟨h1, h2⟩ := Rr (mIn (a ++ b)) (Y1 (a ++ b)) [] (YG hab) Wf
   have := HB (a ++ b)
   have := ha.1
   have := hb.1
   exact ⟨by simp only [List.length_nil, List.length_append] at *; omega, h2⟩
  ·exact SmN.nil _
 ·exact SmN.nil _
theorem By {a : List (Cu × Cu)} {n : Nat} (ha : SmN n a) (h : n <= 1000000) : SmN (2 + 2 * n) (T7 a) := by
 unfold T7
 split
 ·obtain ⟨h1, h2⟩ := Rr (fun x y => !mIn a x y) (Y1 a) [] (YG (ha.sm h)) Wf
  have := HB a
  have := ha.1
  exact ⟨by simp only [List.length_nil] at *; omega, h2⟩
 ·exact SmN.nil _
def DN (n : Nat) (s : FS) : Prop := SmN n s.1 /\ SmN n s.2
theorem QdM {a b : FS} {n m : Nat} (ha : DN n a) (hb : DN m b) (h : n + m <= 1000000) : DN (2 + 2 * (n + m)) (Qah a b) := by
 unfold Qah
 split
 ·exact ⟨QbW ha.1 hb.1 h, QbW ha.2 hb.2 h⟩
 ·exact ⟨SmN.nil _, SmN.nil _⟩
theorem Bz {a : FS} {n : Nat} (ha : DN n a) (h : n <= 1000000) : DN (2 + 2 * n) (MR a) := by
 unfold MR
 split
 ·exact ⟨By ha.1 h, By ha.2 h⟩
 ·exact ⟨SmN.nil _, SmN.nil _⟩
theorem H9 (e a b c : Int) (f : Bool) : Cu.sm ⟨e, a, b, c, [], [], f⟩ := ⟨QgD _, QgD _⟩
theorem HX {a b c : Int} {p q : List UInt8} (hp : p.length <= 1000000) : DN 1 (Xa a b c p q) := by
 unfold Xa
 split
 ·exact ⟨SmN.nil _, SmN.nil _⟩
 ·split
  ·refine ⟨SmN.nil _, ⟨Nat.le_refl _, fun s hs => ?_⟩⟩
   simp only [QgA] at hs; subst hs
   exact ⟨⟨hp, QgD _⟩, ⟨hp, QgD _⟩⟩
  ·refine ⟨⟨Nat.le_refl _, fun s hs => ?_⟩, SmN.nil _⟩
   simp only [QgA] at hs; subst hs
   constructor
   ·unfold MP; split
    ·exact H9 ..
    ·exact H9 ..
   ·unfold Ft; split
    ·exact H9 ..
    ·exact H9 ..
def DO : FS := ([(Gu, Pl)], [(Gu, Pl)])
theorem QbI : DN 1 DO := by
 have h : SmN 1 [(Gu, Pl)] := ⟨Nat.le_refl _, fun s hs => by simp only [QgA] at hs; subst hs; exact ⟨H9 .., H9 ..⟩⟩
 exact ⟨h, h⟩
def bnd (i : Nat) : Nat := 4 * 2 ^ i
theorem QbK {i : Nat} (h : i <= 16) : bnd i <= 262144 := by
 have : 2 ^ i <= 2 ^ 16 := Nat.pow_le_pow_right Wa h
 have e : (2 : Nat) ^ 16 = 65536 := by decide
 unfold bnd; omega
theorem QdS {s : FS} {i : Nat} (h : DN (bnd i - 4) s) {a b c : Int} {p q : List UInt8} (hp : p.length <= 1000000) (hi : i <= 16) : DN (bnd (i + 1) - 4) (Qah s (Xa a b c p q)) := by
 have h1 := QbK hi
 have h4 : 4 <= bnd i := by unfold bnd; have := Nat.one_le_two_pow (n := i); omega
 have := QdM h (HX (a := a) (b := b) (c := c) (q := q) hp) Wa
 have e : bnd (i + 1) = 2 * bnd i := by unfold bnd; rw [Nat.pow_succ]; omega
 exact ⟨this.1.up Wa, this.2.up Wa⟩
theorem Qbp {s : FS} {i : Nat} (h : DN (bnd i - 4) s) : DN (bnd (i + 1) - 4) s := by
 have e : bnd (i + 1) = 2 * bnd i := by unfold bnd; rw [Nat.pow_succ]; omega
 exact ⟨h.1.up Wa, h.2.up Wa⟩
def SetOk (s : FS) : Prop := DN 600000 s
theorem SetOk.sm {s : FS} (h : SetOk s) : Sm s.1 /\ Sm s.2 := ⟨h.1.sm Wa, h.2.sm Wa⟩
def v0 : Vr := ⟨0, 0, 0, [], []⟩
/-! ### Made sets may be -/
def exV (v : Vr) : FS := Xa v.a v.b v.c v.p v.q
def SH (L : List Vr) : FS := L.foldl (fun s v => Qah s (exV v)) ([], [])
theorem QaK (L : List Vr) (v : Vr) : SH (L ++ [v]) = Qah (SH L) (exV v) := by simp [SH]
def Pp : List Vr -> List (List Vr)
 | [] => [[]]
 | v :: l => Pp l ++ (Pp l).map (v :: ·)
theorem N3 : ∀ {l L : List Vr}, L.Sublist l -> L ∈ Pp l
 | _, _, .slnil => by simp [Pp]
 | _, _, .cons a h => by rw [Pp, QgC]; exact .inl (N3 h)
 | _, _, .cons_cons a h => by rw [Pp, QgC]; exact .inr (QgF.2 ⟨_, N3 h, rfl⟩)
theorem QaL : ((Pp versions ++ Pp [v0]).all fun L => JL (SH L) && JL (MR (SH L))) = true := by decide +kernel
theorem Qdz : ((v0 :: versions).all fun v => JL (exV v) && PU v.a v.b v.c v.p v.q) = true := by decide +kernel
theorem Qcf : JL DO = true := by decide +kernel
def VsL (l : List Vr) : Prop := l.Sublist versions \/ l = [v0]
theorem VsL.fold {l L : List Vr} (h : VsL l) (hL : L.Sublist l) : JL (SH L) = true /\ JL (MR (SH L)) = true := by
 have hm : L ∈ Pp versions ++ Pp [v0] := by
  rcases h with h | rfl
  ·exact List.mem_append_left _ (N3 (hL.trans h))
  ·exact QgG _ (N3 hL)
 have := QgB.1 QaL L hm
 rw [Qgv] at this; exact this
theorem VsL.ex {l : List Vr} (h : VsL l) {v : Vr} (hv : v ∈ l) : JL (exV v) = true /\ PU v.a v.b v.c v.p v.q = true := by
 have hm : v ∈ v0 :: versions := by
  rcases h with h | rfl
  ·exact List.mem_cons_of_mem _ (h.subset hv)
  ·simp only [QgA] at hv; subst hv; simp
 have := QgB.1 Qdz v hm
 rw [Qgv] at this; exact this
def SetMay (s : FS) : Prop := SetOk s /\ JL s = true
theorem SetMay.sm {s : FS} (h : SetMay s) : Sm s.1 /\ Sm s.2 := h.1.sm
structure CR where
 v : Vr
 x : D
 y : D
 z : D
def dCR (r : CR) : List D := [.int .i64 r.v.a, .int .i64 r.v.b, .int .i64 r.v.c, .str r.v.p, .str r.v.q, r.x, r.y, r.z]
def CR.ren (r : CR) : CR := ⟨r.v, r.x.renS upN, r.y.renS upN, r.z.renS upN⟩
def VsOk (zs : List CR) : Prop := VsL (zs.map CR.v)
theorem VsOk.ren {zs : List CR} (h : VsOk zs) : VsOk (zs.map CR.ren) := by
 have e : (zs.map CR.ren).map CR.v = zs.map CR.v := by rw [List.map_map]; rfl
 unfold VsOk; rw [e]; exact h
theorem CF (l : List CR) : (l.map dCR).map (fun r => r.map (D.renS upN)) = (l.map CR.ren).map dCR := by
 rw [List.map_map, List.map_map]; rfl
structure UR where
 n : List UInt8
 f : List UInt8
 k : Nat
 cs : List CR
def dUR (u : UR) : List D := [.str u.n, .str u.f, .osl u.k u.cs.length]
def UR.ren (u : UR) : UR := ⟨u.n, u.f, upN u.k, u.cs.map CR.ren⟩
theorem Qcu (l : List UR) : (l.map dUR).map (fun r => r.map (D.renS upN)) = (l.map UR.ren).map dUR := by
 rw [List.map_map, List.map_map]
 refine List.map_congr_left fun u _ => ?_
 simp [dUR, UR.ren, D.renS]
structure Fam (H : Qgo) (kg ku eu ec : Nat) (us : List UR) : Prop where
 ne : ku ≠ kg
 u : ∃ pr, lk H ku = some ⟨us.map dUR, 3, eu, pr⟩
 c : ∀ y ∈ us, y.k ≠ kg /\ ∃ pr, lk H y.k = some ⟨y.cs.map dCR, 8, ec, pr⟩
 v : ∀ y ∈ us, y.cs.length <= 16 /\ ∀ z ∈ y.cs, Pt z.v
 vs : ∀ y ∈ us, VsOk y.cs
theorem Fam.up {H : Qgo} {kg ku eu ec : Nat} {us : List UR} (h : Fam H kg ku eu ec us) : Fam (upH H) (upN kg) (upN ku) eu ec (us.map UR.ren) := by
 obtain ⟨h1, ⟨pu, h2⟩, h3, h4, h5⟩ := h
 refine ⟨fun e => h1 (Lv e), ⟨pu, ?_⟩, fun y hy => ?_, fun y hy => ?_, fun y hy => by
  obtain ⟨u, hu, rfl⟩ := QgF.1 hy
  exact (h5 u hu).ren⟩
 ·rw [Jy, h2, Option.map_some, Box.ren, Qcu]
 ·obtain ⟨u, hu, rfl⟩ := QgF.1 hy
  obtain ⟨q1, pr, q2⟩ := h3 u hu
  refine ⟨fun e => q1 (Lv e), pr, ?_⟩
  show lk (upH H) (upN u.k) = _
  rw [Jy, q2, Option.map_some, Box.ren, CF]; rfl
 ·obtain ⟨u, hu, rfl⟩ := QgF.1 hy
  obtain ⟨q1, q2⟩ := h4 u hu
  refine ⟨by simpa [UR.ren] using q1, fun z hz => ?_⟩
  obtain ⟨z0, hz0, rfl⟩ := QgF.1 hz
  exact q2 z0 hz0
theorem Fam.cons {H : Qgo} {kg ku eu ec : Nat} {us : List UR} (h : Fam H kg ku eu ec us) {b : Box} : Fam ((kg, b) :: H) kg ku eu ec us := by
 obtain ⟨h1, ⟨pu, h2⟩, h3, h4, h5⟩ := h
 exact ⟨h1, ⟨pu, Qk (Ne.symm h1) h2⟩, fun y hy => let ⟨q1, pr, q2⟩ := h3 y hy; ⟨q1, pr, Qk (Ne.symm q1) q2⟩, h4, h5⟩
def Qdo (n : Nat) (x : WantT) : Prop := 1 <= x.u /\ x.u < n /\ SetOk x.s
def WantMay (n : Nat) (x : WantT) : Prop := Qdo n x /\ JL x.s = true
theorem Lx {l L : List Vr} {i : Nat} (hL : L.Sublist (l.take i)) : L.Sublist (l.take (i + 1)) := by
 refine hL.trans ?_
 rw [show l.take i = (l.take (i + 1)).take i by rw [List.take_take, Nat.min_eq_left Wa]]
 exact List.take_sublist _ _
theorem QeL {zs : List CR} {i : Nat} (h : i < zs.length) {L : List Vr} (hL : L.Sublist ((zs.map CR.v).take i)) : (L ++ [zs[i].v]).Sublist ((zs.map CR.v).take (i + 1)) := by
 rw [List.take_succ_eq_append_getElem (by simpa using h)]
 simp only [List.getElem_map]
 exact hL.append (List.Sublist.refl _)
def Sk (n : Nat) (r : List WantT) : Prop := (1 <= r.length /\ r.length <= 2) /\ ∀ x ∈ r, WantMay n x
def Ma (n : Nat) (m : Int) (ns : List (List WantT)) : Prop := (ns.length : Int) <= m /\ ∀ r ∈ ns, Sk n r
theorem QcO {n : Nat} {x : WantT} (h : WantMay n x) : Sk n [x] := ⟨by simp, by intro y hy; simp only [QgA] at hy; subst hy; exact h⟩
theorem QcP {n : Nat} {x y : WantT} (h : WantMay n x) (h' : WantMay n y) : Sk n [x, y] := ⟨by simp, by
 intro z hz
 simp only [Qgt, Qgs, or_false] at hz
 rcases hz with rfl | rfl
 ·exact h
 ·exact h'⟩
theorem BO {n : Nat} {ns : List (List WantT)} {r : List WantT} (h : ∀ r ∈ ns, Sk n r) (hr : Sk n r) : ∀ x ∈ ns ++ [r], Sk n x := fun x hx => by
 rcases QgC.1 hx with hx | hx
 ·exact h x hx
 ·simp only [QgA] at hx; subst hx; exact hr
end M25
namespace Go.Proofs
open Go Go.Abs M3 M25
theorem HI {s : St} {args : List Opd} {kg : Nat} {L : List Int} {I n : Int} {et : Nat} (ha : Zh s args = some [.ref kg 0 0, .int .i64 n]) (hg : lk s.H kg = some (gB L I et)) (hL : ∀ x ∈ L, I64 x) (hn : n <= 9223372036854775807) : Kl Tryz.prog 25 args s [(kg, gB L I et)] [] [(kg, gB L (nxI I) et)] (.int .i64 (nx L I n)) := by
 refine LJ (b' := gB L (nxI I) et) (ds' := [.ref (upN kg) 0 0, .int .i64 n]) ha (fun j x h => ?_) (fun k b hk j hj => ?_) (fun x hx j hj => ?_) ?_ Z Z Z Z ?_
 ·obtain ⟨rfl, rfl⟩ := Xw h; exact hg
 ·obtain ⟨rfl, rfl⟩ := Xw hk; simp [Box.ids, gB] at hj
 ·simp only [Qgt, Qgs, or_false] at hx
  rcases hx with rfl | rfl
  ·simp [D.ids, D.sid] at hj; subst hj; rw [Qt]; rfl
  ·simp [D.ids, D.sid] at hj
 ·rw [Qt]; rfl
 ·exact XX (by unfold upN; omega) hL hn et
theorem _root_.Wi {p : Prop} (h : p := by first | decide | omega) : p := h
theorem _root_.Wv {p : Prop} (h : p := by simp [Dr.ok, Hv]) : p := h
theorem _root_.Wj {p : Prop} (h : p := by repeat (first | exact Qt | refine Qk (by first | decide | omega) ?_)) : p := h
theorem G2 {H : Qgo} {kg kc : Nat} {L : List Int} {I : Int} {eg ec : Nat} {pr : Bool} {zs : List CR} (hkg : 1000000 <= kg) (hg : lk H kg = some (gB L I eg)) (hc : lk H kc = some ⟨zs.map dCR, 8, ec, pr⟩) (hne : kg ≠ kc) (hB : Big H) (hC : Closed H) (hL : ∀ x ∈ L, I64 x) (hz : ∀ z ∈ zs, Pt z.v) (hn : zs.length <= 16) (hvs : VsOk zs) : ∃ d H2, (∃ s I2, SetMay s /\ d = Rn s /\ H2 = (kg, gB L I2 eg) :: H) /\ OkH Tryz.prog 52 [.ref kg 0 0, .osl kc zs.length] H d H2 := by
 have hkc := hB _ _ hc
 refine OkH.ofX (R := fun d H2 => ∃ s I2, SetMay s /\ d = Rn s /\ H2 = (kg, gB L I2 eg) :: H) ZU Tryz.func52 QfC (Qgr Z) ?_
 show TX _ _ tf52.body _ _
 refine Q4 fun K hK => ?_
 refine ZI (by repeat (first | exact hB.none Wk | refine Zs Wi ?_)) ?_
 refine hK _ _ (QL (kp3 Z Z Z) ?_)
 refine Q4 fun K hK => Qa Z (YC (HI (I := I) Z (Qk Wa hg) hL Wa) (Qa Z (hK _ _ (QL (kp4 Z Z Z Z) ?_))))
 refine Q4 fun K hK => Qv (Yb) Z Z (.inl Z) ?_
 refine ZI (by repeat (first | exact hB.none Wk | refine Zs Wi ?_)) ?_
 refine Q1 Z Z Z Z Z Z Z Z (hK _ _ (QL (kp5 Z Z Z Z Z) ?_))
 refine XD ?_ -- 0
 refine Q4 fun K hK => Qa Z (hK _ _ (QL (kp6 Z Z Z Z Z Z) ?_))
 refine YE ?_
 refine GX (ι := Nat × FS) (fun ⟨i, s⟩ => ⟨[(0, .ref kg 0 0), (1, .osl kc zs.length), (4, .ref 4 0 0), (5, .int .i64 (nx L I 8)), (6, .ref 6 0 0), (7, .int .i64 i)], [(4, ⟨[[.fsl [], .fsl []]], 2, 68, true⟩), (6, ⟨[[ZH s.1, ZH s.2]], 2, 68, true⟩), (kg, gB L (nxI I) eg)] ++ H⟩) (fun ⟨i, s⟩ => (i <= zs.length /\ DN (bnd i - 4) s) /\ ∃ L, L.Sublist ((zs.map CR.v).take i) /\ s = SH L) (fun ⟨i, s⟩ => zs.length - i) (0, ([], [])) ?_ ?_ ?_
 ·exact MH (l := [0, 1, 4, 5, 6, 7]) (B := [_, _, _, _]) (kp6 rfl rfl rfl rfl rfl rfl) rfl (by intro p hp; simp only [Qgt, Qgs, or_false] at hp; rcases hp with rfl | rfl | rfl <;> exact ⟨by repeat (first | exact Qt | refine Qk Wi ?_), rfl⟩) rfl (by intro p hp h; simp only [Qgt, Qgs, or_false] at hp; rcases hp with rfl | rfl | rfl | rfl <;> first | (simp only at h; omega) | (repeat (first | exact QV | refine QU ?_))) hB hC (by intro p hp k hk; simp only [Qgt, Qgs, or_false] at hp; rcases hp with rfl | rfl | rfl | rfl | rfl | rfl <;> first | (simp [D.ids, D.sid, Q7, QT, ZJ] at hk; done) | (simp [D.ids, D.sid, Q7, QT, ZJ] at hk; subst hk; repeat (first | exact QV | exact Zr hg | exact Zr hc | refine QU ?_)))
 ·exact ⟨⟨QgD _, SmN.nil _, SmN.nil _⟩, [], List.nil_sublist _, rfl⟩
 intro ⟨i, s⟩ hI
 try dsimp only at hI
 have hb16 := QbK (i := i) Wa
 try dsimp only
 refine XD ?_ -- 1
 refine Q4 fun K hK => mv2 Z Z ?_
 first | refine QH rfl QM ?_ | refine QH rfl rfl ?_
 refine Yh Z Z (hK _ _ (QL (kp7 Z Z Z Z Z Z Z) ?_))
 refine YO Z (fun h1 => ?_) (fun h1 => ?_)
 ·try rw [h1]
  try simp only [qA] at h1
  refine Y9 (QW (kp6 Z Z Z Z Z Z) ?_)
  refine XD ?_ -- 2
  refine YE (Q4 fun K hK => mv2 Z Z (Sj Z (N9 Wa Wa) (Qdk Z Z Wa (GV Z Z (ZE Z Z (hK _ _ (QL (kp7 Z Z Z Z Z Z Z) ?_)))))))
  refine YO Z (fun h2 => ?_) (fun h2 => ?_)
  ·try rw [h2]
   try simp only [qA] at h2
   have hvp := (hz _ (Qgw (Wa : i < zs.length))).1
   refine ZR fun K hK => QI (ds0 := [1, 0]) (cs := [_, _]) Z Z Z Z Wv Z (mv2 Z Z (XT (ds0 := [4, 3, 2, 1, 0]) Z Z (Qk Wa (Qk Wa (Qk Wa hc))) Wf Wa Wa Z Wv Z (Qf Z (Zr (Qk Wa (Qk Wa (Qk Wa hc)))) (QI (ds0 := [2, 1, 0]) (cs := [_, _, _, _, _]) Z (Z9 (Qk Wa (Qk Wa (Qk Wa hc))) (QP Wa)) Z Z Wv Z (QR (ds0 := [1, 0]) (X9 (hz _ (Qgw Wa)).1 (hz _ (Qgw Wa)).2) Z Z (.inl Z) Wv Z (QR (ds0 := [0]) (FV (a := s) (b := (Xa (zs[i]'Wa).v.a (zs[i]'Wa).v.b (zs[i]'Wa).v.c (zs[i]'Wa).v.p (zs[i]'Wa).v.q)) (hI.1.2.1.sm Wa) (hI.1.2.2.sm Wa) ((HX hvp).1.sm Wa) ((HX hvp).2.sm Wa) (by have := hI.1.2.1.1; have := (HX (a := (zs[i]'Wa).v.a) (b := (zs[i]'Wa).v.b) (c := (zs[i]'Wa).v.c) (q := (zs[i]'Wa).v.q) hvp).1.1; omega) (by have := hI.1.2.2.1; have := (HX (a := (zs[i]'Wa).v.a) (b := (zs[i]'Wa).v.b) (c := (zs[i]'Wa).v.c) (q := (zs[i]'Wa).v.q) hvp).2.1; omega)) Z Z (.inl Z) Wv Z (Xr (ds0 := []) Z Z Z Z Z Z Z Z Wv Z (hK _ ?_))))))))
   refine Qe (QW (kp6 Z Z Z Z Z Z) (ZR fun K hK => Qa Z (QX Z Z Wc (Qa Z (hK _ ?_)))))
   refine Qi (i + 1, Qah s (Xa (zs[i]'Wa).v.a (zs[i]'Wa).v.b (zs[i]'Wa).v.c (zs[i]'Wa).v.p (zs[i]'Wa).v.q)) ?_ ?_ ?_
   ·exact MH (l := [0, 1, 4, 5, 6, 7]) (B := [_, _, _, _]) (kp6 rfl rfl rfl rfl rfl rfl) rfl (by intro p hp; simp only [Qgt, Qgs, or_false] at hp; rcases hp with rfl | rfl | rfl <;> exact ⟨by repeat (first | exact Qt | refine Qk Wi ?_), rfl⟩) rfl (by intro p hp h; simp only [Qgt, Qgs, or_false] at hp; rcases hp with rfl | rfl | rfl | rfl <;> first | (simp only at h; omega) | (repeat (first | exact QV | refine QU ?_))) hB hC (by intro p hp k hk; simp only [Qgt, Qgs, or_false] at hp; rcases hp with rfl | rfl | rfl | rfl | rfl | rfl <;> first | (simp [D.ids, D.sid, Q7, QT, ZJ] at hk; done) | (simp [D.ids, D.sid, Q7, QT, ZJ] at hk; subst hk; repeat (first | exact QV | exact Zr hg | exact Zr hc | refine QU ?_)))
   ·exact ⟨⟨by show i + 1 <= _; omega, QdS hI.1.2 (hz _ (Qgw Wa)).1 Wa⟩, by obtain ⟨L, hL, hs⟩ := hI.2; exact ⟨_, QeL Wa hL, by rw [QaK, <- hs]; rfl⟩⟩
   ·show zs.length - (i + 1) < zs.length - i; omega
  ·try rw [h2]
   try simp only [qA] at h2
   have hvp := (hz _ (Qgw (Wa : i < zs.length))).1
   refine Y9 (Qe (QW (kp6 Z Z Z Z Z Z) (ZR fun K hK => Qa Z (QX Z Z Wc (Qa Z (hK _ ?_))))))
   refine Qi (i + 1, s) ?_ ?_ ?_
   ·exact MH (l := [0, 1, 4, 5, 6, 7]) (B := [_, _, _]) (kp6 rfl rfl rfl rfl rfl rfl) rfl (by intro p hp; simp only [Qgt, Qgs, or_false] at hp; rcases hp with rfl | rfl | rfl <;> exact ⟨by repeat (first | exact Qt | refine Qk Wi ?_), rfl⟩) rfl (by intro p hp h; simp only [Qgt, Qgs, or_false] at hp; rcases hp with rfl | rfl | rfl <;> first | (simp only at h; omega) | (repeat (first | exact QV | refine QU ?_))) hB hC (by intro p hp k hk; simp only [Qgt, Qgs, or_false] at hp; rcases hp with rfl | rfl | rfl | rfl | rfl | rfl <;> first | (simp [D.ids, D.sid, Q7, QT, ZJ] at hk; done) | (simp [D.ids, D.sid, Q7, QT, ZJ] at hk; subst hk; repeat (first | exact QV | exact Zr hg | exact Zr hc | refine QU ?_)))
   ·exact ⟨⟨by show i + 1 <= _; omega, Qbp hI.1.2⟩, by obtain ⟨L, hL, hs⟩ := hI.2; exact ⟨L, Lx hL, hs⟩⟩
   ·show zs.length - (i + 1) < zs.length - i; omega
 ·try rw [h1]
  try simp only [qA] at h1
  refine K8 (YI (Qw (QE (QW (kp3 Z Z Z) ?_))))
  refine XD ?_ -- 3
  refine Q4 fun K hK => Qa Z (YC (HI (I := nxI I) Z (Qk Wa (Qk Wa Qt)) hL Wa) (hK _ _ (QL (kp3 Z Z Z) ?_)))
  refine YE (Q4 fun K hK => ZE Z Z (Qa Z (hK _ _ (QL (kp4 Z Z Z Z) ?_))))
  refine YO Z (fun h3 => ?_) (fun h3 => ?_)
  ·try rw [h3]
   try simp only [qA] at h3
   refine Q4 fun K hK => Qv (G5) Z Z (.inl Z) (Q1 Z (Qk Wa Z) Z Z Z Z Z Z (hK _ _ (QL (kp1 Z) ?_)))
   refine NB (Qp (J7 ?_))
   refine ⟨Rn DO, (kg, gB L (nxI (nxI I)) eg) :: H, ⟨DO, _, ⟨⟨QbI.1.up Wa, QbI.2.up Wa⟩, Qcf⟩, rfl, rfl⟩, (XR hB hC hkg rfl).1, (XR hB hC hkg rfl).2, ?_⟩
   refine H7 (cs := [ZH DO.1, ZH DO.2]) Z (Z9 Wj Z) Z Z Z ?_
   exact JX (B := [_, _, _, _, _]) hB Wj (by intro p hp h; simp only [Qgt, Qgs, or_false] at hp; rcases hp with rfl | rfl | rfl | rfl | rfl <;> first | rfl | (simp only at h; omega))
  ·try rw [h3]
   try simp only [qA] at h3
   refine Q4 fun K hK => ZE Z Z (Qa Z (hK _ _ (QL (kp3 Z Z Z) ?_)))
   refine YO Z (fun h4 => ?_) (fun h4 => ?_)
   ·try rw [h4]
    try simp only [qA] at h4
    refine Q4 fun K hK => QC (cs := [_, _]) Z (Z9 (Qk Wa Z) Z) Z Z (Qv (G7 (a := s) (hI.1.2.1.sm Wa) (hI.1.2.2.sm Wa)) Z Z (.inl Z) (Q1 Z (Qk Wa Z) Z Z Z Z Z Z (hK _ _ (QL (kp1 Z) ?_))))
    refine NB (Qp (J7 ?_))
    refine ⟨Rn (MR s), (kg, gB L (nxI (nxI I)) eg) :: H, ⟨(MR s), _, ⟨⟨(Bz hI.1.2 Wa).1.up Wa, (Bz hI.1.2 Wa).2.up Wa⟩, by obtain ⟨L, hL, hs⟩ := hI.2; rw [hs]; exact (VsL.fold hvs (hL.trans (List.take_sublist _ _))).2⟩, rfl, rfl⟩, (XR hB hC hkg rfl).1, (XR hB hC hkg rfl).2, ?_⟩
    refine H7 (cs := [ZH (MR s).1, ZH (MR s).2]) Z (Z9 Wj Z) Z Z Z ?_
    exact JX (B := [_, _, _, _, _]) hB Wj (by intro p hp h; simp only [Qgt, Qgs, or_false] at hp; rcases hp with rfl | rfl | rfl | rfl | rfl <;> first | rfl | (simp only at h; omega))
   ·try rw [h4]
    try simp only [qA] at h4
    refine Y9 (Qe (QW (kp2 Z Z) (Q4 fun K hK => QC (cs := [_, _]) Z (Z9 (Qk Wa Z) Z) Z Z (Q1 Z (Qk Wa Z) Z Z Z Z Z Z (hK _ _ (QL (kp1 Z) ?_))))))
    refine NB ?_
    refine ⟨Rn s, (kg, gB L (nxI (nxI I)) eg) :: H, ⟨s, _, ⟨⟨hI.1.2.1.up Wa, hI.1.2.2.up Wa⟩, by obtain ⟨L, hL, hs⟩ := hI.2; rw [hs]; exact (VsL.fold hvs (hL.trans (List.take_sublist _ _))).1⟩, rfl, rfl⟩, (XR hB hC hkg rfl).1, (XR hB hC hkg rfl).2, ?_⟩
    refine H7 (cs := [ZH s.1, ZH s.2]) Z (Z9 Wj Z) Z Z Z ?_
    exact JX (B := [_, _, _, _, _]) hB Wj (by intro p hp h; simp only [Qgt, Qgs, or_false] at hp; rcases hp with rfl | rfl | rfl | rfl | rfl <;> first | rfl | (simp only at h; omega))
open Go Go.Abs M3 M25
/-- The call of 'set', over boxes that are lent. -/
theorem Qer {H : Qgo} {kg kc : Nat} {L : List Int} {I : Int} {eg ec : Nat} {pr : Bool} {zs : List CR} (hg : lk H kg = some (gB L I eg)) (hc : lk H kc = some ⟨zs.map dCR, 8, ec, pr⟩) (hne : kg ≠ kc) (hC : Closed H) (hL : ∀ x ∈ L, I64 x) (hz : ∀ z ∈ zs, Pt z.v) (hn : zs.length <= 16) (hvs : VsOk zs) :
  ∃ s I2, SetMay s /\ ∀ (st : St) (args : List Opd), Zh st args = some [.ref kg 0 0, .osl kc zs.length] -> (∀ j x, lk H j = some x -> lk st.H j = some x) -> Kl Tryz.prog 52 args st H [] [(kg, gB L I2 eg)] (Rn s) := by
 obtain ⟨d, H2, ⟨s, I2, hs, rfl, rfl⟩, hok⟩ := G2 (H := upH H) (kg := upN kg) (kc := upN kc) (L := L) (I := I) (eg := eg) (ec := ec) (pr := pr) (zs := zs.map CR.ren) (by unfold upN; omega) (by rw [Jy, hg]; rfl) (by rw [Jy, hc, Option.map_some, Box.ren, CF]) (fun e => hne (Lv e)) Lu (Nq hC) hL
  (fun z hz' => by obtain ⟨z0, h0, rfl⟩ := QgF.1 hz'; exact hz z0 h0) (by simpa using hn) hvs.ren
 refine ⟨s, I2, hs, fun st args ha hF => LJ (b' := gB L I2 eg) (ds' := [.ref (upN kg) 0 0, .osl (upN kc) zs.length]) ha hF hC (fun x hx j hj => ?_) (Zr hg) Z Z Z Z ?_⟩
 ·simp only [Qgt, Qgs, or_false] at hx
  rcases hx with rfl | rfl
  ·simp [D.ids, D.sid] at hj; subst hj; exact Zr hg
  ·simp [D.ids, D.sid] at hj; subst hj; exact Zr hc
 ·rw [List.length_map] at hok; exact hok
theorem GA {H : Qgo} {kg ku : Nat} {L : List Int} {I : Int} {eg eu ec : Nat} {us : List UR} (hkg : 1000000 <= kg) (hg : lk H kg = some (gB L I eg)) (hU : Fam H kg ku eu ec us) (hB : Big H) (hC : Closed H) (hL : ∀ x ∈ L, I64 x) (h2n : 2 <= us.length) (hn : us.length <= 48) : ∃ d H2, (∃ x I2, WantMay us.length x /\ d = .agg (ND x) /\ H2 = (kg, gB L I2 eg) :: H) /\ OkH Tryz.prog 26 [.ref kg 0 0, .osl ku us.length] H d H2 := by
 obtain ⟨pu, hu⟩ := hU.u
 have hku := hB _ _ hu
 have hne := hU.ne
 have hx0 := Dh (v := Qag L (IntKind.i64.wrap (nxI I - 1))) (n := (us.length : Int) - 1)
 have hx1 := Dg (v := Qag L (IntKind.i64.wrap (nxI I - 1))) (n := (us.length : Int) - 1) Wa
 change 0 <= nx L I ((us.length : Int) - 1) at hx0
 change nx L I ((us.length : Int) - 1) < _ at hx1
 obtain ⟨hyk, pr, hy⟩ := hU.c (us[(1 + nx L I ((us.length : Int) - 1)).toNat]'Wa) (Qgw _)
 obtain ⟨hv1, hv2⟩ := hU.v (us[(1 + nx L I ((us.length : Int) - 1)).toNat]'Wa) (Qgw _)
 obtain ⟨s, I2, hs, hcall⟩ := Qer (H := (kg, gB L (nxI I) eg) :: H) Qt (Qk (Ne.symm hyk) hy) (Ne.symm hyk) (hC.pr rfl) hL hv2 hv1 (hU.vs _ (Qgw _))
 refine OkH.ofX (R := fun d H2 => ∃ x I2, WantMay us.length x /\ d = .agg (ND x) /\ H2 = (kg, gB L I2 eg) :: H) ZU Tryz.func26 Qfc (Qgr Z) ?_
 show TX _ _ tf26.body _ _
 refine Q4 fun K hK => ?_
 refine ZI (by repeat (first | exact hB.none Wk | refine Zs Wi ?_)) ?_
 refine hK _ _ (QL (kp3 Z Z Z) ?_)
 refine Q4 fun K hK => mv2 Z Z ?_
 first | refine QH rfl QM ?_ | refine QH rfl rfl ?_
 refine XU Z Z Wc (YC (HI (I := I) Z (Qk Wa hg) hL Wa) (QX Z Z Wc (Qa Z (hK _ _ (QL (kp4 Z Z Z Z) ?_)))))
 refine Q4 fun K hK => Qa rfl (Qa rfl (Qa rfl (Qa rfl (Xq rfl rfl (Qk Wa (Qk Wa hu)) Wf Wa Wa rfl (Qf rfl (Zr (Qk Wa (Qk Wa hu))) (Qy rfl (Z9 (Qk Wa (Qk Wa hu)) (ZN Wa Wa)) rfl (YC (hcall _ _ rfl (JX (B := [_, _]) hB Qt (by intro p hp h; simp only [Qgt, Qgs, or_false] at hp; rcases hp with rfl | rfl <;> first | rfl | (simp only at h; omega)))) (QQ rfl rfl (Q1 rfl (Qk Wa (Qk Wa rfl)) rfl rfl rfl rfl rfl rfl (hK _ _ (QL (kp1 rfl) ?_)))))))))))
 refine NB ?_
 refine ⟨.agg (ND ⟨1 + nx L I ((us.length : Int) - 1), s⟩), (kg, gB L I2 eg) :: H, ⟨⟨1 + nx L I ((us.length : Int) - 1), s⟩, _, ⟨⟨by show 1 <= 1 + _; omega, by show 1 + _ < (us.length : Int); omega, hs.1⟩, hs.2⟩, rfl, rfl⟩, (XR hB hC hkg rfl).1, (XR hB hC hkg rfl).2, ?_⟩
 refine H7 (cs := ND ⟨1 + nx L I ((us.length : Int) - 1), s⟩) Z (Z9 Wj Z) Z Z Z ?_
 exact JX (B := [_, _, _, _]) hB Wj (by intro p hp h; simp only [Qgt, Qgs, or_false] at hp; rcases hp with rfl | rfl | rfl | rfl <;> first | rfl | (simp only at h; omega))
/-- The call of 'want'. -/
theorem Du {H : Qgo} {kg ku : Nat} {L : List Int} {I : Int} {eg eu ec : Nat} {us : List UR} (hg : lk H kg = some (gB L I eg)) (hU : Fam H kg ku eu ec us) (hC : Closed H) (hL : ∀ x ∈ L, I64 x) (h2 : 2 <= us.length) (hn : us.length <= 48) :
  ∃ x I2, WantMay us.length x /\ ∀ (st : St) (args : List Opd), Zh st args = some [.ref kg 0 0, .osl ku us.length] -> (∀ j x, lk H j = some x -> lk st.H j = some x) -> Kl Tryz.prog 26 args st H [] [(kg, gB L I2 eg)] (.agg (ND x)) := by
 obtain ⟨d, H2, ⟨x, I2, hx, rfl, rfl⟩, hok⟩ := GA (H := upH H) (kg := upN kg) (ku := upN ku) (L := L) (I := I) (eg := eg) (eu := eu) (ec := ec) (us := us.map UR.ren) (by unfold upN; omega) (by rw [Jy, hg]; rfl) hU.up Lu (Nq hC) hL (by simpa using h2) (by simpa using hn)
 obtain ⟨pu, hu⟩ := hU.u
 rw [List.length_map] at hx hok
 refine ⟨x, I2, hx, fun st args ha hF => LJ (b' := gB L I2 eg) (ds' := [.ref (upN kg) 0 0, .osl (upN ku) us.length]) ha hF hC (fun x hx j hj => ?_) (Zr hg) Z Z Z Z hok⟩
 simp only [Qgt, Qgs, or_false] at hx
 rcases hx with rfl | rfl
 ·simp [D.ids, D.sid] at hj; subst hj; exact Zr hg
 ·simp [D.ids, D.sid] at hj; subst hj; exact Zr hu
open Go Go.Abs M3 M25
theorem Gc {H : Qgo} {kg ku : Nat} {L : List Int} {I most : Int} {eg eu ec : Nat} {us : List UR} (hkg : 1000000 <= kg) (hg : lk H kg = some (gB L I eg)) (hU : Fam H kg ku eu ec us) (hB : Big H) (hC : Closed H) (hL : ∀ x ∈ L, I64 x) (h2n : 2 <= us.length) (hn : us.length <= 48) (hm0 : 0 <= most) (hm1 : most <= 10) : ∃ d H2, (∃ ns I2, Ma us.length most ns /\ d = QT ns /\ H2 = (kg, gB L I2 eg) :: H) /\ OkH Tryz.prog 23 [.ref kg 0 0, .osl ku us.length, .int .i64 most] H d H2 := by
 obtain ⟨pu, hu⟩ := hU.u
 have hku := hB _ _ hu
 have hne := hU.ne
 have hk0 : 0 <= nx L I (most + 1) := Dh
 have hk1 : nx L I (most + 1) < most + 1 := Dg Wa
 refine OkH.ofX (R := fun d H2 => ∃ ns I2, Ma us.length most ns /\ d = QT ns /\ H2 = (kg, gB L I2 eg) :: H) ZU Tryz.func23 Qe9 (Qgr Z) ?_
 show TX _ _ tf23.body _ _
 refine Q4 fun K hK => Qa Z (hK _ _ (QL (kp3 Z Z Z) ?_))
 refine Q4 fun K hK => Qa Z (hK _ _ (QL (kp4 Z Z Z Z) ?_))
 refine XD ?_ -- 0
 refine Q4 fun K hK => mv2 Z Z (QX Z Z Wc (YC (HI (I := I) Z hg hL Wa) (Qa Z (hK _ _ (QL (kp4 Z Z Z Z) ?_)))))
 refine YE ?_
 refine GX (ι := Nat × List (List WantT) × Int) (fun ⟨k, ns, J⟩ => ⟨[(0, .ref kg 0 0), (1, .osl ku us.length), (7, .osl 7 ns.length), (8, .int .i64 k)], [(7, ⟨(ns).map (fun r => [Q7 r]), 1, 59, true⟩), (kg, gB L J eg)] ++ H⟩) (fun ⟨k, ns, J⟩ => (ns.length : Int) + k <= most /\ ∀ r ∈ ns, Sk us.length r) (fun ⟨k, ns, J⟩ => k) ((nx L I (most + 1)).toNat, [], nxI I) ?_ ?_ ?_
 ·exact le_trans (Ym 7 7 1 59 rfl (by repeat (first | exact hB.none Wk | refine Zs Wi ?_))) (MH (l := [0, 1, 7, 8]) (B := [_, _]) (kp4 rfl rfl rfl rfl) (by simp only [Int.toNat_of_nonneg hk0] <;> rfl) (by intro p hp; simp only [Qgt, Qgs, or_false] at hp; rcases hp with rfl | rfl <;> exact ⟨by repeat (first | exact Qt | refine Qk Wi ?_), rfl⟩) rfl (by intro p hp h; simp only [Qgt, Qgs, or_false] at hp; rcases hp with rfl | rfl <;> first | (simp only at h; omega) | (repeat (first | exact QV | refine QU ?_))) hB hC (by intro p hp k hk; simp only [Qgt, Qgs, or_false] at hp; rcases hp with rfl | rfl | rfl | rfl <;> first | (simp [D.ids, D.sid, Q7, QT, ZJ] at hk; done) | (simp [D.ids, D.sid, Q7, QT, ZJ] at hk; subst hk; repeat (first | exact QV | exact Zr hg | exact Zr hu | refine QU ?_))))
 ·exact ⟨by simp only [List.length_nil]; omega, by simp⟩
 intro ⟨k, ns, J⟩ hI
 try dsimp only at hI
 try dsimp only
 refine XD ?_ -- 1
 refine Q4 fun K hK => Qa Z (NL Z Z (hK _ _ (QL (kp5 Z Z Z Z Z) ?_)))
 refine YO Z (fun h1 => ?_) (fun h1 => ?_)
 ·try rw [h1]
  try simp only [qA] at h1
  refine Y9 (QW (kp4 Z Z Z Z) ?_)
  refine XD ?_ -- 2
  refine YE (Q4 fun K hK => mv2 Z Z ?_)
  obtain ⟨x1, J1, hx1, hc1⟩ := Du (I := J) (H := (kg, gB L (J) eg) :: H) Qt hU.cons (hC.pr rfl) hL h2n hn
  refine YC (hc1 _ _ rfl (JX (B := [_, _]) hB Wj (by intro p hp h; simp only [Qgt, Qgs, or_false] at hp; rcases hp with rfl | rfl <;> first | rfl | (simp only at h; omega)))) ?_
  refine QD Z (by repeat (first | exact hB.none Wk | refine Zs Wi ?_)) ?_
  refine Qa Z (hK _ _ (QL (kp5 Z Z Z Z Z) ?_))
  refine Qdp (ι := List WantT × Int) (fun ⟨r, J4⟩ => ⟨[(0, .ref kg 0 0), (1, .osl ku us.length), (7, .osl 7 ns.length), (8, .int .i64 k), (9, Q7 r)], [(7, ⟨(ns).map (fun r => [Q7 r]), 1, 59, true⟩), (kg, gB L J4 eg)] ++ H⟩) (fun ⟨r, J4⟩ => Sk us.length r) ?_ ?_
  ·skip
   refine Q4 fun K hK => Qa Z (YC (HI (I := J1) Z (Qk Wa Qt) hL Wa) (ZE Z Z (hK _ _ (QL (kp6 Z Z Z Z Z Z) ?_))))
   refine YO Z (fun h2 => ?_) (fun h2 => ?_)
   ·try rw [h2]
    try simp only [qA] at h2
    refine ZR fun K hK => mv2 Z Z (Qa Z ?_)
    obtain ⟨x2, J2, hx2, hc2⟩ := Du (I := nxI J1) (H := (kg, gB L (nxI J1) eg) :: H) Qt hU.cons (hC.pr rfl) hL h2n hn
    refine YC (hc2 _ _ rfl (JX (B := [_, _, _, _, _]) hB Wj (by intro p hp h; simp only [Qgt, Qgs, or_false] at hp; rcases hp with rfl | rfl | rfl | rfl | rfl <;> first | rfl | (simp only at h; omega)))) ?_
    refine QD Z (by repeat (first | exact hB.none Wk | refine Zs Wi ?_)) ?_
    refine Qb6 Z Z Wn ⟨_, rfl, rfl, rfl, rfl, rfl⟩ (by repeat (first | exact hB.none Wk | refine Zs Wi ?_)) (Qk Wk (Qk Wa (Qk Wa Z))) Z Z Z Wf Wf ?_
    refine Qa Z (hK _ ?_)
    refine Yo ([x1, x2], J2) ?_ ?_
    ·exact le_trans (T0 (l := [0, 1, 7, 8]) (B := [_, _, _, _, _, _, _, _, _]) (A := [(7, ⟨(ns).map (fun r => [Q7 r]), 1, 59, true⟩), (kg, gB L J2 eg)]) 30 9 (kp4 rfl rfl rfl rfl) rfl rfl rfl Wm (by intro p hp hk; simp only [Qgt, Qgs, or_false] at hp; rcases hp with rfl | rfl | rfl | rfl <;> first | (simp [D.ids, D.sid, Q7, QT, ZJ] at hk; done) | (simp [D.ids, D.sid, Q7, QT, ZJ] at hk; omega)) (by intro p hp; simp only [Qgt, Qgs, or_false] at hp; rcases hp with rfl | rfl <;> exact ⟨by first | decide | (simp only; omega), by repeat (first | exact Qt | refine Qk Wi ?_), rfl⟩) (by intro p hp h; simp only [Qgt, Qgs, or_false] at hp; rcases hp with rfl | rfl | rfl | rfl | rfl | rfl | rfl | rfl | rfl <;> first | (simp only at h; omega) | (repeat (first | exact QV | refine QU ?_))) hB hC (by intro p hp k hk; simp only [Qgt, Qgs, or_false] at hp; rcases hp with rfl | rfl | rfl | rfl <;> first | (simp [D.ids, D.sid, Q7, QT, ZJ] at hk; done) | (simp [D.ids, D.sid, Q7, QT, ZJ] at hk; subst hk; repeat (first | exact QV | exact Zr hg | exact Zr hu | refine QU ?_)))) (MH (l := [0, 1, 7, 8, 9]) (B := [_, _]) (kp5 rfl rfl rfl rfl rfl) rfl (by intro p hp; simp only [Qgt, Qgs, or_false] at hp; rcases hp with rfl | rfl <;> exact ⟨by repeat (first | exact Qt | refine Qk Wi ?_), rfl⟩) rfl (by intro p hp h; simp only [Qgt, Qgs, or_false] at hp; rcases hp with rfl | rfl <;> first | (simp only at h; omega) | (repeat (first | exact QV | refine QU ?_))) hB hC (by intro p hp k hk; simp only [Qgt, Qgs, or_false] at hp; rcases hp with rfl | rfl | rfl | rfl | rfl <;> first | (simp [D.ids, D.sid, Q7, QT, ZJ] at hk; done) | (simp [D.ids, D.sid, Q7, QT, ZJ] at hk; subst hk; repeat (first | exact QV | exact Zr hg | exact Zr hu | refine QU ?_))))
    ·exact QcP hx1 hx2
   ·try rw [h2]
    try simp only [qA] at h2
    refine Y9 ?_
    refine Yo ([x1], nxI J1) ?_ ?_
    ·exact le_trans (T0 (l := [0, 1, 7, 8]) (B := [_, _, _, _, _]) (A := [(7, ⟨(ns).map (fun r => [Q7 r]), 1, 59, true⟩), (kg, gB L (nxI J1) eg)]) 21 9 (kp4 rfl rfl rfl rfl) rfl (Qk Wa rfl) rfl Wm (by intro p hp hk; simp only [Qgt, Qgs, or_false] at hp; rcases hp with rfl | rfl | rfl | rfl <;> first | (simp [D.ids, D.sid, Q7, QT, ZJ] at hk; done) | (simp [D.ids, D.sid, Q7, QT, ZJ] at hk; omega)) (by intro p hp; simp only [Qgt, Qgs, or_false] at hp; rcases hp with rfl | rfl <;> exact ⟨by first | decide | (simp only; omega), by repeat (first | exact Qt | refine Qk Wi ?_), rfl⟩) (by intro p hp h; simp only [Qgt, Qgs, or_false] at hp; rcases hp with rfl | rfl | rfl | rfl | rfl <;> first | (simp only at h; omega) | (repeat (first | exact QV | refine QU ?_))) hB hC (by intro p hp k hk; simp only [Qgt, Qgs, or_false] at hp; rcases hp with rfl | rfl | rfl | rfl <;> first | (simp [D.ids, D.sid, Q7, QT, ZJ] at hk; done) | (simp [D.ids, D.sid, Q7, QT, ZJ] at hk; subst hk; repeat (first | exact QV | exact Zr hg | exact Zr hu | refine QU ?_)))) (MH (l := [0, 1, 7, 8, 9]) (B := [_, _]) (kp5 rfl rfl rfl rfl rfl) rfl (by intro p hp; simp only [Qgt, Qgs, or_false] at hp; rcases hp with rfl | rfl <;> exact ⟨by repeat (first | exact Qt | refine Qk Wi ?_), rfl⟩) rfl (by intro p hp h; simp only [Qgt, Qgs, or_false] at hp; rcases hp with rfl | rfl <;> first | (simp only at h; omega) | (repeat (first | exact QV | refine QU ?_))) hB hC (by intro p hp k hk; simp only [Qgt, Qgs, or_false] at hp; rcases hp with rfl | rfl | rfl | rfl | rfl <;> first | (simp [D.ids, D.sid, Q7, QT, ZJ] at hk; done) | (simp [D.ids, D.sid, Q7, QT, ZJ] at hk; subst hk; repeat (first | exact QV | exact Zr hg | exact Zr hu | refine QU ?_))))
    ·exact QcO hx1
  intro ⟨r, J4⟩ hJ
  try dsimp only at hJ
  try dsimp only
  refine ZR fun K hK => mv2 Z Z ?_
  refine QD Z (by repeat (first | exact hB.none Wk | refine Zs Wi ?_)) ?_
  refine XF Z Z (fun _ h => XC Z Z Z h) Z Wf Z Z Z Wh Wh (Qa Z (hK _ ?_))
  refine Qe (QW (kp4 Z Z Z Z) (ZR fun K hK => Qa Z (XU Z Z Wc (Qa Z (hK _ ?_)))))
  refine Qi (k - 1, ns ++ [r], J4) ?_ ?_ ?_
  ·exact le_trans (QdH (B := [_, _, _, _]) 7 hB hC) (MH (l := [0, 1, 7, 8]) (A := [(7, ⟨ns.map (fun r => [Q7 r]) ++ [[Q7 r]], 1, 59, true⟩), (kg, gB L J4 eg)]) (B := [_, _, _, _]) (kp4 rfl rfl rfl rfl) (by simp [D.scrub, show ¬ kg = 7 by omega, show ¬ ku = 7 by omega] <;> omega) (by intro p hp; simp only [Qgt, Qgs, or_false] at hp; rcases hp with rfl | rfl <;> exact ⟨by repeat (first | exact Qt | refine Qk Wi ?_), rfl⟩) Wf (by intro p hp h; simp only [Qgt, Qgs, or_false] at hp; rcases hp with rfl | rfl | rfl | rfl <;> first | (simp only at h; omega) | (repeat (first | exact QV | refine QU ?_))) hB hC (by intro p hp k hk; simp only [Qgt, Qgs, or_false] at hp; rcases hp with rfl | rfl | rfl | rfl <;> first | (simp [D.ids, D.sid, Q7, QT, ZJ] at hk; done) | (simp [D.ids, D.sid, Q7, QT, ZJ] at hk; subst hk; repeat (first | exact QV | exact Zr hg | exact Zr hu | refine QU ?_))))
  ·exact ⟨by simp only [List.length_append, List.length_singleton]; omega, BO hI.2 hJ⟩
  ·show k - 1 < k; omega
 ·try rw [h1]
  try simp only [qA] at h1
  refine K8 (YI (Qw (QE (QW (kp1 Z) (Q4 fun K hK => mv2 Z Z (hK _ _ (QL (kp1 Z) ?_)))))))
  refine NB ?_
  refine ⟨QT ns, (kg, gB L J eg) :: H, ⟨ns, _, ⟨Wa, hI.2⟩, rfl, rfl⟩, (XR hB hC hkg rfl).1, (XR hB hC hkg rfl).2, ?_⟩
  refine YH Z (by simp [Ci, D.fz, D.fzS, NI, lk, D.can, D.canS, QT]) ?_
  exact JX (B := [_, _]) hB Wj (by intro p hp h; simp only [Qgt, Qgs, or_false] at hp; rcases hp with rfl | rfl <;> first | rfl | (simp only at h; omega))
end Go.Proofs
namespace M25
open Go Go.Abs M3
/-! ### The boxes of a world under way -/
def fbx (ec : Nat) (us : List UR) : Qgo := us.map fun u => (u.k, ⟨u.cs.map dCR, 8, ec, true⟩)
def Yg (us : List UR) : Prop := ∀ j, ∀ h : j < us.length, us[j].k = 500001 + j
theorem SO {us : List UR} {u : UR} (h : Yg us) (hu : u.k = 500001 + us.length) : Yg (us ++ [u]) := fun j hj => by
 rw [List.length_append, List.length_singleton] at hj
 by_cases e : j < us.length
 ·rw [List.getElem_append_left e]; exact h j e
 ·have : j = us.length := Wa
  subst this
  rw [List.getElem_append_right (Nat.le_refl _)]; simpa using hu
theorem Mu (ec : Nat) (us : List UR) : Qak (fbx ec us) := fun p hp => by
 obtain ⟨u, _, rfl⟩ := QgF.1 hp; rfl
theorem PN {ec : Nat} : ∀ {us : List UR} {k : Nat} {b : Box}, lk (fbx ec us) k = some b -> ∃ u ∈ us, k = u.k /\ b = ⟨u.cs.map dCR, 8, ec, true⟩
 | [], _, _, h => by cases h
 | u :: us, k, b, h => by
  simp only [fbx, List.map_cons] at h
  rw [Qj] at h
  split at h
  ·rename_i e; cases h; exact ⟨u, by simp, e.symm, rfl⟩
  ·obtain ⟨v, hv, q⟩ := PN (us := us) h
   exact ⟨v, by simp [hv], q⟩
theorem KO {us : List UR} (h : Yg us) {u : UR} (hu : u ∈ us) : 500001 <= u.k /\ u.k < 500001 + us.length := by
 obtain ⟨j, hj, rfl⟩ := QgN hu
 have := h j hj
 omega
theorem Rp {ec : Nat} {us : List UR} (h : Yg us) : QeO 500001 (fbx ec us) := fun k b hk => by
 obtain ⟨u, hu, rfl, _⟩ := PN hk
 exact (KO h hu).1
theorem YZ {ec : Nat} {us : List UR} (h : Yg us) {k : Nat} (hk : k < 500001 \/ 500001 + us.length <= k) : lk (fbx ec us) k = none := by
 cases hh : lk (fbx ec us) k with
 | none => rfl
 | some b =>
  obtain ⟨u, hu, rfl, _⟩ := PN hh
  have := KO h hu
  omega
theorem CQ {ec : Nat} : ∀ {us : List UR} {n : Nat}, (∀ j, ∀ h : j < us.length, us[j].k = n + j) -> ∀ j, ∀ h : j < us.length, lk (fbx ec us) (n + j) = some ⟨us[j].cs.map dCR, 8, ec, true⟩
 | [], _, _, j, hj => by simp at hj
 | u :: us, n, hk, 0, _ => by
  have := hk 0 Wf
  simp only [List.getElem_cons_zero, Nat.add_zero] at this
  simp only [fbx, List.map_cons, Nat.add_zero]
  rw [Qj, if_pos this]; rfl
 | u :: us, n, hk, j + 1, hj => by
  have h0 := hk 0 Wf
  simp only [List.getElem_cons_zero, Nat.add_zero] at h0
  simp only [fbx, List.map_cons]
  rw [Qj, if_neg Wa]
  have := CQ (ec := ec) (us := us) (n := n + 1) (fun i hi => by
   have := hk (i + 1) (by simpa using hi)
   simp only [List.getElem_cons_succ] at this
   omega) j (by simpa using hj)
  rw [show n + 1 + j = n + (j + 1) by omega] at this
  simp only [List.getElem_cons_succ]
  exact this
theorem CP {ec : Nat} {us : List UR} (h : Yg us) {j : Nat} (hj : j < us.length) : lk (fbx ec us) (500001 + j) = some ⟨us[j].cs.map dCR, 8, ec, true⟩ := CQ h j hj
theorem LU (ec : Nat) (us : List UR) (u : UR) : fbx ec (us ++ [u]) = fbx ec us ++ [(u.k, ⟨u.cs.map dCR, 8, ec, true⟩)] := by simp [fbx]
theorem QaH {ec : Nat} {us : List UR} (h : Yg us) {kg : Nat} {x y : Box} {u : UR} (hu : u.k = 500001 + us.length) (hkg : u.k ≠ kg) (k : Nat) :
  lk ((u.k, ⟨u.cs.map dCR, 8, ec, true⟩) :: (500000, x) :: (kg, y) :: fbx ec us) k = lk ((500000, x) :: (kg, y) :: fbx ec (us ++ [u])) k := by
 rw [LU]
 by_cases e : u.k = k
 ·subst e
  rw [Qt, Qj, if_neg Wa, Qj, if_neg (Ne.symm hkg), Y0 (YZ h (.inr Wa)), Qt]
 ·rw [Qj, if_neg e, Qj, Qj, Qj, Qj]
  split
  ·rfl
  ·split
   ·rfl
   ·rw [ZX]
    cases h2 : lk (fbx ec us) k with
    | some v => rfl
    | none => rw [Qj, if_neg e]; rfl
def zr (v : Vr) (sh : Int) : CR := ⟨v, .int .i64 sh, .fsl [], .fsl []⟩
def Qde (u : UR) : Prop := u.cs.length <= 4 /\ ∀ z ∈ u.cs, ∃ v sh, z = zr v sh /\ Pt v
theorem QbQ {u : UR} : (dUR u).flatMap D.sid = [u.k] := by simp [dUR, D.sid]
theorem K5 {us : List UR} {e et : Nat} {k : Nat} (h : k ∈ (Box.ids ⟨us.map dUR, e, et, false⟩)) : ∃ u ∈ us, k = u.k := by
 simp only [Box.ids, Qgz, if_false, Qgy, QgF] at h
 obtain ⟨r, ⟨u, hu, rfl⟩, hk⟩ := h
 have : k ∈ (dUR u).flatMap D.sid := Qgy.2 hk
 rw [QbQ] at this
 exact ⟨u, hu, by simpa using this⟩
theorem QcX {us : List UR} (h : Yg us) : ∀ r ∈ us.map dUR, ∀ d ∈ r, 500000 ∉ d.sid := fun r hr d hd hk => by
 obtain ⟨u, hu, rfl⟩ := QgF.1 hr
 have : 500000 ∈ (dUR u).flatMap D.sid := Qgy.2 ⟨d, hd, hk⟩
 rw [QbQ] at this
 have h2 := KO h hu
 simp only [QgA] at this
 omega
theorem Rf {B F : Qgo} {j : Nat} (h : (lk F j).isSome = true) : (lk (B ++ F) j).isSome = true := by
 rw [ZX]; split
 ·rfl
 ·exact h
theorem Fe {ec : Nat} {us : List UR} (h : Yg us) {u : UR} (hu : u ∈ us) : (lk (fbx ec us) u.k).isSome = true := by
 obtain ⟨j, hj, rfl⟩ := QgN hu
 rw [h j hj, CP h hj]; rfl
theorem Rq {ec : Nat} {us : List UR} {u : UR} (h : Yg us) (hu : u.k = 500001 + us.length) : lk (fbx ec (us ++ [u])) (500001 + us.length) = some ⟨u.cs.map dCR, 8, ec, true⟩ := by
 rw [LU, Y0 (YZ h (.inr (Nat.le_refl _))), <- hu, Qt]
section
variable {l : List Nat} {fr fr1 fr' : Qgp} {B : Qgo} {kg eg eu ec : Nat} {L : List Int} {J : Int} {us : List UR}
theorem QeR (hf : Q8 l fr = fr1) (ef : fr1 = fr') (hK : Yg us) (hu : lk B 500000 = some ⟨us.map dUR, 3, eu, false⟩) (hg : lk B kg = some (gB L J eg)) (hB : ∀ p ∈ B, 500001 <= p.1 -> p.1 = kg) (hkg : kg ≠ 500000)
  (hfr : ∀ p ∈ fr', ∀ k ∈ p.2.ids, k = 500000 \/ k = kg \/ ∃ u ∈ us, k = u.k) : St.le ⟨fr, B ++ fbx ec us⟩ ⟨fr', [(500000, ⟨us.map dUR, 3, eu, false⟩), (kg, gB L J eg)] ++ fbx ec us⟩ := by
 have s0 : ∀ k, (k = 500000 \/ k = kg \/ ∃ u ∈ us, k = u.k) -> (lk ([(500000, (⟨us.map dUR, 3, eu, false⟩ : Box)), (kg, gB L J eg)] ++ fbx ec us) k).isSome = true := fun k hk => by
  rcases hk with rfl | rfl | ⟨u, hu, rfl⟩
  ·exact QV
  ·exact QU QV
  ·exact Rf (Fe hK hu)
 refine T1 (N := 500001) hf ef (fun p hp => ?_) rfl (fun p hp j hj => s0 j ?_) (fun p hp h => ?_) (Rp hK) (Mu ec us) (fun p hp k hk => s0 k (hfr p hp k hk))
 ·simp only [Qgt, Qgs, or_false] at hp
  rcases hp with rfl | rfl
  ·exact hu
  ·exact hg
 ·simp only [Qgt, Qgs, or_false] at hp
  rcases hp with rfl | rfl
  ·exact .inr (.inr (K5 hj))
  ·simp [Box.ids, gB] at hj
 ·rw [hB p hp h]; exact QU QV
theorem Qdc {cs : List CR} (hf : Q8 l fr = fr1) (ef : fr1 = fr') (hK : Yg us) (hc : lk B (500001 + us.length) = some ⟨cs.map dCR, 8, ec, true⟩) (hu : lk B 500000 = some ⟨us.map dUR, 3, eu, false⟩) (hg : lk B kg = some (gB L J eg)) (hB : ∀ p ∈ B, 500001 <= p.1 -> p.1 = kg \/ p.1 = 500001 + us.length)
  (hfr : ∀ p ∈ fr', ∀ k ∈ p.2.ids, k = 500000 \/ k = kg \/ k = 500001 + us.length \/ ∃ u ∈ us, k = u.k) : St.le ⟨fr, B ++ fbx ec us⟩ ⟨fr', [(500001 + us.length, ⟨cs.map dCR, 8, ec, true⟩), (500000, ⟨us.map dUR, 3, eu, false⟩), (kg, gB L J eg)] ++ fbx ec us⟩ := by
 have s0 : ∀ k, (k = 500000 \/ k = kg \/ k = 500001 + us.length \/ ∃ u ∈ us, k = u.k) -> (lk ([(500001 + us.length, (⟨cs.map dCR, 8, ec, true⟩ : Box)), (500000, (⟨us.map dUR, 3, eu, false⟩ : Box)), (kg, gB L J eg)] ++ fbx ec us) k).isSome = true := fun k hk => by
  rcases hk with rfl | rfl | rfl | ⟨u, hu, rfl⟩
  ·exact QU QV
  ·exact QU (QU QV)
  ·exact QV
  ·exact Rf (Fe hK hu)
 refine T1 (N := 500001) hf ef (fun p hp => ?_) rfl (fun p hp j hj => s0 j ?_) (fun p hp h => ?_) (Rp hK) (Mu ec us) (fun p hp k hk => s0 k (hfr p hp k hk))
 ·simp only [Qgt, Qgs, or_false] at hp
  rcases hp with rfl | rfl | rfl
  ·exact hc
  ·exact hu
  ·exact hg
 ·simp only [Qgt, Qgs, or_false] at hp
  rcases hp with rfl | rfl | rfl
  ·simp [Box.ids] at hj
  ·exact .inr (.inr (.inr (K5 hj)))
  ·simp [Box.ids, gB] at hj
 ·rcases hB p hp h with e | e
  ·rw [e]; exact QU (QU QV)
  ·rw [e]; exact QV
theorem QdW {u : UR} (hf : Q8 l fr = fr1) (ef : fr1 = fr') (hK : Yg us) (huk : u.k = 500001 + us.length) (hc : lk B (500001 + us.length) = some ⟨u.cs.map dCR, 8, ec, true⟩) (hu : lk B 500000 = some ⟨(us ++ [u]).map dUR, 3, eu, false⟩) (hg : lk B kg = some (gB L J eg)) (hB : ∀ p ∈ B, 500001 <= p.1 -> p.1 = kg \/ p.1 = 500001 + us.length) (hkg : 1000000 <= kg) (hlen : us.length <= 100)
  (hfr : ∀ p ∈ fr', ∀ k ∈ p.2.ids, k = 500000 \/ k = kg \/ ∃ v ∈ us ++ [u], k = v.k) : St.le ⟨fr, B ++ fbx ec us⟩ ⟨fr', [(500000, ⟨(us ++ [u]).map dUR, 3, eu, false⟩), (kg, gB L J eg)] ++ fbx ec (us ++ [u])⟩ := by
 have hK1 := SO hK huk
 have mv := fun k => QaH (ec := ec) hK (kg := kg) (x := ⟨(us ++ [u]).map dUR, 3, eu, false⟩) (y := gB L J eg) huk Wa k
 have s0 : ∀ k, (k = 500000 \/ k = kg \/ ∃ v ∈ us ++ [u], k = v.k) -> (lk ([(u.k, (⟨u.cs.map dCR, 8, ec, true⟩ : Box)), (500000, (⟨(us ++ [u]).map dUR, 3, eu, false⟩ : Box)), (kg, gB L J eg)] ++ fbx ec us) k).isSome = true := fun k hk => by
  show (lk ((u.k, _) :: (500000, _) :: (kg, _) :: fbx ec us) k).isSome = true
  rw [mv]
  rcases hk with rfl | rfl | ⟨v, hv, rfl⟩
  ·exact QV
  ·exact QU QV
  ·exact QU (QU (Fe hK1 hv))
 refine le_trans (T1 (N := 500001) (A' := [(u.k, ⟨u.cs.map dCR, 8, ec, true⟩), (500000, ⟨(us ++ [u]).map dUR, 3, eu, false⟩), (kg, gB L J eg)]) hf ef (fun p hp => ?_) rfl (fun p hp j hj => s0 j ?_) (fun p hp h => ?_) (Rp hK) (Mu ec us) (fun p hp k hk => s0 k (hfr p hp k hk))) (RF ⟨fun _ => rfl, mv⟩)
 ·simp only [Qgt, Qgs, or_false] at hp
  rcases hp with rfl | rfl | rfl
  ·rw [huk]; exact hc
  ·exact hu
  ·exact hg
 ·simp only [Qgt, Qgs, or_false] at hp
  rcases hp with rfl | rfl | rfl
  ·simp [Box.ids] at hj
  ·exact .inr (.inr (K5 hj))
  ·simp [Box.ids, gB] at hj
 ·rcases hB p hp h with e | e
  ·rw [e]; exact QU (QU QV)
  ·rw [e, <- huk]; exact QV
end
def u0 (v : Vr) : UR := ⟨[], [], 500001, [zr v (-1)]⟩
theorem Qbv {kg a b : Nat} (h : 1000000 <= kg) (ha : a < 1000000) (hb : b < 1000000) : JM a b kg = kg := by
 unfold JM; rw [if_neg Wa, if_neg Wa]
theorem Bf {l : List Nat} {fr fr1 fr' : Qgp} {kg eg eu ec : Nat} {L : List Int} {I : Int} (hkg : 1000000 <= kg) (hf : Q8 l fr = fr1) (ef : fr1.map (fun p => (p.1, (p.2.ren (JM 18 500000)).ren (JM 16 500001))) = fr') :
  St.le ⟨fr, [(18, ⟨[[.str [], .str [], .osl 16 1]], 3, eu, false⟩), (16, ⟨[dCR (zr v0 (-1))], 8, ec, true⟩), (kg, gB L I eg)]⟩ ⟨fr', [(500000, ⟨[u0 v0].map dUR, 3, eu, false⟩), (kg, gB L I eg)] ++ fbx ec [u0 v0]⟩ := by
 subst hf ef
 have k1 := Qbv (a := 18) (b := 500000) hkg Wk Wk
 have k2 := Qbv (a := 16) (b := 500001) hkg Wk Wk
 refine le_trans (Hz l fr _) (le_trans (RH 18 500000 Wk Wk _) (le_trans (RH 16 500001 Wk Wk _) ?_))
 have hH : ∀ k, lk ([(500000, (⟨[u0 v0].map dUR, 3, eu, false⟩ : Box)), (kg, gB L I eg)] ++ fbx ec [u0 v0]) k = lk (P3 (JM 16 500001) (P3 (JM 18 500000) [(18, ⟨[[.str [], .str [], .osl 16 1]], 3, eu, false⟩), (16, ⟨[dCR (zr v0 (-1))], 8, ec, true⟩), (kg, gB L I eg)])) k := fun k => by
  have e : P3 (JM 16 500001) (P3 (JM 18 500000) [(18, (⟨[[.str [], .str [], .osl 16 1]], 3, eu, false⟩ : Box)), (16, ⟨[dCR (zr v0 (-1))], 8, ec, true⟩), (kg, gB L I eg)]) = [(500000, ⟨[u0 v0].map dUR, 3, eu, false⟩), (500001, ⟨[dCR (zr v0 (-1))], 8, ec, true⟩), (kg, gB L I eg)] := by
   simp only [P3, List.map_cons, List.map_nil, k1, k2]; rfl
  rw [e]
  show lk ((500000, _) :: (kg, _) :: (500001, _) :: []) k = _
  rw [Qj, Qj, Qj, Qj, Qj, Qj]
  by_cases h1 : 500000 = k
  ·rw [if_pos h1, if_pos h1]
  ·rw [if_neg h1, if_neg h1]
   by_cases h2 : kg = k
   ·rw [if_pos h2, if_neg Wa, if_pos h2]
   ·rw [if_neg h2, if_neg h2]; rfl
 refine KP (by simp only [St.ren, List.map_map]; rfl) fun k => (hH k).symm
def names5 : List (List UInt8) := [[97, 110, 116], [98, 101, 101], [99, 111, 119], [100, 111, 103], [101, 108, 107]]
theorem Q6 : names5.length = 5 := rfl
theorem QcY : versions.length = 4 := rfl
theorem QdY {i : Nat} (h : i < versions.length) : Pt versions[i] := by
 have := Lw _ (Qgw h)
 exact ⟨QgK this.1 Wa, QgK this.2 Wa⟩
structure UnitsIn (us : List UR) : Prop where
 keys : Yg us
 fresh : ∀ u ∈ us, Qde u
 first : ∃ z rest, us = ⟨[], [], 500001, [z]⟩ :: rest
theorem UnitsIn.zero : UnitsIn [u0 v0] := by
 refine ⟨fun j hj => ?_, fun u hu => ?_, ⟨zr v0 (-1), [], rfl⟩⟩
 ·have : j = 0 := by simp at hj; exact hj
  subst this; rfl
 ·simp only [QgA] at hu; subst hu
  refine ⟨by simp [u0], fun z hz => ?_⟩
  simp only [u0, QgA] at hz; subst hz
  exact ⟨v0, -1, rfl, ⟨QgD _, QgD _⟩⟩
theorem UnitsIn.snoc {us : List UR} (h : UnitsIn us) {n f : List UInt8} {cs : List CR} (hc : cs.length <= 4) (hz : ∀ z ∈ cs, ∃ v sh, z = zr v sh /\ Pt v) : UnitsIn (us ++ [⟨n, f, 500001 + us.length, cs⟩]) := by
 obtain ⟨h1, h2, z, rest, h3⟩ := h
 refine ⟨SO h1 rfl, fun u hu => ?_, z, rest ++ [⟨n, f, 500001 + us.length, cs⟩], by rw [h3]; rfl⟩
 rcases QgC.1 hu with hu | hu
 ·exact h2 u hu
 ·simp only [QgA] at hu; subst hu; exact ⟨hc, hz⟩
def CsIn (n : Nat) (cs : List CR) : Prop := cs.length <= n /\ ∀ z ∈ cs, ∃ v sh, z = zr v sh /\ Pt v
theorem CsIn.nil (n : Nat) : CsIn n [] := ⟨QgD _, by simp⟩
theorem CsIn.keep {n : Nat} {cs : List CR} (h : CsIn n cs) : CsIn (n + 1) cs := ⟨Nat.le_succ_of_le h.1, h.2⟩
theorem CsIn.snoc {n : Nat} {cs : List CR} (h : CsIn n cs) {v : Vr} (hv : Pt v) {sh : Int} : CsIn (n + 1) (cs ++ [zr v sh]) := by
 refine ⟨by simp; exact h.1, fun z hz => ?_⟩
 rcases QgC.1 hz with hz | hz
 ·exact h.2 z hz
 ·simp only [QgA] at hz; subst hz; exact ⟨v, sh, rfl, hv⟩
theorem CsIn.at {n : Nat} {cs : List CR} (h : CsIn n cs) {i : Nat} (hi : i < cs.length) : Pt cs[i].v := by
 obtain ⟨v, sh, e, hv⟩ := h.2 _ (Qgw hi)
 rw [e]; exact hv
/-! ### What units are called, and of which versions they are -/
def nmR (r : Nat) : List UInt8 := names5.getD (r / 2) []
def ftR (r : Nat) : List UInt8 := if r % 2 = 1 then [102] else []
def shp (u : UR) : List UInt8 × List UInt8 × List Vr := (u.n, u.f, u.cs.map CR.v)
inductive UL : Nat -> List (List UInt8 × List UInt8 × List Vr) -> Prop
 | base : UL 0 [([], [], [v0])]
 | snoc {b r : Nat} {l : List (List UInt8 × List UInt8 × List Vr)} {vs : List Vr} (h : UL b l) (hb : b <= r) (hr : r < 10) (hf : r % 2 = 1 -> 2 <= l.length) (hc : vs.Sublist versions) : UL (r + 1) (l ++ [(nmR r, ftR r, vs)])
 | up {b b' : Nat} {l : List (List UInt8 × List UInt8 × List Vr)} (h : UL b l) (hb : b <= b') : UL b' l
theorem Bx {n : Nat} (h : n < names5.length) : nmR (2 * n) = names5[n] /\ ftR (2 * n) = [] /\ nmR (2 * n + 1) = names5[n] /\ ftR (2 * n + 1) = [102] := by
 refine ⟨?_, ?_, ?_, ?_⟩
 ·rw [nmR, show 2 * n / 2 = n by omega, List.getD_eq_getElem?_getD, List.getElem?_eq_getElem h]; rfl
 ·rw [ftR, if_neg Wa]
 ·rw [nmR, show (2 * n + 1) / 2 = n by omega, List.getD_eq_getElem?_getD, List.getElem?_eq_getElem h]; rfl
 ·rw [ftR, if_pos Wa]
theorem Qab {n : Nat} {us : List UR} {k : Nat} {cs : List CR} (h : UL (2 * n) (us.map shp)) (hn : n < names5.length) (hc : (cs.map CR.v).Sublist versions) : UL (2 * n + 1) ((us ++ [UR.mk names5[n] [] k cs]).map shp) := by
 obtain ⟨e1, e2, _, _⟩ := Bx hn
 have := UL.snoc h (Nat.le_refl _) (by have := Q6; omega) (fun e => Wa) hc
 rw [List.map_append]
 show UL _ (_ ++ [(names5[n], [], cs.map CR.v)])
 rw [<- e1, <- e2]; exact this
theorem QeK {n : Nat} {us : List UR} {k : Nat} {cs : List CR} (h : UL (2 * n + 1) (us.map shp)) (hn : n < names5.length) (h2 : 2 <= us.length) (hc : (cs.map CR.v).Sublist versions) : UL (2 * (n + 1)) ((us ++ [UR.mk names5[n] [102] k cs]).map shp) := by
 obtain ⟨_, _, e1, e2⟩ := Bx hn
 have := UL.snoc h (Nat.le_refl _) (by have := Q6; omega) (fun _ => by simpa using h2) hc
 rw [List.map_append]
 show UL (2 * n + 1 + 1) (_ ++ [(names5[n], [102], cs.map CR.v)])
 rw [<- e1, <- e2]; exact this
theorem UL.vs {b : Nat} {l : List (List UInt8 × List UInt8 × List Vr)} (h : UL b l) : ∀ s ∈ l, VsL s.2.2 := by
 induction h with
 | base => intro s hs; simp only [QgA] at hs; subst hs; exact .inr rfl
 | snoc _ _ _ _ hc ih =>
  intro s hs
  rcases QgC.1 hs with hs | hs
  ·exact ih s hs
  ·simp only [QgA] at hs; subst hs; exact .inl hc
 | up _ _ ih => exact ih
theorem UL.feat {b : Nat} {l : List (List UInt8 × List UInt8 × List Vr)} (h : UL b l) : ∀ i (hi : i < l.length), l[i].2.1 ≠ [] -> 2 <= i := by
 induction h with
 | base =>
  intro i hi hf
  have : i = 0 := by simp at hi; exact hi
  subst this; exact absurd rfl hf
 | @snoc b r l vs h _ _ hr _ ih =>
  intro i hi hf
  rw [List.length_append, List.length_singleton] at hi
  by_cases e : i < l.length
  ·rw [List.getElem_append_left e] at hf; exact ih i e hf
  ·have : i = l.length := Wa
   subst this
   rw [List.getElem_append_right (Nat.le_refl _)] at hf
   simp only [Nat.sub_self, List.getElem_cons_zero, ftR] at hf
   split at hf
   ·rename_i q; exact hr q
   ·exact absurd rfl hf
 | up _ _ ih => exact ih
theorem Qd0 {l : List Vr} {cs : List CR} {i : Nat} {x : Int} (h : i < l.length) (hL : (cs.map CR.v).Sublist (l.take i)) : ((cs ++ [zr l[i] x]).map CR.v).Sublist (l.take (i + 1)) := by
 rw [List.map_append, List.take_succ_eq_append_getElem h]
 exact hL.append (List.Sublist.refl _)
theorem QdZ {cs c2 : List CR} {m : Nat} {x : Int} (h : m < cs.length) (hL : (c2.map CR.v).Sublist ((cs.map CR.v).take m)) : ((c2 ++ [zr cs[m].v x]).map CR.v).Sublist ((cs.map CR.v).take (m + 1)) := by
 rw [List.map_append, List.take_succ_eq_append_getElem (by simpa using h)]
 simp only [List.getElem_map]
 exact hL.append (List.Sublist.refl _)
theorem DJ {L : List Vr} {i : Nat} (h : L.Sublist (versions.take i)) : L.Sublist versions := h.trans (List.take_sublist _ _)
theorem Da {α : Type} {k : Nat} {v v' : α} {l : List (Nat × α)} (h : v = v') : lk ((k, v) :: l) k = some v' := by rw [Qt, h]
theorem Tj {us : List UR} {e et : Nat} (h : Yg us) : Box.scrub (500001 + us.length) ⟨us.map dUR, e, et, false⟩ = ⟨us.map dUR, e, et, false⟩ := Ti fun hk => by
 obtain ⟨u, hu, e⟩ := K5 hk
 have := KO h hu
 omega
theorem DH {us : List UR} (h : Yg us) {n f : List UInt8} {k m : Nat} (hk : k ≠ 500000) : ∀ r ∈ us.map dUR ++ [[D.str n, D.str f, D.osl k m]], ∀ d ∈ r, 500000 ∉ d.sid := fun r hr d hd => by
 rcases QgC.1 hr with hr | hr
 ·exact QcX h r hr d hd
 ·simp only [QgA] at hr; subst hr
  simp only [Qgt, Qgs, or_false] at hd
  rcases hd with rfl | rfl | rfl <;> simp [D.sid]
  exact Ne.symm hk
theorem QcW {us : List UR} {u : UR} : (us ++ [u]).map dUR = us.map dUR ++ [dUR u] := by simp
theorem Qcs {cs : List CR} {z : CR} : (cs ++ [z]).map dCR = cs.map dCR ++ [dCR z] := by simp
theorem Kz {us : List UR} (h : Yg us) {kg eu ec : Nat} {g1 g2 g3 : Box} (hkg : 1000000 <= kg) (h1 : g1.pr = true) (h2 : g2.pr = true) (hlen : us.length <= 100) :
  (∀ k, 1000000 <= k -> (lk [(kg, g1)] k).isSome = true -> (lk (((500000, (⟨us.map dUR, 3, eu, false⟩ : Box)) :: fbx ec us) ++ [(kg, g2), (kg, g1)]) k).isSome = true) /\
  (∀ k b, lk (((500000, (⟨us.map dUR, 3, eu, false⟩ : Box)) :: fbx ec us) ++ [(kg, g2), (kg, g1)]) k = some b -> 500000 <= k /\ ∀ j ∈ b.ids, (lk (((500000, (⟨us.map dUR, 3, eu, false⟩ : Box)) :: fbx ec us) ++ [(kg, g2), (kg, g1)]) j).isSome = true) /\
  (∀ k b, lk (((500000, (⟨us.map dUR, 3, eu, false⟩ : Box)) :: fbx ec us) ++ [(kg, g2), (kg, g1)]) k = some b -> lk ((kg, g2) :: (500000, ⟨us.map dUR, 3, eu, false⟩) :: (kg, g3) :: fbx ec us) k = some b) := by
 have cs : ∀ k b, lk (((500000, (⟨us.map dUR, 3, eu, false⟩ : Box)) :: fbx ec us) ++ [(kg, g2), (kg, g1)]) k = some b -> (k = 500000 /\ b = ⟨us.map dUR, 3, eu, false⟩) \/ (∃ u ∈ us, k = u.k /\ b = ⟨u.cs.map dCR, 8, ec, true⟩) \/ (k = kg /\ b = g2) := fun k b hk => by
  rw [List.cons_append, Qj] at hk
  split at hk
  ·rename_i e; cases hk; exact .inl ⟨e.symm, rfl⟩
  ·rw [ZX] at hk
   cases hh : lk (fbx ec us) k with
   | some v =>
    rw [hh] at hk; cases hk
    exact .inr (.inl (PN hh))
   | none =>
    rw [hh] at hk
    simp only at hk
    rw [Qj] at hk
    split at hk
    ·rename_i e; cases hk; exact .inr (.inr ⟨e.symm, rfl⟩)
    ·rename_i e
     rw [Qj, if_neg e] at hk; cases hk
 refine ⟨fun k _ hk => ?_, fun k b hk => ?_, fun k b hk => ?_⟩
 ·obtain ⟨b, hb⟩ := Qgx.1 hk
  obtain ⟨rfl, _⟩ := Xw hb
  exact Rf QV
 ·rcases cs k b hk with ⟨rfl, rfl⟩ | ⟨u, hu, rfl, rfl⟩ | ⟨rfl, rfl⟩
  ·refine ⟨Nat.le_refl _, fun j hj => ?_⟩
   obtain ⟨u, hu, rfl⟩ := K5 hj
   rw [List.cons_append]
   refine QU ?_
   obtain ⟨b, hb⟩ := Qgx.1 (Fe (ec := ec) h hu)
   rw [YF hb]; rfl
  ·have := KO h hu
   exact ⟨Wa, fun j hj => by simp [Box.ids] at hj⟩
  ·exact ⟨Wa, fun j hj => by rw [Jj h2] at hj; cases hj⟩
 ·rcases cs k b hk with ⟨rfl, rfl⟩ | ⟨u, hu, rfl, rfl⟩ | ⟨rfl, rfl⟩
  ·exact Qk Wa Qt
  ·have hm := KO h hu
   obtain ⟨j, hj, rfl⟩ := QgN hu
   refine Qk Wa (Qk Wa (Qk Wa ?_))
   rw [h j hj]; exact CP h hj
  ·exact Qt
end M25
namespace Go.Proofs
open Go Go.Abs M3 M25
theorem _root_.Wg {p : Prop} (h : p := by repeat (first | exact Qt | refine Qk (by omega) ?_)) : p := h
theorem Gd {kg : Nat} {L : List Int} {I most : Int} {eg eu ec : Nat} (heu : eu = 64) (hec : ec = 61) (hkg : 1000000 <= kg) (hL : ∀ x ∈ L, I64 x) (hm0 : 1 <= most) (hm1 : most <= 5) : ∃ d H2, (∃ us I2, (UnitsIn us /\ 2 <= us.length /\ us.length <= 11 /\ ∃ b, UL b (us.map shp)) /\ d = .osl 500000 us.length /\ H2 = ((500000, ⟨us.map dUR, 3, eu, false⟩) :: fbx ec us) ++ [(kg, gB L I2 eg), (kg, gB L I eg)]) /\ OkH Tryz.prog 22 [.ref kg 0 0, .int .i64 most] [(kg, gB L I eg)] d H2 := by
 subst heu hec
 have e3 : ¬ kg = 500000 := Wa
 have k1 := Qbv (a := 18) (b := 500000) hkg Wk Wk
 have k2 := Qbv (a := 16) (b := 500001) hkg Wk Wk
 refine OkH.ofX (R := fun d H2 => ∃ us I2, (UnitsIn us /\ 2 <= us.length /\ us.length <= 11 /\ ∃ b, UL b (us.map shp)) /\ d = .osl 500000 us.length /\ H2 = ((500000, ⟨us.map dUR, 3, 64, false⟩) :: fbx 61 us) ++ [(kg, gB L I2 eg), (kg, gB L I eg)]) ZU Tryz.func22 Qe8 (Qgr Z) ?_
 show TX _ _ tf22.body _ _
 refine Q4 fun K hK => Qa Z (hK _ _ (QL (kp2 Z Z) ?_))
 refine Q4 fun K hK => ?_
 refine QD Z (by repeat (first | exact Z | refine Zs Wi ?_)) ?_
 refine Qa Z (hK _ _ (QL (kp3 Z Z Z) ?_))
 refine Ct (T0 (l := [0, 1]) (B := [_]) (A := []) (H0 := [(kg, gB L I eg)]) 14 5 (kp2 rfl rfl) rfl rfl rfl rfl (by intro p hp hk; simp only [Qgt, Qgs, or_false] at hp; rcases hp with rfl | rfl <;> first | (simp [D.ids, D.sid, Q7, QT, ZJ] at hk; done) | (simp [D.ids, D.sid, Q7, QT, ZJ] at hk; omega)) (by intro p hp; cases hp) (by intro p hp h; simp only [QgA] at hp; subst hp; simp only at h; omega) (fun k b h => by obtain ⟨rfl, rfl⟩ := Xw h; exact hkg) (fun k b h j hj => by obtain ⟨rfl, rfl⟩ := Xw h; simp [Box.ids, gB] at hj) (by intro p hp k hk; simp only [Qgt, Qgs, or_false] at hp; rcases hp with rfl | rfl <;> first | (simp [D.ids, D.sid, Q7, QT, ZJ] at hk; done) | (simp [D.ids, D.sid, Q7, QT, ZJ] at hk; subst hk; repeat (first | exact QV | refine QU ?_)))) ?_
 refine Q4 fun K hK => QQ Z Z ?_
 refine QD Z (by repeat (first | exact Z | refine Zs Wi ?_)) ?_
 refine QQ Z Z ?_
 refine QD Z (by repeat (first | exact Z | refine Zs Wi ?_)) ?_
 refine Qa Z (hK _ _ (QL (kp4 Z Z Z Z) ?_))
 refine Q4 fun K hK => Qv (Xu) Z Z (.inl Z) (Qa Z (hK _ _ (QL (kp5 Z Z Z Z Z) ?_)))
 refine XD ?_ -- 0
 refine Q4 fun K hK => Qa Z (hK _ _ (QL (kp6 Z Z Z Z Z Z) ?_))
 refine YE ?_
 refine GX (ι := List UR × Int × Nat) (fun ⟨us, J, n⟩ => ⟨[(0, .ref kg 0 0), (1, .int .i64 most), (5, .sl (Km names5)), (6, .osl 500000 us.length), (7, .sl (versions.map dVr)), (8, .int .i64 n)], [(500000, ⟨(us).map dUR, 3, 64, false⟩), (kg, gB L (J) eg)] ++ fbx 61 (us)⟩) (fun ⟨us, J, n⟩ => UnitsIn us /\ us.length <= 1 + 2 * n /\ n <= 5 /\ 1 + n <= us.length /\ UL (2 * n) (us.map shp)) (fun ⟨us, J, n⟩ => 5 - n) ([u0 v0], I, 0) ?_ ?_ ?_
 ·refine Bf (l := [0, 1, 5, 6, 7, 8]) hkg (kp6 Z Z Z Z Z Z) ?_; simp only [List.map_cons, List.map_nil, D.ren, D.renS, k1, k2]; rfl
 ·exact ⟨UnitsIn.zero, by simp, Wa, by simp, UL.base⟩
 intro ⟨us, J, n⟩ hI
 try dsimp only at hI
 have e1 : ¬ kg = 500001 + us.length := Wa
 have e2 : ¬ 500000 = 500001 + us.length := Wa
 have e4 : ¬ 500001 + us.length = 500000 := Wa
 have hx0 : 0 <= nx L J most := Dh
 have hx1 : nx L J most < most := Dg Wa
 have hn5 := Q6
 have hv4 := QcY
 try dsimp only
 refine XD ?_ -- 1
 refine Q4 fun K hK => mv2 Z Z (Qa Z ?_)
 refine YC (HI (I := J) Z Wg hL Wa) ?_
 refine QX Z Z Wc (Yh Z Z (Qa Z ?_))
 refine Qu (g := 26) Z (fun h1 => ?_) (fun h1 => ?_)
 ·try rw [h1]
  try simp only [qA] at h1
  refine Qd Z (Qa Z (Qd Z (Qa Z (Qd Z ?_))))
  first | refine QH rfl QM ?_ | refine QH rfl rfl ?_
  refine Qd Z (Yh Z Z (Qh Z Z (hK _ _ (QL (kp7 Z Z Z Z Z Z Z) ?_))))
  refine YO Z (fun h2 => ?_) (fun h2 => ?_)
  ·try rw [h2]
   try simp only [qA] at h2
   refine Y9 (QW (kp6 Z Z Z Z Z Z) ?_)
   refine XD ?_ -- 2
   refine YE (Q4 fun K hK => Qa Z (hK _ _ (QL (kp7 Z Z Z Z Z Z Z) ?_)))
   refine Q4 fun K hK => Qa Z ?_
   refine YC (HI (I := nxI J) Z Wg hL Wa) ?_
   refine Qa Z (hK _ _ (QL (kp8 Z Z Z Z Z Z Z Z) ?_))
   refine XD ?_ -- 3
   refine Q4 fun K hK => Qa Z (hK _ _ (QL (kp9 Z Z Z Z Z Z Z Z Z) ?_))
   refine YE ?_
   refine GX (ι := List CR × Nat) (fun ⟨cs, i⟩ => ⟨[(0, .ref kg 0 0), (1, .int .i64 most), (5, .sl (Km names5)), (6, .osl 500000 us.length), (7, .sl (versions.map dVr)), (8, .int .i64 n), (9, .osl (500001 + us.length) cs.length), (10, .int .i64 (nx L (nxI J) 16)), (11, .int .i64 i)], [(500001 + (us).length, ⟨(cs).map dCR, 8, 61, true⟩), (500000, ⟨(us).map dUR, 3, 64, false⟩), (kg, gB L (nxI (nxI J)) eg)] ++ fbx 61 (us)⟩) (fun ⟨cs, i⟩ => (i <= 4 /\ CsIn i cs) /\ (cs.map CR.v).Sublist (versions.take i)) (fun ⟨cs, i⟩ => 4 - i) ([], 0) ?_ ?_ ?_
   ·exact le_trans (Ym 9 (500001 + us.length) 8 61 rfl (by repeat (first | exact YZ hI.1.keys (.inr Wa) | refine Zs Wa ?_))) (Qdc (l := [0, 1, 5, 6, 7, 8, 9, 10, 11]) (B := [_, _, _, _, _]) (kp9 rfl rfl rfl rfl rfl rfl rfl rfl rfl) rfl hI.1.keys Wg Wg Wg (by intro p hp h; simp only [Qgt, Qgs, or_false] at hp; rcases hp with rfl | rfl | rfl | rfl | rfl <;> first | (simp only at h; omega) | exact .inl rfl | exact .inr rfl) (by intro p hp k hk; simp only [Qgt, Qgs, or_false] at hp; rcases hp with rfl | rfl | rfl | rfl | rfl | rfl | rfl | rfl | rfl <;> first | (simp [D.ids, D.sid, Q7, QT, ZJ] at hk; done) | (simp [D.ids, D.sid, Q7, QT, ZJ] at hk; subst hk; first | exact .inl rfl | exact .inr (.inl rfl) | exact .inr (.inr (.inl rfl)) | (refine .inr (.inr (.inl ?_)); simp; done) | (first | exact .inr (.inr ⟨_, QgG _ (QgA.2 rfl), rfl⟩) | exact .inr (.inr (.inr ⟨_, QgG _ (QgA.2 rfl), rfl⟩))))))
   ·exact ⟨⟨Wa, CsIn.nil _⟩, List.nil_sublist _⟩
   intro ⟨cs, i⟩ hC
   try dsimp only at hC
   have hcl := hC.1.2.1
   try dsimp only
   refine XD ?_ -- 4
   refine Q4 fun K hK => mv2 Z Z ?_
   first | refine QH rfl QM ?_ | refine QH rfl rfl ?_
   refine Yh Z Z (hK _ _ (QL (L5 Z Z Z Z Z Z Z Z Z Z) ?_))
   refine YO Z (fun h3 => ?_) (fun h3 => ?_)
   ·try rw [h3]
    try simp only [qA] at h3
    refine Y9 (QW (kp9 Z Z Z Z Z Z Z Z Z) ?_)
    refine XD ?_ -- 5
    refine YE (Q4 fun K hK => mv2 Z Z (Sj Z (N9 Wa Wa) (Qdk Z Z Wa (GV Z Z (ZE Z Z (hK _ _ (QL (L5 Z Z Z Z Z Z Z Z Z Z) ?_)))))))
    refine YO Z (fun h4 => ?_) (fun h4 => ?_)
    ·try rw [h4]
     try simp only [qA] at h4
     refine ZR fun K hK => mv2 Z Z (Qa Z (QF Z Z Z Wa (QP Wa) Z (QC (cs := [_, _, _, _, _]) Z Z Z Z (QQ Z Z ?_))))
     refine QD Z (by repeat (first | exact YZ hI.1.keys (.inl Wa) | exact YZ hK1.keys (.inl Wa) | refine Zs Wi ?_)) ?_
     refine XF (hk0 := Wa) Z Z (fun _ h => XC Z Z Z h) (Qk Wa Qt) Wf Z Z Z Wh Wh (Qa Z (hK _ ?_))
     refine Qe (QW (kp9 Z Z Z Z Z Z Z Z Z) (ZR fun K hK => Qa Z (QX Z Z Wc (Qa Z (hK _ ?_)))))
     refine Qi (cs ++ [zr (versions[i]'Wa) 0], i + 1) ?_ ?_ ?_
     ·exact le_trans (RG (B := [_, _, _, _, _]) (500001 + us.length) (Mu _ _)) (Qdc (l := [0, 1, 5, 6, 7, 8, 9, 10, 11]) (B := [_, _, _, _, _]) (kp9 rfl rfl rfl rfl rfl rfl rfl rfl rfl) (by simp [D.scrub, e1, e2, e3, e4] <;> omega) hI.1.keys (by rw [List.map_append]; exact Qt) (by repeat (first | exact Qt | exact Da (Tj hI.1.keys) | refine Qk Wa ?_)) Wg (by intro p hp h; simp only [Qgt, Qgs, or_false] at hp; rcases hp with rfl | rfl | rfl | rfl | rfl <;> first | (simp only at h; omega) | exact .inl rfl | exact .inr rfl) (by intro p hp k hk; simp only [Qgt, Qgs, or_false] at hp; rcases hp with rfl | rfl | rfl | rfl | rfl | rfl | rfl | rfl | rfl <;> first | (simp [D.ids, D.sid, Q7, QT, ZJ] at hk; done) | (simp [D.ids, D.sid, Q7, QT, ZJ] at hk; subst hk; first | exact .inl rfl | exact .inr (.inl rfl) | exact .inr (.inr (.inl rfl)) | (refine .inr (.inr (.inl ?_)); simp; done) | (first | exact .inr (.inr ⟨_, QgG _ (QgA.2 rfl), rfl⟩) | exact .inr (.inr (.inr ⟨_, QgG _ (QgA.2 rfl), rfl⟩))))))
     ·try dsimp only
      exact ⟨⟨Wa, hC.1.2.snoc (QdY Wa)⟩, Qd0 Wa hC.2⟩
     ·show 4 - (i + 1) < 4 - i; omega
    ·try rw [h4]
     try simp only [qA] at h4
     refine Y9 (Qe (QW (kp9 Z Z Z Z Z Z Z Z Z) (ZR fun K hK => Qa Z (QX Z Z Wc (Qa Z (hK _ ?_))))))
     refine Qi (cs, i + 1) ?_ ?_ ?_
     ·exact Qdc (l := [0, 1, 5, 6, 7, 8, 9, 10, 11]) (B := [_, _, _]) (kp9 rfl rfl rfl rfl rfl rfl rfl rfl rfl) rfl hI.1.keys Wg Wg Wg (by intro p hp h; simp only [Qgt, Qgs, or_false] at hp; rcases hp with rfl | rfl | rfl <;> first | (simp only at h; omega) | exact .inl rfl | exact .inr rfl) (by intro p hp k hk; simp only [Qgt, Qgs, or_false] at hp; rcases hp with rfl | rfl | rfl | rfl | rfl | rfl | rfl | rfl | rfl <;> first | (simp [D.ids, D.sid, Q7, QT, ZJ] at hk; done) | (simp [D.ids, D.sid, Q7, QT, ZJ] at hk; subst hk; first | exact .inl rfl | exact .inr (.inl rfl) | exact .inr (.inr (.inl rfl)) | (refine .inr (.inr (.inl ?_)); simp; done) | (first | exact .inr (.inr ⟨_, QgG _ (QgA.2 rfl), rfl⟩) | exact .inr (.inr (.inr ⟨_, QgG _ (QgA.2 rfl), rfl⟩)))))
     ·try dsimp only
      exact ⟨⟨Wa, hC.1.2.keep⟩, Lx hC.2⟩
     ·show 4 - (i + 1) < 4 - i; omega
   ·try rw [h3]
    try simp only [qA] at h3
    refine K8 (YI (Qw (QE (QW (kp7 Z Z Z Z Z Z Z) (Q4 fun K hK => mv2 Z Z (Qa Z (QF Z Z Z Wa (QP Wa) Z (Qy Z Z Z (Qa Z ?_)))))))))
    refine QQ Z Z ?_
    refine QD Z (by repeat (first | exact YZ hI.1.keys (.inl Wa) | exact YZ hK1.keys (.inl Wa) | refine Zs Wi ?_)) ?_
    refine TE (hk0 := by decide) Z Z (fun _ h => XC Z Z Z h) (Qk Wa (Qk Wa Qt)) Wf Z Z (.inr (DH hI.1.keys Wa)) Wh Wh (Qa Z (hK _ _ (QL (kp7 Z Z Z Z Z Z Z) ?_)))
    have hc4 : CsIn 4 cs := ⟨Wa, hC.1.2.2⟩
    refine Ct (le_trans (RG (B := [_, _, _, _, _]) 500000 (Mu _ _)) (QdW (u := (UR.mk (names5[n]'(by have := Q6; omega)) [] (500001 + us.length) cs)) (l := [0, 1, 5, 6, 7, 8, 9]) (fr' := [(0, .ref kg 0 0), (1, .int .i64 most), (5, .sl (Km names5)), (6, .osl 500000 (us ++ [(UR.mk (names5[n]'(by have := Q6; omega)) [] (500001 + us.length) cs)]).length), (7, .sl (versions.map dVr)), (8, .int .i64 n), (9, .osl (500001 + us.length) cs.length)]) (B := [_, _, _, _, _]) (kp7 rfl rfl rfl rfl rfl rfl rfl) (by simp [D.scrub, e1, e2, e3, e4]) hI.1.keys rfl Wg (by rw [List.map_append]; exact Qt) Wg (by intro p hp h; simp only [Qgt, Qgs, or_false] at hp; rcases hp with rfl | rfl | rfl | rfl | rfl <;> first | (simp only at h; omega) | exact .inl rfl | exact .inr rfl) hkg Wa (by intro p hp k hk; simp only [Qgt, Qgs, or_false] at hp; rcases hp with rfl | rfl | rfl | rfl | rfl | rfl | rfl <;> first | (simp [D.ids, D.sid, Q7, QT, ZJ] at hk; done) | (simp [D.ids, D.sid, Q7, QT, ZJ] at hk; subst hk; first | exact .inl rfl | exact .inr (.inl rfl) | (first | exact .inr (.inr ⟨_, QgG _ (QgA.2 rfl), rfl⟩) | exact .inr (.inr (.inr ⟨_, QgG _ (QgA.2 rfl), rfl⟩))))))) ?_
    have hK1 := hI.1.snoc (n := (names5[n]'(by have := Q6; omega))) (f := []) hc4.1 hc4.2
    have hl1 : (us ++ [(UR.mk (names5[n]'(by have := Q6; omega)) [] (500001 + us.length) cs)]).length = us.length + 1 := by simp
    have f1 : ¬ kg = 500001 + (us ++ [(UR.mk (names5[n]'(by have := Q6; omega)) [] (500001 + us.length) cs)]).length := Wa
    have f2 : ¬ 500000 = 500001 + (us ++ [(UR.mk (names5[n]'(by have := Q6; omega)) [] (500001 + us.length) cs)]).length := Wa
    have f4 : ¬ 500001 + (us ++ [(UR.mk (names5[n]'(by have := Q6; omega)) [] (500001 + us.length) cs)]).length = 500000 := Wa
    have f5 : ¬ 500001 + us.length = 500001 + (us ++ [(UR.mk (names5[n]'(by have := Q6; omega)) [] (500001 + us.length) cs)]).length := Wa
    refine Q4 fun K hK => Qa Z (Yh Z Z (Qa Z ?_))
    refine Qu (g := 67) Z (fun h5 => ?_) (fun h5 => ?_)
    ·try rw [h5]
     try simp only [qA] at h5
     refine Qd Z (Qa Z (Qd Z ?_))
     refine YC (HI (I := nxI (nxI J)) Z Wg hL Wa) ?_
     refine Qd Z (ZE Z Z (Qh Z Z (hK _ _ (QL (kp8 Z Z Z Z Z Z Z Z) ?_))))
     refine YO Z (fun h6 => ?_) (fun h6 => ?_)
     ·try rw [h6]
      try simp only [qA] at h6
      refine Q4 fun K hK => Qa Z (hK _ _ (QL (kp8 Z Z Z Z Z Z Z Z) ?_))
      refine XD ?_ -- 6
      refine Q4 fun K hK => Qa Z (hK _ _ (QL (kp9 Z Z Z Z Z Z Z Z Z) ?_))
      refine YE ?_
      refine GX (ι := List CR × Nat × Int) (fun ⟨c2, m, J3⟩ => ⟨[(0, .ref kg 0 0), (1, .int .i64 most), (5, .sl (Km names5)), (6, .osl 500000 (us ++ [(UR.mk (names5[n]'(by have := Q6; omega)) [] (500001 + us.length) cs)]).length), (7, .sl (versions.map dVr)), (8, .int .i64 n), (9, .osl (500001 + us.length) cs.length), (12, .osl (500001 + (us ++ [(UR.mk (names5[n]'(by have := Q6; omega)) [] (500001 + us.length) cs)]).length) c2.length), (13, .int .i64 m)], [(500001 + (us ++ [(UR.mk (names5[n]'(by have := Q6; omega)) [] (500001 + us.length) cs)]).length, ⟨(c2).map dCR, 8, 61, true⟩), (500000, ⟨(us ++ [(UR.mk (names5[n]'(by have := Q6; omega)) [] (500001 + us.length) cs)]).map dUR, 3, 64, false⟩), (kg, gB L (J3) eg)] ++ fbx 61 (us ++ [(UR.mk (names5[n]'(by have := Q6; omega)) [] (500001 + us.length) cs)])⟩) (fun ⟨c2, m, J3⟩ => (m <= cs.length /\ CsIn m c2) /\ (c2.map CR.v).Sublist ((cs.map CR.v).take m)) (fun ⟨c2, m, J3⟩ => cs.length - m) ([], 0, nxI (nxI (nxI J))) ?_ ?_ ?_
      ·exact le_trans (Ym 12 (500001 + (us ++ [(UR.mk (names5[n]'(by have := Q6; omega)) [] (500001 + us.length) cs)]).length) 8 61 rfl (by repeat (first | exact YZ hK1.keys (.inr Wa) | refine Zs Wa ?_))) (Qdc (l := [0, 1, 5, 6, 7, 8, 9, 12, 13]) (B := [_, _, _, _]) (kp9 rfl rfl rfl rfl rfl rfl rfl rfl rfl) rfl hK1.keys Wg Wg Wg (by intro p hp h; simp only [Qgt, Qgs, or_false] at hp; rcases hp with rfl | rfl | rfl | rfl <;> first | (simp only at h; omega) | exact .inl rfl | exact .inr rfl) (by intro p hp k hk; simp only [Qgt, Qgs, or_false] at hp; rcases hp with rfl | rfl | rfl | rfl | rfl | rfl | rfl | rfl | rfl <;> first | (simp [D.ids, D.sid, Q7, QT, ZJ] at hk; done) | (simp [D.ids, D.sid, Q7, QT, ZJ] at hk; subst hk; first | exact .inl rfl | exact .inr (.inl rfl) | exact .inr (.inr (.inl rfl)) | (refine .inr (.inr (.inl ?_)); simp; done) | (first | exact .inr (.inr ⟨_, QgG _ (QgA.2 rfl), rfl⟩) | exact .inr (.inr (.inr ⟨_, QgG _ (QgA.2 rfl), rfl⟩))))))
      ·exact ⟨⟨Wa, CsIn.nil _⟩, List.nil_sublist _⟩
      intro ⟨c2, m, J3⟩ hM
      try dsimp only at hM
      have hcl2 := hM.1.2.1
      try dsimp only
      refine XD ?_ -- 7
      refine Q4 fun K hK => mv2 Z Z ?_
      first | refine QH rfl QM ?_ | refine QH rfl rfl ?_
      refine Yh Z Z (hK _ _ (QL (L5 Z Z Z Z Z Z Z Z Z Z) ?_))
      refine YO Z (fun h7 => ?_) (fun h7 => ?_)
      ·try rw [h7]
       try simp only [qA] at h7
       refine Y9 (QW (kp9 Z Z Z Z Z Z Z Z Z) ?_)
       refine XD ?_ -- 8
       refine YE (Q4 fun K hK => Qa Z ?_)
       refine YC (HI (I := J3) Z Wg hL Wa) ?_
       refine NL Z Z (hK _ _ (QL (L5 Z Z Z Z Z Z Z Z Z Z) ?_))
       refine YO Z (fun h8 => ?_) (fun h8 => ?_)
       ·try rw [h8]
        try simp only [qA] at h8
        refine ZR fun K hK => mv2 Z Z (Qa Z (Xq Z Z (Qk Wa (Qk Wa (Qk Wa (Qk Wa (Rq (u := (UR.mk (names5[n]'(by have := Q6; omega)) [] (500001 + us.length) cs)) hI.1.keys Z))))) Wf Wa Wa Z (Qf Z (Zr (Qk Wa (Qk Wa (Qk Wa (Qk Wa (Rq (u := (UR.mk (names5[n]'(by have := Q6; omega)) [] (500001 + us.length) cs)) hI.1.keys Z)))))) (QC (cs := [_, _, _, _, _]) Z (Z9 (Qk Wa (Qk Wa (Qk Wa (Qk Wa (Rq (u := (UR.mk (names5[n]'(by have := Q6; omega)) [] (500001 + us.length) cs)) hI.1.keys Z))))) (QP (l := cs) Wa)) Z Z (QQ Z Z ?_)))))
        refine QD Z (by repeat (first | exact YZ hI.1.keys (.inl Wa) | exact YZ hK1.keys (.inl Wa) | refine Zs Wi ?_)) ?_
        refine XF (hk0 := Wa) Z Z (fun _ h => XC Z Z Z h) (Qk Wa (Qk Wa Qt)) Wf Z Z Z Wh Wh (Qa Z (hK _ ?_))
        refine Qe (QW (kp9 Z Z Z Z Z Z Z Z Z) (ZR fun K hK => Qa Z (QX Z Z Wc (Qa Z (hK _ ?_)))))
        refine Qi (c2 ++ [zr (cs[m]'Wa).v 0], m + 1, nxI J3) ?_ ?_ ?_
        ·exact le_trans (RG (B := [_, _, _, _, _, _]) (500001 + (us ++ [(UR.mk (names5[n]'(by have := Q6; omega)) [] (500001 + us.length) cs)]).length) (Mu _ _)) (Qdc (l := [0, 1, 5, 6, 7, 8, 9, 12, 13]) (B := [_, _, _, _, _, _]) (kp9 rfl rfl rfl rfl rfl rfl rfl rfl rfl) (by simp [D.scrub, f1, f2, f4, f5] <;> omega) hK1.keys (by rw [Qcs (cs := c2)]; exact Qt) (by repeat (first | exact Qt | exact Da (Tj hK1.keys) | refine Qk Wa ?_)) Wg (by intro p hp h; simp only [Qgt, Qgs, or_false] at hp; rcases hp with rfl | rfl | rfl | rfl | rfl | rfl <;> first | (simp only at h; omega) | exact .inl rfl | exact .inr rfl) (by intro p hp k hk; simp only [Qgt, Qgs, or_false] at hp; rcases hp with rfl | rfl | rfl | rfl | rfl | rfl | rfl | rfl | rfl <;> first | (simp [D.ids, D.sid, Q7, QT, ZJ] at hk; done) | (simp [D.ids, D.sid, Q7, QT, ZJ] at hk; subst hk; first | exact .inl rfl | exact .inr (.inl rfl) | exact .inr (.inr (.inl rfl)) | (refine .inr (.inr (.inl ?_)); simp; done) | (first | exact .inr (.inr ⟨_, QgG _ (QgA.2 rfl), rfl⟩) | exact .inr (.inr (.inr ⟨_, QgG _ (QgA.2 rfl), rfl⟩))))))
        ·try dsimp only
         exact ⟨⟨Wa, hM.1.2.snoc (hC.1.2.at Wa)⟩, QdZ Wa hM.2⟩
        ·show cs.length - (m + 1) < cs.length - m; omega
       ·try rw [h8]
        try simp only [qA] at h8
        refine Y9 (Qe (QW (kp9 Z Z Z Z Z Z Z Z Z) (ZR fun K hK => Qa Z (QX Z Z Wc (Qa Z (hK _ ?_))))))
        refine Qi (c2, m + 1, nxI J3) ?_ ?_ ?_
        ·exact Qdc (l := [0, 1, 5, 6, 7, 8, 9, 12, 13]) (B := [_, _, _, _]) (kp9 rfl rfl rfl rfl rfl rfl rfl rfl rfl) rfl hK1.keys Wg Wg Wg (by intro p hp h; simp only [Qgt, Qgs, or_false] at hp; rcases hp with rfl | rfl | rfl | rfl <;> first | (simp only at h; omega) | exact .inl rfl | exact .inr rfl) (by intro p hp k hk; simp only [Qgt, Qgs, or_false] at hp; rcases hp with rfl | rfl | rfl | rfl | rfl | rfl | rfl | rfl | rfl <;> first | (simp [D.ids, D.sid, Q7, QT, ZJ] at hk; done) | (simp [D.ids, D.sid, Q7, QT, ZJ] at hk; subst hk; first | exact .inl rfl | exact .inr (.inl rfl) | exact .inr (.inr (.inl rfl)) | (refine .inr (.inr (.inl ?_)); simp; done) | (first | exact .inr (.inr ⟨_, QgG _ (QgA.2 rfl), rfl⟩) | exact .inr (.inr (.inr ⟨_, QgG _ (QgA.2 rfl), rfl⟩)))))
        ·try dsimp only
         exact ⟨⟨Wa, hM.1.2.keep⟩, Lx hM.2⟩
        ·show cs.length - (m + 1) < cs.length - m; omega
      ·try rw [h7]
       try simp only [qA] at h7
       refine K8 (YI (Qw (QE (QW (kp7 Z Z Z Z Z Z Z) (ZR fun K hK => mv2 Z Z (Qa Z (QF Z Z Z Wa (QP Wa) Z (Qy Z Z Z (Qa Z ?_)))))))))
       refine QQ Z Z ?_
       refine QD Z (by repeat (first | exact YZ hI.1.keys (.inl Wa) | exact YZ hK1.keys (.inl Wa) | refine Zs Wi ?_)) ?_
       refine TE (hk0 := by decide) Z Z (fun _ h => XC Z Z Z h) (Qk Wa (Qk Wa Qt)) Wf Z Z (.inr (DH hK1.keys Wa)) Wh Wh (Qa Z (hK _ ?_))
       refine Qe (QW (kp6 Z Z Z Z Z Z) (ZR fun K hK => Qa Z (QX Z Z Wc (Qa Z (hK _ ?_)))))
       refine Qi (us ++ [(UR.mk (names5[n]'(by have := Q6; omega)) [] (500001 + us.length) cs)] ++ [(UR.mk (names5[n]'(by have := Q6; omega)) [102] (500001 + (us ++ [(UR.mk (names5[n]'(by have := Q6; omega)) [] (500001 + us.length) cs)]).length) c2)], J3, n + 1) ?_ ?_ ?_
       ·exact le_trans (RG (B := [_, _, _, _, _]) 500000 (Mu _ _)) (QdW (u := (UR.mk (names5[n]'(by have := Q6; omega)) [102] (500001 + (us ++ [(UR.mk (names5[n]'(by have := Q6; omega)) [] (500001 + us.length) cs)]).length) c2)) (l := [0, 1, 5, 6, 7, 8]) (B := [_, _, _, _, _]) (kp6 rfl rfl rfl rfl rfl rfl) (by simp [D.scrub, f1, f2, e3, f4, e4] <;> omega) hK1.keys rfl Wg (by rw [QcW (u := (UR.mk (names5[n]'(by have := Q6; omega)) [102] (500001 + (us ++ [(UR.mk (names5[n]'(by have := Q6; omega)) [] (500001 + us.length) cs)]).length) c2))]; exact Qt) Wg (by intro p hp h; simp only [Qgt, Qgs, or_false] at hp; rcases hp with rfl | rfl | rfl | rfl | rfl <;> first | (simp only at h; omega) | exact .inl rfl | exact .inr rfl) hkg Wa (by intro p hp k hk; simp only [Qgt, Qgs, or_false] at hp; rcases hp with rfl | rfl | rfl | rfl | rfl | rfl <;> first | (simp [D.ids, D.sid, Q7, QT, ZJ] at hk; done) | (simp [D.ids, D.sid, Q7, QT, ZJ] at hk; subst hk; first | exact .inl rfl | exact .inr (.inl rfl) | (first | exact .inr (.inr ⟨_, QgG _ (QgA.2 rfl), rfl⟩) | exact .inr (.inr (.inr ⟨_, QgG _ (QgA.2 rfl), rfl⟩))))))
       ·try dsimp only
        exact ⟨hK1.snoc Wa hM.1.2.2, by simp; omega, Wa, by simp; omega, QeK (Qab hI.2.2.2.2 Wa (DJ hC.2)) Wa Wh ((hM.2.trans (List.take_sublist _ _)).trans (DJ hC.2))⟩
       ·show 5 - (n + 1) < 5 - n; omega
     ·try rw [h6]
      try simp only [qA] at h6
      refine Y9 (Qe (QW (kp6 Z Z Z Z Z Z) (ZR fun K hK => Qa Z (QX Z Z Wc (Qa Z (hK _ ?_))))))
      refine Qi (us ++ [(UR.mk (names5[n]'(by have := Q6; omega)) [] (500001 + us.length) cs)], nxI (nxI (nxI J)), n + 1) ?_ ?_ ?_
      ·exact QeR (l := [0, 1, 5, 6, 7, 8]) (B := [_, _, _]) (kp6 rfl rfl rfl rfl rfl rfl) rfl hK1.keys Wg Wg (by intro p hp h; simp only [Qgt, Qgs, or_false] at hp; rcases hp with rfl | rfl | rfl <;> first | (simp only at h; omega) | rfl) Wa (by intro p hp k hk; simp only [Qgt, Qgs, or_false] at hp; rcases hp with rfl | rfl | rfl | rfl | rfl | rfl <;> first | (simp [D.ids, D.sid, Q7, QT, ZJ] at hk; done) | (simp [D.ids, D.sid, Q7, QT, ZJ] at hk; subst hk; first | exact .inl rfl | exact .inr (.inl rfl) | (first | exact .inr (.inr ⟨_, QgG _ (QgA.2 rfl), rfl⟩) | exact .inr (.inr (.inr ⟨_, QgG _ (QgA.2 rfl), rfl⟩)))))
      ·try dsimp only
       exact ⟨hK1, by simp; omega, Wa, by simp; omega, UL.up (Qab hI.2.2.2.2 Wa (DJ hC.2)) Wa⟩
      ·show 5 - (n + 1) < 5 - n; omega
    ·try rw [h5]
     try simp only [qA] at h5
     refine gn3 Z Z Z (Qh Z Z (hK _ _ (QL (kp8 Z Z Z Z Z Z Z Z) ?_)))
     refine TG Z (Y9 (Qe (QW (kp6 Z Z Z Z Z Z) (ZR fun K hK => Qa Z (QX Z Z Wc (Qa Z (hK _ ?_)))))))
     refine Qi (us ++ [(UR.mk (names5[n]'(by have := Q6; omega)) [] (500001 + us.length) cs)], nxI (nxI J), n + 1) ?_ ?_ ?_
     ·exact QeR (l := [0, 1, 5, 6, 7, 8]) (B := [_, _]) (kp6 rfl rfl rfl rfl rfl rfl) rfl hK1.keys Wg Wg (by intro p hp h; simp only [Qgt, Qgs, or_false] at hp; rcases hp with rfl | rfl <;> first | (simp only at h; omega) | rfl) Wa (by intro p hp k hk; simp only [Qgt, Qgs, or_false] at hp; rcases hp with rfl | rfl | rfl | rfl | rfl | rfl <;> first | (simp [D.ids, D.sid, Q7, QT, ZJ] at hk; done) | (simp [D.ids, D.sid, Q7, QT, ZJ] at hk; subst hk; first | exact .inl rfl | exact .inr (.inl rfl) | (first | exact .inr (.inr ⟨_, QgG _ (QgA.2 rfl), rfl⟩) | exact .inr (.inr (.inr ⟨_, QgG _ (QgA.2 rfl), rfl⟩)))))
     ·try dsimp only
      exact ⟨hK1, by simp; omega, Wa, by simp; omega, UL.up (Qab hI.2.2.2.2 Wa (DJ hC.2)) Wa⟩
     ·show 5 - (n + 1) < 5 - n; omega
  ·try rw [h2]
   try simp only [qA] at h2
   refine K8 (YI (Qw (QE (QW (kp1 Z) (Q4 fun K hK => mv2 Z Z (hK _ _ (QL (kp1 Z) ?_)))))))
   refine NB ?_
   refine ⟨.osl 500000 us.length, ((500000, ⟨us.map dUR, 3, 64, false⟩) :: fbx 61 us) ++ [(kg, gB L (nxI J) eg), (kg, gB L I eg)], ⟨us, _, ⟨hI.1, Wa, Wa, _, hI.2.2.2.2⟩, rfl, rfl⟩, (Kz (g3 := gB L J eg) hI.1.keys hkg Z Z Wa).1, (Kz (g3 := gB L J eg) hI.1.keys hkg Z Z Wa).2.1, YH Z Z (Kz (g3 := gB L J eg) hI.1.keys hkg Z Z Wa).2.2⟩
 ·try rw [h1]
  try simp only [qA] at h1
  refine gn4 Z Z Z Z (Qh Z Z (hK _ _ (QL (kp7 Z Z Z Z Z Z Z) ?_)))
  refine TG Z (K8 (YI (Qw (QE (QW (kp1 Z) (Q4 fun K hK => mv2 Z Z (hK _ _ (QL (kp1 Z) ?_))))))))
  refine NB ?_
  refine ⟨.osl 500000 us.length, ((500000, ⟨us.map dUR, 3, 64, false⟩) :: fbx 61 us) ++ [(kg, gB L (nxI J) eg), (kg, gB L I eg)], ⟨us, _, ⟨hI.1, Wa, Wa, _, hI.2.2.2.2⟩, rfl, rfl⟩, (Kz (g3 := gB L J eg) hI.1.keys hkg Z Z Wa).1, (Kz (g3 := gB L J eg) hI.1.keys hkg Z Z Wa).2.1, YH Z Z (Kz (g3 := gB L J eg) hI.1.keys hkg Z Z Wa).2.2⟩
end Go.Proofs
