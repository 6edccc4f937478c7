/- Part 4 of the means of the proof: a verified abstract evaluator, the prepared functions, and contracts of functions. It states nothing of the claim by itself. -/
import Derived.Test.YtfgihmikcbbbgaaGreatB3
set_option maxRecDepth 4000
set_option linter.unusedSimpArgs false
set_option linter.unusedVariables false
namespace Go.Proofs
open Go Go.Abs M3 M25
theorem JU {l : List (Cu × Cu)} (hl : Sm l) {a b c : Int} {p q : List UInt8} (hp : p.length <= 1000000) (hq : q.length <= 1000000) : Ok Tryz.prog 102 [ZH l, .agg [.int .i64 a, .int .i64 b, .int .i64 c, .str p, .str q]] (.bool (RS l a b c p q)) := by
 refine Ok.ofT ZR Tryz.func102 Qex (Qgr Z) ?_
 show TW _ _ tf102.body _ _
 have hn := hl.1
 refine Qb fun K hK => Zx Z Z Z (Qa Z (kc2 hK Z Z ?_))
 refine QA ?_ -- 0
 refine Qb fun K hK => Qa Z (kc3 hK Z Z Z ?_)
 refine Qy ?_
 refine Zq (ι := Nat) (fun i => ⟨[(0, ZH l), (3, .ref 3 0 0), (5, .int .i64 i)], [(3, ⟨[[.int .i64 a, .int .i64 b, .int .i64 c, .str p, .str q]], 5, 58, true⟩)]⟩) (fun i => i <= l.length /\ (l.take i).any (fun s => RT s a b c p q) = false) (fun i => l.length - i) 0 ?_ ?_ ?_
 ·exact Q3 (l := [0, 3, 5]) (lH := [3]) (kp3 rfl rfl rfl) (Qc rfl Ql) rfl rfl rfl
 ·exact ⟨QgD _, by simp⟩
 intro i hI
 try dsimp only
 refine QA ?_ -- 1
 refine Qb fun K hK => mv2 Z Z (QL Z Z (Yg Z Z (Qa Z ?_)))
 refine Qu (g := 10) Z (fun h1 => ?_) (fun h1 => ?_)
 ·try rw [h1]
  try simp only [qA] at h1
  refine Qd Z (Qa Z (Qd Z (Qt (Z0 hl) Z Z (.inr Z) (Qh Z Z (kc4 hK Z Z Z Z ?_)))))
  refine Qs Z (fun h2 => ?_) (fun h2 => ?_)
  ·try rw [h2]
   try simp only [qA] at h2
   refine Qr (ks3 Z Z Z ?_)
   refine QA ?_ -- 2
   refine Qy (Qb fun K hK => mv2 Z Z (QF Z Z Z Wa (QO Wa) Z (QJ (ds0 := [0]) (cs := [_, _, _, _, _, _, _, _, _, _, _, _, _, _]) Z Z Z Z Z Z (QJ (ds0 := [0]) (cs := [_, _, _, _, _]) Z Z Z Z Z Z (QS (ds0 := []) (Gr (hl.at (i := i) Wa).1.1 (hl.at (i := i) Wa).1.2 (hl.at (i := i) Wa).2.1 (hl.at (i := i) Wa).2.2 hp hq) Z Z (.inr Z) Z Z (kc4 hK Z Z Z Z ?_))))))
   refine Qs Z (fun h3 => ?_) (fun h3 => ?_)
   ·try rw [h3]
    try simp only [qA] at h3
    refine Qb fun K hK => Qa Z (kc1 hK Z ?_)
    refine Qq (Qp (Qg (Q0 (Qp (Qg (Qn Z ?_))))))
    first
     | exact (RC (i := i) Wa hI.2).symm
     | exact (RD h2).symm
     | exact (RE h2 (i := i) Wa h3).symm
   ·try rw [h3]
    try simp only [qA] at h3
    refine Qr (Qe (ks3 Z Z Z (QI fun K hK => Qa Z (QZ Z Z Wc (Qa Z (hK _ ?_))))))
    refine Qi (i + 1) ?_ ?_ ?_
    ·exact Q3 (l := [0, 3, 5]) (lH := [3]) (kp3 rfl rfl rfl) (Qc rfl Ql) rfl rfl rfl
    ·exact ⟨Wa, PA Wa hI.2 h3⟩
    ·first | omega | (simp only; omega) | (dsimp only; omega)
  ·try rw [h2]
   try simp only [qA] at h2
   refine Zh (QH (Qw (QE (Zf (ZC) (Qb fun K hK => Qa Z (kc1 hK Z ?_))))))
   refine Qq (Qn Z ?_)
   first
    | exact (RC (i := i) Wa hI.2).symm
    | exact (RD h2).symm
    | exact (RE h2 (i := i) Wa h3).symm
 ·try rw [h1]
  try simp only [qA] at h1
  refine gn2 Z Z (Qh Z Z (kc4 hK Z Z Z Z ?_))
  refine ZU Z (Zh (QH (Qw (QE (Zf (ZC) (Qb fun K hK => Qa Z (kc1 hK Z ?_)))))))
  refine Qq (Qn Z ?_)
  first
   | exact (RC (i := i) Wa hI.2).symm
   | exact (RD h2).symm
   | exact (RE h2 (i := i) Wa h3).symm
theorem YL {s : List (Cu × Cu) × List (Cu × Cu)} (h1s : Sm s.1) (h2s : Sm s.2) : Ok Tryz.prog 89 [Rq s] (.bool (JO s)) := by
 refine Ok.ofT ZR Tryz.func89 Qgd (Qgr Z) ?_
 show TW _ _ tf89.body _ _
 have hn := h1s.1
 refine Qb fun K hK => Zx Z Z Z (Qa Z (kc1 hK Z ?_))
 refine QA ?_ -- 0
 refine Qb fun K hK => Qf Z Z (Qx Z Z Z (Qt (Z0 h1s) Z Z (.inr Z) (Z9 Z (Qa Z ?_))))
 refine Qu (g := 8) Z (fun h1 => ?_) (fun h1 => ?_)
 ·try rw [h1]
  try simp only [qA] at h1
  refine gn4 Z Z Z Z (Qh Z Z (kc2 hK Z Z ?_))
  refine Zr Z (Qb fun K hK => Qa Z (kc1 hK Z ?_))
  refine Qq (Qg (Qn Z ?_))
  first
   | exact (FC (i := i) h1 h2 Wa hI.2).symm
   | exact (Kg (i := i) Wa (.inl h4)).symm
   | exact (Kg (i := i) Wa (.inr h5)).symm
   | exact (Kh (.inl h1)).symm
   | exact (Kh (.inr h2)).symm
 ·try rw [h1]
  try simp only [qA] at h1
  refine Qd Z (Qf Z Z (Qd Z (Qx Z Z Z (Qd Z (Qt (Z0 h2s) Z Z (.inr Z) (Qd Z (Z9 Z (Qh Z Z (kc2 hK Z Z ?_)))))))))
  refine Qs Z (fun h2 => ?_) (fun h2 => ?_)
  ·try rw [h2]
   try simp only [qA] at h2
   refine Qb fun K hK => Qa Z (kc1 hK Z ?_)
   refine Qq (Qg (Qn Z ?_))
   first
    | exact (FC (i := i) h1 h2 Wa hI.2).symm
    | exact (Kg (i := i) Wa (.inl h4)).symm
    | exact (Kg (i := i) Wa (.inr h5)).symm
    | exact (Kh (.inl h1)).symm
    | exact (Kh (.inr h2)).symm
  ·try rw [h2]
   try simp only [qA] at h2
   refine Qr (ks1 Z ?_)
   refine QA ?_ -- 1
   refine Qb fun K hK => Qa Z (kc2 hK Z Z ?_)
   refine Qy ?_
   refine Zq (ι := Nat) (fun i => ⟨[(1, .ref 1 0 0), (3, .int .i64 i)], [(1, ⟨[[ZH s.1, ZH s.2]], 2, 68, true⟩)]⟩) (fun i => i <= s.1.length /\ (s.1.take i).all (fun x => Hc x.1 && Hc x.2) = true) (fun i => s.1.length - i) 0 ?_ ?_ ?_
   ·exact Q3 (l := [1, 3]) (lH := [1]) (kp2 rfl rfl) (Qc rfl Ql) rfl rfl rfl
   ·exact ⟨QgD _, by simp⟩
   intro i hI
   try dsimp only
   refine QA ?_ -- 2
   refine Qb fun K hK => Qa Z (Qf Z Z (Qx Z Z Z (QL Z Z (Yg Z Z (kc3 hK Z Z Z ?_)))))
   refine Qs Z (fun h3 => ?_) (fun h3 => ?_)
   ·try rw [h3]
    try simp only [qA] at h3
    refine Qr (ks2 Z Z ?_)
    refine QA ?_ -- 3
    refine Qy (Qb fun K hK => Qf Z Z (Qx Z Z Z (Qa Z (QF Z Z Z Wa (QO Wa) Z (Q2 Z Z (QB (cs := [_, _, _, _, _, _, _]) Z Z Z Z (Qt (Jd) Z Z (.inr Z) (Z9 Z (Qa Z ?_)))))))))
    refine Qu (g := 29) Z (fun h4 => ?_) (fun h4 => ?_)
    ·try rw [h4]
     try simp only [qA] at h4
     refine gn4 Z Z Z Z (gn4 Z Z Z Z (Qh Z Z (kc3 hK Z Z Z ?_)))
     refine Zr Z (Qb fun K hK => Qa Z (kc1 hK Z ?_))
     refine Qq (Qp (Qg (Q0 (Qp (Qg (Qn Z ?_))))))
     first
      | exact (FC (i := i) h1 h2 Wa hI.2).symm
      | exact (Kg (i := i) Wa (.inl h4)).symm
      | exact (Kg (i := i) Wa (.inr h5)).symm
      | exact (Kh (.inl h1)).symm
      | exact (Kh (.inr h2)).symm
    ·try rw [h4]
     try simp only [qA] at h4
     refine Qd Z (Qf Z Z (Qd Z (Qx Z Z Z (Qd Z (Qa Z (Qd Z (QF Z Z Z Wa (QO Wa) Z (Qd Z (Q2 Z Z (Qd Z (QB (cs := [_, _, _, _, _, _, _]) Z Z Z Z ?_)))))))))))
     refine Qd Z (Qt (Jd) Z Z (.inr Z) (Qd Z (Z9 Z (Qh Z Z (kc3 hK Z Z Z ?_)))))
     refine Qs Z (fun h5 => ?_) (fun h5 => ?_)
     ·try rw [h5]
      try simp only [qA] at h5
      refine Qb fun K hK => Qa Z (kc1 hK Z ?_)
      refine Qq (Qp (Qg (Q0 (Qp (Qg (Qn Z ?_))))))
      first
       | exact (FC (i := i) h1 h2 Wa hI.2).symm
       | exact (Kg (i := i) Wa (.inl h4)).symm
       | exact (Kg (i := i) Wa (.inr h5)).symm
       | exact (Kh (.inl h1)).symm
       | exact (Kh (.inr h2)).symm
     ·try rw [h5]
      try simp only [qA] at h5
      refine Qr (Qe (ks2 Z Z (QI fun K hK => Qa Z (QZ Z Z Wc (Qa Z (hK _ ?_))))))
      refine Qi (i + 1) ?_ ?_ ?_
      ·exact Q3 (l := [1, 3]) (lH := [1]) (kp2 rfl rfl) (Qc rfl Ql) rfl rfl rfl
      ·exact ⟨Wa, Yf Wa hI.2 (by rw [show Hc s.1[i].1 = true from h4, show Hc s.1[i].2 = true from h5]; rfl)⟩
      ·first | omega | (simp only; omega) | (dsimp only; omega)
   ·try rw [h3]
    try simp only [qA] at h3
    refine Zh (QH (Qw (QE (Zf (ZC) (Qb fun K hK => Qa Z (kc1 hK Z ?_))))))
    refine Qq (Qn Z ?_)
    first
     | exact (FC (i := i) h1 h2 Wa hI.2).symm
     | exact (Kg (i := i) Wa (.inl h4)).symm
     | exact (Kg (i := i) Wa (.inr h5)).symm
     | exact (Kh (.inl h1)).symm
     | exact (Kh (.inr h2)).symm
theorem G8 {s : List (Cu × Cu) × List (Cu × Cu)} (h1s : Sm s.1) (h2s : Sm s.2) {a b c : Int} {p q : List UInt8} (hp : p.length <= 1000000) (hq : q.length <= 1000000) : Ok Tryz.prog 94 [Rq s, .agg [.int .i64 a, .int .i64 b, .int .i64 c, .str p, .str q]] (.bool (D3 s a b c p q)) := by
 refine Ok.ofT ZR Tryz.func94 Qgi (Qgr Z) ?_
 show TW _ _ tf94.body _ _
 refine Qb fun K hK => Zx Z Z Z (Zx Z Z Z (Qa Z (kc2 hK Z Z ?_)))
 refine QA ?_ -- 0
 refine Qb fun K hK => QB (cs := [_, _]) Z Z Z Z (Qt (YL h1s h2s) Z Z (.inr Z) (Z9 Z (Qa Z ?_)))
 refine Qu (g := 8) Z (fun h1 => ?_) (fun h1 => ?_)
 ·try rw [h1]
  try simp only [qB] at h1
  refine gn3 Z Z Z (Qh Z Z (kc3 hK Z Z Z ?_))
  refine Zr Z (Qb fun K hK => Qa Z (kc1 hK Z ?_))
  refine Qq (Qg (Qn Z ?_))
  (repeat clear hK K); simp_all [D3]
 ·try rw [h1]
  try simp only [qB] at h1
  refine Qd Z (QB (cs := [_, _, _, _, _]) Z Z Z Z (Qd Z (Qt (Zd hp hq) Z Z (.inr Z) (Qd Z (Z9 Z (Qh Z Z (kc3 hK Z Z Z ?_)))))))
  refine Qs Z (fun h2 => ?_) (fun h2 => ?_)
  ·try rw [h2]
   try simp only [qB] at h2
   refine Qb fun K hK => Qa Z (kc1 hK Z ?_)
   refine Qq (Qg (Qn Z ?_))
   (repeat clear hK K); simp_all [D3]
  ·try rw [h2]
   try simp only [qB] at h2
   refine Qr (ks2 Z Z ?_)
   refine QA ?_ -- 1
   refine Qb fun K hK => Qf Z Z (Qx Z Z Z (Me Z Z (kc3 hK Z Z Z ?_)))
   refine Qs Z (fun h3 => ?_) (fun h3 => ?_)
   ·try rw [h3]
    try simp only [qB] at h3
    refine Qb fun K hK => Qf Z Z (Qx Z Z Z (QB (cs := [_, _, _, _, _]) Z Z Z Z (Qt (JU h1s hp hq) Z Z (.inr Z) (Qa Z (kc1 hK Z ?_)))))
    refine Qq (Qg (Qn Z ?_))
    (repeat clear hK K); simp_all [D3]
   ·try rw [h3]
    try simp only [qB] at h3
    refine Qr (ks2 Z Z (Qb fun K hK => Qf Z Z (Qx Z Z Z (QB (cs := [_, _, _, _, _]) Z Z Z Z (Qt (JU h2s hp hq) Z Z (.inr Z) (Qa Z (kc1 hK Z ?_)))))))
    refine Qq (Qn Z ?_)
    (repeat clear hK K); simp_all [D3]
open Go Go.Abs M3 M25
theorem _root_.Wr {p : Prop} (h : p := by first | exact .inl (by omega) | exact .inr ⟨by omega, by assumption, by assumption⟩) : p := h
theorem JW {l : List Cu} {c : Cu} (hl : l.length <= 3000000) (hs : ∀ x ∈ l, Cu.sm x) (hc : Cu.sm c) : Ok Tryz.prog 105 [Rp l, .agg (dCu c)] (Rp (HG l c)) := by
 refine Ok.ofT ZR Tryz.func105 QeA (Qgr Z) ?_
 show TW _ _ tf105.body _ _
 refine Qb fun K hK => Zx Z Z Z (Qa Z (kc2 hK Z Z ?_))
 refine Qb fun K hK => Qa Z (kc3 hK Z Z Z ?_)
 refine QA ?_ -- 0
 refine Qy ?_
 refine Zq (ι := Nat) (fun k => ⟨[(0, Rp l), (3, .ref 3 0 0), (5, .int .i64 k)], [(3, ⟨[dCu c], 7, 96, true⟩)]⟩) (fun k => k <= l.length /\ HG l c = l.take k ++ HG (l.drop k) c) (fun k => l.length - k) 0 ?_ ?_ ?_
 ·exact Q3 (l := [0, 3, 5]) (lH := [3]) (kp3 rfl rfl rfl) (Qc rfl Ql) rfl rfl rfl
 ·exact ⟨QgD _, by simp⟩
 intro k hI
 try dsimp only
 refine QA ?_ -- 1
 refine Qb fun K hK => mv2 Z Z (QL Z Z (Yg Z Z (Qa Z ?_)))
 refine Qu (g := 10) Z (fun h1 => ?_) (fun h1 => ?_)
 ·try rw [h1]
  try simp only [qA] at h1
  refine Qd Z (Qa Z (Qd Z (Qa Z (Qd Z (QF Z Z Z Wa (QO Wa) Z (Qd Z (QJ (ds0 := [2, 1, 0]) (cs := [_, _, _, _, _, _, _]) Z Z Z Z Z Z (Qd Z (QJ (ds0 := [2, 1, 0]) (cs := [_, _, _, _, _, _, _]) Z Z Z Z Z Z (Qd Z (QS (ds0 := [1, 0]) (Zw (hs _ (Qgw Wa)).1 (hs _ (Qgw Wa)).2 hc.1 hc.2) Z Z (.inr Z) Z Z ?_)))))))))))
  refine Qd Z (Yg Z Z (Qh Z Z (kc4 hK Z Z Z Z ?_)))
  refine Qs Z (fun h2 => ?_) (fun h2 => ?_)
  ·try rw [h2]
   try simp only [qA] at h2
   refine Qr (ks3 Z Z Z (Qy (QI fun K hK => Qa Z (QZ Z Z Wc (Qa Z (hK _ ?_))))))
   refine Qe ?_
   refine Qi (k + 1) ?_ ?_ ?_
   ·exact Q3 (l := [0, 3, 5]) (lH := [3]) (kp3 rfl rfl rfl) (Qc rfl Ql) rfl rfl rfl
   ·exact ⟨Wa, Br Wa h2 hI.2⟩
   ·first | omega | (simp only; omega) | (dsimp only; omega)
  ·try rw [h2]
   try simp only [qA] at h2
   refine Zh (QH (Qw (QE (ks3 Z Z Z ?_))))
   refine QA ?_ -- 2
   refine Qb fun K hK => mv2 Z Z (QL Z Z (Yg Z Z (Qa Z ?_)))
   refine Qu (g := 25) Z (fun h3 => ?_) (fun h3 => ?_)
   ·try rw [h3]
    try simp only [qA] at h3
    refine Qd Z (Qa Z (Qd Z (Qa Z (Qd Z (QF Z Z Z Wa (QO Wa) Z (Qd Z (QJ (ds0 := [2, 1, 0]) (cs := [_, _, _, _, _, _, _]) Z Z Z Z Z Z (Qd Z (QJ (ds0 := [2, 1, 0]) (cs := [_, _, _, _, _, _, _]) Z Z Z Z Z Z (Qd Z (QS (ds0 := [1, 0]) (Zw (hs _ (Qgw Wa)).1 (hs _ (Qgw Wa)).2 hc.1 hc.2) Z Z (.inr Z) Z Z ?_)))))))))))
    refine Qd Z (ZG Z Z (Qh Z Z (kc4 hK Z Z Z Z ?_)))
    refine Qs Z (fun h4 => ?_) (fun h4 => ?_)
    ·try rw [h4]
     try simp only [qA] at h4
     refine Qb fun K hK => mv2 Z Z (kc1 hK Z ?_)
     refine Qq (Qg (Ye Z ?_))
     rw [Bq (k := k) Wa Wl hI.2]; rfl
    ·try rw [h4]
     try simp only [qA] at h4
     refine Qr (ks3 Z Z Z (Qb fun K hK => mv2 Z Z (Mg Z Z Z Z Wa Wa Wh Tg Z (FT (ds0 := [5, 1, 0]) Z Z (fun _ h => ⟨Qbj, h⟩) Z (.inl Z) Wf Wh Wh Z Z (QJ (ds0 := [6, 5, 1, 0]) (cs := [_, _, _, _, _, _, _]) Z Z Z Z Z Z (QD Z Z (Hi (ds0 := [1, 0]) Z Z Wn ⟨_, rfl, rfl, rfl, rfl, rfl⟩ Z Z Wf Z Z Wh Wh Z Z (mv2 Z Z ?_))))))))
     refine Mg Z Z Z Z Wa Wh Wf Tg Z (Hi (ds0 := [0]) Z Z Wn ⟨rfl, Qbj, rfl⟩ Z Z Wf Z Z Wh Wh Z Z (Qa Z (kc1 hK Z ?_)))
     refine Qq (Ye Z ?_)
     rw [Di (k := k) Wr hI.2]; simp [Kc, D.fz, D.fzS, FR, lk, D.can, D.canS, Rp, D.sid, (show ∀ a b : Nat, a + 1 + b = a + (b + 1) from fun a b => Wa), QgH (show (l.map dCu).length <= l.length by simp)] <;> rfl
   ·try rw [h3]
    try simp only [qA] at h3
    exact absurd h1 h3
 ·try rw [h1]
  try simp only [qA] at h1
  refine gn4 Z Z Z Z (gn3 Z Z Z (Qh Z Z (kc4 hK Z Z Z Z ?_)))
  refine ZU Z (Zh (QH (Qw (QE (ks3 Z Z Z ?_)))))
  refine QA ?_ -- 2
  refine Qb fun K hK => mv2 Z Z (QL Z Z (Yg Z Z (Qa Z ?_)))
  refine Qu (g := 25) Z (fun h5 => ?_) (fun h5 => ?_)
  ·try rw [h5]
   try simp only [qA] at h5
   exact absurd h5 h1
  ·try rw [h5]
   try simp only [qA] at h5
   refine gn4 Z Z Z Z (gn3 Z Z Z (Qh Z Z (kc4 hK Z Z Z Z ?_)))
   refine ZU Z (Qr (ks3 Z Z Z (Qb fun K hK => mv2 Z Z (Mg Z Z Z Z Wa Wa Wh Tg Z (FT (ds0 := [5, 1, 0]) Z Z (fun _ h => ⟨Qbj, h⟩) Z (.inl Z) Wf Wh Wh Z Z (QJ (ds0 := [6, 5, 1, 0]) (cs := [_, _, _, _, _, _, _]) Z Z Z Z Z Z (QD Z Z (Hi (ds0 := [1, 0]) Z Z Wn ⟨_, rfl, rfl, rfl, rfl, rfl⟩ Z Z Wf Z Z Wh Wh Z Z (Qa Z ?_)))))))))
   refine Qa Z (Mg Z Z Z Z Wa Wh Wf Tg Z (Hi (ds0 := [0]) Z Z Wn ⟨rfl, Qbj, rfl⟩ Z Z Wf Z Z Wh Wh Z Z (Qa Z (kc1 hK Z ?_))))
   refine Qq (Ye Z ?_)
   rw [Di (k := k) Wr hI.2]; simp [Kc, D.fz, D.fzS, FR, lk, D.can, D.canS, Rp, D.sid, (show ∀ a b : Nat, a + 1 + b = a + (b + 1) from fun a b => Wa), QgH (show (l.map dCu).length <= l.length by simp)] <;> rfl
theorem _root_.Wk {p : Prop} (h : p := by decide) : p := h
theorem Jv {l : List (Cu × Cu)} (hl : Sm l) : Ok Tryz.prog 99 [ZH l] (Rp (Y0 l)) := by
 refine Ok.ofT ZR Tryz.func99 Qgn (Qgr Z) ?_
 show TW _ _ tf99.body _ _
 have hn := hl.1
 refine Qb fun K hK => Qa Z (kc1 hK Z ?_)
 refine Qb fun K hK => Qt (Y6) Z Z (.inl Z) (Qt (Xk) Z Z (.inl Z) (QD Z Z (Qa Z (kc2 hK Z Z ?_))))
 refine QA ?_ -- 0
 refine Qb fun K hK => Qa Z (kc3 hK Z Z Z ?_)
 refine Qy ?_
 refine Zq (ι := Nat) (fun i => ⟨[(0, ZH l), (3, Rp (Y0 (l.take i))), (4, .int .i64 i)], []⟩) (fun i => i <= l.length) (fun i => l.length - i) 0 ?_ ?_ ?_
 ·exact le_trans (SQ 7 _ Wk) (Q3 (l := [0, 3, 4]) (lH := []) (kp3 rfl rfl rfl) Ql rfl rfl rfl)
 ·exact QgD _
 intro i hI
 try dsimp only
 refine QA ?_ -- 1
 refine Qb fun K hK => mv2 Z Z (QL Z Z (Yg Z Z (kc4 hK Z Z Z Z ?_)))
 refine Qs Z (fun h1 => ?_) (fun h1 => ?_)
 ·try rw [h1]
  try simp only [qA] at h1
  refine Qr (ks3 Z Z Z ?_)
  refine QA ?_ -- 2
  refine Qy (QI fun K hK => mv2 Z Z (Qa Z (QF Z Z Z Wa (QO Wa) Z (Q2 Z Z (QJ (ds0 := [7, 1, 0]) (cs := [_, _, _, _, _, _, _]) Z Z Z Z Z Z (QS (ds0 := [1, 0]) (JW (QgK (NZ hl i).1 Wa) (NZ hl i).2 (hl.2 _ (Qgw Wa)).1) Z Z (.inl Z) Z Z (mv2 Z Z (QF Z Z Z Wa (QO Wa) Z ?_))))))))
  refine Q2 Z Z (QJ (ds0 := [1, 0]) (cs := [_, _, _, _, _, _, _]) Z Z Z Z Z Z (QS (ds0 := [0]) (JW (QgK (N0 _ _) (by have := (NZ hl i).1; omega)) (RU (NZ hl i).2 (hl.2 _ (Qgw Wa)).1) (hl.2 _ (Qgw Wa)).2) Z Z (.inl Z) Z Z (Qa Z (hK _ ?_))))
  refine Qe (ks3 Z Z Z (QI fun K hK => Qa Z (QZ Z Z Wc (Qa Z (hK _ ?_)))))
  refine Qi (i + 1) ?_ ?_ ?_
  ·exact Q3 (l := [0, 3, 4]) (lH := []) (kp3 rfl rfl rfl) Ql (by rw [Qa2 Wa]; rfl) rfl rfl
  ·omega
  ·first | omega | (simp only; omega) | (dsimp only; omega)
 ·try rw [h1]
  try simp only [qA] at h1
  refine Zh (QH (Qw (QE (ks1 Z (Qb fun K hK => mv2 Z Z (kc1 hK Z ?_))))))
  refine Qq (Ye Z ?_)
  rw [QgH (Wa : l.length <= i)]; rfl
open Go Go.Abs M3 M25
theorem Jw {l : List (Cu × Cu)} {x y : Cu} (hn : l.length <= 3000000) (hl : ∀ s ∈ l, Cu.sm s.1 /\ Cu.sm s.2) (hx : Cu.sm x) (hy : Cu.sm y) : OkH Tryz.prog 101 [.osl 500000 l.length, .agg (dCu x), .agg (dCu y)] [(500000, ⟨l.map NF, 14, 99, true⟩)] (.osl 500000 (HE l x y).length) [(500000, ⟨(HE l x y).map NF, 14, 99, true⟩)] := by
 refine OkH.mv ZR Tryz.func101 Qew (Qgr Z) Z ?_
 show TW _ _ tf101.body _ _
 refine Qb fun K hK => Zx Z Z Z (Zx Z Z Z (Qa Z (kc3 hK Z Z Z ?_)))
 refine QA ?_ -- 0
 refine Qb fun K hK => Qa Z (QL Z Z (Xu Z Z Wc (Qa Z (kc4 hK Z Z Z Z ?_))))
 refine Qb fun K hK => Qa Z (Mf Z Z (Qa Z ?_))
 refine Qu (g := 13) Z (fun h1 => ?_) (fun h1 => ?_)
 ·try rw [h1]
  try simp only [qA] at h1
  refine Qd Z (Qa Z (Qd Z (Qa Z (Qd Z (XW (ds0 := [5, 4, 2, 1, 0]) Z Z Z Wf Wa Wa Z Z Z (Qd Z (Qf Z Z (Qd Z (QJ (ds0 := [2, 1, 0]) (cs := [_, _, _, _, _, _, _]) Z (Z8 Z (ZM Wa Wa)) Z Z Z Z (Qd Z (QJ (ds0 := [2, 1, 0]) (cs := [_, _, _, _, _, _, _]) Z Z Z Z Z Z ?_)))))))))))
  refine Qd Z (QS (ds0 := [1, 0]) (Zw (hl _ (Qgw Wa)).2.1 (hl _ (Qgw Wa)).2.2 hx.1 hx.2) Z Z (.inr Z) Z Z (Qd Z (ZG Z Z (Qh Z Z (kc5 hK Z Z Z Z Z ?_)))))
  refine Qs Z (fun h2 => ?_) (fun h2 => ?_)
  ·try rw [h2]
   try simp only [qA] at h2
   refine Qb fun K hK => mv2 Z Z (QB (cs := [_, _, _, _, _, _, _]) Z Z Z Z (Xt Z Z Z Wf Wa Wa Z (Qf Z Z (Q4 Z Z (ZM Wa Wa) Z Z Z Z Z (kc1 hK Z ?_)))))
   refine Qb fun K hK => mv2 Z Z (kc1 hK Z ?_)
   refine Qq (Qg ?_)
   refine YG Z ?_ (HR ?_)
   ·rw [SX (i := ((l.length : Int) - 1).toNat) Wa h2]; simp [Cj, D.fz, D.fzS, NL, D.can, D.canS]
   ·rw [SX (i := ((l.length : Int) - 1).toNat) Wa h2]; simp [lk, List.map_set, NF, dCu, setRow, D.sid]
  ·try rw [h2]
   try simp only [qA] at h2
   refine Qr (ks3 Z Z Z (Qb fun K hK => Qa Z (QB (cs := [_, _, _, _, _, _, _]) Z Z Z Z (QB (cs := [_, _, _, _, _, _, _]) Z Z Z Z (QQ Z Z (QD Z Z (Xs Z Z (fun _ h => Xo Z Z Z h) Z Wf Z Z Z Wh Wh (Qa Z (kc1 hK Z ?_)))))))))
   refine Qq ?_
   refine YG Z ?_ (HR ?_)
   ·rw [Fx (.inr ⟨((l.length : Int) - 1).toNat, Wa, h2⟩)]; simp [Cj, D.fz, D.fzS, NL, D.can, D.canS]
   ·rw [Fx (.inr ⟨((l.length : Int) - 1).toNat, Wa, h2⟩)]; simp [lk, NF, dCu, D.sid]
 ·try rw [h1]
  try simp only [qA] at h1
  refine gn4 Z Z Z Z (gn4 Z Z Z Z (Qh Z Z (kc5 hK Z Z Z Z Z ?_)))
  refine ZU Z (Qr (ks3 Z Z Z (Qb fun K hK => Qa Z (QB (cs := [_, _, _, _, _, _, _]) Z Z Z Z (QB (cs := [_, _, _, _, _, _, _]) Z Z Z Z (QQ Z Z (QD Z Z (Xs Z Z (fun _ h => Xo Z Z Z h) Z Wf Z Z Z Wh Wh (Qa Z (kc1 hK Z ?_))))))))))
  refine Qq ?_
  have h0 : l = [] := List.eq_nil_of_length_eq_zero Wa
  refine YG Z ?_ (HR ?_)
  ·rw [Fx (.inl h0)]; simp [Cj, D.fz, D.fzS, NL, D.can, D.canS]
  ·rw [Fx (.inl h0)]; simp [lk, NF, dCu, D.sid]
open Go Go.Abs M3 M25
theorem GK {l : List (Cu × Cu)} (hl : Sm l) : Ok Tryz.prog 98 [ZH l] (.tup [ZH (T9 l), .bool (l.all FA)]) := by
  refine Ok.ofT ZR Tryz.func98 Qgm (Qgr Z) ?_
  show TW _ _ tf98.body _ _
  have hn := hl.1
  have hc1 := HC l
  refine Qb fun K hK => mv2 Z Z (kc1 hK Z ?_)
  refine QA ?_ -- 0
  refine Qb fun K hK => Qa Z (kc2 hK Z Z ?_)
  refine Qy ?_
  refine Zq (ι := Nat) (fun i => ⟨[(0, ZH l), (4, .int .i64 i)], []⟩) (fun i => i <= l.length /\ (l.take i).all FA = true) (fun i => l.length - i) 0 ?_ ?_ ?_
  · exact Za (kp2 rfl rfl)
  · exact ⟨QgD _, by simp⟩
  intro i hI
  try dsimp only
  refine QA ?_ -- 1
  refine Qb fun K hK => mv2 Z Z (QL Z Z (Yg Z Z (kc3 hK Z Z Z ?_)))
  refine Qs Z (fun h1 => ?_) (fun h1 => ?_)
  · try rw [h1]
    try simp only [qA] at h1
    refine Qr (ks2 Z Z ?_)
    refine QA ?_ -- 2
    refine Qy (Qb fun K hK => mv2 Z Z (QF Z Z Z Wa (QO Wa) Z (QB (cs := [_, _, _, _, _, _, _, _, _, _, _, _, _, _]) Z Z Z Z (Qt (YJ (hl.at (i := i) Wa).1.1 (hl.at (i := i) Wa).1.2 (hl.at (i := i) Wa).2.1 (hl.at (i := i) Wa).2.2) Z Z (.inr Z) (Z9 Z (kc3 hK Z Z Z ?_))))))
    refine Qs Z (fun h2 => ?_) (fun h2 => ?_)
    · try rw [h2]
      try simp only [qA] at h2
      refine Qb fun K hK => mv2 Z Z (kc2 hK Z Z ?_)
      refine Qq (Qp (Qg (Q0 (Qp (Qg ?_)))))
      first
        | exact QR rfl rfl ⟨by rw [T9, if_neg (by rw [XX (i := i) Wa Wl]; simp)]; rfl, by rw [XX (i := i) Wa Wl]; rfl⟩
        | (have ha : l.all FA = true := XP Wa hI.2
           exact QR rfl rfl ⟨by rw [T9, if_pos ha, hI2.done Wa]; simp [Kc, D.fz, D.fzS, FR, lk, D.can, D.canS, ZH], by rw [ha]; rfl⟩)
    · try rw [h2]
      try simp only [qA] at h2
      refine Qr (Qe (ks2 Z Z (QI fun K hK => Qa Z (QZ Z Z Wc (Qa Z (hK _ ?_))))))
      refine Qi (i + 1) ?_ ?_ ?_
      · exact Za (kp2 rfl rfl)
      · exact ⟨Wa, Yf Wa hI.2 Wl⟩
      · first | omega | (simp only; omega) | (dsimp only; omega)
  · try rw [h1]
    try simp only [qA] at h1
    refine Zh (QH (Qw (QE (ks1 Z (Qb fun K hK => Qa Z (kc2 hK Z Z ?_))))))
    refine Qb fun K hK => Qa Z (Qt (Jv hl) Z Z (.inl Z) (Qa Z (kc3 hK Z Z Z ?_)))
    refine QA ?_ -- 3
    refine Qb fun K hK => Qa Z (kc4 hK Z Z Z Z ?_)
    refine Qy ?_
    refine Zq (ι := Nat × List (Cu × Cu)) (fun ⟨i, out⟩ => ⟨[(0, ZH l), (5, .osl 5 out.length), (6, Rp (Y0 l)), (7, .int .i64 i)], [(5, ⟨out.map NF, 14, 99, true⟩)]⟩) (fun ⟨i, out⟩ => i <= (Y0 l).length /\ FillI (mIn l) (Y0 l) i out) (fun ⟨i, out⟩ => (Y0 l).length - i) (0, []) ?_ ?_ ?_
    · exact le_trans (Yd 5 5 14 99 rfl rfl) (Q3 (l := [0, 5, 6, 7]) (lH := [5]) (kp4 rfl rfl rfl rfl) (Qc rfl Ql) rfl rfl rfl)
    · exact ⟨QgD _, FillI.zero⟩
    intro ⟨i, out⟩ hI
    obtain ⟨hI1, hI2⟩ := hI
    have hI3 := hI2.1
    try dsimp only
    refine QA ?_ -- 4
    refine Qb fun K hK => Qa Z (QZ Z Z Wc (Qa Z (QL Z Z (Yg Z Z (kc5 hK Z Z Z Z Z ?_)))))
    refine Qs Z (fun h3 => ?_) (fun h3 => ?_)
    · try rw [h3]
      try simp only [qA] at h3
      refine Qr (ks4 Z Z Z Z ?_)
      refine QA ?_ -- 5
      refine Qy (Qb fun K hK => mv2 Z Z (Qa Z (QF Z Z Z Wa (QO Wa) Z (QJ (ds0 := [0]) (cs := [_, _, _, _, _, _, _]) Z Z Z Z Z Z (mv2 Z Z (QZ Z Z Wc (QF Z Z Z Wa (L7 Wa) Z (QJ (ds0 := [0]) (cs := [_, _, _, _, _, _, _]) Z Z Z Z Z Z ?_))))))))
      refine QS (ds0 := []) (Ko hl (YF hl _ (Qgw Wa)) (YF hl _ (Qgw Wa))) Z Z (.inr Z) Z Z (kc5 hK Z Z Z Z Z ?_)
      refine Qs Z (fun h4 => ?_) (fun h4 => ?_)
      · try rw [h4]
        try simp only [qA] at h4
        refine QI fun K hK => Qa rfl (Qa rfl (Qa rfl (QF rfl rfl rfl Wa (QO Wa) rfl (QJ (ds0 := [1, 0]) (cs := [_, _, _, _, _, _, _]) rfl rfl rfl rfl rfl rfl (Qa rfl (Qa rfl (QZ rfl rfl Wc (QF rfl rfl rfl Wa (L7 Wa) rfl (QJ (ds0 := [1, 0]) (cs := [_, _, _, _, _, _, _]) rfl rfl rfl rfl rfl rfl (LF (ds0 := [0]) (LO (k := 5) rfl rfl rfl Wk rfl Wk (by simp [D.ids, D.sid, dCu]) ⟨.osl 5 out.length, by simp, by simp [D.ids, D.sid]⟩ rfl rfl (Jw Wa hI2.2.1 (YF hl _ (Qgw Wa)) (YF hl _ (Qgw Wa)))) (fun _ h => by cases h) rfl rfl ?_))))))))))
        refine Qa Z (hK _ ?_)
        refine Qe (ks4 Z Z Z Z (QI fun K hK => Qa Z (QZ Z Z Wc (Qa Z (hK _ ?_)))))
        refine Qi (i + 1, HE out (Y0 l)[i] (Y0 l)[i + 1]) ?_ ?_ ?_
        · exact le_trans (Bd (l := [0, 6, 7]) (t := 50) (u := 5) 5 (kp3 rfl rfl rfl) rfl rfl rfl rfl) (Q3 (l := [0, 5, 6, 7]) (lH := [5]) (kp4 rfl rfl rfl rfl) (Qc rfl Ql) rfl rfl rfl)
        · exact ⟨Wa, hI2.take (YF hl) Wa Wl⟩
        · show (Y0 l).length - (i + 1) < (Y0 l).length - i; omega
      · try rw [h4]
        try simp only [qA] at h4
        refine Qr (Qe (ks4 Z Z Z Z (QI fun K hK => Qa Z (QZ Z Z Wc (Qa Z (hK _ ?_))))))
        refine Qi (i + 1, out) ?_ ?_ ?_
        · exact Q3 (l := [0, 5, 6, 7]) (lH := [5]) (kp4 rfl rfl rfl rfl) (Qc rfl Ql) rfl rfl rfl
        · exact ⟨Wa, hI2.skip Wa Wl⟩
        · show (Y0 l).length - (i + 1) < (Y0 l).length - i; omega
    · try rw [h3]
      try simp only [qA] at h3
      refine Zh (QH (Qw (QE (ks1 Z (Qb fun K hK => mv2 Z Z (Qa Z (kc2 hK Z Z ?_)))))))
      refine Qq ?_
      first
        | exact QR rfl rfl ⟨by rw [T9, if_neg (by rw [XX (i := i) Wa Wl]; simp)]; rfl, by rw [XX (i := i) Wa Wl]; rfl⟩
        | (have ha : l.all FA = true := XP Wa hI.2
           exact QR rfl rfl ⟨by rw [T9, if_pos ha, hI2.done Wa]; simp [Kc, D.fz, D.fzS, FR, lk, D.can, D.canS, ZH], by rw [ha]; rfl⟩)
open Go Go.Abs M3 M25
theorem Km {a b : List (Cu × Cu)} (ha : Sm a) (hb : Sm b) (hab : a.length + b.length <= 1000000) : Ok Tryz.prog 90 [ZH a, ZH b] (ZH (QbT a b)) := by
 refine Ok.ofT ZR Tryz.func90 Qge (Qgr Z) ?_
 show TW _ _ tf90.body _ _
 refine Qb fun K hK => Qa Z (kc2 hK Z Z ?_)
 refine QA ?_ -- 0
 refine Qb fun K hK => Qa Z (Qt (Z0 ha) Z Z (.inr Z) (Z9 Z (Qa Z ?_)))
 refine Qu (g := 10) Z (fun h1 => ?_) (fun h1 => ?_)
 ·try rw [h1]
  try simp only [qB] at h1
  refine gn3 Z Z Z (Qh Z Z (kc3 hK Z Z Z ?_))
  refine Zr Z (Qb fun K hK => Qa Z (kc1 hK Z ?_))
  refine Qq (Qg (Ye Z ?_))
  rw [QbT, if_neg (by simp [h1])]; rfl
 ·try rw [h1]
  try simp only [qB] at h1
  refine Qd Z (Qa Z (Qd Z (Qt (Z0 hb) Z Z (.inr Z) (Qd Z (Z9 Z (Qh Z Z (kc3 hK Z Z Z ?_)))))))
  refine Qs Z (fun h2 => ?_) (fun h2 => ?_)
  ·try rw [h2]
   try simp only [qB] at h2
   refine Qb fun K hK => Qa Z (kc1 hK Z ?_)
   refine Qq (Qg (Ye Z ?_))
   rw [QbT, if_neg (by simp [h1, h2])]; rfl
  ·try rw [h2]
   try simp only [qB] at h2
   refine Qr (ks2 Z Z (Qb fun K hK => Qa Z (Cp Z Z (fun _ h => DD QbX h) Z (.inl Z) Wf Wh Wh (Qa Z (Xs Z Z (fun _ h => DD QbX h) Z Wf Z Z Z Wh Wh ?_)))))
   apply Qb7 [17] Wf
   ·simp [St.freezeL, St.freeze, rem, D.fz, D.fzS, Box.fz, lk, D.scrub]; exact ⟨rfl, rfl⟩
   ·exact GK (ha.app hb hab)
   ·rfl
   ·simp [Kc, D.fz, D.fzS, FR, D.can, D.canS, ZH]
   ·exact .inl rfl
   refine Qa Z (QU Z Z (QU Z Z (mv2 Z Z (kc1 hK Z ?_))))
   refine Qb fun K hK => mv2 Z Z (kc1 hK Z ?_)
   refine Qq (Ye Z ?_)
   rw [QbT, if_pos ⟨h1, h2⟩]; rfl
theorem JV {a : List (Cu × Cu)} (ha : Sm a) : Ok Tryz.prog 92 [ZH a] (ZH (La a)) := by
 refine Ok.ofT ZR Tryz.func92 Qgg (Qgr Z) ?_
 show TW _ _ tf92.body _ _
 have hn := ha.1
 have hc1 := HC a
 refine Qb fun K hK => Qa Z (kc1 hK Z ?_)
 refine QA ?_ -- 0
 refine Qb fun K hK => Qa Z (Qt (Z0 ha) Z Z (.inr Z) (Z9 Z (kc2 hK Z Z ?_)))
 refine Qs Z (fun h1 => ?_) (fun h1 => ?_)
 ·try rw [h1]
  try simp only [qA] at h1
  refine Qb fun K hK => Qa Z (kc1 hK Z ?_)
  refine Qq (Qg (Ye Z ?_))
  rw [La, if_neg (by simp [h1])]; rfl
 ·try rw [h1]
  try simp only [qA] at h1
  refine Qr (ks1 Z (Qb fun K hK => Qa Z (kc2 hK Z Z ?_)))
  refine Qb fun K hK => Qa Z (Qt (Jv ha) Z Z (.inl Z) (Qa Z (kc3 hK Z Z Z ?_)))
  refine QA ?_ -- 1
  refine Qb fun K hK => Qa Z (kc4 hK Z Z Z Z ?_)
  refine Qy ?_
  refine Zq (ι := Nat × List (Cu × Cu)) (fun ⟨i, out⟩ => ⟨[(0, ZH a), (3, .osl 3 out.length), (4, Rp (Y0 a)), (5, .int .i64 i)], [(3, ⟨out.map NF, 14, 99, true⟩)]⟩) (fun ⟨i, out⟩ => i <= (Y0 a).length /\ FillI (fun x y => !mIn a x y) (Y0 a) i out) (fun ⟨i, out⟩ => (Y0 a).length - i) (0, []) ?_ ?_ ?_
  ·exact le_trans (Yd 3 3 14 99 rfl rfl) (Q3 (l := [0, 3, 4, 5]) (lH := [3]) (kp4 rfl rfl rfl rfl) (Qc rfl Ql) rfl rfl rfl)
  ·exact ⟨QgD _, FillI.zero⟩
  intro ⟨i, out⟩ hI
  obtain ⟨hI1, hI2⟩ := hI
  have hI3 := hI2.1
  try dsimp only
  refine QA ?_ -- 2
  refine Qb fun K hK => Qa Z (QZ Z Z Wc (Qa Z (QL Z Z (Yg Z Z (kc5 hK Z Z Z Z Z ?_)))))
  refine Qs Z (fun h2 => ?_) (fun h2 => ?_)
  ·try rw [h2]
   try simp only [qA] at h2
   refine Qr (ks4 Z Z Z Z ?_)
   refine QA ?_ -- 3
   refine Qy (Qb fun K hK => mv2 Z Z (Qa Z (QF Z Z Z Wa (QO Wa) Z (QJ (ds0 := [1, 0]) (cs := [_, _, _, _, _, _, _]) Z Z Z Z Z Z (mv2 Z Z (QZ Z Z Wc (QF Z Z Z Wa (L7 Wa) Z (QJ (ds0 := [1, 0]) (cs := [_, _, _, _, _, _, _]) Z Z Z Z Z Z ?_))))))))
   refine QS (ds0 := [0]) (Ko ha (YF ha _ (Qgw Wa)) (YF ha _ (Qgw Wa))) Z Z (.inr Z) Z Z (Z9 Z (kc5 hK Z Z Z Z Z ?_))
   refine Qs Z (fun h3 => ?_) (fun h3 => ?_)
   ·try rw [h3]
    try simp only [qA] at h3
    refine QI fun K hK => Qa rfl (Qa rfl (Qa rfl (QF rfl rfl rfl Wa (QO Wa) rfl (QJ (ds0 := [1, 0]) (cs := [_, _, _, _, _, _, _]) rfl rfl rfl rfl rfl rfl (Qa rfl (Qa rfl (QZ rfl rfl Wc (QF rfl rfl rfl Wa (L7 Wa) rfl (QJ (ds0 := [1, 0]) (cs := [_, _, _, _, _, _, _]) rfl rfl rfl rfl rfl rfl (LF (ds0 := [0]) (LO (k := 3) rfl rfl rfl Wk rfl Wk (by simp [D.ids, D.sid, dCu]) ⟨.osl 3 out.length, by simp, by simp [D.ids, D.sid]⟩ rfl rfl (Jw Wa hI2.2.1 (YF ha _ (Qgw Wa)) (YF ha _ (Qgw Wa)))) (fun _ h => by cases h) rfl rfl ?_))))))))))
    refine Qa Z (hK _ ?_)
    refine Qe (ks4 Z Z Z Z (QI fun K hK => Qa Z (QZ Z Z Wc (Qa Z (hK _ ?_)))))
    refine Qi (i + 1, HE out (Y0 a)[i] (Y0 a)[i + 1]) ?_ ?_ ?_
    ·exact le_trans (Bd (l := [0, 4, 5]) (t := 40) (u := 3) 3 (kp3 rfl rfl rfl) rfl rfl rfl rfl) (Q3 (l := [0, 3, 4, 5]) (lH := [3]) (kp4 rfl rfl rfl rfl) (Qc rfl Ql) rfl rfl rfl)
    ·exact ⟨Wa, hI2.take (YF ha) Wa (by simp; assumption)⟩
    ·show (Y0 a).length - (i + 1) < (Y0 a).length - i; omega
   ·try rw [h3]
    try simp only [qA] at h3
    refine Qr (Qe (ks4 Z Z Z Z (QI fun K hK => Qa Z (QZ Z Z Wc (Qa Z (hK _ ?_))))))
    refine Qi (i + 1, out) ?_ ?_ ?_
    ·exact Q3 (l := [0, 3, 4, 5]) (lH := [3]) (kp4 rfl rfl rfl rfl) (Qc rfl Ql) rfl rfl rfl
    ·exact ⟨Wa, hI2.skip Wa (by simp; assumption)⟩
    ·show (Y0 a).length - (i + 1) < (Y0 a).length - i; omega
  ·try rw [h2]
   try simp only [qA] at h2
   refine Zh (QH (Qw (QE (ks1 Z (Qb fun K hK => mv2 Z Z (kc1 hK Z ?_))))))
   refine Qq (Ye Z ?_)
   rw [La, if_pos h1, hI2.done Wa]; simp [Kc, D.fz, D.fzS, FR, lk, D.can, D.canS, ZH]
open Go Go.Abs M3 M25
theorem FX {a b : FU} (h1a : Sm a.1) (h2a : Sm a.2) (h1b : Sm b.1) (h2b : Sm b.2) (hl1 : a.1.length + b.1.length <= 1000000) (hl2 : a.2.length + b.2.length <= 1000000) : Ok Tryz.prog 75 [Rq a, Rq b] (Rq (Qah a b)) := by
 refine Ok.ofT ZR Tryz.func75 QfZ (Qgr Z) ?_
 show TW _ _ tf75.body _ _
 refine Qb fun K hK => Zx Z Z Z (Zx Z Z Z (ZI Z (kc3 hK Z Z Z ?_)))
 refine QA ?_ -- 0
 refine Qb fun K hK => QB (cs := [_, _]) Z Z Z Z (Qt (YL h1a h2a) Z Z (.inr Z) (Z9 Z (Qa Z ?_)))
 refine Qu (g := 8) Z (fun h1 => ?_) (fun h1 => ?_)
 ·try rw [h1]
  try simp only [qB] at h1
  refine gn3 Z Z Z (Qh Z Z (kc4 hK Z Z Z Z ?_))
  refine Zr Z (Qb fun K hK => Qt (Ya) Z Z (.inl Z) (Q4 Z Z Z Z Z Z Z Z (kc1 hK Z ?_)))
  refine Qq (Qg (Post.eq (ZE (ds := [.sl _, .sl _]) (cs := [_, _]) Z Z Z Z Z) ?_))
  rw [Qah, if_neg (by simp [h1])]; rfl
 ·try rw [h1]
  try simp only [qB] at h1
  refine Qd Z (QB (cs := [_, _]) Z Z Z Z (Qd Z (Qt (YL h1b h2b) Z Z (.inr Z) (Qd Z (Z9 Z (Qh Z Z (kc4 hK Z Z Z Z ?_)))))))
  refine Qs Z (fun h2 => ?_) (fun h2 => ?_)
  ·try rw [h2]
   try simp only [qB] at h2
   refine Qb fun K hK => Qt (Ya) Z Z (.inl Z) (Q4 Z Z Z Z Z Z Z Z (kc1 hK Z ?_))
   refine Qq (Qg (Post.eq (ZE (ds := [.sl _, .sl _]) (cs := [_, _]) Z Z Z Z Z) ?_))
   rw [Qah, if_neg (by simp [h1, h2])]; rfl
  ·try rw [h2]
   try simp only [qB] at h2
   refine Qr (ks3 Z Z Z (Qb fun K hK => Qf Z Z (QM (ds0 := [7, 1, 0]) Z Z Z Z Z (Qf Z Z (QM (ds0 := [7, 1, 0]) Z Z Z Z Z (QS (ds0 := [1, 0]) (Km h1a h1b hl1) Z Z (.inl Z) Z Z (Qf Z Z (QM (ds0 := [2, 1, 0]) Z Z Z Z Z (Qf Z Z (QM (ds0 := [2, 1, 0]) Z Z Z Z Z ?_))))))))))
   refine QS (ds0 := [1, 0]) (Km h2a h2b hl2) Z Z (.inl Z) Z Z (QQ Z Z (Xb (ds0 := []) Z Z Z Z Z Z Z Z Z Z (kc1 hK Z ?_)))
   refine Qq (Post.eq (ZE (ds := [.sl _, .sl _]) (cs := [_, _]) Z Z Z Z Z) ?_)
   rw [Qah, if_pos ⟨h1, h2⟩]; rfl
theorem G9 {a : FU} (h1a : Sm a.1) (h2a : Sm a.2) : Ok Tryz.prog 77 [Rq a] (Rq (MU a)) := by
 refine Ok.ofT ZR Tryz.func77 Qf1 (Qgr Z) ?_
 show TW _ _ tf77.body _ _
 refine Qb fun K hK => Zx Z Z Z (ZI Z (kc2 hK Z Z ?_))
 refine QA ?_ -- 0
 refine Qb fun K hK => QB (cs := [_, _]) Z Z Z Z (Qt (YL h1a h2a) Z Z (.inr Z) (Z9 Z (kc3 hK Z Z Z ?_)))
 refine Qs Z (fun h1 => ?_) (fun h1 => ?_)
 ·try rw [h1]
  try simp only [qB] at h1
  refine Qb fun K hK => Qt (Ya) Z Z (.inl Z) (Q4 Z Z Z Z Z Z Z Z (kc1 hK Z ?_))
  refine Qq (Qg (Post.eq (ZE (ds := [.sl _, .sl _]) (cs := [_, _]) Z Z Z Z Z) ?_))
  rw [MU, if_neg (by simp [h1])]; rfl
 ·try rw [h1]
  try simp only [qB] at h1
  refine Qr (ks2 Z Z (Qb fun K hK => Qf Z Z (QM (ds0 := [5, 1, 0]) Z Z Z Z Z (QS (ds0 := [1, 0]) (JV h1a) Z Z (.inl Z) Z Z (Qf Z Z (QM (ds0 := [2, 1, 0]) Z Z Z Z Z (QS (ds0 := [1, 0]) (JV h2a) Z Z (.inl Z) Z Z (QQ Z Z (Xb (ds0 := []) Z Z Z Z Z Z Z Z Z Z (kc1 hK Z ?_))))))))))
  refine Qq (Post.eq (ZE (ds := [.sl _, .sl _]) (cs := [_, _]) Z Z Z Z Z) ?_)
  rw [MU, if_pos h1]; rfl
open Go Go.Abs M3 M25
theorem Zk {v n : Int} (hn : n <= 9223372036854775807) (hv : I64 v) : Ok Tryz.prog 9 [.int .i64 v, .int .i64 n] (.int .i64 (mPl v n)) := by
 refine Ok.ofT ZR Tryz.func9 tp9 (Qgr Z) ?_
 show TW _ _ tf9.body _ _
 refine Qb fun K hK => Qa Z (kc2 hK Z Z ?_)
 refine QA ?_ -- 0
 refine Qb fun K hK => Qa Z (Yg Z Z (kc3 hK Z Z Z ?_))
 refine Qs Z (fun h1 => ?_) (fun h1 => ?_)
 ·try rw [h1]
  try simp only [qB] at h1
  refine Qb fun K hK => Qa Z (kc1 hK Z ?_)
  refine Qq (Qg (QC Z ?_))
  rw [mPl, if_pos h1]
 ·try rw [h1]
  try simp only [qB] at h1
  refine Qr (ks2 Z Z (Qb fun K hK => mv2 Z Z (Qam Z Z Wa (Qa Z (kc2 hK Z Z ?_)))))
  refine QA ?_ -- 1
  refine Qb fun K hK => Qa Z (Yg Z Z (kc3 hK Z Z Z ?_))
  refine Qs Z (fun h2 => ?_) (fun h2 => ?_)
  ·try rw [h2]
   try simp only [qB] at h2
   refine Qb fun K hK => mv2 Z Z (QZ Z Z (Qm (by have := Int.lt_tmod_of_pos v (Wa : 0 < n); omega) (by have := Int.tmod_lt_of_pos v (Wa : 0 < n); omega)) (Qa Z (kc1 hK Z ?_)))
   refine Qq (Qg (QC Z ?_))
   rw [mPl, if_neg h1, MY, if_pos h2]
  ·try rw [h2]
   try simp only [qB] at h2
   refine Qr (ks1 Z (Qb fun K hK => mv2 Z Z (kc1 hK Z ?_)))
   refine Qq (QC Z ?_)
   rw [mPl, if_neg h1, MY, if_neg h2]
theorem FV {l : List Int} {i : Int} : Ok Tryz.prog 51 [ZJ l, .int .i64 i] (.int .i64 (Qag l i)) := by
 refine Ok.ofT ZR Tryz.func51 QfB (Qgr Z) ?_
 show TW _ _ tf51.body _ _
 refine Qb fun K hK => Qa Z (kc2 hK Z Z ?_)
 refine QA ?_ -- 0
 refine Qb fun K hK => Qa Z (Yg Z Z (Qa Z ?_))
 refine Qu (g := 7) Z (fun h1 => ?_) (fun h1 => ?_)
 ·try rw [h1]
  try simp only [qA] at h1
  refine gn4 Z Z Z Z (Qh Z Z (kc3 hK Z Z Z ?_))
  refine Zr Z (Qb fun K hK => Qa Z (Qam Z Z Wa (Qa Z (kc1 hK Z ?_))))
  refine Qq (Qg (QC Z ?_))
  rw [Qag, if_pos Wa]
 ·try rw [h1]
  try simp only [qA] at h1
  refine Qd Z (Qa Z (Qd Z (Qa Z (Qd Z (QL Z Z (Qd Z (Mf Z Z (Qh Z Z (kc3 hK Z Z Z ?_)))))))))
  refine Qs Z (fun h2 => ?_) (fun h2 => ?_)
  ·try rw [h2]
   try simp only [qA] at h2
   refine Qb fun K hK => Qa Z (Qam Z Z Wa (Qa Z (kc1 hK Z ?_)))
   refine Qq (Qg (QC Z ?_))
   rw [Qag, if_pos Wa]
  ·try rw [h2]
   try simp only [qA] at h2
   refine Qr (ks2 Z Z (Qb fun K hK => mv2 Z Z (QF Z Z Z Wa (ZM Wa Wa) Z (Qx Z Z Z (Qa Z (kc1 hK Z ?_))))))
   refine Qq (QC Z ?_)
   exact (Bk Wa Wa).symm
theorem XZ {k : Nat} {L : List Int} {I n : Int} (hk : 1000000 <= k) (hL : ∀ x ∈ L, I64 x) (hn : n <= 9223372036854775807) (et : Nat) : OkH Tryz.prog 25 [.ref k 0 0, .int .i64 n] [(k, gB L I et)] (.int .i64 (nx L I n)) ((k, gB L (nxI I) et) :: [(k, gB L I et)]) := by
 refine OkH.lent hk ZR Tryz.func25 Qfb (Qgr Z) Z ?_
 show TW _ _ tf25.body _ _
 refine Qb fun K hK => Qa Z (kc2 hK Z Z ?_)
 refine Qb fun K hK => Qa Z (Yk Z Z (Qf Z NY (Qx Z (Z8 Ng Z) Z (QZ Z Z Z (Yk Z Z (Qf Z NY (Q4 Z Ng Z Z Z Z Z Z (kc2 hK Z Z ?_))))))))
 refine Qb fun K hK => Qa Z (Yk Z Z (Qf Z NY (QM (ds0 := [3, 1, 0]) Z (Z8 Ng Z) Z Z Z (Qa Z (Yk Z Z (Qf Z NY (QM (ds0 := [4, 3, 1, 0]) Z (Z8 Ng Z) Z Z Z (Xu Z Z Z (QS (ds0 := [1, 0]) (FV) Z Z (.inr Z) Z Z (Qa Z ?_))))))))))
 refine QS (ds0 := [0]) (Zk hn (Qa1 hL (Pj _))) Z Z (.inr Z) Z Z (Qa Z (kc1 hK Z ?_))
 refine Qq ?_
 exact YG rfl rfl (QcU Ng)
open Go Go.Abs M3 M25
theorem Xi {v : Int} (h0 : 0 <= v) (h1v : v <= 61) : Ok Tryz.prog 55 [.int .i64 v] (.int .i64 (2 ^ v.toNat)) := by
 refine Ok.ofT ZR Tryz.func55 QfF (Qgr Z) ?_
 show TW _ _ tf55.body _ _
 refine Qb fun K hK => Qa Z (kc1 hK Z ?_)
 refine Qb fun K hK => Qa Z (kc2 hK Z Z ?_)
 refine QA ?_ -- 0
 refine Qb fun K hK => Qa Z (kc3 hK Z Z Z ?_)
 refine Qy ?_
 refine Zq (ι := Nat) (fun i => ⟨[(0, .int .i64 v), (3, .int .i64 (2 ^ i)), (4, .int .i64 i)], []⟩) (fun i => (i : Int) <= v) (fun i => v.toNat - i) 0 ?_ ?_ ?_
 ·exact Za (kp3 rfl rfl rfl)
 ·exact h0
 intro i hI
 have hp := R0 (i := i + 1) Wa
 rw [Int.pow_succ] at hp
 try dsimp only
 refine QA ?_ -- 1
 refine Qb fun K hK => mv2 Z Z (Yg Z Z (kc4 hK Z Z Z Z ?_))
 refine Qs Z (fun h1 => ?_) (fun h1 => ?_)
 ·try rw [h1]
  try simp only [qB] at h1
  refine Qr (ks3 Z Z Z ?_)
  refine QA ?_ -- 2
  refine Qy (QI fun K hK => Qa rfl (Qca rfl rfl (Qm (by obtain ⟨p1, p2⟩ := hp; generalize (2 : Int) ^ i = z at *; omega) (by obtain ⟨p1, p2⟩ := hp; generalize (2 : Int) ^ i = z at *; omega)) (Qa rfl (hK _ ?_))))
  refine Qe (ks3 Z Z Z (QI fun K hK => Qa Z (QZ Z Z (Qm Wa Wa) (Qa Z (hK _ ?_)))))
  refine Qi (i + 1) ?_ ?_ ?_
  ·exact Q3 (l := [0, 3, 4]) (lH := []) (kp3 rfl rfl rfl) Ql (by rw [Int.pow_succ]; rfl) rfl rfl
  ·show ((i + 1 : Nat) : Int) <= v; omega
  ·first | omega | (simp only; omega) | (dsimp only; omega)
 ·try rw [h1]
  try simp only [qB] at h1
  refine Zh (QH (Qw (QE (ks1 Z (Qb fun K hK => mv2 Z Z (kc1 hK Z ?_))))))
  refine Qq (QC Z ?_)
  rw [show v.toNat = i by omega]
theorem X0 {h m : Int} : Ok Tryz.prog 93 [.int .i64 h, .int .i64 m] (.int .i64 (J9 h m)) := by
 refine Ok.ofT ZR Tryz.func93 Qgh (Qgr Z) ?_
 show TW _ _ tf93.body _ _
 refine Qb fun K hK => Qa Z (kc2 hK Z Z ?_)
 refine QA ?_ -- 0
 refine Qy (Qb fun K hK => mv2 Z Z (GY Z Z (Qa Z (ZG Z Z (Qa Z (kc3 hK Z Z Z ?_))))))
 refine Qs Z (fun h1 => ?_) (fun h1 => ?_)
 ·try rw [h1]
  try simp only [qB] at h1
  refine Qb fun K hK => Qa Z (kc1 hK Z ?_)
  refine Qq (Qp (Qg (QC Z ?_)))
  rw [J9, if_pos h1]
 ·try rw [h1]
  try simp only [qB] at h1
  refine Qb fun K hK => mv2 Z Z (GY Z Z (ZG Z Z (Qa Z (kc1 hK Z ?_))))
  refine Qs Z (fun h2 => ?_) (fun h2 => ?_)
  ·try rw [h2]
   try simp only [qB] at h2
   refine Qb fun K hK => Qa Z (kc1 hK Z ?_)
   refine Qq (Qp (Qg (QC Z ?_)))
   rw [J9, if_neg h1, if_pos h2]
  ·try rw [h2]
   try simp only [qB] at h2
   refine Qr (Qe (Zf (ZC) (Qb fun K hK => Qa Z (kc1 hK Z ?_))))
   refine Qq (QC Z ?_)
   rw [J9, if_neg h1, if_neg h2]
theorem Su {h m : Int} : Ok Tryz.prog 44 [.int .i64 h, .int .i64 m] (.int .i64 (GR h m)) := by
 refine Ok.ofT ZR Tryz.func44 Qfu (Qgr Z) ?_
 show TW _ _ tf44.body _ _
 refine Qb fun K hK => Qa Z (kc2 hK Z Z ?_)
 refine QA ?_ -- 0
 refine Qy (Qb fun K hK => mv2 Z Z (NN Z Z (ZG Z Z (Qa Z (kc3 hK Z Z Z ?_)))))
 refine Qs Z (fun h1 => ?_) (fun h1 => ?_)
 ·try rw [h1]
  try simp only [qB] at h1
  refine Qb fun K hK => Qa Z (kc1 hK Z ?_)
  refine Qq (Qp (Qg (QC Z ?_)))
  rw [GR, if_pos h1]
 ·try rw [h1]
  try simp only [qB] at h1
  refine Qb fun K hK => mv2 Z Z (GY Z Z (ZG Z Z (Qa Z (kc1 hK Z ?_))))
  refine Qs Z (fun h2 => ?_) (fun h2 => ?_)
  ·try rw [h2]
   try simp only [qB] at h2
   refine Qb fun K hK => Qa Z (kc1 hK Z ?_)
   refine Qq (Qp (Qg (QC Z ?_)))
   rw [GR, if_neg h1, if_pos h2]
  ·try rw [h2]
   try simp only [qB] at h2
   refine Qr (Qe (Zf (ZC) (Qb fun K hK => Qa Z (kc1 hK Z ?_))))
   refine Qq (QC Z ?_)
   rw [GR, if_neg h1, if_neg h2]
open Go Go.Abs M3 M25
theorem Xx  : Ok Tryz.prog 43 [] (.sl (versions.map dVr)) := by
 refine Ok.ofT ZR Tryz.func43 Qft (Qgr Z) ?_
 show TW _ _ tf43.body _ _
 refine Qb fun K hK => Qa Z (hK _ _ (Rh (ZC) ?_))
 refine Qb fun K hK => QQ Z Z (QQ Z Z (QQ Z Z (QQ Z Z (QD Z Z (Qa Z (kc1 hK Z ?_))))))
 refine Qq (Ye Z ?_)
 rfl
end Go.Proofs
namespace M25
open Go Go.Abs M3
structure WantT where
 u : Int
 s : FU
structure CandT where
 v : Vr
 sh : Int
 ns : List (List WantT)
 bs : List WantT
structure Cs where
 n : List UInt8
 f : List UInt8
 cs : List CandT
abbrev Qo := List Cs
def NG (x : WantT) : List D := [.int .i64 x.u, ZH x.s.1, ZH x.s.2]
def Q8 (l : List WantT) : D := .sl (l.map NG)
def QT (l : List (List WantT)) : D := .sl (l.map fun r => [Q8 r])
def Qcs (c : CandT) : List D := [.int .i64 c.v.a, .int .i64 c.v.b, .int .i64 c.v.c, .str c.v.p, .str c.v.q, .int .i64 c.sh, QT c.ns, Q8 c.bs]
def LR (l : List CandT) : D := .sl (l.map Qcs)
def YQ (u : Cs) : List D := [.str u.n, .str u.f, LR u.cs]
def Yb (w : Qo) : D := .agg [.sl (w.map YQ)]
structure TermT where
 u : Int
 m : Int
 deriving DecidableEq
structure StepT where
 u : Int
 m : Int
 l : Int
 c : Int
 deriving DecidableEq
structure RowT where
 k : Int
 u : Int
 a : Int
 b : Int
 t : List TermT
def GL (t : TermT) : List D := [.int .i64 t.u, .int .i64 t.m]
def ZL (l : List TermT) : D := .sl (l.map GL)
def Gt (s : StepT) : List D := [.int .i64 s.u, .int .i64 s.m, .int .i64 s.l, .int .i64 s.c]
def Zj (l : List StepT) : D := .sl (l.map Gt)
def CH (r : RowT) : List D := [.int .i64 r.k, .int .i64 r.u, .int .i64 r.a, .int .i64 r.b, ZL r.t]
def Qdw (l : List RowT) : D := .sl (l.map CH)
def dDb (l : List (List TermT)) : D := .sl (l.map fun t => [ZL t])
abbrev Kj (a b : Int) : Int := JM .and .i64 a b
abbrev bor (a b : Int) : Int := JM .or .i64 a b
abbrev Sg (a b : Int) : Int := JM .andNot .i64 a b
def uAt (w : Qo) (u : Int) : Option Cs := if u < 0 then none else w[u.toNat]?
theorem DH {w : Qo} {u : Int} (h0 : 0 <= u) (h : u < w.length) : uAt w u = some (w[u.toNat]'Wa) := by
 rw [uAt, if_neg Wa, List.getElem?_eq_getElem Wa]
theorem Lw {w : Qo} {u : Int} (h : u < 0 \/ (w.length : Int) <= u) : uAt w u = none := by
 unfold uAt
 split
 ·rfl
 ·rw [List.getElem?_eq_none]; omega
def YK (w : Qo) (u : Int) : Int := match uAt w u with
 | none => 0
 | some x => 2 ^ (min x.cs.length 16 + 1) - 1
theorem RR {w : Qo} {u : Int} (h0 : 0 <= u) (h : u < w.length) : YK w u = 2 ^ (min (w[u.toNat]'Wa).cs.length 16 + 1) - 1 := by
 rw [YK, DH h0 h]
theorem Fw {w : Qo} {u : Int} (h : u < 0 \/ (w.length : Int) <= u) : YK w u = 0 := by rw [YK, Lw h]
theorem RQ (w : Qo) (u : Int) : 0 <= YK w u /\ YK w u <= 131071 := by
 unfold YK
 split
 ·omega
 ·rename_i x _
  have h1 : (2 : Nat) ^ (min x.cs.length 16 + 1) <= 2 ^ 17 := Nat.pow_le_pow_right Wa Wa
  have h2 : 1 <= (2 : Nat) ^ (min x.cs.length 16 + 1) := Nat.one_le_two_pow
  have h3 : ((2 ^ (min x.cs.length 16 + 1) : Nat) : Int) = (2 : Int) ^ (min x.cs.length 16 + 1) := by simp
  rw [<- h3]
  have h4 : (2 : Nat) ^ 17 = 131072 := by decide
  omega
def Py (v : Vr) : Prop := v.p.length <= 1000000 /\ v.q.length <= 1000000
structure WSm (w : Qo) : Prop where
 len : w.length <= 48
 cs : ∀ u ∈ w, u.cs.length <= 16
 vs : ∀ u ∈ w, ∀ c ∈ u.cs, Py c.v
 ns : ∀ u ∈ w, ∀ c ∈ u.cs, c.ns.length <= 1000 /\ c.bs.length <= 1000
 nl : ∀ u ∈ w, ∀ c ∈ u.cs, ∀ r ∈ c.ns, r.length <= 1000
 nw : ∀ u ∈ w, ∀ c ∈ u.cs, ∀ r ∈ c.ns, ∀ x ∈ r, Sm x.s.1 /\ Sm x.s.2
 bw : ∀ u ∈ w, ∀ c ∈ u.cs, ∀ x ∈ c.bs, Sm x.s.1 /\ Sm x.s.2
def Qen (s : FU) (v : Vr) : Bool := D3 s v.a v.b v.c v.p v.q
def Hg (s : FU) (l : List CandT) : Nat -> Int
 | 0 => 0
 | n + 1 => Hg s l n + match l[n]? with
  | some c => if Qen s c.v = true then 2 ^ (n + 1) else 0
  | none => 0
theorem Dm (s : FU) (l : List CandT) : ∀ n, 0 <= Hg s l n /\ Hg s l n <= 2 ^ (n + 1) - 2
 | 0 => by simp [Hg]
 | n + 1 => by
  obtain ⟨h1, h2⟩ := Dm s l n
  have h3 : (2 : Int) ^ (n + 1 + 1) = 2 ^ (n + 1) * 2 := Int.pow_succ ..
  have h4 : (0 : Int) < 2 ^ (n + 1) := Int.pow_pos Wa
  rw [Hg, h3]
  generalize (2 : Int) ^ (n + 1) = z at *
  split
  ·split <;> omega
  ·omega
theorem Bw {s : FU} {l : List CandT} {i : Nat} (h : i < l.length) (hp : Qen s l[i].v = true) : Hg s l (i + 1) = Hg s l i + 2 ^ (i + 1) := by
 rw [Hg, List.getElem?_eq_getElem h]; simp only [hp, if_true]
theorem Qa6 {s : FU} {l : List CandT} {i : Nat} (h : i < l.length) (hp : Qen s l[i].v = false) : Hg s l (i + 1) = Hg s l i := by
 rw [Hg, List.getElem?_eq_getElem h]; simp only [hp, Qgz, if_false, Int.add_zero]
def TD (w : Qo) (x : WantT) : Int := match uAt w x.u with
 | none => 0
 | some un => Hg x.s un.cs (min un.cs.length 16)
theorem Bp {w : Qo} {x : WantT} (h0 : 0 <= x.u) (h : x.u < w.length) : TD w x = Hg x.s (w[x.u.toNat]'Wa).cs (min (w[x.u.toNat]'Wa).cs.length 16) := by
 rw [TD, DH h0 h]
theorem Dh {w : Qo} {x : WantT} (h : x.u < 0 \/ (w.length : Int) <= x.u) : TD w x = 0 := by rw [TD, Lw h]
theorem Qbf {n : Nat} (h : n <= 17) : 1 <= (2 : Int) ^ n /\ (2 : Int) ^ n <= 131072 := by
 have h1 : (2 : Nat) ^ n <= 2 ^ 17 := Nat.pow_le_pow_right Wa h
 have h2 : 1 <= (2 : Nat) ^ n := Nat.one_le_two_pow
 have h3 : ((2 ^ n : Nat) : Int) = (2 : Int) ^ n := by simp
 rw [<- h3]
 have h4 : (2 : Nat) ^ 17 = 131072 := by decide
 omega
theorem Dl (s : FU) (l : List CandT) {n : Nat} (h : n <= 16) : 0 <= Hg s l n /\ Hg s l n <= 131070 := by
 obtain ⟨h1, h2⟩ := Dm s l n
 have := Qbf (n := n + 1) Wa
 omega
theorem QcH (w : Qo) (x : WantT) : 0 <= TD w x /\ TD w x <= 131070 := by
 unfold TD
 split
 ·omega
 ·exact Dl _ _ Wa
def X1 (m : Int) : Nat -> List Int
 | 0 => []
 | n + 1 => X1 m n ++ if Kj m (2 ^ n) = 0 then [] else [(n : Int) - 1]
def Hf (m : Int) : List Int := X1 m 17
theorem F8 (m : Int) : ∀ n, (X1 m n).length <= n
 | 0 => Nat.le_refl _
 | n + 1 => by
  have := F8 m n
  rw [X1, List.length_append]
  split <;> simp <;> omega
def Fz (f : Int) (u : Int) : List TermT -> Int
 | [] => f
 | t :: r => if t.u = u then t.m else Fz f u r
def Fy (w : Qo) (l : List TermT) (u : Int) : Int := Fz (YK w u) u l
theorem D8 {f u : Int} {l : List TermT} {i : Nat} (h : i < l.length) (hn : ¬ l[i].u = u) : Fz f u (l.drop i) = Fz f u (l.drop (i + 1)) := by
 rw [QgI h, Fz, if_neg hn]
theorem Bv {f u : Int} {l : List TermT} {i : Nat} (h : i < l.length) (hn : l[i].u = u) : Fz f u (l.drop i) = l[i].m := by
 rw [QgI h, Fz, if_pos hn]
def Hx (w : Qo) : Nat -> List Int
 | 0 => []
 | n + 1 => Hx w n ++ [YK w n]
theorem GN (w : Qo) : ∀ n, (Hx w n).length = n
 | 0 => rfl
 | n + 1 => by rw [Hx, List.length_append, GN w n]; rfl
def Ku (w : Qo) : List Int := Hx w w.length
def XN (w : Qo) (ms : List Int) : Nat -> List TermT
 | 0 => []
 | n + 1 => XN w ms n ++ if ms.getD n 0 = YK w n then [] else [⟨n, ms.getD n 0⟩]
theorem P0 (w : Qo) (ms : List Int) : ∀ n, (XN w ms n).length <= n
 | 0 => Nat.le_refl _
 | n + 1 => by
  have := P0 w ms n
  rw [XN, List.length_append]
  split <;> simp <;> omega
def SZ (w : Qo) (ms : List Int) : Option (List TermT) := if ms.all (fun m => !decide (m = 0)) = true then some (XN w ms ms.length) else none
def dOT (o : Option (List TermT)) : D := .tup [ZL (o.getD []), .bool o.isSome]
def XM (ms : List Int) (l : List TermT) : List Int := l.foldl (fun ms t => ms.set t.u.toNat (Kj (ms.getD t.u.toNat 0) t.m)) ms
def inW (w : Qo) (u : Int) : Bool := decide (0 <= u) && decide (u < w.length)
def Nz (w : Qo) (l : List TermT) : Option (List TermT) := if l.all (fun t => inW w t.u) = true then SZ w (XM (Ku w) l) else none
def PT (l : List TermT) (u : Int) : List TermT := l.filter fun t => !decide (t.u = u)
def Yq (l : List TermT) : Nat -> List TermT
 | 0 => []
 | n + 1 => Yq l n ++ l.filter fun t => decide (t.u = ((n : Nat) : Int))
def RW (l : List TermT) : List TermT := Yq l 48
def Yo (w : Qo) (u : Int) (p : Nat) (l : List WantT) (bar : Bool) : Option (List TermT) :=
 Nz w (⟨u, Kj (YK w u) (2 * 2 ^ p)⟩ :: l.map fun x => ⟨x.u, if bar = true then TD w x else YK w x.u - TD w x⟩)
def T6 (r x : RowT) : Bool := decide (x.k = r.k) && decide (x.u = r.u) && decide (PT x.t r.u = PT r.t r.u)
def QaU (w : Qo) (r x : RowT) : RowT := { x with t := RW (⟨r.u, bor (Fy w x.t r.u) (Fy w r.t r.u)⟩ :: PT x.t r.u) }
def Xr (w : Qo) (r : RowT) : List RowT -> List RowT
 | [] => [r]
 | x :: l => if T6 r x = true then QaU w r x :: l else x :: Xr w r l
def YV (w : Qo) (u : Int) (p : Nat) (l : List (List WantT)) (rows : List RowT) : List RowT := l.foldl (fun rows n => match Yo w u p n false with
 | some t => Xr w ⟨2, u, 0, 0, t⟩ rows
 | none => rows) rows
def Hd (w : Qo) (u : Int) (p : Nat) (l : List WantT) (rows : List RowT) : List RowT := l.foldl (fun rows n => match Yo w u p [n] true with
 | some t => Xr w ⟨3, u, 0, 0, t⟩ rows
 | none => rows) rows
def YM (w : Qo) (u : Int) (cs : List CandT) : Nat -> List RowT -> List RowT
 | 0, rows => rows
 | n + 1, rows => match cs[n]? with
  | some c => Hd w u n c.bs (YV w u n c.ns (YM w u cs n rows))
  | none => YM w u cs n rows
def Yy (w : Qo) : Nat -> List RowT
 | 0 => [⟨1, 0, 0, 0, [⟨0, 1⟩]⟩]
 | n + 1 => match w[n]? with
  | some u => YM w n u.cs u.cs.length (Yy w n)
  | none => Yy w n
def Fu (w : Qo) : List RowT := Yy w w.length
def mDB (w : Qo) : List (List TermT) := (Fu w).map RowT.t
/-! ### Trails -/
def Ze (w : Qo) (l : List StepT) (u : Int) : Int := l.foldl (fun a s => if s.u = u /\ inW w u = true then s.m else a) (YK w u)
def Y3 (l : List StepT) : Int := match l.getLast? with
 | none => 0
 | some s => s.l
def Xe (l : List StepT) (u : Int) : Bool := l.any fun s => decide (s.u = u) && decide (s.c = -1)
def D9 : List Int -> Int
 | [x] => x
 | _ => -1
def X7 (m : Int) : Int := D9 (Hf m)
def KV (w : Qo) (l : List StepT) (s : StepT) : Bool :=
 inW w s.u && decide (-1 <= s.c) && decide (Kj s.m (Ze w l s.u) = s.m) &&
  if s.c = -1 then decide (0 <= X7 s.m) && !Xe l s.u && decide (s.l = IntKind.i64.wrap (Y3 l + 1))
  else !decide (s.m = 0) && !decide (s.m = Ze w l s.u) && decide (s.l = Y3 l)
def XA (w : Qo) (l : List StepT) : Bool := (List.range l.length).all fun i => match l[i]? with
 | some s => KV w (l.take i) s
 | none => true
def GQ (w : Qo) (l : List StepT) (inc : List TermT) : Bool := inc.all fun t => decide (J9 (Ze w l t.u) t.m = 2)
def XB (have_ : Int -> Int) : List TermT -> Int -> Int
 | [], at_ => at_
 | t :: r, at_ => if J9 (have_ t.u) t.m = 0 then -1 else if J9 (have_ t.u) t.m = 1 then (if 0 <= at_ then -1 else XB have_ r t.u) else XB have_ r at_
def MV (w : Qo) (l : List StepT) (inc : List TermT) : Int := XB (Ze w l) inc (-1)
def Xg (w : Qo) (l : List StepT) : Nat -> List (List TermT) -> Int × Int
 | _, [] => (-1, -1)
 | i, x :: r => if GQ w l x = true then (i, -1) else if 0 <= MV w l x then (i, MV w l x) else Xg w l (i + 1) r
def Yt (w : Qo) (db : List (List TermT)) (l : List StepT) : Int × Int := Xg w l 0 db
def Yj (w : Qo) (l : List StepT) (t : TermT) (c : Int) : Option (List StepT) :=
 if c < 0 \/ inW w t.u = false then none
 else if IntKind.i64.wrap (Ze w l t.u - Kj (Ze w l t.u) t.m) = 0 \/ IntKind.i64.wrap (Ze w l t.u - Kj (Ze w l t.u) t.m) = Ze w l t.u then none
 else some (l ++ [⟨t.u, IntKind.i64.wrap (Ze w l t.u - Kj (Ze w l t.u) t.m), Y3 l, c⟩])
def YE (w : Qo) (l : List StepT) (u p : Int) : Option (List StepT) := match uAt w u with
 | none => none
 | some x => if p < 0 \/ (x.cs.length : Int) <= p then none
  else if KV w l ⟨u, IntKind.i64.wrap (2 * 2 ^ min p.toNat 64), IntKind.i64.wrap (Y3 l + 1), -1⟩ = true then some (l ++ [⟨u, IntKind.i64.wrap (2 * 2 ^ min p.toNat 64), IntKind.i64.wrap (Y3 l + 1), -1⟩]) else none
def dOS (o : Option (List StepT)) : D := .tup [Zj (o.getD []), .bool o.isSome]
def NK (w : Qo) (db : List (List TermT)) : Nat -> List StepT -> List StepT × Int
 | 0, out => (out, -1)
 | n + 1, out => if (Yt w db out).2 < 0 then (out, (Yt w db out).1)
  else NK w db n ((Yj w out ⟨(Yt w db out).2, Fy w (db.getD (Yt w db out).1.toNat []) (Yt w db out).2⟩ (Yt w db out).1).getD [])
def MZ (w : Qo) (db : List (List TermT)) (l : List StepT) : List StepT × Int := NK w db (w.length * 18 + 1) l
end M25
namespace M25
open Go Go.Abs M3
section
variable {fr : Qgp} {H : Qgo} {t u : Nat}
theorem LH {k n : Nat} {b : Box} {d : D} (hb : lk H k = some b) (hp : b.pr = true) (hn : n = b.rows.length) (hd : .sl b.rows = d) : Kc ⟨fr, H⟩ (.osl k n) = d := by
 unfold Kc; rw [Qem (S := FR) rfl hb hp hn]; exact hd
theorem Jn {e : Yz} {k n : Nat} {b : Box} {d : D} (h : lk fr t = some (.osl k n)) (hb : lk H k = some b) (hp : b.pr = true) (hn : n = b.rows.length) (hd : .sl b.rows = d) (he : e = .ret \/ e = .normal := by first | exact .inl rfl | exact .inr rfl) : Post [.tmp t] d e ⟨fr, H⟩ :=
 Ye h (LH hb hp hn hd) he
theorem M6 {e : Yz} {k n : Nat} {b : Box} {q d d' : D} (h : lk fr t = some (.osl k n)) (hb : lk H k = some b) (hp : b.pr = true) (hn : n = b.rows.length) (hd : .sl b.rows = d) (h2 : lk fr u = some q) (hd2 : Kc ⟨fr, H⟩ q = d') (he : e = .ret \/ e = .normal := by first | exact .inl rfl | exact .inr rfl) : Post [.tmp t, .tmp u] (.tup [d, d']) e ⟨fr, H⟩ :=
 QR h h2 ⟨LH hb hp hn hd, hd2⟩ he
end
theorem Qep (n : Nat) : (min (n : Int) 16 + 1).toNat = min n 16 + 1 := Wa
theorem TA {n : Nat} (h : n <= 62) : IntKind.i64.wrap ((2 : Int) ^ n - 1) = 2 ^ n - 1 := by
 have := R0 h; exact Qm Wa Wa
theorem QdN (i : Nat) : (2 : Int) ^ ((i : Int) + 1).toNat = 2 ^ (i + 1) := by rw [Qac]
theorem QbA (s : FU) (l : List CandT) {i : Nat} (h : i < 16) : IntKind.i64.wrap (Hg s l i + (2 : Int) ^ ((i : Int) + 1).toNat) = Hg s l i + 2 ^ (i + 1) := by
 rw [QdN]
 have h1 := Dl s l (n := i) Wa
 have h2 := Qbf (n := i + 1) Wa
 exact Qm Wa Wa
theorem Jh {m : Int} {n : Nat} (h : ¬ Kj m (2 ^ n) = 0) : X1 m (n + 1) = X1 m n ++ [(n : Int) - 1] := by rw [X1, if_neg h]
theorem KL {m : Int} {n : Nat} (h : Kj m (2 ^ n) = 0) : X1 m (n + 1) = X1 m n := by rw [X1, if_pos h, List.append_nil]
theorem QbK {l : List TermT} {u : Int} {i : Nat} (h : i < l.length) : PT (l.take (i + 1)) u = PT (l.take i) u ++ if l[i].u = u then [] else [l[i]] := by
 rw [List.take_succ_eq_append_getElem h, PT, List.filter_append]
 congr 1
 simp only [List.filter_cons, List.filter_nil]
 by_cases hu : l[i].u = u <;> simp [hu]
theorem KD {l : List TermT} {u : Int} {i : Nat} (h : i < l.length) (hn : ¬ l[i].u = u) : PT (l.take (i + 1)) u = PT (l.take i) u ++ [l[i]] := by rw [QbK h, if_neg hn]
theorem G3 {l : List TermT} {u : Int} {i : Nat} (h : i < l.length) (hn : l[i].u = u) : PT (l.take (i + 1)) u = PT (l.take i) u := by rw [QbK h, if_pos hn, List.append_nil]
theorem Mo (l : List TermT) (u : Int) : (PT l u).length <= l.length := List.length_filter_le ..
theorem Qav (l : List TermT) (u : Int) (i : Nat) : (PT (l.take i) u).length <= l.length := QgK (Mo ..) (List.length_take_le' ..)
def Nr (l : List TermT) (u : Nat) (i : Nat) : List TermT := (l.take i).filter fun t => decide (t.u = ((u : Nat) : Int))
theorem QcR {l : List TermT} {u i : Nat} (h : i < l.length) (hn : l[i].u = ((u : Nat) : Int)) : Nr l u (i + 1) = Nr l u i ++ [l[i]] := by
 rw [Nr, List.take_succ_eq_append_getElem h, List.filter_append]; simp [hn, Nr]
theorem QdP {l : List TermT} {u i : Nat} (h : i < l.length) (hn : ¬ l[i].u = ((u : Nat) : Int)) : Nr l u (i + 1) = Nr l u i := by
 rw [Nr, List.take_succ_eq_append_getElem h, List.filter_append]; simp [hn, Nr]
theorem BW (l : List TermT) (u i : Nat) : (Nr l u i).length <= l.length := QgK (List.length_filter_le ..) (List.length_take_le' ..)
theorem Tq (l : List TermT) (u : Nat) : Yq l (u + 1) = Yq l u ++ Nr l u l.length := by rw [Yq, Nr, List.take_length]
theorem Rb (l : List TermT) : ∀ n, (Yq l n).length <= n * l.length
 | 0 => by simp [Yq]
 | n + 1 => by
  have := Rb l n
  rw [Tq, List.length_append, Nat.succ_mul]
  have := BW l n l.length
  omega
theorem Ji (w : Qo) (n : Nat) : Hx w (n + 1) = Hx w n ++ [YK w n] := rfl
theorem Jl {w : Qo} {ms : List Int} {n : Nat} (h : n < ms.length) (hn : ¬ ms[n] = YK w n) : XN w ms (n + 1) = XN w ms n ++ [⟨n, ms[n]⟩] := by
 rw [XN, List.getD_eq_getElem?_getD, List.getElem?_eq_getElem h]; simp [hn]
theorem KW {w : Qo} {ms : List Int} {n : Nat} (h : n < ms.length) (hn : ms[n] = YK w n) : XN w ms (n + 1) = XN w ms n := by
 rw [XN, List.getD_eq_getElem?_getD, List.getElem?_eq_getElem h]; simp [hn]
theorem D5 {w : Qo} {ms : List Int} {i : Nat} (h : i < ms.length) (hz : ms[i] = 0) : SZ w ms = none := by
 rw [SZ, if_neg]
 rw [XX h (by simp [hz])]; simp
theorem Bn {w : Qo} {ms : List Int} {i : Nat} (hi : ms.length <= i) (h : (ms.take i).all (fun m => !decide (m = 0)) = true) : SZ w ms = some (XN w ms ms.length) := by
 rw [QgH hi] at h; rw [SZ, if_pos h]
theorem MG {w : Qo} {u : Int} (h0 : 0 <= u) (h : u < w.length) : inW w u = true := by simp [inW, h0, h]
theorem GP {w : Qo} {u : Int} (h : u < 0 \/ (w.length : Int) <= u) : inW w u = false := by
 simp only [inW, QgE, decide_eq_false_iff_not]; omega
theorem GO {w : Qo} {u : Int} : inW w u = true ↔ 0 <= u /\ u < w.length := by simp [inW]
theorem D6 (l : List TermT) : ∀ ms : List Int, (XM ms l).length = ms.length := by
 induction l with
 | nil => intro ms; rfl
 | cons t l ih => intro ms; rw [XM, List.foldl_cons]; exact (ih _).trans (List.length_set ..)
theorem Qa4 {ms : List Int} {l : List TermT} {i : Nat} (h : i < l.length) : XM ms (l.take (i + 1)) = (XM ms (l.take i)).set l[i].u.toNat (Kj ((XM ms (l.take i)).getD l[i].u.toNat 0) l[i].m) := by
 rw [List.take_succ_eq_append_getElem h, XM, List.foldl_append]; rfl
theorem Dj {ms : List Int} {l : List TermT} {i : Nat} (h : i < l.length) (hu : l[i].u.toNat < (XM ms (l.take i)).length) : XM ms (l.take (i + 1)) = (XM ms (l.take i)).set l[i].u.toNat (Kj ((XM ms (l.take i))[l[i].u.toNat]) l[i].m) := by
 rw [Qa4 h, List.getD_eq_getElem?_getD, List.getElem?_eq_getElem hu]; rfl
theorem Qaa {x y : TermT} : JZ [0, 0] (GL x) (GL y) = some (decide (x = y)) := by
 obtain ⟨a, b⟩ := x
 obtain ⟨c, d⟩ := y
 simp only [GL, JZ, if_true, Option.map_some, Bool.and_true, Qgu]
 rw [Bool.eq_iff_iff]
 simp only [Qgv, decide_eq_true_eq, TermT.mk.injEq]
theorem B6 {x y : StepT} : JZ [0, 0, 0, 0] (Gt x) (Gt y) = some (decide (x = y)) := by
 obtain ⟨a, b, e, f⟩ := x
 obtain ⟨c, d, g, h⟩ := y
 simp only [Gt, JZ, if_true, Option.map_some, Bool.and_true, Qgu]
 rw [Bool.eq_iff_iff]
 simp only [Qgv, decide_eq_true_eq, StepT.mk.injEq]
theorem Tu {α : Type} {a b : List α} {i : Nat} (ha : i < a.length) (hb : i < b.length) (h : a.take i = b.take i) (he : a[i] = b[i]) : a.take (i + 1) = b.take (i + 1) := by
 rw [List.take_succ_eq_append_getElem ha, List.take_succ_eq_append_getElem hb, h, he]
theorem BV {α : Type} [DecidableEq α] {a b : List α} {i : Nat} (ha : i < a.length) (hb : i < b.length) (he : ¬ a[i] = b[i]) : decide (a = b) = false := decide_eq_false fun e => he (by subst e; rfl)
theorem Mc {e : Int} (h1 : 0 <= e) (h2 : e <= 18446744073709551615) : IntKind.u64.wrap e = e := by
 unfold IntKind.wrap
 simp only [IntKind.bits, IntKind.signed, Bool.false_and, Qgz, if_false]
 omega
theorem Qae {p : Nat} (h : p <= 60) : IntKind.i64.wrap ((2 : Int) * 2 ^ min ((p : Nat) : Int).toNat IntKind.i64.bits) = 2 * 2 ^ p := by
 rw [show min ((p : Nat) : Int).toNat IntKind.i64.bits = p from by simp only [IntKind.bits, Int.toNat_natCast]; omega]
 have := R0 (i := p + 1) Wa
 rw [Int.pow_succ] at this
 exact Qm Wa Wa
theorem QcZ (w : Qo) (u : Int) (x : WantT) : IntKind.i64.wrap (YK w u - TD w x) = YK w u - TD w x := by
 have h1 := RQ w u
 have h2 := QcH w x
 exact Qm Wa Wa
def clF (w : Qo) (bar : Bool) (x : WantT) : TermT := ⟨x.u, if bar = true then TD w x else YK w x.u - TD w x⟩
def clT (w : Qo) (u : Int) (p : Nat) (bar : Bool) (l : List WantT) : List TermT := ⟨u, Kj (YK w u) (2 * 2 ^ p)⟩ :: l.map (clF w bar)
theorem KH {w : Qo} {u : Int} {p : Nat} {bar : Bool} {l : List WantT} {i : Nat} (h : i < l.length) (hb : bar = false) : clT w u p bar (l.take (i + 1)) = clT w u p bar (l.take i) ++ [⟨l[i].u, YK w l[i].u - TD w l[i]⟩] := by
 rw [clT, List.take_succ_eq_append_getElem h, List.map_append, <- List.cons_append]; simp [clT, clF, hb]
theorem KG {w : Qo} {u : Int} {p : Nat} {bar : Bool} {l : List WantT} {i : Nat} (h : i < l.length) (hb : bar = true) : clT w u p bar (l.take (i + 1)) = clT w u p bar (l.take i) ++ [⟨l[i].u, TD w l[i]⟩] := by
 rw [clT, List.take_succ_eq_append_getElem h, List.map_append, <- List.cons_append]; simp [clT, clF, hb]
theorem CF (w : Qo) (u : Int) (p : Nat) (bar : Bool) (l : List WantT) : (clT w u p bar l).length = l.length + 1 := by simp [clT]
theorem PX {w : Qo} {l : List TermT} {i : Nat} (h : i < l.length) (hu : inW w l[i].u = false) : Nz w l = none := by
 rw [Nz, XX h hu]; rfl
theorem Bo {w : Qo} {l : List TermT} (h : l.all (fun t => inW w t.u) = true) : Nz w l = SZ w (XM (Ku w) l) := by
 rw [Nz, if_pos h]
theorem MA (w : Qo) (l : List TermT) : (XM (Ku w) l).length = w.length := by rw [D6, Ku, GN]
def srt (l : List TermT) (u i : Nat) : List TermT := Yq l u ++ Nr l u i
theorem K6 {l : List TermT} {u i : Nat} (h : i < l.length) (hn : l[i].u = ((u : Nat) : Int)) : srt l u (i + 1) = srt l u i ++ [l[i]] := by rw [srt, QcR h hn, <- List.append_assoc]; rfl
theorem FP {l : List TermT} {u i : Nat} (h : i < l.length) (hn : ¬ l[i].u = ((u : Nat) : Int)) : srt l u (i + 1) = srt l u i := by rw [srt, QdP h hn]; rfl
theorem Jp (l : List TermT) (u : Nat) : srt l u 0 = Yq l u := by simp [srt, Nr]
theorem K5 (l : List TermT) (u : Nat) {i : Nat} (h : l.length = i) : Yq l (u + 1) = srt l u i := by rw [Tq, h]; rfl
theorem QcS (l : List TermT) (u i : Nat) : (srt l u i).length <= u * l.length + l.length := by
 have h1 := Rb l u
 have h2 := BW l u i
 rw [srt, List.length_append]; omega
end M25
namespace Go.Proofs
open Go Go.Abs M3 M25
theorem ZP {w : Qo} (hw : WSm w) {u : Int} : Ok Tryz.prog 32 [Yb w, .int .i64 u] (.int .i64 (YK w u)) := by
 refine Ok.ofT ZR Tryz.func32 Qfi (Qgr Z) ?_
 show TW _ _ tf32.body _ _
 refine Qb fun K hK => Zx Z Z Z (Qa Z (kc2 hK Z Z ?_))
 refine QA ?_ -- 0
 refine Qb fun K hK => Qa Z (Yg Z Z (Qa Z ?_))
 refine Qu (g := 7) Z (fun h1 => ?_) (fun h1 => ?_)
 ·try rw [h1]
  try simp only [qA] at h1
  refine gn4 Z Z Z Z (Y7 Z (Qh Z Z (kc3 hK Z Z Z ?_)))
  refine Zr Z (Qb fun K hK => Qa Z (kc1 hK Z ?_))
  refine Qq (Qg (QC Z ?_))
  rw [Fw Wa]
 ·try rw [h1]
  try simp only [qA] at h1
  refine Qd Z (Qa Z (Qd Z (Qf Z Z (Qd Z (Qx Z Z Z (Qd Z (QL Z Z (Qd Z (Mf Z Z (Qh Z Z (kc3 hK Z Z Z ?_)))))))))))
  refine Qs Z (fun h2 => ?_) (fun h2 => ?_)
  ·try rw [h2]
   try simp only [qA] at h2
   refine Qb fun K hK => Qa Z (kc1 hK Z ?_)
   refine Qq (Qg (QC Z ?_))
   rw [Fw Wa]
  ·try rw [h2]
   try simp only [qA] at h2
   refine Qr (ks2 Z Z (Qb fun K hK => Qf Z Z (Qx Z Z Z (Qa Z (QF Z Z Z Wa (ZM Wa Wa) Z (Q2 Z Z (Qx Z Z Z (QL Z Z (Qec Z Z (QZ Z Z Wc ?_))))))))))
   refine Qt (Xi Wa Wa) Z Z (.inr Z) (Xu Z Z (TA Wa) (Qa Z (kc1 hK Z ?_)))
   refine Qq (QC Z ?_)
   rw [RR Wa Wa, List.length_map, Qep]
theorem Y5 {w : Qo} (hw : WSm w) {l : List TermT} (hl : l.length <= 1000000) {u : Int} : Ok Tryz.prog 54 [Yb w, ZL l, .int .i64 u] (.int .i64 (Fy w l u)) := by
 refine Ok.ofT ZR Tryz.func54 QfE (Qgr Z) ?_
 show TW _ _ tf54.body _ _
 refine Qb fun K hK => Zx Z Z Z (Qa Z (kc3 hK Z Z Z ?_))
 refine QA ?_ -- 0
 refine Qb fun K hK => Qa Z (kc4 hK Z Z Z Z ?_)
 refine Qy ?_
 refine Zq (ι := Nat) (fun i => ⟨[(1, ZL l), (2, .int .i64 u), (3, .ref 3 0 0), (7, .int .i64 i)], [(3, ⟨[[.sl ((w).map YQ)]], 1, 28, true⟩)]⟩) (fun i => i <= l.length /\ Fz (YK w u) u l = Fz (YK w u) u (l.drop i)) (fun i => l.length - i) 0 ?_ ?_ ?_
 ·exact Q3 (l := [1, 2, 3, 7]) (lH := [3]) (kp4 rfl rfl rfl rfl) (Qc rfl Ql) rfl rfl rfl
 ·exact ⟨QgD _, by simp⟩
 intro i hI
 try dsimp only
 refine QA ?_ -- 1
 refine Qb fun K hK => mv2 Z Z (QL Z Z (Yg Z Z (kc5 hK Z Z Z Z Z ?_)))
 refine Qs Z (fun h1 => ?_) (fun h1 => ?_)
 ·try rw [h1]
  try simp only [qA] at h1
  refine Qr (ks4 Z Z Z Z ?_)
  refine QA ?_ -- 2
  refine Qy (Qb fun K hK => mv2 Z Z (QF Z Z Z Wa (QO Wa) Z (Q2 Z Z (Qx Z Z Z (Qa Z (ZG Z Z (kc5 hK Z Z Z Z Z ?_)))))))
  refine Qs Z (fun h2 => ?_) (fun h2 => ?_)
  ·try rw [h2]
   try simp only [qA] at h2
   refine Qb fun K hK => mv2 Z Z (QF Z Z Z Wa (QO Wa) Z (Q2 Z Z (Qx Z Z Z (Qa Z (kc1 hK Z ?_)))))
   refine Qq (Qp (Qg (Q0 (Qp (Qg (QC Z ?_))))))
   rw [Fy, hI.2, Bv Wa h2]
  ·try rw [h2]
   try simp only [qA] at h2
   refine Qr (Qe (ks4 Z Z Z Z (QI fun K hK => Qa Z (QZ Z Z Wc (Qa Z (hK _ ?_))))))
   refine Qi (i + 1) ?_ ?_ ?_
   ·exact Q3 (l := [1, 2, 3, 7]) (lH := [3]) (kp4 rfl rfl rfl rfl) (Qc rfl Ql) rfl rfl rfl
   ·exact ⟨Wa, by rw [hI.2, D8 Wa Wl]⟩
   ·first | omega | (simp only; omega) | (dsimp only; omega)
 ·try rw [h1]
  try simp only [qA] at h1
  refine Zh (QH (Qw (QE (ks2 Z Z (Qb fun K hK => QB (cs := [_]) Z Z Z Z (Qa Z (Qt (ZP hw) Z Z (.inr Z) (Qa Z (kc1 hK Z ?_)))))))))
  refine Qq (QC Z ?_)
  rw [Fy, hI.2, QgM Wa]; rfl
theorem GE {w : Qo} (hw : WSm w) {x : WantT} (hx : Sm x.s.1 /\ Sm x.s.2) : Ok Tryz.prog 80 [Yb w, .agg (NG x)] (.int .i64 (TD w x)) := by
 refine Ok.ofT ZR Tryz.func80 Qf4 (Qgr Z) ?_
 show TW _ _ tf80.body _ _
 refine Qb fun K hK => Zx Z Z Z (Zx Z Z Z (Qa Z (kc2 hK Z Z ?_)))
 refine QA ?_ -- 0
 refine Qb fun K hK => Qf Z Z (Qx Z Z Z (Yg Z Z (Qa Z ?_)))
 refine Qu (g := 11) Z (fun h1 => ?_) (fun h1 => ?_)
 ·try rw [h1]
  try simp only [qA] at h1
  refine gn4 Z Z Z Z (gn2 Z Z (Qh Z Z (kc3 hK Z Z Z ?_)))
  refine Zr Z (Qb fun K hK => Qa Z (kc1 hK Z ?_))
  refine Qq (Qg (QC Z ?_))
  rw [Dh Wa]
 ·try rw [h1]
  try simp only [qA] at h1
  refine Qd Z (Qf Z Z (Qd Z (Qx Z Z Z (Qd Z (Qf Z Z (Qd Z (Qx Z Z Z (Qd Z (QL Z Z (Qd Z (Mf Z Z ?_)))))))))))
  refine Qh Z Z (kc3 hK Z Z Z ?_)
  refine Qs Z (fun h2 => ?_) (fun h2 => ?_)
  ·try rw [h2]
   try simp only [qA] at h2
   refine Qb fun K hK => Qa Z (kc1 hK Z ?_)
   refine Qq (Qg (QC Z ?_))
   rw [Dh Wa]
  ·try rw [h2]
   try simp only [qA] at h2
   refine Qr (ks2 Z Z (Qb fun K hK => Qa Z (kc3 hK Z Z Z ?_)))
   refine Qb fun K hK => Qf Z Z (Qx Z Z Z (Qf Z Z (Qx Z Z Z (QF Z Z Z Wa (ZM Wa Wa) Z (Q2 Z Z (Qx Z Z Z (Qa Z (kc3 hK Z Z Z ?_))))))))
   refine QA ?_ -- 1
   refine Qb fun K hK => Qa Z (kc4 hK Z Z Z Z ?_)
   refine Qy ?_
   refine Zq (ι := Nat) (fun i => ⟨[(3, .ref 3 0 0), (5, .int .i64 (Hg x.s (w[x.u.toNat]'Wa).cs i)), (6, LR (w[x.u.toNat]'Wa).cs), (7, .int .i64 i)], [(3, ⟨[[.int .i64 (x).u, ZH (x).s.1, ZH (x).s.2]], 3, 71, true⟩)]⟩) (fun i => i <= (min (w[x.u.toNat]'Wa).cs.length 16)) (fun i => (min (w[x.u.toNat]'Wa).cs.length 16) - i) 0 ?_ ?_ ?_
   ·exact Q3 (l := [3, 5, 6, 7]) (lH := [3]) (kp4 rfl rfl rfl rfl) (Qc rfl Ql) rfl rfl rfl
   ·exact QgD _
   intro i hI
   try dsimp only
   refine QA ?_ -- 2
   refine Qb fun K hK => mv2 Z Z (QL Z Z (Yg Z Z (Qa Z ?_)))
   refine Qu (g := 30) Z (fun h3 => ?_) (fun h3 => ?_)
   ·try rw [h3]
    try simp only [qA] at h3
    refine Qd Z (Qa Z (Qd Z (Yg Z Z (Qh Z Z (kc5 hK Z Z Z Z Z ?_)))))
    refine Qs Z (fun h4 => ?_) (fun h4 => ?_)
    ·try rw [h4]
     try simp only [qA] at h4
     refine Qr (ks4 Z Z Z Z ?_)
     refine QA ?_ -- 3
     refine Qy (Qb fun K hK => Qf Z Z (QJ (ds0 := [0]) (cs := [_, _]) Z Z Z Z Z Z (mv2 Z Z (QF Z Z Z Wa (QO Wa) Z (Q2 Z Z (QJ (ds0 := [0]) (cs := [_, _, _, _, _]) Z Z Z Z Z Z (QS (ds0 := []) (G8 hx.1 hx.2 (hw.vs _ (Qgw _) _ (Qgw Wa)).1 (hw.vs _ (Qgw _) _ (Qgw Wa)).2) Z Z (.inr Z) Z Z (kc5 hK Z Z Z Z Z ?_))))))))
     refine Qs Z (fun h5 => ?_) (fun h5 => ?_)
     ·try rw [h5]
      try simp only [qA] at h5
      refine QI fun K hK => mv2 Z Z (QZ Z Z Wc (Qt (Xi Wa Wa) Z Z (.inr Z) (QZ Z Z (QbA _ _ Wa) (Qa Z (hK _ ?_)))))
      refine Qe (ks4 Z Z Z Z (QI fun K hK => Qa Z (QZ Z Z Wc (Qa Z (hK _ ?_)))))
      refine Qi (i + 1) ?_ ?_ ?_
      ·exact Q3 (l := [3, 5, 6, 7]) (lH := [3]) (kp4 rfl rfl rfl rfl) (Qc rfl Ql) (by rw [Bw Wa Wl]; rfl) rfl rfl
      ·omega
      ·first | omega | (simp only; omega) | (dsimp only; omega)
     ·try rw [h5]
      try simp only [qA] at h5
      refine Qr (Qe (ks4 Z Z Z Z (QI fun K hK => Qa Z (QZ Z Z Wc (Qa Z (hK _ ?_))))))
      refine Qi (i + 1) ?_ ?_ ?_
      ·exact Q3 (l := [3, 5, 6, 7]) (lH := [3]) (kp4 rfl rfl rfl rfl) (Qc rfl Ql) (by rw [Qa6 Wa Wl]; rfl) rfl rfl
      ·omega
      ·first | omega | (simp only; omega) | (dsimp only; omega)
    ·try rw [h4]
     try simp only [qA] at h4
     refine Zh (QH (Qw (QE (ks1 Z (Qb fun K hK => mv2 Z Z (kc1 hK Z ?_))))))
     refine Qq (QC Z ?_)
     rw [Bp Wa Wa, show i = min (w[x.u.toNat]'Wa).cs.length 16 by omega]
   ·try rw [h3]
    try simp only [qA] at h3
    refine gn2 Z Z (Qh Z Z (kc5 hK Z Z Z Z Z ?_))
    refine ZU Z (Zh (QH (Qw (QE (ks1 Z (Qb fun K hK => mv2 Z Z (kc1 hK Z ?_)))))))
    refine Qq (QC Z ?_)
    rw [Bp Wa Wa, show i = min (w[x.u.toNat]'Wa).cs.length 16 by omega]
theorem X9 {m : Int} : Ok Tryz.prog 28 [.int .i64 m] (ZJ (Hf m)) := by
 refine Ok.ofT ZR Tryz.func28 Qfe (Qgr Z) ?_
 show TW _ _ tf28.body _ _
 refine Qb fun K hK => Qa Z (kc1 hK Z ?_)
 refine Qb fun K hK => Qa Z (kc2 hK Z Z ?_)
 refine QA ?_ -- 0
 refine Qb fun K hK => Qa Z (kc3 hK Z Z Z ?_)
 refine Qy ?_
 refine Zq (ι := Nat) (fun i => ⟨[(0, .int .i64 m), (3, .osl 3 (X1 m i).length), (4, .int .i64 i)], [(3, ⟨(X1 m i).map (fun x => [.int .i64 x]), 1, 3, true⟩)]⟩) (fun i => i <= 17) (fun i => 17 - i) 0 ?_ ?_ ?_
 ·exact le_trans (Yd 3 3 1 3 rfl rfl) (Q3 (l := [0, 3, 4]) (lH := [3]) (kp3 rfl rfl rfl) (Qc rfl Ql) rfl rfl rfl)
 ·exact QgD _
 intro i hI
 have hlen := F8 m i
 try dsimp only
 refine QA ?_ -- 1
 refine Qb fun K hK => Qa Z (QbE Z Z (kc4 hK Z Z Z Z ?_))
 refine Qs Z (fun h1 => ?_) (fun h1 => ?_)
 ·try rw [h1]
  try simp only [qB] at h1
  refine Qr (ks3 Z Z Z ?_)
  refine QA ?_ -- 2
  refine Qy (Qb fun K hK => mv2 Z Z (Qt (Xi Wa Wa) Z Z (.inr Z) (GY Z Z (X5 Z Z (kc4 hK Z Z Z Z ?_)))))
  refine Qs Z (fun h2 => ?_) (fun h2 => ?_)
  ·try rw [h2]
   try simp only [qB] at h2
   refine QI fun K hK => mv2 Z Z (Xu Z Z Wc (QD Z Z (Xs Z Z (fun _ h => Xo Z Z Z h) Z Wf Z Z Z Wh Wh (Qa Z (hK _ ?_)))))
   refine Qe (ks3 Z Z Z (QI fun K hK => Qa Z (QZ Z Z Wc (Qa Z (hK _ ?_)))))
   refine Qi (i + 1) ?_ ?_ ?_
   ·exact Q3 (l := [0, 3, 4]) (lH := [3]) (kp3 rfl rfl rfl) (Qc rfl Ql) (by first | (rw [Jh (m := m) (n := i) h2]; done) | (rw [Jh (m := m) (n := i) h2]; rfl) | (rw [Jh (m := m) (n := i) h2, List.length_append]; rfl) | (simp [Jh (m := m) (n := i) h2]; done) | (simp [Jh (m := m) (n := i) h2]; omega) | rfl) (by first | (rw [Jh (m := m) (n := i) h2]; done) | (rw [Jh (m := m) (n := i) h2]; rfl) | (rw [Jh (m := m) (n := i) h2, List.map_append]; rfl) | (simp [Jh (m := m) (n := i) h2]; done) | rfl) rfl
   ·omega
   ·first | omega | (simp only; omega) | (dsimp only; omega)
  ·try rw [h2]
   try simp only [qB] at h2
   refine Qr (Qe (ks3 Z Z Z (QI fun K hK => Qa Z (QZ Z Z Wc (Qa Z (hK _ ?_))))))
   refine Qi (i + 1) ?_ ?_ ?_
   ·exact Q3 (l := [0, 3, 4]) (lH := [3]) (kp3 rfl rfl rfl) (Qc rfl Ql) (by first | (rw [KL (m := m) (n := i) h2]; done) | (rw [KL (m := m) (n := i) h2]; rfl) | (rw [KL (m := m) (n := i) h2, List.length_append]; rfl) | (simp [KL (m := m) (n := i) h2]; done) | (simp [KL (m := m) (n := i) h2]; omega) | rfl) (by first | (rw [KL (m := m) (n := i) h2]; done) | (rw [KL (m := m) (n := i) h2]; rfl) | (rw [KL (m := m) (n := i) h2, List.map_append]; rfl) | (simp [KL (m := m) (n := i) h2]; done) | rfl) rfl
   ·omega
   ·first | omega | (simp only; omega) | (dsimp only; omega)
 ·try rw [h1]
  try simp only [qB] at h1
  refine Zh (QH (Qw (QE (ks1 Z (Qb fun K hK => mv2 Z Z (kc1 hK Z ?_))))))
  refine Qq ?_
  exact Jn rfl rfl rfl Wf (by rw [Hf, show (17 : Nat) = i by omega]; rfl)
theorem Gj {a b : List TermT} (ha : a.length <= 1000000) : Ok Tryz.prog 81 [ZL a, ZL b] (.bool (decide (a = b))) := by
 refine Ok.ofT ZR Tryz.func81 Qf5 (Qgr Z) ?_
 show TW _ _ tf81.body _ _
 refine Qb fun K hK => Qa Z (kc2 hK Z Z ?_)
 refine QA ?_ -- 0
 refine Qb fun K hK => Qa Z (QL Z Z (Qa Z (QL Z Z (X5 Z Z (kc3 hK Z Z Z ?_)))))
 refine Qs Z (fun h1 => ?_) (fun h1 => ?_)
 ·try rw [h1]
  try simp only [qA] at h1
  refine Qb fun K hK => Qa Z (kc1 hK Z ?_)
  refine Qq (Qg (Qn Z ?_))
  rw [decide_eq_false fun e => h1 (by rw [e])]
 ·try rw [h1]
  try simp only [qA] at h1
  refine Qr (ks2 Z Z ?_)
  refine QA ?_ -- 1
  refine Qb fun K hK => Qa Z (kc3 hK Z Z Z ?_)
  refine Qy ?_
  refine Zq (ι := Nat) (fun i => ⟨[(0, ZL a), (1, ZL b), (5, .int .i64 i)], []⟩) (fun i => i <= a.length /\ a.take i = b.take i) (fun i => a.length - i) 0 ?_ ?_ ?_
  ·exact Za (kp3 rfl rfl rfl)
  ·exact ⟨QgD _, by simp⟩
  intro i hI
  try dsimp only
  refine QA ?_ -- 2
  refine Qb fun K hK => mv2 Z Z (QL Z Z (Yg Z Z (kc4 hK Z Z Z Z ?_)))
  refine Qs Z (fun h2 => ?_) (fun h2 => ?_)
  ·try rw [h2]
   try simp only [qA] at h2
   refine Qr (ks3 Z Z Z ?_)
   refine QA ?_ -- 3
   refine Qy (Qb fun K hK => mv2 Z Z (QF Z Z Z Wa (QO Wa) Z (QJ (ds0 := [0]) (cs := [_, _]) Z Z Z Z Z Z (mv2 Z Z (QF Z Z Z Wa (QO Wa) Z (QJ (ds0 := [0]) (cs := [_, _]) Z Z Z Z Z Z (QbD Z Z Qaa (kc4 hK Z Z Z Z ?_))))))))
   refine Qs Z (fun h3 => ?_) (fun h3 => ?_)
   ·try rw [h3]
    try simp only [qA] at h3
    refine Qb fun K hK => Qa Z (kc1 hK Z ?_)
    refine Qq (Qp (Qg (Q0 (Qp (Qg (Qn Z ?_))))))
    rw [BV (i := i) Wa Wa h3]
   ·try rw [h3]
    try simp only [qA] at h3
    refine Qr (Qe (ks3 Z Z Z (QI fun K hK => Qa Z (QZ Z Z Wc (Qa Z (hK _ ?_))))))
    refine Qi (i + 1) ?_ ?_ ?_
    ·exact Za (kp3 rfl rfl rfl)
    ·exact ⟨Wa, Tu Wa Wa hI.2 h3⟩
    ·first | omega | (simp only; omega) | (dsimp only; omega)
  ·try rw [h2]
   try simp only [qA] at h2
   refine Zh (QH (Qw (QE (Zf (ZC) (Qb fun K hK => Qa Z (kc1 hK Z ?_))))))
   refine Qq (Qn Z ?_)
   rw [QgH Wa, QgH Wa] at hI; exact (decide_eq_true hI.2).symm
open Go Go.Abs M3 M25
theorem Hm {w : Qo} (hw : WSm w) (et : Nat) (het : et = 3) : OkH Tryz.prog 58 [Yb w] [] (.osl 500000 (Ku w).length) [(500000, ⟨(Ku w).map (fun x => [.int .i64 x]), 1, et, true⟩)] := by
 subst het
 refine OkH.new ZR Tryz.func58 QfI (Qgr Z) Z ?_
 show TW _ _ tf58.body _ _
 have hn := hw.len
 refine Qb fun K hK => Zx Z Z Z (Qa Z (kc1 hK Z ?_))
 refine Qb fun K hK => Qa Z (kc2 hK Z Z ?_)
 refine QA ?_ -- 0
 refine Qb fun K hK => Qa Z (kc3 hK Z Z Z ?_)
 refine Qy ?_
 refine Zq (ι := Nat) (fun i => ⟨[(1, .ref 1 0 0), (3, .osl 500000 (Hx w i).length), (4, .int .i64 i)], [(1, ⟨[[.sl ((w).map YQ)]], 1, 28, true⟩), (500000, ⟨(Hx w i).map (fun x => [.int .i64 x]), 1, 3, true⟩)]⟩) (fun i => i <= w.length) (fun i => w.length - i) 0 ?_ ?_ ?_
 ·exact le_trans (Yd 3 500000 1 3 rfl rfl) (Q3 (l := [1, 3, 4]) (lH := [1, 500000]) (kp3 rfl rfl rfl) (Qc rfl (Qc rfl Ql)) rfl rfl rfl)
 ·exact QgD _
 intro i hI
 have hlen := GN w i
 try dsimp only
 refine QA ?_ -- 1
 refine Qb fun K hK => Qa Z (Qf Z Z (Qx Z Z Z (QL Z Z (Yg Z Z (kc4 hK Z Z Z Z ?_)))))
 refine Qs Z (fun h1 => ?_) (fun h1 => ?_)
 ·try rw [h1]
  try simp only [qA] at h1
  refine Qr (ks3 Z Z Z ?_)
  refine QA ?_ -- 2
  refine Qy (QI fun K hK => Qa Z (QB (cs := [_]) Z Z Z Z (Qa Z (Qt (ZP hw) Z Z (.inr Z) (QD Z Z (Xs Z Z (fun _ h => Xo Z Z Z h) Z Wf Z Z Z Wh Wh (Qa Z (hK _ ?_))))))))
  refine Qe (ks3 Z Z Z (QI fun K hK => Qa Z (QZ Z Z Wc (Qa Z (hK _ ?_)))))
  refine Qi (i + 1) ?_ ?_ ?_
  ·exact Q3 (l := [1, 3, 4]) (lH := [1, 500000]) (kp3 rfl rfl rfl) (Qc rfl (Qc rfl Ql)) (by first | (rw [Ji]; done) | (rw [Ji]; rfl) | (rw [Ji, List.length_append]; rfl) | (simp [Ji]; done) | (simp [Ji]; omega) | rfl) (by first | (rw [Ji]; done) | (rw [Ji]; rfl) | (rw [Ji, List.map_append]; rfl) | (simp [Ji]; done) | rfl) rfl
  ·omega
  ·first | omega | (simp only; omega) | (dsimp only; omega)
 ·try rw [h1]
  try simp only [qA] at h1
  refine Zh (QH (Qw (QE (ks1 Z (Qb fun K hK => mv2 Z Z (kc1 hK Z ?_))))))
  refine Qq ?_
  refine YG Z ?_ (HR ?_)
  ·rw [Ku, show w.length = i by omega]; rfl
  ·rw [Ku, show w.length = i by omega]; rfl
theorem Gk {w : Qo} (hw : WSm w) {ms : List Int} (hm : ms.length <= 1000000) : Ok Tryz.prog 59 [Yb w, ZJ ms] (dOT (SZ w ms)) := by
 refine Ok.ofT ZR Tryz.func59 QfJ (Qgr Z) ?_
 show TW _ _ tf59.body _ _
 refine Qb fun K hK => Zx Z Z Z (mv2 Z Z (kc2 hK Z Z ?_))
 refine Qb fun K hK => Qa Z (kc3 hK Z Z Z ?_)
 refine QA ?_ -- 0
 refine Qb fun K hK => Qa Z (kc4 hK Z Z Z Z ?_)
 refine Qy ?_
 refine Zq (ι := Nat) (fun i => ⟨[(1, ZJ ms), (2, .ref 2 0 0), (6, .osl 6 (XN w ms i).length), (7, .int .i64 i)], [(2, ⟨[[.sl ((w).map YQ)]], 1, 28, true⟩), (6, ⟨(XN w ms i).map GL, 2, 24, true⟩)]⟩) (fun i => i <= ms.length /\ (ms.take i).all (fun m => !decide (m = 0)) = true) (fun i => ms.length - i) 0 ?_ ?_ ?_
 ·exact le_trans (Yd 6 6 2 24 rfl rfl) (Q3 (l := [1, 2, 6, 7]) (lH := [2, 6]) (kp4 rfl rfl rfl rfl) (Qc rfl (Qc rfl Ql)) rfl rfl rfl)
 ·exact ⟨QgD _, by simp⟩
 intro i hI
 have hlen := P0 w ms i
 try dsimp only
 refine QA ?_ -- 1
 refine Qb fun K hK => mv2 Z Z (QL Z Z (Yg Z Z (kc5 hK Z Z Z Z Z ?_)))
 refine Qs Z (fun h1 => ?_) (fun h1 => ?_)
 ·try rw [h1]
  try simp only [qA] at h1
  refine Qr (ks4 Z Z Z Z ?_)
  refine QA ?_ -- 2
  refine Qy ?_
  refine QA ?_ -- 3
  refine Qb fun K hK => mv2 Z Z (QF Z Z Z Wa (QO Wa) Z (Qx Z Z Z (ZG Z Z (kc5 hK Z Z Z Z Z ?_))))
  refine Qs Z (fun h2 => ?_) (fun h2 => ?_)
  ·try rw [h2]
   try simp only [qA] at h2
   refine Qb fun K hK => mv2 Z Z (kc2 hK Z Z ?_)
   refine Qq (Qg (Qp (Qg (Q0 (Qp (Qg ?_))))))
   rw [D5 (i := i) Wa h2]
   exact QR rfl rfl ⟨rfl, rfl⟩
  ·try rw [h2]
   try simp only [qA] at h2
   refine Qr (ks4 Z Z Z Z (Qb fun K hK => mv2 Z Z (QF Z Z Z Wa (QO Wa) Z (QM (ds0 := [0]) Z Z Z Z Z (QJ (ds0 := [1, 0]) (cs := [_]) Z Z Z Z Z Z (Qa Z (QS (ds0 := [0]) (ZP hw) Z Z (.inr Z) Z Z (X5 Z Z (kc5 hK Z Z Z Z Z ?_)))))))))
   refine Qs Z (fun h3 => ?_) (fun h3 => ?_)
   ·try rw [h3]
    try simp only [qA] at h3
    refine QI fun K hK => mv2 Z Z (mv2 Z Z (QF Z Z Z Wa (QO Wa) Z (Qx Z Z Z (QQ Z Z (QD Z Z (Xs Z Z (fun _ h => Xo Z Z Z h) Z Wf Z Z Z Wh Wh (Qa Z (hK _ ?_))))))))
    refine Qe (ks4 Z Z Z Z (QI fun K hK => Qa Z (QZ Z Z Wc (Qa Z (hK _ ?_)))))
    refine Qi (i + 1) ?_ ?_ ?_
    ·exact Q3 (l := [1, 2, 6, 7]) (lH := [2, 6]) (kp4 rfl rfl rfl rfl) (Qc rfl (Qc rfl Ql)) (by first | (rw [Jl Wa h3]; done) | (rw [Jl Wa h3]; rfl) | (rw [Jl Wa h3, List.length_append]; rfl) | (simp [Jl Wa h3]; done) | (simp [Jl Wa h3]; omega) | rfl) (by first | (rw [Jl Wa h3]; done) | (rw [Jl Wa h3]; rfl) | (rw [Jl Wa h3, List.map_append]; rfl) | (simp [Jl Wa h3]; done) | rfl) rfl
    ·exact ⟨Wa, Yf Wa hI.2 (by simpa using h2)⟩
    ·first | omega | (simp only; omega) | (dsimp only; omega)
   ·try rw [h3]
    try simp only [qA] at h3
    refine Qr (Qe (ks4 Z Z Z Z (QI fun K hK => Qa Z (QZ Z Z Wc (Qa Z (hK _ ?_))))))
    refine Qi (i + 1) ?_ ?_ ?_
    ·exact Q3 (l := [1, 2, 6, 7]) (lH := [2, 6]) (kp4 rfl rfl rfl rfl) (Qc rfl (Qc rfl Ql)) (by first | (rw [KW Wa h3]; done) | (rw [KW Wa h3]; rfl) | (rw [KW Wa h3, List.length_append]; rfl) | (simp [KW Wa h3]; done) | (simp [KW Wa h3]; omega) | rfl) (by first | (rw [KW Wa h3]; done) | (rw [KW Wa h3]; rfl) | (rw [KW Wa h3, List.map_append]; rfl) | (simp [KW Wa h3]; done) | rfl) rfl
    ·exact ⟨Wa, Yf Wa hI.2 (by simpa using h2)⟩
    ·first | omega | (simp only; omega) | (dsimp only; omega)
 ·try rw [h1]
  try simp only [qA] at h1
  refine Zh (QH (Qw (QE (ks1 Z (Qb fun K hK => mv2 Z Z (Qa Z (kc2 hK Z Z ?_)))))))
  refine Qq ?_
  rw [Bn (i := i) Wa hI.2]
  exact M6 rfl rfl rfl Wf (by show D.sl _ = ZL (XN w ms ms.length); rw [show ms.length = i by omega]; rfl) rfl rfl
theorem _root_.Wm {p : Prop} (h : p := by first | (simp; done) | (simp; omega)) : p := h
theorem Gi {w : Qo} (hw : WSm w) {l : List TermT} (hl : l.length <= 2000000) : Ok Tryz.prog 31 [Yb w, ZL l] (dOT (Nz w l)) := by
 refine Ok.ofT ZR Tryz.func31 Qfh (Qgr Z) ?_
 show TW _ _ tf31.body _ _
 have hn := hw.len
 refine Qb fun K hK => Zx Z Z Z (mv2 Z Z (kc2 hK Z Z ?_))
 refine Qb fun K hK => QB (cs := [_]) rfl rfl rfl rfl (YA (Qdu rfl (by intro x hx; simp at hx; subst hx; rfl) rfl rfl rfl (Hm hw _ rfl)) (Qa rfl (kc3 hK rfl rfl rfl ?_)))
 refine Px (ι := Unit) (fun _ => ⟨[(2, .ref 2 0 0), (6, ZJ (XM (Ku w) l))], [(2, ⟨[[.sl ((w).map YQ)]], 1, 28, true⟩)]⟩) (fun _ => l.all (fun t => inW w t.u) = true) ?_ ?_
 ·skip
  refine Qb fun K hK => Qa Z (kc4 hK Z Z Z Z ?_)
  refine Qy ?_
  refine Zq (ι := Nat) (fun i => ⟨[(1, ZL l), (2, .ref 2 0 0), (6, .osl 500000 (XM (Ku w) (l.take i)).length), (7, .int .i64 i)], [(2, ⟨[[.sl ((w).map YQ)]], 1, 28, true⟩), (500000, ⟨(XM (Ku w) (l.take i)).map (fun x => [.int .i64 x]), 1, 3, true⟩)]⟩) (fun i => i <= l.length /\ (l.take i).all (fun t => inW w t.u) = true) (fun i => l.length - i) 0 ?_ ?_ ?_
  ·exact Q3 (l := [1, 2, 6, 7]) (lH := [2, 500000]) (kp4 rfl rfl rfl rfl) (Qc rfl (Qc rfl Ql)) rfl rfl rfl
  ·exact ⟨QgD _, by simp⟩
  intro i hI
  have hlen := MA w (l.take i)
  try dsimp only
  refine QA ?_ -- 1
  refine Qb fun K hK => mv2 Z Z (QL Z Z (Yg Z Z (kc5 hK Z Z Z Z Z ?_)))
  refine Qs Z (fun h1 => ?_) (fun h1 => ?_)
  ·try rw [h1]
   try simp only [qA] at h1
   refine Qr (ks4 Z Z Z Z ?_)
   refine QA ?_ -- 2
   refine Qy ?_
   refine QA ?_ -- 3
   refine Qb fun K hK => mv2 Z Z (QF Z Z Z Wa (QO Wa) Z (Q2 Z Z (Qx Z Z Z (Yg Z Z (Qa Z ?_)))))
   refine Qu (g := 22) Z (fun h2 => ?_) (fun h2 => ?_)
   ·try rw [h2]
    try simp only [qA] at h2
    refine gn4 Z Z Z Z (gn4 Z Z Z Z (Qh Z Z (kc5 hK Z Z Z Z Z ?_)))
    refine Zr Z (Qb fun K hK => mv2 Z Z (kc2 hK Z Z ?_))
    refine Qq (Qg (Qp (Qg (Q0 (Qp (Fr ?_))))))
    rw [PX (i := i) Wa (GP Wa)]
    exact QR rfl rfl ⟨rfl, rfl⟩
   ·try rw [h2]
    try simp only [qA] at h2
    refine Qd Z (Qa Z (Qd Z (Qa Z (Qd Z (QF Z Z Z Wa (QO Wa) Z (Qd Z (Q2 Z Z (Qd Z (Qx Z Z Z (Qd Z (Qa Z ?_)))))))))))
    refine Qd Z (QL Z Z (Qd Z (Mf Z Z (Qh Z Z (kc5 hK Z Z Z Z Z ?_)))))
    refine Qs Z (fun h3 => ?_) (fun h3 => ?_)
    ·try rw [h3]
     try simp only [qA] at h3
     refine Qb fun K hK => mv2 Z Z (kc2 hK Z Z ?_)
     refine Qq (Qg (Qp (Qg (Q0 (Qp (Fr ?_))))))
     rw [PX (i := i) Wa (GP Wa)]
     exact QR rfl rfl ⟨rfl, rfl⟩
    ·try rw [h3]
     try simp only [qA] at h3
     refine Qr (ks4 Z Z Z Z (QI fun K hK => mv2 Z Z (Qa Z (QF Z Z Z Wa (QO Wa) Z (Q2 Z Z (QM (ds0 := [1, 0]) Z Z Z Z Z (mv2 Z Z (Qa Z ?_))))))))
     refine QF Z Z Z Wa (QO Wa) Z (Q2 Z Z (QM (ds0 := [9, 8, 2, 0]) Z Z Z Z Z (XW (ds0 := [8, 2, 0]) Z Z Z Wf Wa Wa Z Z Z (QM (ds0 := [2, 0]) Z (Z8 Z (ZM Wa Wa)) Z Z Z (mv2 Z Z (QF Z Z Z Wa (QO Wa) Z (Q2 Z Z (QM (ds0 := [2, 0]) Z Z Z Z Z (GY Z Z (XW (ds0 := [0]) Z Z Z Wf Wa Wa Z Z Z ?_))))))))))
     refine Xb (ds0 := []) Z Z (ZM Wa Wa) Z Z Z Z Z Z Z (hK _ ?_)
     refine Qe (ks4 Z Z Z Z (QI fun K hK => Qa Z (QZ Z Z Wc (Qa Z (hK _ ?_)))))
     refine Qi (i + 1) ?_ ?_ ?_
     ·exact Q3 (l := [1, 2, 6, 7]) (lH := [2, 500000]) (kp4 rfl rfl rfl rfl) (Qc rfl (Qc rfl Ql)) (by rw [Dj Wa Wa, List.length_set]; rfl) (by rw [Dj Wa Wa, List.map_set]; rfl) rfl
     ·exact ⟨Wa, Yf Wa hI.2 (MG Wa Wa)⟩
     ·first | omega | (simp only; omega) | (dsimp only; omega)
  ·try rw [h1]
   try simp only [qA] at h1
   refine Zh (QH (Qw (QE ?_)))
   refine Z1 () ?_ ?_
   ·exact le_trans (SR (l := [2]) (lH := [2]) 500000 6 (kp1 rfl) (Qc rfl Ql) rfl rfl rfl Wm rfl rfl rfl rfl) (Q3 (l := [2, 6]) (lH := [2]) (kp2 rfl rfl) (Qc rfl Ql) (by rw [QgH (Wa : l.length <= i)]; rfl) rfl rfl)
   ·exact XP Wa hI.2
 intro _ hJ
 try dsimp only
 refine Qb fun K hK => QB (cs := [_]) Z Z Z Z (Qa Z (Qt (Gk hw (by rw [MA]; omega)) Z Z (.inl Z) (QU Z Z (QU Z Z (mv2 Z Z (kc2 hK Z Z ?_))))))
 refine Qq ?_
 rw [Bo hJ]
 exact QR rfl rfl ⟨rfl, rfl⟩
theorem Xj {l : List TermT} (hl : l.length <= 2000000) {u : Int} : Ok Tryz.prog 82 [ZL l, .int .i64 u] (ZL (PT l u)) := by
 refine Ok.ofT ZR Tryz.func82 Qf6 (Qgr Z) ?_
 show TW _ _ tf82.body _ _
 refine Qb fun K hK => Qa Z (kc2 hK Z Z ?_)
 refine Qb fun K hK => Qa Z (kc3 hK Z Z Z ?_)
 refine QA ?_ -- 0
 refine Qb fun K hK => Qa Z (kc4 hK Z Z Z Z ?_)
 refine Qy ?_
 refine Zq (ι := Nat) (fun i => ⟨[(0, ZL l), (1, .int .i64 u), (5, .osl 5 (PT (l.take i) u).length), (6, .int .i64 i)], [(5, ⟨(PT (l.take i) u).map GL, 2, 24, true⟩)]⟩) (fun i => i <= l.length) (fun i => l.length - i) 0 ?_ ?_ ?_
 ·exact le_trans (Yd 5 5 2 24 rfl rfl) (Q3 (l := [0, 1, 5, 6]) (lH := [5]) (kp4 rfl rfl rfl rfl) (Qc rfl Ql) rfl rfl rfl)
 ·exact QgD _
 intro i hI
 have hlen := Qav l u i
 try dsimp only
 refine QA ?_ -- 1
 refine Qb fun K hK => mv2 Z Z (QL Z Z (Yg Z Z (kc5 hK Z Z Z Z Z ?_)))
 refine Qs Z (fun h1 => ?_) (fun h1 => ?_)
 ·try rw [h1]
  try simp only [qA] at h1
  refine Qr (ks4 Z Z Z Z ?_)
  refine QA ?_ -- 2
  refine Qy (Qb fun K hK => mv2 Z Z (QF Z Z Z Wa (QO Wa) Z (Q2 Z Z (Qx Z Z Z (Qa Z (X5 Z Z (kc5 hK Z Z Z Z Z ?_)))))))
  refine Qs Z (fun h2 => ?_) (fun h2 => ?_)
  ·try rw [h2]
   try simp only [qA] at h2
   refine QI fun K hK => mv2 Z Z (Qa Z (QF Z Z Z Wa (QO Wa) Z (QB (cs := [_, _]) Z Z Z Z (QD Z Z (Xs Z Z (fun _ h => Xo Z Z Z h) Z Wf Z Z Z Wh Wh (Qa Z (hK _ ?_)))))))
   refine Qe (ks4 Z Z Z Z (QI fun K hK => Qa Z (QZ Z Z Wc (Qa Z (hK _ ?_)))))
   refine Qi (i + 1) ?_ ?_ ?_
   ·exact Q3 (l := [0, 1, 5, 6]) (lH := [5]) (kp4 rfl rfl rfl rfl) (Qc rfl Ql) (by first | (rw [KD Wa h2]; done) | (rw [KD Wa h2]; rfl) | (rw [KD Wa h2, List.length_append]; rfl) | (simp [KD Wa h2]; done) | (simp [KD Wa h2]; omega) | rfl) (by first | (rw [KD Wa h2]; done) | (rw [KD Wa h2]; rfl) | (rw [KD Wa h2, List.map_append]; rfl) | (simp [KD Wa h2]; done) | rfl) rfl
   ·omega
   ·first | omega | (simp only; omega) | (dsimp only; omega)
  ·try rw [h2]
   try simp only [qA] at h2
   refine Qr (Qe (ks4 Z Z Z Z (QI fun K hK => Qa Z (QZ Z Z Wc (Qa Z (hK _ ?_))))))
   refine Qi (i + 1) ?_ ?_ ?_
   ·exact Q3 (l := [0, 1, 5, 6]) (lH := [5]) (kp4 rfl rfl rfl rfl) (Qc rfl Ql) (by first | (rw [G3 Wa h2]; done) | (rw [G3 Wa h2]; rfl) | (rw [G3 Wa h2, List.length_append]; rfl) | (simp [G3 Wa h2]; done) | (simp [G3 Wa h2]; omega) | rfl) (by first | (rw [G3 Wa h2]; done) | (rw [G3 Wa h2]; rfl) | (rw [G3 Wa h2, List.map_append]; rfl) | (simp [G3 Wa h2]; done) | rfl) rfl
   ·omega
   ·first | omega | (simp only; omega) | (dsimp only; omega)
 ·try rw [h1]
  try simp only [qA] at h1
  refine Zh (QH (Qw (QE (ks1 Z (Qb fun K hK => mv2 Z Z (kc1 hK Z ?_))))))
  refine Qq ?_
  exact Jn rfl rfl rfl Wf (by rw [QgH (Wa : l.length <= i)]; rfl)
theorem He {l : List TermT} (hl : l.length <= 3000000) : Ok Tryz.prog 83 [ZL l] (ZL (RW l)) := by
 refine Ok.ofT ZR Tryz.func83 Qf7 (Qgr Z) ?_
 show TW _ _ tf83.body _ _
 refine Qb fun K hK => Qa Z (kc1 hK Z ?_)
 refine Qb fun K hK => Qa Z (kc2 hK Z Z ?_)
 refine QA ?_ -- 0
 refine Qb fun K hK => Qa Z (kc3 hK Z Z Z ?_)
 refine Qy ?_
 refine Zq (ι := Nat) (fun u => ⟨[(0, ZL l), (3, .osl 3 (Yq l u).length), (4, .int .i64 u)], [(3, ⟨(Yq l u).map GL, 2, 24, true⟩)]⟩) (fun u => u <= 48) (fun u => 48 - u) 0 ?_ ?_ ?_
 ·exact le_trans (Yd 3 3 2 24 rfl rfl) (Q3 (l := [0, 3, 4]) (lH := [3]) (kp3 rfl rfl rfl) (Qc rfl Ql) rfl rfl rfl)
 ·exact QgD _
 intro u hU
 have hlen2 : u * l.length <= 48 * 3000000 := Nat.mul_le_mul Wa hl
 try dsimp only
 refine QA ?_ -- 1
 refine Qb fun K hK => Qa Z (Yg Z Z (kc4 hK Z Z Z Z ?_))
 refine Qs Z (fun h1 => ?_) (fun h1 => ?_)
 ·try rw [h1]
  try simp only [qA] at h1
  refine Qr (ks3 Z Z Z ?_)
  refine QA ?_ -- 2
  refine Qy (Qb fun K hK => Qa Z (kc4 hK Z Z Z Z ?_))
  refine Qy ?_
  refine Zq (ι := Nat) (fun i => ⟨[(0, ZL l), (3, .osl 3 (srt l u i).length), (4, .int .i64 u), (5, .int .i64 i)], [(3, ⟨(srt l u i).map GL, 2, 24, true⟩)]⟩) (fun i => i <= l.length) (fun i => l.length - i) 0 ?_ ?_ ?_
  ·exact Q3 (l := [0, 3, 4, 5]) (lH := [3]) (kp4 rfl rfl rfl rfl) (Qc rfl Ql) (by first | (rw [Jp]; done) | (rw [Jp]; rfl) | (rw [Jp, List.length_append]; rfl) | (simp [Jp]; done) | (simp [Jp]; omega) | rfl) (by first | (rw [Jp]; done) | (rw [Jp]; rfl) | (rw [Jp, List.map_append]; rfl) | (simp [Jp]; done) | rfl) rfl
  ·exact QgD _
  intro i hI
  have hlen3 := QcS l u i
  try dsimp only
  refine QA ?_ -- 3
  refine Qb fun K hK => mv2 Z Z (QL Z Z (Yg Z Z (kc5 hK Z Z Z Z Z ?_)))
  refine Qs Z (fun h2 => ?_) (fun h2 => ?_)
  ·try rw [h2]
   try simp only [qA] at h2
   refine Qr (ks4 Z Z Z Z ?_)
   refine QA ?_ -- 4
   refine Qy (Qb fun K hK => mv2 Z Z (QF Z Z Z Wa (QO Wa) Z (Q2 Z Z (Qx Z Z Z (Qa Z (ZG Z Z (kc5 hK Z Z Z Z Z ?_)))))))
   refine Qs Z (fun h3 => ?_) (fun h3 => ?_)
   ·try rw [h3]
    try simp only [qA] at h3
    refine QI fun K hK => mv2 Z Z (Qa Z (QF Z Z Z Wa (QO Wa) Z (QB (cs := [_, _]) Z Z Z Z (QD Z Z (Xs Z Z (fun _ h => Xo Z Z Z h) Z Wf Z Z Z Wh Wh (Qa Z (hK _ ?_)))))))
    refine Qe (ks4 Z Z Z Z (QI fun K hK => Qa Z (QZ Z Z Wc (Qa Z (hK _ ?_)))))
    refine Qi (i + 1) ?_ ?_ ?_
    ·exact Q3 (l := [0, 3, 4, 5]) (lH := [3]) (kp4 rfl rfl rfl rfl) (Qc rfl Ql) (by first | (rw [K6 Wa h3]; done) | (rw [K6 Wa h3]; rfl) | (rw [K6 Wa h3, List.length_append]; rfl) | (simp [K6 Wa h3]; done) | (simp [K6 Wa h3]; omega) | rfl) (by first | (rw [K6 Wa h3]; done) | (rw [K6 Wa h3]; rfl) | (rw [K6 Wa h3, List.map_append]; rfl) | (simp [K6 Wa h3]; done) | rfl) rfl
    ·omega
    ·first | omega | (simp only; omega) | (dsimp only; omega)
   ·try rw [h3]
    try simp only [qA] at h3
    refine Qr (Qe (ks4 Z Z Z Z (QI fun K hK => Qa Z (QZ Z Z Wc (Qa Z (hK _ ?_))))))
    refine Qi (i + 1) ?_ ?_ ?_
    ·exact Q3 (l := [0, 3, 4, 5]) (lH := [3]) (kp4 rfl rfl rfl rfl) (Qc rfl Ql) (by first | (rw [FP Wa h3]; done) | (rw [FP Wa h3]; rfl) | (rw [FP Wa h3, List.length_append]; rfl) | (simp [FP Wa h3]; done) | (simp [FP Wa h3]; omega) | rfl) (by first | (rw [FP Wa h3]; done) | (rw [FP Wa h3]; rfl) | (rw [FP Wa h3, List.map_append]; rfl) | (simp [FP Wa h3]; done) | rfl) rfl
    ·omega
    ·first | omega | (simp only; omega) | (dsimp only; omega)
  ·try rw [h2]
   try simp only [qA] at h2
   refine Zh (QH (Qw (QE (Qe (ks3 Z Z Z (QI fun K hK => Qa Z (QZ Z Z Wc (Qa Z (hK _ ?_)))))))))
   refine Qi (u + 1) ?_ ?_ ?_
   ·exact Q3 (l := [0, 3, 4]) (lH := [3]) (kp3 rfl rfl rfl) (Qc rfl Ql) (by first | (rw [K5 l u (Wa : l.length = i)]; done) | (rw [K5 l u (Wa : l.length = i)]; rfl) | (rw [K5 l u (Wa : l.length = i), List.length_append]; rfl) | (simp [K5 l u (Wa : l.length = i)]; done) | (simp [K5 l u (Wa : l.length = i)]; omega) | rfl) (by first | (rw [K5 l u (Wa : l.length = i)]; done) | (rw [K5 l u (Wa : l.length = i)]; rfl) | (rw [K5 l u (Wa : l.length = i), List.map_append]; rfl) | (simp [K5 l u (Wa : l.length = i)]; done) | rfl) rfl
   ·omega
   ·first | omega | (simp only; omega) | (dsimp only; omega)
 ·try rw [h1]
  try simp only [qA] at h1
  refine Zh (QH (Qw (QE (ks1 Z (Qb fun K hK => mv2 Z Z (kc1 hK Z ?_))))))
  refine Qq ?_
  exact Jn rfl rfl rfl Wf (by rw [RW, show (48 : Nat) = u by omega]; rfl)
theorem XI {w : Qo} (hw : WSm w) {u : Int} {p : Nat} (hp : p <= 60) {l : List WantT} (hl : l.length <= 1000000) (hx : ∀ x ∈ l, Sm x.s.1 /\ Sm x.s.2) {bar : Bool} : Ok Tryz.prog 56 [Yb w, .int .i64 u, .int .i64 (p : Nat), Q8 l, .bool bar] (dOT (Yo w u p l bar)) := by
 refine Ok.ofT ZR Tryz.func56 QfG (Qgr Z) ?_
 show TW _ _ tf56.body _ _
 refine Qb fun K hK => Zx Z Z Z (mv2 Z Z (kc5 hK Z Z Z Z Z ?_))
 refine Qb fun K hK => Qa Z (QB (cs := [_]) Z Z Z Z (Qa Z (Qt (ZP hw) Z Z (.inr Z) (Qa Z (Sl Z (Mc Wa Wa) (Qan Z Z Wa (Qae hp) (GY Z Z (QQ Z Z (QD Z Z (Qa Z ?_))))))))))
 refine kc4 hK Z Z Z Z ?_
 refine Px (ι := Unit) (fun _ => ⟨[(5, .ref 5 0 0), (12, ZL (clT w u p bar l))], [(5, ⟨[[.sl ((w).map YQ)]], 1, 28, true⟩)]⟩) (fun _ => True) ?_ ?_
 ·skip
  refine Qb fun K hK => Qa Z (kc5 hK Z Z Z Z Z ?_)
  refine Qy ?_
  refine Zq (ι := Nat) (fun i => ⟨[(3, Q8 l), (4, .bool bar), (5, .ref 5 0 0), (12, .osl 24 (clT w u p bar (l.take i)).length), (13, .int .i64 i)], [(5, ⟨[[.sl ((w).map YQ)]], 1, 28, true⟩), (24, ⟨(clT w u p bar (l.take i)).map GL, 2, 24, true⟩)]⟩) (fun i => i <= l.length) (fun i => l.length - i) 0 ?_ ?_ ?_
  ·exact Q3 (l := [3, 4, 5, 12, 13]) (lH := [5, 24]) (kp5 rfl rfl rfl rfl rfl) (Qc rfl (Qc rfl Ql)) rfl rfl rfl
  ·exact QgD _
  intro i hI
  have hlen := CF w u p bar (l.take i)
  have hlen2 : (l.take i).length <= l.length := List.length_take_le' ..
  try dsimp only
  refine QA ?_ -- 1
  refine Qb fun K hK => mv2 Z Z (QL Z Z (Yg Z Z (kc6 hK Z Z Z Z Z Z ?_)))
  refine Qs Z (fun h1 => ?_) (fun h1 => ?_)
  ·try rw [h1]
   try simp only [qA] at h1
   refine Qr (ks5 Z Z Z Z Z ?_)
   refine QA ?_ -- 2
   refine Qy (Qb fun K hK => QJ (ds0 := [1, 0]) (cs := [_]) Z Z Z Z Z Z (mv2 Z Z (QF Z Z Z Wa (QO Wa) Z (QJ (ds0 := [1, 0]) (cs := [_, _, _]) Z Z Z Z Z Z (QS (ds0 := [0]) (GE hw (hx _ (Qgw Wa))) Z Z (.inr Z) Z Z (Qa Z (kc6 hK Z Z Z Z Z Z ?_)))))))
   refine QA ?_ -- 3
   refine Qb fun K hK => Qa Z (Z9 Z (kc7 hK Z Z Z Z Z Z Z ?_))
   refine Qs Z (fun h2 => ?_) (fun h2 => ?_)
   ·try rw [h2]
    try simp only [qA] at h2
    refine QI fun K hK => QJ (ds0 := [3, 1, 0]) (cs := [_]) Z Z Z Z Z Z (mv2 Z Z (QF Z Z Z Wa (QO Wa) Z (Q2 Z Z (QM (ds0 := [3, 1, 0]) Z Z Z Z Z (QS (ds0 := [1, 0]) (ZP hw) Z Z (.inr Z) Z Z (Qa Z (Xu Z Z (QcZ w _ _) (Qa Z (hK _ ?_)))))))))
    refine ks6 Z Z Z Z Z Z (QI fun K hK => mv2 Z Z (Qa Z (QF Z Z Z Wa (QO Wa) Z (Q2 Z Z (Qx Z Z Z (Qa Z (QQ Z Z (QD Z Z (Xs Z Z (fun _ h => Xo Z Z Z h) Z Wf Z Z Z Wh Wh ?_)))))))))
    refine Qa Z (hK _ ?_)
    refine Qe (ks5 Z Z Z Z Z (QI fun K hK => Qa Z (QZ Z Z Wc (Qa Z (hK _ ?_)))))
    refine Qi (i + 1) ?_ ?_ ?_
    ·exact Q3 (l := [3, 4, 5, 12, 13]) (lH := [5, 24]) (kp5 rfl rfl rfl rfl rfl) (Qc rfl (Qc rfl Ql)) (by first | (rw [KH Wa h2]; done) | (rw [KH Wa h2]; rfl) | (rw [KH Wa h2, List.length_append]; rfl) | (simp [KH Wa h2]; done) | (simp [KH Wa h2]; omega) | rfl) (by first | (rw [KH Wa h2]; done) | (rw [KH Wa h2]; rfl) | (rw [KH Wa h2, List.map_append]; rfl) | (simp [KH Wa h2]; done) | rfl) rfl
    ·omega
    ·first | omega | (simp only; omega) | (dsimp only; omega)
   ·try rw [h2]
    try simp only [qA] at h2
    refine Qr (ks6 Z Z Z Z Z Z (QI fun K hK => mv2 Z Z (Qa Z (QF Z Z Z Wa (QO Wa) Z (Q2 Z Z (Qx Z Z Z (Qa Z (QQ Z Z (QD Z Z ?_)))))))))
    refine Xs Z Z (fun _ h => Xo Z Z Z h) Z Wf Z Z Z Wh Wh (Qa Z (hK _ ?_))
    refine Qe (ks5 Z Z Z Z Z (QI fun K hK => Qa Z (QZ Z Z Wc (Qa Z (hK _ ?_)))))
    refine Qi (i + 1) ?_ ?_ ?_
    ·exact Q3 (l := [3, 4, 5, 12, 13]) (lH := [5, 24]) (kp5 rfl rfl rfl rfl rfl) (Qc rfl (Qc rfl Ql)) (by first | (rw [KG Wa h2]; done) | (rw [KG Wa h2]; rfl) | (rw [KG Wa h2, List.length_append]; rfl) | (simp [KG Wa h2]; done) | (simp [KG Wa h2]; omega) | rfl) (by first | (rw [KG Wa h2]; done) | (rw [KG Wa h2]; rfl) | (rw [KG Wa h2, List.map_append]; rfl) | (simp [KG Wa h2]; done) | rfl) rfl
    ·omega
    ·first | omega | (simp only; omega) | (dsimp only; omega)
  ·try rw [h1]
   try simp only [qA] at h1
   refine Zh (QH (Qw (QE ?_)))
   refine Z1 () ?_ ?_
   ·exact le_trans (SR (l := [5]) (lH := [5]) 24 12 (kp1 rfl) (Qc rfl Ql) rfl rfl rfl Wm rfl rfl rfl rfl) (Q3 (l := [5, 12]) (lH := [5]) (kp2 rfl rfl) (Qc rfl Ql) (by rw [QgH (Wa : l.length <= i)]; rfl) rfl rfl)
   ·exact trivial
 intro _ hJ
 try dsimp only
 refine Qb fun K hK => QB (cs := [_]) Z Z Z Z (Qa Z (Qt (Gi hw (by rw [CF]; omega)) Z Z (.inl Z) (QU Z Z (QU Z Z (mv2 Z Z (kc2 hK Z Z ?_))))))
 refine Qq ?_
 exact QR rfl rfl ⟨rfl, rfl⟩
end Go.Proofs
namespace M25
open Go Go.Abs M3
def IncOk (w : Qo) (l : List TermT) : Prop := l.Pairwise (fun a b => a.u < b.u) /\ ∀ t ∈ l, 0 <= t.u /\ t.u < w.length
theorem P8 : ∀ (l : List TermT) (a b : Int), l.Pairwise (fun x y => x.u < y.u) -> (∀ t ∈ l, a <= t.u /\ t.u < b) -> a <= b -> (l.length : Int) <= b - a
 | [], a, b, _, _, h => by simp; omega
 | t :: l, a, b, hp, hb, h => by
  rw [List.pairwise_cons] at hp
  have h1 := hb t Wf
  have := P8 l (t.u + 1) b hp.2 (fun s hs => ⟨by have := hp.1 s hs; omega, (hb s (by simp [hs])).2⟩) Wa
  simp only [List.length_cons]; omega
theorem IncOk.len {w : Qo} {l : List TermT} (h : IncOk w l) : l.length <= w.length := by
 have := P8 l 0 w.length h.1 h.2 Wa
 omega
theorem IncOk.nil (w : Qo) : IncOk w [] := ⟨List.Pairwise.nil, by simp⟩
theorem S2 (w : Qo) (ms : List Int) : ∀ n, (XN w ms n).Pairwise (fun a b => a.u < b.u) /\ ∀ t ∈ XN w ms n, 0 <= t.u /\ t.u < n
 | 0 => ⟨List.Pairwise.nil, by simp [XN]⟩
 | n + 1 => by
  obtain ⟨h1, h2⟩ := S2 w ms n
  rw [XN]
  split
  ·rw [List.append_nil]; exact ⟨h1, fun t ht => by have := h2 t ht; omega⟩
  ·refine ⟨List.pairwise_append.2 ⟨h1, List.pairwise_singleton _ _, fun a ha b hb => ?_⟩, fun t ht => ?_⟩
   ·simp only [QgA] at hb; subst hb; exact (h2 a ha).2
   ·rcases QgC.1 ht with ht | ht
    ·have := h2 t ht; omega
    ·simp only [QgA] at ht; subst ht; simp only; omega
theorem MT {w : Qo} {l t : List TermT} (h : Nz w l = some t) : IncOk w t := by
 unfold Nz at h
 split at h
 ·unfold SZ at h
  split at h
  ·cases h
   obtain ⟨h1, h2⟩ := S2 w (XM (Ku w) l) (XM (Ku w) l).length
   refine ⟨h1, fun t ht => ?_⟩
   have := h2 t ht
   rw [MA] at this
   exact this
  ·cases h
 ·cases h
theorem IncOk.ne {w : Qo} {l : List TermT} (h : IncOk w l) : l.Pairwise (fun a b => a.u ≠ b.u) := h.1.imp fun h => Wa
theorem Ph {l : List TermT} (hl : l.Pairwise (fun a b => a.u ≠ b.u)) : ∀ n, (Yq l n).Pairwise (fun a b => a.u < b.u) /\ ∀ t ∈ Yq l n, t ∈ l /\ 0 <= t.u /\ t.u < n
 | 0 => ⟨List.Pairwise.nil, by simp [Yq]⟩
 | n + 1 => by
  obtain ⟨h1, h2⟩ := Ph hl n
  rw [Yq]
  have hf : ∀ t ∈ l.filter (fun t => decide (t.u = ((n : Nat) : Int))), t ∈ l /\ t.u = n := fun t ht => by
   simpa using List.mem_filter.1 ht
  refine ⟨List.pairwise_append.2 ⟨h1, ?_, fun a ha b hb => ?_⟩, fun t ht => ?_⟩
  ·refine List.Pairwise.imp_of_mem (fun {a b} ha hb hab => ?_) (hl.filter _)
   have := (hf a ha).2
   have := (hf b hb).2
   omega
  ·rw [(hf b hb).2]; exact (h2 a ha).2.2
  ·rcases QgC.1 ht with ht | ht
   ·have := h2 t ht; exact ⟨this.1, Wa, Wa⟩
   ·have := hf t ht; exact ⟨this.1, Wa, Wa⟩
theorem D7 {w : Qo} {l : List TermT} (hl : l.Pairwise (fun a b => a.u ≠ b.u)) (hb : ∀ t ∈ l, 0 <= t.u /\ t.u < w.length) : IncOk w (RW l) := by
 obtain ⟨h1, h2⟩ := Ph hl 48
 exact ⟨h1, fun t ht => hb t (h2 t ht).1⟩
theorem QaV {w : Qo} {r x : RowT} (hx : IncOk w x.t) (h0 : 0 <= r.u) (h1 : r.u < w.length) : IncOk w (QaU w r x).t := by
 refine D7 (List.pairwise_cons.2 ⟨fun t ht => ?_, hx.ne.filter _⟩) fun t ht => ?_
 ·have := (List.mem_filter.1 ht).2
  simp only [Bool.not_eq_true', decide_eq_false_iff_not] at this
  exact fun e => this e.symm
 ·rcases Qgt.1 ht with rfl | ht
  ·exact ⟨h0, h1⟩
  ·exact hx.2 t (List.mem_filter.1 ht).1
def Kl (w : Qo) (rows : List RowT) : Prop := ∀ x ∈ rows, IncOk w x.t
theorem Lg {w : Qo} {r : RowT} (hr : IncOk w r.t) (h0 : 0 <= r.u) (h1 : r.u < w.length) : ∀ {rows : List RowT}, Kl w rows -> Kl w (Xr w r rows)
 | [], _ => fun x hx => by
  simp only [Xr, QgA] at hx; subst hx; exact hr
 | y :: rows, h => fun x hx => by
  rw [Xr] at hx
  split at hx
  ·rcases Qgt.1 hx with rfl | hx
   ·exact QaV (h y Wf) h0 h1
   ·exact h x (by simp [hx])
  ·rcases Qgt.1 hx with rfl | hx
   ·exact h x Wf
   ·exact Lg hr h0 h1 (fun z hz => h z (by simp [hz])) x hx
theorem R1 (w : Qo) (r : RowT) : ∀ rows : List RowT, (Xr w r rows).length <= rows.length + 1
 | [] => by simp [Xr]
 | x :: rows => by
  have := R1 w r rows
  rw [Xr]; split <;> simp <;> omega
theorem T7 {r x : RowT} (h : ¬ x.k = r.k \/ ¬ x.u = r.u \/ ¬ PT x.t r.u = PT r.t r.u) : T6 r x = false := by
 simp only [T6, QgE, decide_eq_false_iff_not]
 rcases h with h | h | h
 ·exact .inl (.inl h)
 ·exact .inl (.inr h)
 ·exact .inr h
theorem Bi {r x : RowT} (h1 : x.k = r.k) (h2 : x.u = r.u) (h3 : PT x.t r.u = PT r.t r.u) : T6 r x = true := by simp [T6, h1, h2, h3]
theorem M9 {w : Qo} {r : RowT} {rows : List RowT} {i : Nat} (h : i < rows.length) (hn : T6 r rows[i] = false) (hi : Xr w r rows = rows.take i ++ Xr w r (rows.drop i)) : Xr w r rows = rows.take (i + 1) ++ Xr w r (rows.drop (i + 1)) := by
 rw [hi, QgI h, Xr, if_neg (by rw [hn]; simp), List.take_succ_eq_append_getElem h, List.append_assoc]; rfl
theorem Dv {w : Qo} {r : RowT} {rows : List RowT} {i : Nat} (h : i < rows.length) (hn : T6 r rows[i] = true) (hi : Xr w r rows = rows.take i ++ Xr w r (rows.drop i)) : Xr w r rows = rows.set i (QaU w r rows[i]) := by
 rw [hi, QgI h, Xr, if_pos hn, List.set_eq_take_append_cons_drop, if_pos h]
theorem Dw {w : Qo} {r : RowT} {rows : List RowT} {i : Nat} (h : rows.length <= i) (hi : Xr w r rows = rows.take i ++ Xr w r (rows.drop i)) : Xr w r rows = rows ++ [r] := by
 rw [hi, QgM h, QgH h, Xr]
theorem Dt {w : Qo} {u : Int} {p : Nat} {l : List (List WantT)} {rows : List RowT} {i : Nat} (h : i < l.length) : YV w u p (l.take (i + 1)) rows = match Yo w u p l[i] false with
  | some t => Xr w ⟨2, u, 0, 0, t⟩ (YV w u p (l.take i) rows)
  | none => YV w u p (l.take i) rows := by
 rw [List.take_succ_eq_append_getElem h, YV, List.foldl_append]; rfl
theorem S6 {w : Qo} {u : Int} {p : Nat} {l : List (List WantT)} {rows : List RowT} {i : Nat} (h : i < l.length) (ho : (Yo w u p l[i] false).isSome = true) : YV w u p (l.take (i + 1)) rows = Xr w ⟨2, u, 0, 0, (Yo w u p l[i] false).getD []⟩ (YV w u p (l.take i) rows) := by
 rw [Dt h]
 cases hc : Yo w u p l[i] false with
 | none => rw [hc] at ho; cases ho
 | some t => rfl
theorem Dq {w : Qo} {u : Int} {p : Nat} {l : List (List WantT)} {rows : List RowT} {i : Nat} (h : i < l.length) (ho : (Yo w u p l[i] false).isSome = false) : YV w u p (l.take (i + 1)) rows = YV w u p (l.take i) rows := by
 rw [Dt h]
 cases hc : Yo w u p l[i] false with
 | none => rfl
 | some t => rw [hc] at ho; cases ho
theorem Cz {w : Qo} {u : Int} {p : Nat} {l : List WantT} {rows : List RowT} {i : Nat} (h : i < l.length) : Hd w u p (l.take (i + 1)) rows = match Yo w u p [l[i]] true with
  | some t => Xr w ⟨3, u, 0, 0, t⟩ (Hd w u p (l.take i) rows)
  | none => Hd w u p (l.take i) rows := by
 rw [List.take_succ_eq_append_getElem h, Hd, List.foldl_append]; rfl
theorem LL {w : Qo} {u : Int} {p : Nat} {l : List WantT} {rows : List RowT} {i : Nat} (h : i < l.length) (ho : (Yo w u p [l[i]] true).isSome = true) : Hd w u p (l.take (i + 1)) rows = Xr w ⟨3, u, 0, 0, (Yo w u p [l[i]] true).getD []⟩ (Hd w u p (l.take i) rows) := by
 rw [Cz h]
 cases hc : Yo w u p [l[i]] true with
 | none => rw [hc] at ho; cases ho
 | some t => rfl
theorem Cy {w : Qo} {u : Int} {p : Nat} {l : List WantT} {rows : List RowT} {i : Nat} (h : i < l.length) (ho : (Yo w u p [l[i]] true).isSome = false) : Hd w u p (l.take (i + 1)) rows = Hd w u p (l.take i) rows := by
 rw [Cz h]
 cases hc : Yo w u p [l[i]] true with
 | none => rfl
 | some t => rw [hc] at ho; cases ho
theorem CY {w : Qo} {u : Int} {p : Nat} {l : List WantT} {b : Bool} : IncOk w ((Yo w u p l b).getD []) := by
 cases hc : Yo w u p l b with
 | none => exact IncOk.nil w
 | some t => exact MT hc
theorem FE {w : Qo} {u : Int} {p : Nat} (h0 : 0 <= u) (h1 : u < w.length) : ∀ {l : List (List WantT)} {rows : List RowT}, Kl w rows -> Kl w (YV w u p l rows) /\ (YV w u p l rows).length <= rows.length + l.length
 | [], rows, h => ⟨h, Nat.le_refl _⟩
 | x :: l, rows, h => by
  rw [YV, List.foldl_cons]
  cases hc : Yo w u p x false with
  | none =>
   obtain ⟨q1, q2⟩ := FE h0 h1 (l := l) h
   exact ⟨q1, QgK q2 Wf⟩
  | some t =>
   obtain ⟨q1, q2⟩ := FE (p := p) h0 h1 (l := l) (Lg (r := ⟨2, u, 0, 0, t⟩) (MT hc) h0 h1 h)
   have := R1 w ⟨2, u, 0, 0, t⟩ rows
   exact ⟨q1, QgK q2 (by simp only [List.length_cons]; omega)⟩
theorem NS {w : Qo} {u : Int} {p : Nat} (h0 : 0 <= u) (h1 : u < w.length) : ∀ {l : List WantT} {rows : List RowT}, Kl w rows -> Kl w (Hd w u p l rows) /\ (Hd w u p l rows).length <= rows.length + l.length
 | [], rows, h => ⟨h, Nat.le_refl _⟩
 | x :: l, rows, h => by
  rw [Hd, List.foldl_cons]
  cases hc : Yo w u p [x] true with
  | none =>
   obtain ⟨q1, q2⟩ := NS h0 h1 (l := l) h
   exact ⟨q1, QgK q2 Wf⟩
  | some t =>
   obtain ⟨q1, q2⟩ := NS (p := p) h0 h1 (l := l) (Lg (r := ⟨3, u, 0, 0, t⟩) (MT hc) h0 h1 h)
   have := R1 w ⟨3, u, 0, 0, t⟩ rows
   exact ⟨q1, QgK q2 (by simp only [List.length_cons]; omega)⟩
theorem Ro {w : Qo} {u : Int} {cs : List CandT} {n : Nat} {rows : List RowT} (h : n < cs.length) : YM w u cs (n + 1) rows = Hd w u n cs[n].bs (YV w u n cs[n].ns (YM w u cs n rows)) := by
 rw [YM, List.getElem?_eq_getElem h]
theorem Mr {w : Qo} {u : Int} {cs : List CandT} (h0 : 0 <= u) (h1 : u < w.length) (hc : ∀ c ∈ cs, c.ns.length <= 1000 /\ c.bs.length <= 1000) {rows : List RowT} (h : Kl w rows) : ∀ n, n <= cs.length -> Kl w (YM w u cs n rows) /\ (YM w u cs n rows).length <= rows.length + n * 2000
 | 0, _ => ⟨h, by simp [YM]⟩
 | n + 1, hn => by
  obtain ⟨q1, q2⟩ := Mr h0 h1 hc h n Wa
  rw [Ro Wa]
  obtain ⟨q3, q4⟩ := FE (p := n) h0 h1 (l := cs[n].ns) q1
  obtain ⟨q5, q6⟩ := NS (p := n) h0 h1 (l := cs[n].bs) q3
  have := hc cs[n] (Qgw _)
  exact ⟨q5, Wa⟩
theorem Lk {w : Qo} {n : Nat} (h : n < w.length) : Yy w (n + 1) = YM w n w[n].cs w[n].cs.length (Yy w n) := by
 rw [Yy, List.getElem?_eq_getElem h]
theorem HO {w : Qo} (hw : WSm w) (h0 : 0 < w.length) : ∀ n, n <= w.length -> Kl w (Yy w n) /\ (Yy w n).length <= 1 + n * 32000
 | 0, _ => ⟨fun x hx => by
   simp only [Yy, QgA] at hx; subst hx
   exact ⟨List.pairwise_singleton _ _, fun t ht => by simp only [QgA] at ht; subst ht; exact ⟨Int.le_refl _, by simp only; omega⟩⟩, by simp [Yy]⟩
 | n + 1, hn => by
  obtain ⟨q1, q2⟩ := HO hw h0 n Wa
  rw [Lk Wa]
  obtain ⟨q3, q4⟩ := Mr (u := n) Wa Wa (fun c hc => hw.ns w[n] (Qgw _) c hc) q1 w[n].cs.length (Nat.le_refl _)
  have := hw.cs w[n] (Qgw _)
  refine ⟨q3, ?_⟩
  have h5 : w[n].cs.length * 2000 <= 16 * 2000 := Nat.mul_le_mul_right _ this
  omega
theorem QdH {w : Qo} (hw : WSm w) (h0 : 0 < w.length) : ∀ t ∈ mDB w, IncOk w t := fun t ht => by
 obtain ⟨r, hr, rfl⟩ := QgF.1 ht
 exact (HO hw h0 w.length (Nat.le_refl _)).1 r hr
theorem QcG {w : Qo} (hw : WSm w) (h0 : 0 < w.length) : (mDB w).length <= 1600000 := by
 have := (HO hw h0 w.length (Nat.le_refl _)).2
 have := hw.len
 rw [mDB, List.length_map, Fu]; omega
theorem Qes {l : List TermT} : ∀ r ∈ l.map GL, r.length = 2 := fun r hr => by obtain ⟨x, _, rfl⟩ := QgF.1 hr; rfl
theorem Qet {l : List WantT} : ∀ r ∈ l.map NG, r.length = 3 := fun r hr => by obtain ⟨x, _, rfl⟩ := QgF.1 hr; rfl
theorem R6 {l : List StepT} : ∀ r ∈ l.map Gt, r.length = 4 := fun r hr => by obtain ⟨x, _, rfl⟩ := QgF.1 hr; rfl
theorem BZ {α : Type} {f : α -> List D} {l : List α} {i : Nat} (h : i < l.length) : ((l.map f).take ((i : Int) + 1).toNat).drop ((i : Nat) : Int).toNat = [l[i]].map f := by
 rw [Qac, Int.toNat_natCast, List.drop_take, show i + 1 - i = 1 by omega, QgI (by simpa using h)]
 simp
theorem WSm.nsLen {w : Qo} (hw : WSm w) {u i : Nat} (hu : u < w.length) (hi : i < w[u].cs.length) : w[u].cs[i].ns.length <= 1000 := (hw.ns _ (Qgw _) _ (Qgw _)).1
theorem WSm.bsLen {w : Qo} (hw : WSm w) {u i : Nat} (hu : u < w.length) (hi : i < w[u].cs.length) : w[u].cs[i].bs.length <= 1000 := (hw.ns _ (Qgw _) _ (Qgw _)).2
theorem WSm.csLen {w : Qo} (hw : WSm w) {u : Nat} (hu : u < w.length) : w[u].cs.length <= 16 := hw.cs _ (Qgw _)
theorem QcF {w : Qo} (hw : WSm w) {u i : Nat} (hu : u < w.length) (hi : i <= w[u].cs.length) : Kl w (YM w u w[u].cs i (Yy w u)) /\ (YM w u w[u].cs i (Yy w u)).length <= 10000000 := by
 obtain ⟨q1, q2⟩ := HO hw Wa u Wa
 obtain ⟨q3, q4⟩ := Mr (u := u) Wa Wa (fun c hc => hw.ns w[u] (Qgw _) c hc) q1 i hi
 have := hw.csLen hu
 have := hw.len
 have h5 : i * 2000 <= 16 * 2000 := Nat.mul_le_mul_right _ Wa
 have h6 : u * 32000 <= 48 * 32000 := Nat.mul_le_mul_right _ Wa
 exact ⟨q3, Wa⟩
theorem RP {w : Qo} (hw : WSm w) {u i : Nat} (hu : u < w.length) (hi : i < w[u].cs.length) (k : Nat) : Kl w (YV w u i (w[u].cs[i].ns.take k) (YM w u w[u].cs i (Yy w u))) /\ (YV w u i (w[u].cs[i].ns.take k) (YM w u w[u].cs i (Yy w u))).length <= 20000000 := by
 obtain ⟨q1, q2⟩ := QcF hw hu (Nat.le_of_lt hi)
 obtain ⟨q3, q4⟩ := FE (u := u) (p := i) Wa Wa (l := w[u].cs[i].ns.take k) q1
 have := hw.nsLen hu hi
 have h2 : (w[u].cs[i].ns.take k).length <= w[u].cs[i].ns.length := List.length_take_le' ..
 exact ⟨q3, Wa⟩
theorem Dd {w : Qo} (hw : WSm w) {u i : Nat} (hu : u < w.length) (hi : i < w[u].cs.length) (k : Nat) : Kl w (Hd w u i (w[u].cs[i].bs.take k) (YV w u i w[u].cs[i].ns (YM w u w[u].cs i (Yy w u)))) /\ (Hd w u i (w[u].cs[i].bs.take k) (YV w u i w[u].cs[i].ns (YM w u w[u].cs i (Yy w u)))).length <= 30000000 := by
 obtain ⟨q1, q2⟩ := RP hw hu hi w[u].cs[i].ns.length
 rw [List.take_length] at q1 q2
 obtain ⟨q3, q4⟩ := NS (u := u) (p := i) Wa Wa (l := w[u].cs[i].bs.take k) q1
 have := hw.bsLen hu hi
 have h2 : (w[u].cs[i].bs.take k).length <= w[u].cs[i].bs.length := List.length_take_le' ..
 exact ⟨q3, Wa⟩
end M25
namespace Go.Proofs
open Go Go.Abs M3 M25
theorem Js {w : Qo} (hw : WSm w) {r : RowT} {rows : List RowT} (hr : Kl w rows) (hrr : IncOk w r.t) (hl : rows.length <= 100000000) : OkH Tryz.prog 57 [Yb w, .osl 500000 rows.length, .agg (CH r)] [(500000, ⟨(rows).map CH, 5, 79, true⟩)] (.osl 500000 (Xr w r rows).length) [(500000, ⟨(Xr w r rows).map CH, 5, 79, true⟩)] := by
 refine OkH.mv ZR Tryz.func57 QfH (Qgr Z) Z ?_
 show TW _ _ tf57.body _ _
 have hn := hw.len
 refine Qb fun K hK => Zx Z Z Z (Zx Z Z Z (Qa Z (kc3 hK Z Z Z ?_)))
 refine QA ?_ -- 0
 refine Qb fun K hK => Qa Z (kc4 hK Z Z Z Z ?_)
 refine Qy ?_
 refine Zq (ι := Nat) (fun i => ⟨[(1, .osl 500000 rows.length), (3, .ref 3 0 0), (5, .ref 5 0 0), (7, .int .i64 i)], [(3, ⟨[[.sl ((w).map YQ)]], 1, 28, true⟩), (5, ⟨[[.int .i64 (r).k, .int .i64 (r).u, .int .i64 (r).a, .int .i64 (r).b, ZL (r).t]], 5, 79, true⟩), (500000, ⟨(rows).map CH, 5, 79, true⟩)]⟩) (fun i => i <= rows.length /\ Xr w r rows = rows.take i ++ Xr w r (rows.drop i)) (fun i => rows.length - i) 0 ?_ ?_ ?_
 ·exact Q3 (l := [1, 3, 5, 7]) (lH := [3, 5, 500000]) (kp4 rfl rfl rfl rfl) (Qc rfl (Qc rfl (Qc rfl Ql))) rfl rfl rfl
 ·exact ⟨QgD _, by simp⟩
 intro i hI
 try dsimp only
 refine QA ?_ -- 1
 refine Qb fun K hK => mv2 Z Z (QL Z Z (Yg Z Z (kc5 hK Z Z Z Z Z ?_)))
 refine Qs Z (fun h1 => ?_) (fun h1 => ?_)
 ·try rw [h1]
  try simp only [qA] at h1
  refine Qr (ks4 Z Z Z Z ?_)
  refine QA ?_ -- 2
  refine Qy (Qb fun K hK => mv2 Z Z (Xt Z Z Z Wf Wa Wa Z (QB (cs := [_, _, _, _, _]) Z (Z8 Z (QO Wa)) Z Z (ZI Z (Q4 Z Z Z Z Z Z Z Z (kc5 hK Z Z Z Z Z ?_))))))
  refine Qb fun K hK => Qf Z Z (QM (ds0 := [20, 19, 18, 17, 16, 15, 14, 13, 12, 11, 10, 9, 8, 7, 6, 5, 4, 3, 2, 1, 0]) Z Z Z Z Z (Qf Z Z (QM (ds0 := [20, 19, 18, 17, 16, 15, 14, 13, 12, 11, 10, 9, 8, 7, 6, 5, 4, 3, 2, 1, 0]) Z Z Z Z Z ?_)))
  first | refine ZG rfl rfl ?_ | refine Me rfl rfl ?_
  refine Qa Z ?_
  refine Qu (g := 25) Z (fun h2 => ?_) (fun h2 => ?_)
  ·try rw [h2]
   try simp only [qA] at h2
   refine Qd Z (Qf Z Z (Qd Z (QM (ds0 := [14, 13, 12, 11, 10, 9, 8, 7, 6, 5, 4, 3, 2, 1, 0]) Z Z Z Z Z (Qd Z (Qf Z Z (Qd Z (QM (ds0 := [14, 13, 12, 11, 10, 9, 8, 7, 6, 5, 4, 3, 2, 1, 0]) Z Z Z Z Z (Qd Z ?_))))))))
   first | refine ZG rfl rfl ?_ | refine Me rfl rfl ?_
   refine Qh Z Z (Qa Z ?_)
   refine Qu (g := 32) Z (fun h3 => ?_) (fun h3 => ?_)
   ·try rw [h3]
    try simp only [qA] at h3
    refine Qd Z (Qf Z Z (Qd Z (QM (ds0 := [7, 1, 0]) Z Z Z Z Z (Qd Z (Qf Z Z (Qd Z (QM (ds0 := [7, 1, 0]) Z Z Z Z Z (Qd Z (QS (ds0 := [1, 0]) (Xj (QgK (hr _ (Qgw Wa)).len Wa)) Z Z (.inl Z) Z Z (Qd Z (Qf Z Z ?_)))))))))))
    refine Qd Z (QM (ds0 := [2, 1, 0]) Z Z Z Z Z (Qd Z (Qf Z Z (Qd Z (QM (ds0 := [2, 1, 0]) Z Z Z Z Z (Qd Z (QS (ds0 := [1, 0]) (Xj (QgK hrr.len Wa)) Z Z (.inl Z) Z Z (Qd Z (QS (ds0 := [0]) (Gj (QgK (Mo _ _) (QgK (hr _ (Qgw Wa)).len Wa))) Z Z (.inr Z) Z Z (Qh Z Z (kc6 hK Z Z Z Z Z Z ?_)))))))))))
    refine Qs Z (fun h4 => ?_) (fun h4 => ?_)
    ·try rw [h4]
     try simp only [qA] at h4
     refine Qb fun K hK => Qf Z Z (QM (ds0 := [8, 7, 1, 0]) Z Z Z Z Z (QJ (ds0 := [16, 9, 8, 7, 1, 0]) (cs := [_]) Z Z Z Z Z Z (Qf Z Z (QM (ds0 := [16, 9, 8, 7, 1, 0]) Z Z Z Z Z (Qf Z Z (QM (ds0 := [16, 9, 8, 7, 1, 0]) Z Z Z Z Z (QS (ds0 := [9, 8, 7, 1, 0]) (Y5 hw (QgK (hr _ (Qgw Wa)).len Wa)) Z Z (.inr Z) Z Z (QJ (ds0 := [10, 9, 8, 7, 1, 0]) (cs := [_]) Z Z Z Z Z Z (Qf Z Z (QM (ds0 := [10, 9, 8, 7, 1, 0]) Z Z Z Z Z ?_))))))))))
     refine Qf Z Z (QM (ds0 := [10, 9, 8, 7, 1, 0]) Z Z Z Z Z (QS (ds0 := [9, 8, 7, 1, 0]) (Y5 hw (QgK hrr.len Wa)) Z Z (.inr Z) Z Z (QeS Z Z (QQ Z Z (QD Z Z (Qf Z Z (QM (ds0 := [2, 1, 0]) Z Z Z Z Z (Qf Z Z (QM (ds0 := [2, 1, 0]) Z Z Z Z Z (QS (ds0 := [1, 0]) (Xj (QgK (hr _ (Qgw Wa)).len Wa)) Z Z (.inl Z) Z Z (Hi (ds0 := [0]) Z Z (by simp [D.ids, D.sid, ZL]) ⟨rfl, Qes, rfl⟩ Z Z Wf Z Z (by have q1 := Mo (rows[i]'Wa).t r.u; have q2 := (hr _ (Qgw (Wa : i < rows.length))).len; simp; omega) (by have q1 := Mo (rows[i]'Wa).t r.u; have q2 := (hr _ (Qgw (Wa : i < rows.length))).len; simp; omega) Z Z ?_)))))))))))
     refine Qa Z (kc3 hK Z Z Z ?_)
     refine Ci (SR (l := [1, 7]) (lH := [500000]) 67 9 (kp2 Z Z) (Qc Z Ql) Z Z Z Wm Z Z Z Z) (Qb fun K hK => mv2 Z Z (Qa Z (Qt (He (l := ⟨r.u, bor (Fy w (rows[i]'Wa).t r.u) (Fy w r.t r.u)⟩ :: PT (rows[i]'Wa).t r.u) (by have q1 := Mo (rows[i]'Wa).t r.u; have q2 := (hr _ (Qgw (Wa : i < rows.length))).len; simp; omega)) Z Z (.inl Z) (Xt Z Z Z Wf Wa Wa Z (Qf Z Z (Q4 Z Z (QO Wa) Z Z Z Z Z (kc1 hK Z ?_)))))))
     refine Qb fun K hK => mv2 Z Z (kc1 hK Z ?_)
     refine Qq (Qp (Qg (Q0 (Qp (Qg ?_)))))
     refine YG Z ?_ (HR ?_)
     ·rw [Dv (i := i) Wa (Bi h2 h3 h4) hI.2]; simp [Cj, D.fz, D.fzS, NL, D.can, D.canS]
     ·rw [Dv (i := i) Wa (Bi h2 h3 h4) hI.2]; simp [lk, List.map_set, CH, QaU, setRow, D.sid, ZL]
    ·try rw [h4]
     try simp only [qA] at h4
     refine Qr (Qe (ks4 Z Z Z Z (QI fun K hK => Qa Z (QZ Z Z Wc (Qa Z (hK _ ?_))))))
     refine Qi (i + 1) ?_ ?_ ?_
     ·exact Q3 (l := [1, 3, 5, 7]) (lH := [3, 5, 500000]) (kp4 rfl rfl rfl rfl) (Qc rfl (Qc rfl (Qc rfl Ql))) rfl rfl rfl
     ·exact ⟨Wa, M9 Wa (T7 (by first | exact .inl h2 | exact .inr (.inl h3) | exact .inr (.inr h4))) hI.2⟩
     ·first | omega | (simp only; omega) | (dsimp only; omega)
   ·try rw [h3]
    try simp only [qA] at h3
    refine gn4 Z Z Z Z (gn4 Z Z Z Z (gn3 Z Z Z (Qh Z Z ?_)))
    refine kc6 hK Z Z Z Z Z Z ?_
    refine ZU Z (Qr (Qe (ks4 Z Z Z Z (QI fun K hK => Qa Z (QZ Z Z Wc (Qa Z (hK _ ?_)))))))
    refine Qi (i + 1) ?_ ?_ ?_
    ·exact Q3 (l := [1, 3, 5, 7]) (lH := [3, 5, 500000]) (kp4 rfl rfl rfl rfl) (Qc rfl (Qc rfl (Qc rfl Ql))) rfl rfl rfl
    ·exact ⟨Wa, M9 Wa (T7 (by first | exact .inl h2 | exact .inr (.inl h3) | exact .inr (.inr h4))) hI.2⟩
    ·first | omega | (simp only; omega) | (dsimp only; omega)
  ·try rw [h2]
   try simp only [qA] at h2
   refine gn4 Z Z Z Z (Y7 Z (Qh Z Z (Qa Z (gn4 Z Z Z Z (Y7 Z ?_)))))
   refine gn4 Z Z Z Z (gn2 Z Z (Qh Z Z (kc6 hK Z Z Z Z Z Z ?_)))
   refine ZU Z (Qr (Qe (ks4 Z Z Z Z (QI fun K hK => Qa Z (QZ Z Z Wc (Qa Z (hK _ ?_)))))))
   refine Qi (i + 1) ?_ ?_ ?_
   ·exact Q3 (l := [1, 3, 5, 7]) (lH := [3, 5, 500000]) (kp4 rfl rfl rfl rfl) (Qc rfl (Qc rfl (Qc rfl Ql))) rfl rfl rfl
   ·exact ⟨Wa, M9 Wa (T7 (by first | exact .inl h2 | exact .inr (.inl h3) | exact .inr (.inr h4))) hI.2⟩
   ·first | omega | (simp only; omega) | (dsimp only; omega)
 ·try rw [h1]
  try simp only [qA] at h1
  refine Zh (QH (Qw (QE (ks2 Z Z (Qb fun K hK => Qa Z (QB (cs := [_, _, _, _, _]) Z Z Z Z (QD Z Z (Xs Z Z (fun _ h => Xo Z Z Z h) Z Wf Z Z Z Wh Wh (Qa Z (kc1 hK Z ?_))))))))))
  refine Qq ?_
  refine YG Z ?_ (HR ?_)
  ·rw [Dw (i := i) Wa hI.2]; simp [Cj, D.fz, D.fzS, NL, D.can, D.canS]
  ·rw [Dw (i := i) Wa hI.2]; simp [lk, CH, D.sid, ZL]
theorem GF {w : Qo} (hw : WSm w) : Ok Tryz.prog 30 [Yb w] (Qdw (Fu w)) := by
 refine Ok.ofT ZR Tryz.func30 Qfg (Qgr Z) ?_
 show TW _ _ tf30.body _ _
 have hn := hw.len
 refine Qb fun K hK => Zx Z Z Z (Qa Z (kc1 hK Z ?_))
 refine Qb fun K hK => QQ Z Z (QD Z Z (QQ Z Z (QD Z Z (Qa Z (kc2 hK Z Z ?_)))))
 refine QA ?_ -- 0
 refine Qb fun K hK => Qa Z (kc3 hK Z Z Z ?_)
 refine Qy ?_
 refine Zq (ι := Nat) (fun j => ⟨[(1, .ref 1 0 0), (3, .osl 3 (Yy w j).length), (4, .int .i64 j)], [(1, ⟨[[.sl ((w).map YQ)]], 1, 28, true⟩), (3, ⟨(Yy w j).map CH, 5, 79, true⟩)]⟩) (fun j => j <= w.length) (fun j => w.length - j) 0 ?_ ?_ ?_
 ·exact le_trans (SQ 14 _ Wk) (le_trans (MI (k := 16) (b := ⟨[[.int .i64 1, .int .i64 0, .int .i64 0, .int .i64 0, .sl [[.int .i64 0, .int .i64 1]]]], 5, 79, false⟩) rfl Wf Wu) (le_trans (MH (l := [1, 4]) (lH := [1]) 16 3 3 (kp2 rfl rfl) (Qc rfl Ql) rfl rfl rfl rfl rfl rfl rfl) (Q3 (l := [1, 3, 4]) (lH := [1, 3]) (kp3 rfl rfl rfl) (Qc rfl (Qc rfl Ql)) rfl rfl rfl)))
 ·exact QgD _
 intro j hU
 try dsimp only
 refine QA ?_ -- 1
 refine Qb fun K hK => Qa Z (Qf Z Z (Qx Z Z Z (QL Z Z (Yg Z Z (kc4 hK Z Z Z Z ?_)))))
 refine Qs Z (fun h1 => ?_) (fun h1 => ?_)
 ·try rw [h1]
  try simp only [qA] at h1
  refine Qr (ks3 Z Z Z ?_)
  refine QA ?_ -- 2
  refine Qy (Qb fun K hK => Qa Z (kc4 hK Z Z Z Z ?_))
  refine Qy ?_
  refine Zq (ι := Nat) (fun i => ⟨[(1, .ref 1 0 0), (3, .osl 3 (YM w j (w[j]'Wa).cs i (Yy w j)).length), (4, .int .i64 j), (5, .int .i64 i)], [(1, ⟨[[.sl ((w).map YQ)]], 1, 28, true⟩), (3, ⟨(YM w j (w[j]'Wa).cs i (Yy w j)).map CH, 5, 79, true⟩)]⟩) (fun i => i <= (w[j]'Wa).cs.length) (fun i => (w[j]'Wa).cs.length - i) 0 ?_ ?_ ?_
  ·exact Q3 (l := [1, 3, 4, 5]) (lH := [1, 3]) (kp4 rfl rfl rfl rfl) (Qc rfl (Qc rfl Ql)) rfl rfl rfl
  ·exact QgD _
  intro i hI
  have hcs := hw.csLen (u := j) Wa
  try dsimp only
  refine QA ?_ -- 3
  refine Qb fun K hK => Qa Z (Qf Z Z (Qx Z Z Z (Qa Z (QF Z Z Z Wa (QO Wa) Z (Q2 Z Z (Qx Z Z Z (QL Z Z (Yg Z Z (kc5 hK Z Z Z Z Z ?_)))))))))
  refine Qs Z (fun h2 => ?_) (fun h2 => ?_)
  ·try rw [h2]
   try simp only [qA] at h2
   refine Qr (ks4 Z Z Z Z ?_)
   refine QA ?_ -- 4
   refine Qy (Qb fun K hK => Qf Z Z (Qx Z Z Z (Qa Z (QF Z Z Z Wa (QO Wa) Z (Q2 Z Z (Qx Z Z Z (Qa Z (QF Z Z Z Wa (QO Wa) Z (QB (cs := [_, _, _, _, _, _, _, _]) Z Z Z Z (ZI Z ?_))))))))))
   refine Q4 Z Z Z Z Z Z Z Z (kc5 hK Z Z Z Z Z ?_)
   refine QA ?_ -- 5
   refine Qb fun K hK => Qa Z (kc6 hK Z Z Z Z Z Z ?_)
   refine Qy ?_
   refine Zq (ι := Nat) (fun k => ⟨[(1, .ref 1 0 0), (3, .osl 3 (YV w j i (((w[j]'Wa).cs[i]'Wa).ns.take k) (YM w j (w[j]'Wa).cs i (Yy w j))).length), (4, .int .i64 j), (5, .int .i64 i), (6, .ref 6 0 0), (7, .int .i64 k)], [(1, ⟨[[.sl ((w).map YQ)]], 1, 28, true⟩), (3, ⟨(YV w j i (((w[j]'Wa).cs[i]'Wa).ns.take k) (YM w j (w[j]'Wa).cs i (Yy w j))).map CH, 5, 79, true⟩), (6, ⟨[Qcs ((w[j]'Wa).cs[i]'Wa)], 8, 61, true⟩)]⟩) (fun k => k <= ((w[j]'Wa).cs[i]'Wa).ns.length) (fun k => ((w[j]'Wa).cs[i]'Wa).ns.length - k) 0 ?_ ?_ ?_
   ·exact Q3 (l := [1, 3, 4, 5, 6, 7]) (lH := [1, 3, 6]) (kp6 rfl rfl rfl rfl rfl rfl) (Qc rfl (Qc rfl (Qc rfl Ql))) rfl rfl rfl
   ·exact QgD _
   intro k hK1
   have hnl := hw.nsLen (u := j) (i := i) Wa Wa
   try dsimp only
   refine QA ?_ -- 6
   refine Qb fun K hK => Qa Z (Qf Z Z (Qx Z Z Z (QL Z Z (Yg Z Z (kc7 hK Z Z Z Z Z Z Z ?_)))))
   refine Qs Z (fun h3 => ?_) (fun h3 => ?_)
   ·try rw [h3]
    try simp only [qA] at h3
    refine Qr (ks6 Z Z Z Z Z Z ?_)
    refine QA ?_ -- 7
    refine Qy (Qb fun K hK => QJ (ds0 := [5, 4, 3, 2, 1, 0]) (cs := [_]) Z Z Z Z Z Z (mv2 Z Z (Qf Z Z (QM (ds0 := [7, 6, 5, 4, 3, 2, 1, 0]) Z Z Z Z Z (Qa Z (QF Z Z Z Wa (QO Wa) Z (QM (ds0 := [5, 4, 3, 2, 1, 0]) Z Z Z Z Z (QS (ds0 := [4, 3, 2, 1, 0]) (XI hw (p := i) Wa (QgK (hw.nl _ (Qgw Wa) _ (Qgw Wa) _ (Qgw Wa)) Wa) (hw.nw _ (Qgw Wa) _ (Qgw Wa) _ (Qgw Wa))) Z Z (.inl Z) Z Z (Qa Z ?_)))))))))
    refine QU Z Z (QU Z Z (mv2 Z Z (kc8 hK Z Z Z Z Z Z Z Z ?_)))
    refine Qb fun K hK => Qa Z (kc8 hK Z Z Z Z Z Z Z Z ?_)
    refine Qs Z (fun h4 => ?_) (fun h4 => ?_)
    ·try rw [h4]
     try simp only [qA] at h4
     refine QI fun K hK => QB (cs := [_]) Z Z Z Z (mv2 Z Z (Qa Z (QQ Z Z (Cq (LO (k := 3) Z Z Z Wk Z Wk (by simp [D.ids, D.sid, ZL]) ⟨.osl 3 (YV w j i (((w[j]'Wa).cs[i]'Wa).ns.take k) (YM w j (w[j]'Wa).cs i (Yy w j))).length, by simp, by simp [D.ids, D.sid]⟩ Z Z (Js hw (r := ⟨2, j, 0, 0, (Yo w j i (((w[j]'Wa).cs[i]'Wa).ns[k]'Wa) false).getD []⟩) (RP hw Wa Wa _).1 CY (QgK (RP hw Wa Wa _).2 Wa))) (Qa Z (hK _ ?_))))))
     refine Qe (ks6 Z Z Z Z Z Z (QI fun K hK => Qa Z (QZ Z Z Wc (Qa Z (hK _ ?_)))))
     refine Qi (k + 1) ?_ ?_ ?_
     ·exact le_trans (MH (l := [1, 4, 5, 6, 7]) (lH := [1, 6]) 69 3 3 (kp5 rfl rfl rfl rfl rfl) (Qc rfl (Qc rfl Ql)) rfl rfl rfl rfl rfl rfl rfl) (Q3 (l := [1, 3, 4, 5, 6, 7]) (lH := [1, 3, 6]) (kp6 rfl rfl rfl rfl rfl rfl) (Qc rfl (Qc rfl (Qc rfl Ql))) (by rw [S6 Wa h4] <;> rfl) (by rw [S6 Wa h4] <;> rfl) rfl)
     ·omega
     ·first | omega | (simp only; omega) | (dsimp only; omega)
    ·try rw [h4]
     try simp only [qA] at h4
     refine Qr (Qe (ks6 Z Z Z Z Z Z (QI fun K hK => Qa Z (QZ Z Z Wc (Qa Z (hK _ ?_))))))
     refine Qi (k + 1) ?_ ?_ ?_
     ·exact Q3 (l := [1, 3, 4, 5, 6, 7]) (lH := [1, 3, 6]) (kp6 rfl rfl rfl rfl rfl rfl) (Qc rfl (Qc rfl (Qc rfl Ql))) (by rw [Dq Wa h4] <;> rfl) (by rw [Dq Wa h4] <;> rfl) rfl
     ·omega
     ·first | omega | (simp only; omega) | (dsimp only; omega)
   ·try rw [h3]
    try simp only [qA] at h3
    refine Zh (QH (Qw (QE (ks5 Z Z Z Z Z (Qb fun K hK => Qa Z (kc6 hK Z Z Z Z Z Z ?_))))))
    refine Qy ?_
    refine Zq (ι := Nat) (fun m => ⟨[(1, .ref 1 0 0), (3, .osl 3 (Hd w j i (((w[j]'Wa).cs[i]'Wa).bs.take m) (YV w j i ((w[j]'Wa).cs[i]'Wa).ns (YM w j (w[j]'Wa).cs i (Yy w j)))).length), (4, .int .i64 j), (5, .int .i64 i), (6, .ref 6 0 0), (10, .int .i64 m)], [(1, ⟨[[.sl ((w).map YQ)]], 1, 28, true⟩), (3, ⟨(Hd w j i (((w[j]'Wa).cs[i]'Wa).bs.take m) (YV w j i ((w[j]'Wa).cs[i]'Wa).ns (YM w j (w[j]'Wa).cs i (Yy w j)))).map CH, 5, 79, true⟩), (6, ⟨[Qcs ((w[j]'Wa).cs[i]'Wa)], 8, 61, true⟩)]⟩) (fun m => m <= ((w[j]'Wa).cs[i]'Wa).bs.length) (fun m => ((w[j]'Wa).cs[i]'Wa).bs.length - m) 0 ?_ ?_ ?_
    ·exact Q3 (l := [1, 3, 4, 5, 6, 10]) (lH := [1, 3, 6]) (kp6 rfl rfl rfl rfl rfl rfl) (Qc rfl (Qc rfl (Qc rfl Ql))) (by rw [QgH (Wa : ((w[j]'Wa).cs[i]'Wa).ns.length <= k)] <;> rfl) (by rw [QgH (Wa : ((w[j]'Wa).cs[i]'Wa).ns.length <= k)] <;> rfl) rfl
    ·exact QgD _
    intro m hM
    have hbl := hw.bsLen (u := j) (i := i) Wa Wa
    try dsimp only
    refine QA ?_ -- 8
    refine Qb fun K hK => Qa Z (Qf Z Z (Qx Z Z Z (QL Z Z (Yg Z Z (kc7 hK Z Z Z Z Z Z Z ?_)))))
    refine Qs Z (fun h5 => ?_) (fun h5 => ?_)
    ·try rw [h5]
     try simp only [qA] at h5
     refine Qr (ks6 Z Z Z Z Z Z ?_)
     refine QA ?_ -- 9
     refine Qy (Qb fun K hK => QJ (ds0 := [5, 4, 3, 2, 1, 0]) (cs := [_]) rfl rfl rfl rfl rfl rfl (Qa rfl (Qa rfl (Qf rfl rfl (QM (ds0 := [6, 5, 4, 3, 2, 1, 0]) rfl rfl rfl rfl rfl (Qa rfl (Qa rfl (QZ rfl rfl Wc (Mg rfl rfl rfl rfl Wa Wa Wh Qet (BZ Wa) (QS (ds0 := [4, 3, 2, 1, 0]) (XI hw (p := i) (l := [((w[j]'Wa).cs[i]'Wa).bs[m]'Wa]) Wa Wf (by intro x hx; simp only [QgA] at hx; subst hx; exact hw.bw _ (Qgw Wa) _ (Qgw Wa) _ (Qgw Wa))) rfl rfl (.inl rfl) rfl rfl ?_))))))))))
     refine Qa Z (QU Z Z (QU Z Z (mv2 Z Z (kc8 hK Z Z Z Z Z Z Z Z ?_))))
     refine Qb fun K hK => Qa Z (kc8 hK Z Z Z Z Z Z Z Z ?_)
     refine Qs Z (fun h6 => ?_) (fun h6 => ?_)
     ·try rw [h6]
      try simp only [qA] at h6
      refine QI fun K hK => QB (cs := [_]) Z Z Z Z (mv2 Z Z (Qa Z (QQ Z Z (Cq (LO (k := 3) Z Z Z Wk Z Wk (by simp [D.ids, D.sid, ZL]) ⟨.osl 3 (Hd w j i (((w[j]'Wa).cs[i]'Wa).bs.take m) (YV w j i ((w[j]'Wa).cs[i]'Wa).ns (YM w j (w[j]'Wa).cs i (Yy w j)))).length, by simp, by simp [D.ids, D.sid]⟩ Z Z (Js hw (r := ⟨3, j, 0, 0, (Yo w j i [((w[j]'Wa).cs[i]'Wa).bs[m]'Wa] true).getD []⟩) (Dd hw Wa Wa _).1 CY (QgK (Dd hw Wa Wa _).2 Wa))) (Qa Z (hK _ ?_))))))
      refine Qe (ks6 Z Z Z Z Z Z (QI fun K hK => Qa Z (QZ Z Z Wc (Qa Z (hK _ ?_)))))
      refine Qi (m + 1) ?_ ?_ ?_
      ·exact le_trans (MH (l := [1, 4, 5, 6, 10]) (lH := [1, 6]) 96 3 3 (kp5 rfl rfl rfl rfl rfl) (Qc rfl (Qc rfl Ql)) rfl rfl rfl rfl rfl rfl rfl) (Q3 (l := [1, 3, 4, 5, 6, 10]) (lH := [1, 3, 6]) (kp6 rfl rfl rfl rfl rfl rfl) (Qc rfl (Qc rfl (Qc rfl Ql))) (by rw [LL Wa h6] <;> rfl) (by rw [LL Wa h6] <;> rfl) rfl)
      ·omega
      ·first | omega | (simp only; omega) | (dsimp only; omega)
     ·try rw [h6]
      try simp only [qA] at h6
      refine Qr (Qe (ks6 Z Z Z Z Z Z (QI fun K hK => Qa Z (QZ Z Z Wc (Qa Z (hK _ ?_))))))
      refine Qi (m + 1) ?_ ?_ ?_
      ·exact Q3 (l := [1, 3, 4, 5, 6, 10]) (lH := [1, 3, 6]) (kp6 rfl rfl rfl rfl rfl rfl) (Qc rfl (Qc rfl (Qc rfl Ql))) (by rw [Cy Wa h6] <;> rfl) (by rw [Cy Wa h6] <;> rfl) rfl
      ·omega
      ·first | omega | (simp only; omega) | (dsimp only; omega)
    ·try rw [h5]
     try simp only [qA] at h5
     refine Zh (QH (Qw (QE (Qe (ks4 Z Z Z Z (QI fun K hK => Qa Z (QZ Z Z Wc (Qa Z (hK _ ?_)))))))))
     refine Qi (i + 1) ?_ ?_ ?_
     ·exact Q3 (l := [1, 3, 4, 5]) (lH := [1, 3]) (kp4 rfl rfl rfl rfl) (Qc rfl (Qc rfl Ql)) (by rw [Ro Wa, QgH (Wa : ((w[j]'Wa).cs[i]'Wa).bs.length <= m)] <;> rfl) (by rw [Ro Wa, QgH (Wa : ((w[j]'Wa).cs[i]'Wa).bs.length <= m)] <;> rfl) rfl
     ·omega
     ·first | omega | (simp only; omega) | (dsimp only; omega)
  ·try rw [h2]
   try simp only [qA] at h2
   refine Zh (QH (Qw (QE (Qe (ks3 Z Z Z (QI fun K hK => Qa Z (QZ Z Z Wc (Qa Z (hK _ ?_)))))))))
   refine Qi (j + 1) ?_ ?_ ?_
   ·exact Q3 (l := [1, 3, 4]) (lH := [1, 3]) (kp3 rfl rfl rfl) (Qc rfl (Qc rfl Ql)) (by rw [Lk Wa, show (w[j]'Wa).cs.length = i by omega] <;> rfl) (by rw [Lk Wa, show (w[j]'Wa).cs.length = i by omega] <;> rfl) rfl
   ·omega
   ·first | omega | (simp only; omega) | (dsimp only; omega)
 ·try rw [h1]
  try simp only [qA] at h1
  refine Zh (QH (Qw (QE (ks1 Z (Qb fun K hK => mv2 Z Z (kc1 hK Z ?_))))))
  refine Qq ?_
  exact Jn rfl rfl rfl Wf (by rw [Fu, show w.length = j by omega] <;> rfl)
end Go.Proofs
namespace M25
open Go Go.Abs M3
/-! ### Bits of numbers -/
theorem Se (e : Int) : IntKind.i64.wrap e = (BitVec.ofInt 64 e).toInt := by
 have hb : (BitVec.ofInt 64 e).toInt = if e % 18446744073709551616 < 9223372036854775808 then e % 18446744073709551616 else e % 18446744073709551616 - 18446744073709551616 := by
  rw [BitVec.toInt_ofInt]; rfl
 rw [hb]
 unfold IntKind.wrap
 simp only [IntKind.bits, IntKind.signed, Bool.true_and]
 split
 ·rename_i h
  have := of_decide_eq_true h
  split <;> omega
 ·rename_i h
  have : ¬ (e % 2 ^ 64 >= 2 ^ (64 - 1)) := fun hh => h (decide_eq_true hh)
  split <;> omega
theorem M4 (b : BitVec 64) : BitVec.ofInt 64 (b.toNat : Int) = b := by
 rw [BitVec.ofInt_natCast, BitVec.ofNat_toNat, BitVec.setWidth_eq]
theorem QbL (x y : Int) : BitVec.ofInt 64 (Kj x y) = BitVec.ofInt 64 x &&& BitVec.ofInt 64 y := by
 show BitVec.ofInt 64 (IntKind.i64.wrap ((BitVec.ofInt 64 x &&& BitVec.ofInt 64 y).toNat : Int)) = _
 rw [Se, BitVec.ofInt_toInt, M4]
theorem QbM (x y : Int) : BitVec.ofInt 64 (Sg x y) = BitVec.ofInt 64 x &&& ~~~ BitVec.ofInt 64 y := by
 show BitVec.ofInt 64 (IntKind.i64.wrap ((BitVec.ofInt 64 x &&& ~~~ BitVec.ofInt 64 y).toNat : Int)) = _
 rw [Se, BitVec.ofInt_toInt, M4]
theorem L6 {x : Int} (h : I64 x) : IntKind.i64.wrap x = x := Qm h.1 h.2
theorem LM {x : Int} (h : I64 x) : (BitVec.ofInt 64 x).toInt = x := by rw [<- Se, L6 h]
theorem RF (x y : Int) : I64 (Kj x y) := Pj _
theorem RG (x y : Int) : I64 (Sg x y) := Pj _
def tb (x : Int) (i : Nat) : Bool := (BitVec.ofInt 64 x).getLsbD i
theorem DF (x y : Int) (i : Nat) : tb (Kj x y) i = (tb x i && tb y i) := by rw [tb, QbL, BitVec.getLsbD_and]; rfl
theorem DG (x y : Int) {i : Nat} : tb (Sg x y) i = (tb x i && !tb y i) := by
 rw [tb, QbM, BitVec.getLsbD_and, BitVec.getLsbD_not]
 by_cases h : i < 64
 ·simp [h, tb]
 ·simp [tb, BitVec.getLsbD_of_ge _ i (by omega : 64 <= i)]
theorem B9 (x : Int) {i : Nat} (h : 64 <= i) : tb x i = false := BitVec.getLsbD_of_ge _ i h
theorem Tv {x y : Int} (hx : I64 x) (hy : I64 y) (h : ∀ i, tb x i = tb y i) : x = y := by
 rw [<- LM hx, <- LM hy]
 congr 1
 exact BitVec.eq_of_getLsbD_eq fun i _ => h i
theorem Lt (i : Nat) : tb 0 i = false := by
 show (BitVec.ofInt 64 0).getLsbD i = false
 rw [show BitVec.ofInt 64 0 = 0#64 from rfl, BitVec.getLsbD_zero]
theorem Mu {x : Int} (hx : I64 x) : x = 0 ↔ ∀ i, tb x i = false := by
 constructor
 ·rintro rfl i; exact Lt i
 ·intro h; exact Tv hx ⟨Wa, Wa⟩ fun i => by rw [h i, Lt]
theorem Tw (n : Nat) {i : Nat} (h : i < 64) : tb (n : Int) i = n.testBit i := by
 rw [tb, BitVec.ofInt_natCast, BitVec.getLsbD_ofNat]; simp [h]
theorem Rc {k : Nat} (hk : k < 64) (i : Nat) : tb ((2 : Int) ^ k) i = decide (i = k) := by
 have e : ((2 ^ k : Nat) : Int) = (2 : Int) ^ k := by simp
 by_cases h : i < 64
 ·rw [<- e, Tw _ h, Nat.testBit_two_pow]
  exact decide_eq_decide.2 eq_comm
 ·rw [B9 _ Wa]; exact (decide_eq_false Wa).symm
theorem GU (x m : Int) : IntKind.i64.wrap (x - Kj x m) = Sg x m := by
 have h : BitVec.ofInt 64 (x - Kj x m) = BitVec.ofInt 64 x &&& ~~~ BitVec.ofInt 64 m := by
  rw [Int.sub_eq_add_neg, BitVec.ofInt_add, BitVec.ofInt_neg, <- BitVec.sub_eq_add_neg, QbL]
  generalize BitVec.ofInt 64 x = a
  generalize BitVec.ofInt 64 m = b
  have h1 : (a &&& ~~~b) + (a &&& b) = a := by
   rw [BitVec.add_eq_or_of_and_eq_zero]
   ·ext i hi; simp; cases a[i] <;> cases b[i] <;> rfl
   ·ext i hi; simp
    cases a[i] <;> cases b[i] <;> simp
  exact (BitVec.sub_eq_iff_eq_add).2 h1.symm
 have e : Sg x m = (BitVec.ofInt 64 (Sg x m)).toInt := (LM (RG x m)).symm
 rw [e, Se, h, QbM]
theorem NP {x m : Int} : Kj x m = 0 ↔ ∀ i, tb x i = true -> tb m i = false := by
 rw [Mu (RF x m)]
 refine forall_congr' fun i => ?_
 rw [DF]; cases tb x i <;> cases tb m i <;> simp
theorem not_zero {x m : Int} : Sg x m = 0 ↔ ∀ i, tb x i = true -> tb m i = true := by
 rw [Mu (RG x m)]
 refine forall_congr' fun i => ?_
 rw [DG]; cases tb x i <;> cases tb m i <;> simp
theorem XY {x m : Int} (hx : I64 x) : Kj x m = x ↔ ∀ i, tb x i = true -> tb m i = true := by
 constructor
 ·intro h i hi
  have := congrArg (fun z => tb z i) h
  simp only [DF, hi, Bool.true_and] at this
  exact this
 ·intro h
  refine Tv (RF x m) hx fun i => ?_
  rw [DF]
  cases hx2 : tb x i
  ·rfl
  ·rw [h i hx2]; rfl
theorem NA {x m : Int} (hx : I64 x) : Sg x m = x ↔ ∀ i, tb x i = true -> tb m i = false := by
 constructor
 ·intro h i hi
  have := congrArg (fun z => tb z i) h
  simp only [DG, hi, Bool.true_and] at this
  simpa using this
 ·intro h
  refine Tv (RG x m) hx fun i => ?_
  rw [DG]
  cases hx2 : tb x i
  ·rfl
  ·rw [h i hx2]; rfl
def Lo (x : Int) : Prop := 0 <= x /\ x < 131072
theorem Lo.i64 {x : Int} (h : Lo x) : I64 x := ⟨by have := h.1; omega, by have := h.2; omega⟩
theorem Lo.hi {x : Int} (h : Lo x) {i : Nat} (hi : 17 <= i) : tb x i = false := by
 obtain ⟨n, rfl⟩ := Int.eq_ofNat_of_zero_le h.1
 by_cases h6 : i < 64
 ·rw [Tw _ h6, Nat.testBit_lt_two_pow]
  have h1 : (2 : Nat) ^ 17 <= 2 ^ i := Nat.pow_le_pow_right Wa hi
  have h2 : (2 : Nat) ^ 17 = 131072 := by decide
  have := h.2
  omega
 ·exact B9 _ Wa
theorem Lo.of {x : Int} (hx : I64 x) (h : ∀ i, 17 <= i -> tb x i = false) : Lo x := by
 have hb : (BitVec.ofInt 64 x).toNat < 2 ^ 17 := by
  refine Nat.lt_pow_two_of_testBit _ fun i hi => ?_
  exact h i hi
 have h2 : (2 : Nat) ^ 17 = 131072 := by decide
 have e := LM hx
 rw [BitVec.toInt_eq_toNat_of_lt Wa] at e
 exact ⟨Wa, Wa⟩
theorem Bj {k : Nat} (h : k <= 16) : Lo ((2 : Int) ^ k) := by
 have := Qbf (n := k) Wa
 refine ⟨Wa, ?_⟩
 have h1 : (2 : Nat) ^ k <= 2 ^ 16 := Nat.pow_le_pow_right Wa h
 have h2 : (2 : Nat) ^ 16 = 65536 := by decide
 have h3 : ((2 ^ k : Nat) : Int) = (2 : Int) ^ k := by simp
 omega
theorem QcE (w : Qo) (u : Int) : Lo (YK w u) := ⟨(RQ w u).1, by have := (RQ w u).2; omega⟩
theorem Qbv {x : Int} (hx : I64 x) (m : Int) : GR x m = J9 x m := by
 unfold J9 GR
 have : (JM .andNot .i64 x m = 0) ↔ (JM .and .i64 x m = x) := (not_zero (x := x) (m := m)).trans (XY hx).symm
 by_cases h : JM .andNot .i64 x m = 0
 ·rw [if_pos h, if_pos (this.1 h)]
 ·rw [if_neg h, if_neg (fun e => h (this.2 e))]
theorem Rm {x : Int} {k : Nat} (hk : k < 64) : Kj x (2 ^ k) = 0 ↔ tb x k = false := by
 rw [NP]
 constructor
 ·intro h
  cases hx : tb x k
  ·rfl
  ·have := h k hx; rw [Rc hk] at this; simp at this
 ·intro h i hi
  rw [Rc hk]
  by_cases e : i = k
  ·subst e; rw [h] at hi; cases hi
  ·exact decide_eq_false e
open Go Go.Abs M3
/-! ### Trails: the loops' laws -/
theorem Ft (w : Qo) (l : List StepT) (s : StepT) (u : Int) : Ze w (l ++ [s]) u = if s.u = u /\ inW w u = true then s.m else Ze w l u := by
 rw [Ze, List.foldl_append]; rfl
theorem HS {α : Type} {l : List α} {i k : Nat} (hk : k + 1 = i) (h : k < l.length) : l.take i = l.take k ++ [l[k]] := by
 subst hk; rw [List.take_succ_eq_append_getElem h]
theorem QaY {w : Qo} {l : List StepT} {u : Int} {i k : Nat} (hk : k + 1 = i) (h : k < l.length) (hu : l[k].u = u) (hw : inW w u = true) : Ze w (l.take i) u = l[k].m := by
 rw [HS hk h, Ft, if_pos ⟨hu, hw⟩]
theorem MM {w : Qo} {l : List StepT} {u : Int} {i k : Nat} (hk : k + 1 = i) (h : k < l.length) (hu : ¬ l[k].u = u \/ ¬ 0 <= u \/ ¬ u < w.length) : Ze w (l.take i) u = Ze w (l.take (i - 1)) u := by
 rw [HS hk h, Ft, if_neg, show i - 1 = k by omega]
 rintro ⟨h1, h2⟩
 rw [GO] at h2
 rcases hu with hu | hu | hu
 ·exact hu h1
 ·exact hu h2.1
 ·exact hu h2.2
theorem RM {w : Qo} {l : List StepT} {u : Int} (h : inW w u = false) : Ze w l u = 0 := by
 have hf : YK w u = 0 := Fw (by
  refine Classical.byContradiction fun hn => ?_
  rw [MG Wa Wa] at h; cases h)
 suffices hs : ∀ a, l.foldl (fun a s => if s.u = u /\ inW w u = true then s.m else a) a = a by rw [Ze, hs, hf]
 induction l with
 | nil => intro a; rfl
 | cons s l ih => intro a; rw [List.foldl_cons, if_neg (by rw [h]; simp), ih]
def J8 (w : Qo) (l : List StepT) (u : Int) : Int := l.foldl (fun a s => if s.u = u then s.m else a) (YK w u)
theorem RL {w : Qo} {l : List StepT} {u : Int} (h : inW w u = true) : J8 w l u = Ze w l u := by
 unfold J8 Ze
 simp only [h, and_true]
theorem PQ (w : Qo) (l : List StepT) (s : StepT) (u : Int) : J8 w (l ++ [s]) u = if s.u = u then s.m else J8 w l u := by
 rw [J8, List.foldl_append]; rfl
theorem Bh {w : Qo} {l : List StepT} {u : Int} {i k : Nat} (hk : k + 1 = i) (h : k < l.length) (hu : l[k].u = u) : J8 w (l.take i) u = l[k].m := by
 rw [HS hk h, PQ, if_pos hu]
theorem D2 {w : Qo} {l : List StepT} {u : Int} {i k : Nat} (hk : k + 1 = i) (h : k < l.length) (hu : ¬ l[k].u = u) : J8 w (l.take i) u = J8 w (l.take (i - 1)) u := by
 rw [HS hk h, PQ, if_neg hu, show i - 1 = k by omega]
theorem X2 {w : Qo} {u : Int} : YK w u = 0 ↔ inW w u = false := by
 constructor
 ·intro h
  cases hw : inW w u
  ·rfl
  ·rw [GO] at hw
   rw [RR hw.1 hw.2] at h
   have h2 : 2 <= (2 : Int) ^ (min (w[u.toNat]'Wa).cs.length 16 + 1) := by
    rw [Int.pow_succ]
    have := Qbf (n := min (w[u.toNat]'Wa).cs.length 16) Wa
    omega
   omega
 ·intro h
  refine Fw (Classical.byContradiction fun hn => ?_)
  rw [MG Wa Wa] at h; cases h
theorem SS {l : List StepT} (h : (l.length : Int) = 0) : Y3 l = 0 := by
 have e : l = [] := List.eq_nil_of_length_eq_zero Wa
 subst e; rfl
theorem Da {l : List StepT} {k : Nat} (hk : k + 1 = l.length) : Y3 l = (l[k]'Wa).l := by
 rw [Y3, List.getLast?_eq_getElem?, show l.length - 1 = k by omega, List.getElem?_eq_getElem Wa]
theorem Qa9 : ∀ {l : List Int}, ¬ (l.length : Int) = 1 -> D9 l = -1
 | [], _ => rfl
 | [x], h => by simp at h
 | x :: y :: l, _ => rfl
theorem BC : ∀ {l : List Int} (h : (l.length : Int) = 1), D9 l = l[(0 : Int).toNat]'Wh
 | [], h => by simp at h
 | [x], _ => rfl
 | x :: y :: l, h => by simp at h; omega
theorem Qbe {m : Int} (h : ¬ ((Hf m).length : Int) = 1) : X7 m = -1 := Qa9 h
theorem BH {m : Int} (h : ((Hf m).length : Int) = 1) : X7 m = (Hf m)[(0 : Int).toNat]'Wh := BC h
theorem Cg {α : Type} {f : α -> List D} {l : List α} {i : Nat} : ((l.map f).take ((i : Nat) : Int).toNat).drop (((0 : Nat) : Int)).toNat = (l.take i).map f := by simp [List.map_take]
def QcJ (w : Qo) (l : List StepT) (i : Nat) : Bool := match l[i]? with
 | some s => KV w (l.take i) s
 | none => true
theorem FD {w : Qo} {l : List StepT} {i : Nat} (h : i < l.length) : QcJ w l i = KV w (l.take i) l[i] := by
 rw [QcJ, List.getElem?_eq_getElem h]
theorem Dg (w : Qo) (l : List StepT) : XA w l = (List.range l.length).all (QcJ w l) := rfl
theorem Xh {w : Qo} {l : List StepT} {s : StepT} (h : s.u < 0 \/ (w.length : Int) <= s.u \/ s.c < -1) : KV w l s = false := by
 unfold KV
 rcases h with h | h | h
 ·rw [GP (.inl h)]; rfl
 ·rw [GP (.inr h)]; rfl
 ·rw [decide_eq_false (Wa : ¬ -1 <= s.c)]; simp
theorem Z3 {w : Qo} {l : List StepT} {s : StepT} (h0 : 0 <= s.u) (h1 : s.u < w.length) (h2 : -1 <= s.c) : KV w l s = (decide (Kj s.m (Ze w l s.u) = s.m) &&
  if s.c = -1 then decide (0 <= X7 s.m) && !Xe l s.u && decide (s.l = IntKind.i64.wrap (Y3 l + 1))
  else !decide (s.m = 0) && !decide (s.m = Ze w l s.u) && decide (s.l = Y3 l)) := by
 rw [KV, MG h0 h1, decide_eq_true h2]; rfl
theorem HW {w : Qo} {l : List StepT} {t : TermT} {c : Int} (h : c < 0 \/ t.u < 0 \/ (w.length : Int) <= t.u) : Yj w l t c = none := by
 rw [Yj, if_pos]
 rcases h with h | h
 ·exact .inl h
 ·exact .inr (GP h)
theorem KI {w : Qo} {l : List StepT} {t : TermT} {c : Int} (h : IntKind.i64.wrap (Ze w l t.u - Kj (Ze w l t.u) t.m) = 0 \/ IntKind.i64.wrap (Ze w l t.u - Kj (Ze w l t.u) t.m) = Ze w l t.u) : Yj w l t c = none := by
 rw [Yj]
 split
 ·rfl
 ·first | rfl | rw [if_pos h]
theorem PF {w : Qo} {l : List StepT} {t : TermT} {c : Int} (h0 : ¬ c < 0) (h1 : inW w t.u = true) (h2 : ¬ IntKind.i64.wrap (Ze w l t.u - Kj (Ze w l t.u) t.m) = 0) (h3 : ¬ IntKind.i64.wrap (Ze w l t.u - Kj (Ze w l t.u) t.m) = Ze w l t.u) :
  Yj w l t c = some (l ++ [⟨t.u, IntKind.i64.wrap (Ze w l t.u - Kj (Ze w l t.u) t.m), Y3 l, c⟩]) := by
 rw [Yj, if_neg (by rw [h1]; simp [h0]), if_neg (by simp [h2, h3])]
theorem F6 (w : Qo) (l : List StepT) (t : TermT) (c : Int) : ((Yj w l t c).getD []).length <= l.length + 1 := by
 unfold Yj
 split
 ·simp
 ·split <;> simp
def GX (w : Qo) (l : List StepT) : Prop := ∀ s ∈ l, Lo s.m
theorem Nd {w : Qo} {l : List StepT} (h : GX w l) (u : Int) : Lo (Ze w l u) := by
 suffices hs : ∀ (l : List StepT) a, (∀ s ∈ l, Lo s.m) -> Lo a -> Lo (l.foldl (fun a s => if s.u = u /\ inW w u = true then s.m else a) a) from hs l _ h (QcE w u)
 intro l
 induction l with
 | nil => intro a _ h; exact h
 | cons s l ih =>
  intro a hl ha
  rw [List.foldl_cons]
  refine ih _ (fun t ht => hl t (by simp [ht])) ?_
  split
  ·exact hl s Wf
  ·exact ha
theorem CK {w : Qo} {l : List StepT} {t : TermT} {c : Int} (hl : GX w l) (h : Kj (Ze w l t.u) t.m = 0) : Yj w l t c = none :=
 KI (.inr (by rw [GU, NA (Nd hl _).i64, <- NP]; exact h))
theorem CL {w : Qo} {l : List StepT} {t : TermT} {c : Int} (h : Sg (Ze w l t.u) t.m = 0) : Yj w l t c = none :=
 KI (.inl (by rw [GU]; exact h))
theorem CM {w : Qo} {l : List StepT} {t : TermT} {c : Int} (hl : GX w l) (h0 : ¬ c < 0) (h1 : ¬ Kj (Ze w l t.u) t.m = 0) (h2 : ¬ Sg (Ze w l t.u) t.m = 0) : Yj w l t c = some (l ++ [⟨t.u, Sg (Ze w l t.u) t.m, Y3 l, c⟩]) := by
 have hin : inW w t.u = true := by
  cases hw : inW w t.u
  ·rw [RM hw] at h1
   exact absurd (NP.2 fun i hi => by rw [Lt] at hi; cases hi) h1
  ·rfl
 rw [PF h0 hin (by rw [GU]; exact h2) (by rw [GU, NA (Nd hl _).i64, <- NP]; exact h1), GU]
theorem F5 {w : Qo} {l : List StepT} {u p : Int} (h : (u < 0 \/ (w.length : Int) <= u) \/ p < 0) : YE w l u p = none := by
 unfold YE
 split
 ·rfl
 ·rename_i x hx
  rcases h with h | h
  ·rw [Lw h] at hx; cases hx
  ·rw [if_pos (.inl h)]
theorem DU {w : Qo} {l : List StepT} {u p : Int} (h0 : 0 <= u) (h1 : u < w.length) (h : ((w[u.toNat]'Wa).cs.length : Int) <= p) : YE w l u p = none := by
 rw [YE, DH h0 h1]
 simp only []
 rw [if_pos (.inr h)]
def Qcu (l : List StepT) (u p : Int) : StepT := ⟨u, IntKind.i64.wrap (2 * 2 ^ min p.toNat 64), IntKind.i64.wrap (Y3 l + 1), -1⟩
theorem CJ {w : Qo} {l : List StepT} {u p : Int} (h : KV w l (Qcu l u p) = false) : YE w l u p = none := by
 unfold YE
 split
 ·rfl
 ·split
  ·rfl
  ·simp only [Qcu] at h
   rw [if_neg (by rw [h]; simp)]
theorem DV {w : Qo} {l : List StepT} {u p : Int} (h0 : 0 <= u) (h1 : u < w.length) (h2 : ¬ p < 0) (h3 : ¬ ((w[u.toNat]'Wa).cs.length : Int) <= p) (h : KV w l (Qcu l u p) = true) : YE w l u p = some (l ++ [Qcu l u p]) := by
 rw [YE, DH h0 h1]
 simp only []
 rw [if_neg Wa]
 simp only [Qcu] at h ⊢
 rw [if_pos h]
theorem KX {h : Int -> Int} {inc : List TermT} {a : Int} {i : Nat} (hi : i < inc.length) : XB h (inc.drop i) a = if J9 (h inc[i].u) inc[i].m = 0 then -1 else if J9 (h inc[i].u) inc[i].m = 1 then (if 0 <= a then -1 else XB h (inc.drop (i + 1)) inc[i].u) else XB h (inc.drop (i + 1)) a := by
 rw [QgI hi, XB]
theorem S7 {h : Int -> Int} {inc : List TermT} {a : Int} {i : Nat} (hi : inc.length <= i) : XB h (inc.drop i) a = a := by
 rw [QgM hi, XB]
theorem Ll {w : Qo} {l : List StepT} {db : List (List TermT)} {i : Nat} (hi : i < db.length) : Xg w l i (db.drop i) = if GQ w l db[i] = true then ((i : Int), -1) else if 0 <= MV w l db[i] then ((i : Int), MV w l db[i]) else Xg w l (i + 1) (db.drop (i + 1)) := by
 rw [QgI hi, Xg]
theorem Qbn {w : Qo} {l : List StepT} {db : List (List TermT)} {i : Nat} (hi : db.length <= i) : Xg w l i (db.drop i) = (-1, -1) := by
 rw [QgM hi, Xg]
theorem DA (w : Qo) (l : List StepT) : ∀ (db : List (List TermT)) (i : Nat), (Xg w l i db = (-1, -1)) \/ ∃ k, i <= k /\ ∃ hk : k - i < db.length, (Xg w l i db = ((k : Int), -1) /\ GQ w l db[k - i] = true) \/ (GQ w l db[k - i] = false /\ 0 <= MV w l db[k - i] /\ Xg w l i db = ((k : Int), MV w l db[k - i]))
 | [], i => .inl rfl
 | x :: db, i => by
  rw [Xg]
  by_cases h1 : GQ w l x = true
  ·rw [if_pos h1]; exact .inr ⟨i, Nat.le_refl _, by simp, .inl ⟨rfl, by simpa using h1⟩⟩
  ·rw [if_neg h1]
   by_cases h2 : 0 <= MV w l x
   ·rw [if_pos h2]; exact .inr ⟨i, Nat.le_refl _, by simp, .inr ⟨by simpa using h1, by simpa using h2, by simp⟩⟩
   ·rw [if_neg h2]
    rcases DA w l db (i + 1) with h | ⟨k, hk, hlt, h⟩
    ·exact .inl h
    ·refine .inr ⟨k, Wa, by simp only [List.length_cons]; omega, ?_⟩
     have e : (x :: db)[k - i]'(by simp only [List.length_cons]; omega) = db[k - (i + 1)] := by
      obtain ⟨j, hj⟩ : ∃ j, k - i = j + 1 := ⟨k - i - 1, Wa⟩
      simp only [hj, List.getElem_cons_succ]
      congr 1; omega
     rw [e]; exact h
theorem Ti {w : Qo} {l : List StepT} {db : List (List TermT)} (h : ¬ (Yt w db l).2 < 0) : 0 <= (Yt w db l).1 /\ (Yt w db l).1 < db.length := by
 unfold Yt at h ⊢
 rcases DA w l db 0 with e | ⟨k, _, hk, ⟨e, _⟩ | ⟨_, _, e⟩⟩
 ·rw [e] at h; simp at h
 ·rw [e] at h; simp at h
 ·rw [e]; simp only; omega
theorem Cc {w : Qo} {db : List (List TermT)} {n : Nat} {out : List StepT} (h : (Yt w db out).2 < 0) (hn : 0 < n) : NK w db n out = (out, (Yt w db out).1) := by
 obtain ⟨m, rfl⟩ : ∃ m, n = m + 1 := ⟨n - 1, Wa⟩
 rw [NK, if_pos h]
theorem Qbl {w : Qo} {db : List (List TermT)} {n : Nat} {out : List StepT} (h : ¬ (Yt w db out).2 < 0) (hn : 0 < n) (hd : (Yt w db out).1.toNat < db.length) : NK w db n out = NK w db (n - 1) ((Yj w out ⟨(Yt w db out).2, Fy w db[(Yt w db out).1.toNat] (Yt w db out).2⟩ (Yt w db out).1).getD []) := by
 obtain ⟨m, rfl⟩ : ∃ m, n = m + 1 := ⟨n - 1, Wa⟩
 rw [NK, if_neg h, List.getD_eq_getElem?_getD, List.getElem?_eq_getElem hd]; rfl
end M25
namespace Go.Proofs
open Go Go.Abs M3 M25
theorem Z5 {w : Qo} (hw : WSm w) {l : List StepT} (hl : l.length <= 10000000) {u : Int} : Ok Tryz.prog 29 [Yb w, Zj l, .int .i64 u] (.int .i64 (Ze w l u)) := by
 refine Ok.ofT ZR Tryz.func29 Qff (Qgr Z) ?_
 show TW _ _ tf29.body _ _
 refine Qb fun K hK => Zx Z Z Z (Qa Z (kc3 hK Z Z Z ?_))
 refine QA ?_ -- 0
 refine Qb fun K hK => Qa Z ?_
 first | refine QL rfl QP ?_ | refine QL rfl rfl ?_
 refine Xu Z Z Wc (Qa Z (kc4 hK Z Z Z Z ?_))
 refine Qy ?_
 refine Zq (ι := Nat) (fun i => ⟨[(1, Zj l), (2, .int .i64 u), (3, .ref 3 0 0), (7, .int .i64 ((i : Int) - 1))], [(3, ⟨[[.sl ((w).map YQ)]], 1, 28, true⟩)]⟩) (fun i => i <= l.length /\ Ze w l u = Ze w (l.take i) u) (fun i => i) l.length ?_ ?_ ?_
 ·exact Q3 (l := [1, 2, 3, 7]) (lH := [3]) (kp4 rfl rfl rfl rfl) (Qc rfl Ql) rfl rfl rfl
 ·exact ⟨Nat.le_refl _, by rw [List.take_length]⟩
 intro i hI
 try dsimp only
 refine QA ?_ -- 1
 refine Qb fun K hK => Qa Z (Mf Z Z (kc5 hK Z Z Z Z Z ?_))
 refine Qs Z (fun h1 => ?_) (fun h1 => ?_)
 ·try rw [h1]
  try simp only [qA] at h1
  refine Qr (ks4 Z Z Z Z ?_)
  refine QA ?_ -- 2
  refine Qy (Qb fun K hK => mv2 Z Z (QF Z Z Z Wa (ZM Wa Wa) Z (Q2 Z Z (Qx Z Z Z (Qa Z (ZG Z Z (Qa Z ?_)))))))
  refine Qu (g := 22) Z (fun h2 => ?_) (fun h2 => ?_)
  ·try rw [h2]
   try simp only [qA] at h2
   refine Qd Z (Qa Z (Qd Z (Mf Z Z (Qh Z Z (Qa Z ?_)))))
   refine Qu (g := 26) Z (fun h3 => ?_) (fun h3 => ?_)
   ·try rw [h3]
    try simp only [qA] at h3
    refine Qd Z (Qa Z (Qd Z (Qf Z Z (Qd Z (Qx Z Z Z (Qd Z ?_))))))
    first | refine QL rfl QP ?_ | refine QL rfl rfl ?_
    refine Qd Z (Yg Z Z (Qh Z Z (kc5 hK Z Z Z Z Z ?_)))
    refine Qs Z (fun h4 => ?_) (fun h4 => ?_)
    ·try rw [h4]
     try simp only [qA] at h4
     refine Qb fun K hK => mv2 Z Z (QF Z Z Z Wa (ZM Wa Wa) Z (Q2 Z Z (Qx Z Z Z (Qa Z (kc1 hK Z ?_)))))
     refine Qq (Qp (Qg (Q0 (Qp (Qg (QC Z ?_))))))
     rw [hI.2, QaY (k := ((i : Int) - 1).toNat) Wa Wa h2 (MG Wa Wa)]
    ·try rw [h4]
     try simp only [qA] at h4
     refine Qr (Qe (ks4 Z Z Z Z (QI fun K hK => Qa Z (Xu Z Z Wc (Qa Z (hK _ ?_))))))
     refine Qi (i - 1) ?_ ?_ ?_
     ·exact Q3 (l := [1, 2, 3, 7]) (lH := [3]) (kp4 rfl rfl rfl rfl) (Qc rfl Ql) (by simp only [List.cons.injEq, Prod.mk.injEq, D.int.injEq, and_true, true_and]; omega) rfl rfl
     ·exact ⟨Wa, by rw [hI.2, MM (k := ((i : Int) - 1).toNat) Wa Wa (by first | exact .inl h2 | exact .inr (.inl h3) | exact .inr (.inr h4))]⟩
     ·first | omega | (simp only; omega) | (dsimp only; omega)
   ·try rw [h3]
    try simp only [qA] at h3
    refine gn4 Z Z Z Z (Y7 Z (Qh Z Z (kc5 hK Z Z Z Z Z ?_)))
    refine ZU Z (Qr (Qe (ks4 Z Z Z Z (QI fun K hK => Qa Z (Xu Z Z Wc (Qa Z (hK _ ?_)))))))
    refine Qi (i - 1) ?_ ?_ ?_
    ·exact Q3 (l := [1, 2, 3, 7]) (lH := [3]) (kp4 rfl rfl rfl rfl) (Qc rfl Ql) (by simp only [List.cons.injEq, Prod.mk.injEq, D.int.injEq, and_true, true_and]; omega) rfl rfl
    ·exact ⟨Wa, by rw [hI.2, MM (k := ((i : Int) - 1).toNat) Wa Wa (by first | exact .inl h2 | exact .inr (.inl h3) | exact .inr (.inr h4))]⟩
    ·first | omega | (simp only; omega) | (dsimp only; omega)
  ·try rw [h2]
   try simp only [qA] at h2
   refine gn2 Z Z (Qh Z Z (Qa Z (gn4 Z Z Z Z (Y7 Z (Qh Z Z (kc5 hK Z Z Z Z Z ?_))))))
   refine ZU Z (Qr (Qe (ks4 Z Z Z Z (QI fun K hK => Qa Z (Xu Z Z Wc (Qa Z (hK _ ?_)))))))
   refine Qi (i - 1) ?_ ?_ ?_
   ·exact Q3 (l := [1, 2, 3, 7]) (lH := [3]) (kp4 rfl rfl rfl rfl) (Qc rfl Ql) (by simp only [List.cons.injEq, Prod.mk.injEq, D.int.injEq, and_true, true_and]; omega) rfl rfl
   ·exact ⟨Wa, by rw [hI.2, MM (k := ((i : Int) - 1).toNat) Wa Wa (by first | exact .inl h2 | exact .inr (.inl h3) | exact .inr (.inr h4))]⟩
   ·first | omega | (simp only; omega) | (dsimp only; omega)
 ·try rw [h1]
  try simp only [qA] at h1
  refine Zh (QH (Qw (QE (ks2 Z Z (Qb fun K hK => QB (cs := [_]) Z Z Z Z (Qa Z (Qt (ZP hw) Z Z (.inr Z) (Qa Z (kc1 hK Z ?_)))))))))
  refine Qq (QC Z ?_)
  rw [hI.2, show i = 0 by omega]; rfl
theorem Yl {l : List StepT} (hl : l.length <= 10000000) : Ok Tryz.prog 37 [Zj l] (.int .i64 (Y3 l)) := by
 refine Ok.ofT ZR Tryz.func37 Qfn (Qgr Z) ?_
 show TW _ _ tf37.body _ _
 refine Qb fun K hK => Qa Z (kc1 hK Z ?_)
 refine QA ?_ -- 0
 refine Qb fun K hK => Qa Z ?_
 first | refine QL rfl QP ?_ | refine QL rfl rfl ?_
 refine ZG Z Z (kc2 hK Z Z ?_)
 refine Qs Z (fun h1 => ?_) (fun h1 => ?_)
 ·try rw [h1]
  try simp only [qA] at h1
  refine Qb fun K hK => Qa Z (kc1 hK Z ?_)
  refine Qq (Qg (QC Z ?_))
  rw [SS h1]
 ·try rw [h1]
  try simp only [qA] at h1
  refine Qr (ks1 Z (Qb fun K hK => mv2 Z Z ?_))
  first | refine QL rfl QP ?_ | refine QL rfl rfl ?_
  refine Xu Z Z Wc (QF Z Z Z Wa (ZM Wa Wa) Z (Q2 Z Z (Qx Z Z Z (Qa Z (kc1 hK Z ?_)))))
  refine Qq (QC Z ?_)
  rw [Da (k := ((l.length : Int) - 1).toNat) Wa]
theorem KE {l : List StepT} (hl : l.length <= 10000000) {u : Int} : Ok Tryz.prog 65 [Zj l, .int .i64 u] (.bool (Xe l u)) := by
 refine Ok.ofT ZR Tryz.func65 QfP (Qgr Z) ?_
 show TW _ _ tf65.body _ _
 refine Qb fun K hK => Qa Z (kc2 hK Z Z ?_)
 refine QA ?_ -- 0
 refine Qb fun K hK => Qa Z (kc3 hK Z Z Z ?_)
 refine Qy ?_
 refine Zq (ι := Nat) (fun i => ⟨[(0, Zj l), (1, .int .i64 u), (5, .int .i64 i)], []⟩) (fun i => i <= l.length /\ (l.take i).any (fun s => decide (s.u = u) && decide (s.c = -1)) = false) (fun i => l.length - i) 0 ?_ ?_ ?_
 ·exact Za (kp3 rfl rfl rfl)
 ·exact ⟨QgD _, by simp⟩
 intro i hI
 try dsimp only
 refine QA ?_ -- 1
 refine Qb fun K hK => mv2 Z Z ?_
 first | refine QL rfl QP ?_ | refine QL rfl rfl ?_
 refine Yg Z Z (kc4 hK Z Z Z Z ?_)
 refine Qs Z (fun h1 => ?_) (fun h1 => ?_)
 ·try rw [h1]
  try simp only [qA] at h1
  refine Qr (ks3 Z Z Z ?_)
  refine QA ?_ -- 2
  refine Qy (Qb fun K hK => mv2 Z Z (QF Z Z Z Wa (QO Wa) Z (Q2 Z Z (Qx Z Z Z (Qa Z (ZG Z Z (Qa Z ?_)))))))
  refine Qu (g := 19) Z (fun h2 => ?_) (fun h2 => ?_)
  ·try rw [h2]
   try simp only [qA] at h2
   refine Qd Z (Qa Z (Qd Z (Qa Z (Qd Z (QF Z Z Z Wa (QO Wa) Z (Qd Z (Q2 Z Z (Qd Z (Qx Z Z Z (Qd Z (ZG Z Z ?_)))))))))))
   refine Qh Z Z (kc4 hK Z Z Z Z ?_)
   refine Qs Z (fun h3 => ?_) (fun h3 => ?_)
   ·try rw [h3]
    try simp only [qA] at h3
    refine Qb fun K hK => Qa Z (kc1 hK Z ?_)
    refine Qq (Qp (Qg (Q0 (Qp (Qg (Qn Z ?_))))))
    rw [Xe, Ri (i := i) Wa (by simp [h2, h3])]
   ·try rw [h3]
    try simp only [qA] at h3
    refine Qr (Qe (ks3 Z Z Z (QI fun K hK => Qa Z (QZ Z Z Wc (Qa Z (hK _ ?_))))))
    refine Qi (i + 1) ?_ ?_ ?_
    ·exact Za (kp3 rfl rfl rfl)
    ·exact ⟨Wa, PA Wa hI.2 (by first | (simp [h2, h3]; done) | (simp [h2]; done))⟩
    ·first | omega | (simp only; omega) | (dsimp only; omega)
  ·try rw [h2]
   try simp only [qA] at h2
   refine gn4 Z Z Z Z (gn2 Z Z (Qh Z Z (kc4 hK Z Z Z Z ?_)))
   refine ZU Z (Qr (Qe (ks3 Z Z Z (QI fun K hK => Qa Z (QZ Z Z Wc (Qa Z (hK _ ?_)))))))
   refine Qi (i + 1) ?_ ?_ ?_
   ·exact Za (kp3 rfl rfl rfl)
   ·exact ⟨Wa, PA Wa hI.2 (by first | (simp [h2, h3]; done) | (simp [h2]; done))⟩
   ·first | omega | (simp only; omega) | (dsimp only; omega)
 ·try rw [h1]
  try simp only [qA] at h1
  refine Zh (QH (Qw (QE (Zf (ZC) (Qb fun K hK => Qa Z (kc1 hK Z ?_))))))
  refine Qq (Qn Z ?_)
  rw [Xe, Cv (i := i) Wa hI.2]
theorem Ho {m : Int} : Ok Tryz.prog 64 [.int .i64 m] (.int .i64 (X7 m)) := by
 refine Ok.ofT ZR Tryz.func64 QfO (Qgr Z) ?_
 show TW _ _ tf64.body _ _
 refine Qb fun K hK => Qa Z (kc1 hK Z ?_)
 refine Qb fun K hK => Qa Z (Qt (X9) Z Z (.inl Z) (Qa Z (kc1 hK Z ?_)))
 refine QA ?_ -- 0
 refine Qb fun K hK => Qa Z ?_
 first | refine QL rfl QP ?_ | refine QL rfl rfl ?_
 refine X5 Z Z (kc2 hK Z Z ?_)
 refine Qs Z (fun h1 => ?_) (fun h1 => ?_)
 ·try rw [h1]
  try simp only [qA] at h1
  refine Qb fun K hK => Qa Z (kc1 hK Z ?_)
  refine Qq (Qg (QC Z ?_))
  rw [Qbe h1]
 ·try rw [h1]
  try simp only [qA] at h1
  refine Qr (ks1 Z (Qb fun K hK => Qa Z (QF Z Z Z Wa (ZM Wa Wa) Z (Qx Z Z Z (Qa Z (kc1 hK Z ?_))))))
  refine Qq (QC Z ?_)
  rw [BH h1]
theorem Gp {w : Qo} (hw : WSm w) {l : List StepT} (hl : l.length <= 10000000) {s : StepT} : Ok Tryz.prog 38 [Yb w, Zj l, .agg (Gt s)] (.bool (KV w l s)) := by
 refine Ok.ofT ZR Tryz.func38 Qfo (Qgr Z) ?_
 show TW _ _ tf38.body _ _
 refine Qb fun K hK => Zx Z Z Z (Zx Z Z Z (Qa Z (kc3 hK Z Z Z ?_)))
 refine QA ?_ -- 0
 refine Qb fun K hK => Qf Z Z (Qx Z Z Z (Yg Z Z (Qa Z ?_)))
 refine Qu (g := 11) Z (fun h1 => ?_) (fun h1 => ?_)
 ·try rw [h1]
  try simp only [qA] at h1
  refine gn4 Z Z Z Z (gn2 Z Z (Qh Z Z (Qa Z (gn3 Z Z Z (Qh Z Z ?_)))))
  refine kc4 hK Z Z Z Z ?_
  refine Zr Z (Qb fun K hK => Qa Z (kc1 hK Z ?_))
  refine Qq (Qg (Qn Z ?_))
  (repeat clear hK K); first | (rw [Xh Wa]; done) | (rw [Z3 Wa Wa Wa]; simp_all; done) | (rw [Z3 Wa Wa Wa]; simp_all; omega)
 ·try rw [h1]
  try simp only [qA] at h1
  refine Qd Z (Qf Z Z (Qd Z (Qx Z Z Z (Qd Z (Qf Z Z (Qd Z (Qx Z Z Z (Qd Z ?_))))))))
  first | refine QL rfl QP ?_ | refine QL rfl rfl ?_
  refine Qd Z (Mf Z Z (Qh Z Z (Qa Z ?_)))
  refine Qu (g := 19) Z (fun h2 => ?_) (fun h2 => ?_)
  ·try rw [h2]
   try simp only [qA] at h2
   refine gn3 Z Z Z (Qh Z Z (kc4 hK Z Z Z Z ?_))
   refine Zr Z (Qb fun K hK => Qa Z (kc1 hK Z ?_))
   refine Qq (Qg (Qn Z ?_))
   (repeat clear hK K); first | (rw [Xh Wa]; done) | (rw [Z3 Wa Wa Wa]; simp_all; done) | (rw [Z3 Wa Wa Wa]; simp_all; omega)
  ·try rw [h2]
   try simp only [qA] at h2
   refine Qd Z (Qf Z Z (Qd Z (Qx Z Z Z (Qd Z (Yg Z Z (Qh Z Z (kc4 hK Z Z Z Z ?_)))))))
   refine Qs Z (fun h3 => ?_) (fun h3 => ?_)
   ·try rw [h3]
    try simp only [qA] at h3
    refine Qb fun K hK => Qa Z (kc1 hK Z ?_)
    refine Qq (Qg (Qn Z ?_))
    (repeat clear hK K); first | (rw [Xh Wa]; done) | (rw [Z3 Wa Wa Wa]; simp_all; done) | (rw [Z3 Wa Wa Wa]; simp_all; omega)
   ·try rw [h3]
    try simp only [qA] at h3
    refine Qr (ks3 Z Z Z (Qb fun K hK => QB (cs := [_]) Z Z Z Z (Qa Z (Qf Z Z (Qx Z Z Z (Qt (Z5 hw hl) Z Z (.inr Z) (Qa Z (kc3 hK Z Z Z ?_))))))))
    refine QA ?_ -- 1
    refine Qb fun K hK => Qf Z Z (Qx Z Z Z (ZG Z Z (kc4 hK Z Z Z Z ?_)))
    refine Qs Z (fun h4 => ?_) (fun h4 => ?_)
    ·try rw [h4]
     try simp only [qA] at h4
     refine Qb fun K hK => Qf Z Z (QM (ds0 := [26, 25, 24, 23, 22, 21, 20, 19, 18, 17, 16, 15, 14, 13, 12, 11, 10, 9, 8, 7, 6, 5, 4, 3, 2, 1, 0]) Z Z Z Z Z (QS (ds0 := [25, 24, 23, 22, 21, 20, 19, 18, 17, 16, 15, 14, 13, 12, 11, 10, 9, 8, 7, 6, 5, 4, 3, 2, 1, 0]) (Ho) Z Z (.inr Z) Z Z (Mf Z Z (Qa Z ?_))))
     refine Qu (g := 36) Z (fun h5 => ?_) (fun h5 => ?_)
     ·try rw [h5]
      try simp only [qA] at h5
      refine Qd Z (Qf Z Z (Qd Z (QM (ds0 := [20, 17, 16, 15, 14, 13, 12, 11, 10, 9, 8, 7, 6, 5, 4, 3, 2, 1, 0]) Z Z Z Z Z (Qd Z (Qa Z (Qd Z (GY Z Z (Qd Z (Qf Z Z (Qd Z (QM (ds0 := [17, 16, 15, 14, 13, 12, 11, 10, 9, 8, 7, 6, 5, 4, 3, 2, 1, 0]) Z Z Z Z Z ?_)))))))))))
      refine Qd Z (ZG Z Z (Qh Z Z (Qa Z ?_)))
      refine Qu (g := 45) Z (fun h6 => ?_) (fun h6 => ?_)
      ·try rw [h6]
       try simp only [qA] at h6
       refine Qd Z (Qa Z (Qd Z (Qf Z Z (Qd Z (QM (ds0 := [11, 10, 9, 8, 7, 6, 5, 4, 3, 2, 1, 0]) Z Z Z Z Z (Qd Z (QS (ds0 := [10, 9, 8, 7, 6, 5, 4, 3, 2, 1, 0]) (KE hl) Z Z (.inr Z) Z Z (Qd Z (Z9 Z (Qh Z Z (Qa Z ?_)))))))))))
       refine Qu (g := 52) Z (fun h7 => ?_) (fun h7 => ?_)
       ·try rw [h7]
        try simp only [qA] at h7
        refine Qd Z (Qf Z Z (Qd Z (QM (ds0 := [2, 1, 0]) Z Z Z Z Z (Qd Z (Qa Z (Qd Z (QS (ds0 := [3, 2, 1, 0]) (Yl hl) Z Z (.inr Z) Z Z (Qd Z (QZ Z Z Z (Qd Z (ZG Z Z ?_)))))))))))
        refine Qh Z Z (Qa Z (kc1 hK Z ?_))
        refine Qq (Qg (Qn Z ?_))
        (repeat clear hK K); first | (rw [Xh Wa]; done) | (rw [Z3 Wa Wa Wa]; simp_all; done) | (rw [Z3 Wa Wa Wa]; simp_all; omega)
       ·try rw [h7]
        try simp only [qA] at h7
        refine gn4 Z Z Z Z (gn2 Z Z (Qh Z Z (Qa Z (kc1 hK Z ?_))))
        refine Qq (Qg (Qn Z ?_))
        (repeat clear hK K); first | (rw [Xh Wa]; done) | (rw [Z3 Wa Wa Wa]; simp_all; done) | (rw [Z3 Wa Wa Wa]; simp_all; omega)
      ·try rw [h6]
       try simp only [qA] at h6
       refine gn4 Z Z Z Z (Y7 Z (Qh Z Z (Qa Z (gn4 Z Z Z Z (Y7 Z ?_)))))
       refine Y7 Z (Qh Z Z (Qa Z (kc1 hK Z ?_)))
       refine Qq (Qg (Qn Z ?_))
       (repeat clear hK K); first | (rw [Xh Wa]; done) | (rw [Z3 Wa Wa Wa]; simp_all; done) | (rw [Z3 Wa Wa Wa]; simp_all; omega)
     ·try rw [h5]
      try simp only [qA] at h5
      refine gn4 Z Z Z Z (gn3 Z Z Z (Qh Z Z (Qa Z (gn3 Z Z Z ?_))))
      refine gn2 Z Z (Qh Z Z (Qa Z (gn4 Z Z Z Z (gn2 Z Z (Qh Z Z (Qa Z ?_))))))
      refine kc1 hK Z ?_
      refine Qq (Qg (Qn Z ?_))
      (repeat clear hK K); first | (rw [Xh Wa]; done) | (rw [Z3 Wa Wa Wa]; simp_all; done) | (rw [Z3 Wa Wa Wa]; simp_all; omega)
    ·try rw [h4]
     try simp only [qA] at h4
     refine Qr (ks3 Z Z Z (Qb fun K hK => Qf Z Z (QM (ds0 := [23, 22, 21, 20, 19, 18, 17, 16, 15, 14, 13, 12, 11, 10, 9, 8, 7, 6, 5, 4, 3, 2, 1, 0]) Z Z Z Z Z (X5 Z Z (Qa Z ?_)))))
     refine Qu (g := 63) Z (fun h8 => ?_) (fun h8 => ?_)
     ·try rw [h8]
      try simp only [qA] at h8
      refine Qd Z (Qf Z Z (Qd Z (QM (ds0 := [18, 15, 14, 13, 12, 11, 10, 9, 8, 7, 6, 5, 4, 3, 2, 1, 0]) Z Z Z Z Z (Qd Z (Qa Z (Qd Z (GY Z Z (Qd Z (Qf Z Z (Qd Z (QM (ds0 := [15, 14, 13, 12, 11, 10, 9, 8, 7, 6, 5, 4, 3, 2, 1, 0]) Z Z Z Z Z ?_)))))))))))
      refine Qd Z (ZG Z Z (Qh Z Z (Qa Z ?_)))
      refine Qu (g := 72) Z (fun h9 => ?_) (fun h9 => ?_)
      ·try rw [h9]
       try simp only [qA] at h9
       refine Qd Z (Qf Z Z (Qd Z (QM (ds0 := [9, 8, 7, 6, 5, 4, 3, 2, 1, 0]) Z Z Z Z Z (Qd Z (Qa Z (Qd Z (X5 Z Z (Qh Z Z (Qa Z ?_)))))))))
       refine Qu (g := 78) Z (fun h10 => ?_) (fun h10 => ?_)
       ·try rw [h10]
        try simp only [qA] at h10
        refine Qd Z (Qf Z Z (Qd Z (QM (ds0 := [2, 1, 0]) Z Z Z Z Z (Qd Z (Qa Z (Qd Z (QS (ds0 := [2, 1, 0]) (Yl hl) Z Z (.inr Z) Z Z (Qd Z (ZG Z Z (Qh Z Z (Qa Z ?_)))))))))))
        refine kc1 hK Z ?_
        refine Qq (Qn Z ?_)
        (repeat clear hK K); first | (rw [Xh Wa]; done) | (rw [Z3 Wa Wa Wa]; simp_all; done) | (rw [Z3 Wa Wa Wa]; simp_all; omega)
       ·try rw [h10]
        try simp only [qA] at h10
        refine gn4 Z Z Z Z (Y7 Z (Qh Z Z (Qa Z (kc1 hK Z ?_))))
        refine Qq (Qn Z ?_)
        (repeat clear hK K); first | (rw [Xh Wa]; done) | (rw [Z3 Wa Wa Wa]; simp_all; done) | (rw [Z3 Wa Wa Wa]; simp_all; omega)
      ·try rw [h9]
       try simp only [qA] at h9
       refine gn4 Z Z Z Z (Qh Z Z (Qa Z (gn4 Z Z Z Z (Y7 Z (Qh Z Z ?_)))))
       refine Qa Z (kc1 hK Z ?_)
       refine Qq (Qn Z ?_)
       (repeat clear hK K); first | (rw [Xh Wa]; done) | (rw [Z3 Wa Wa Wa]; simp_all; done) | (rw [Z3 Wa Wa Wa]; simp_all; omega)
     ·try rw [h8]
      try simp only [qA] at h8
      refine gn4 Z Z Z Z (gn3 Z Z Z (Qh Z Z (Qa Z (gn3 Z Z Z ?_))))
      refine Y7 Z (Qh Z Z (Qa Z (gn4 Z Z Z Z (Y7 Z (Qh Z Z (Qa Z (kc1 hK Z ?_)))))))
      refine Qq (Qn Z ?_)
      (repeat clear hK K); first | (rw [Xh Wa]; done) | (rw [Z3 Wa Wa Wa]; simp_all; done) | (rw [Z3 Wa Wa Wa]; simp_all; omega)
theorem XK {w : Qo} (hw : WSm w) {l : List StepT} (hl : l.length <= 10000000) {t : TermT} {c : Int} : Ok Tryz.prog 13 [Yb w, Zj l, .agg (GL t), .int .i64 c] (dOS (Yj w l t c)) := by
 refine Ok.ofT ZR Tryz.func13 QeZ (Qgr Z) ?_
 show TW _ _ tf13.body _ _
 refine Qb fun K hK => Zx Z Z Z (Zx Z Z Z (mv2 Z Z (kc4 hK Z Z Z Z ?_)))
 refine QA ?_ -- 0
 refine Qb fun K hK => Qa Z (Yg Z Z (Qa Z ?_))
 refine Qu (g := 14) Z (fun h1 => ?_) (fun h1 => ?_)
 ·try rw [h1]
  try simp only [qA] at h1
  refine gn3 Z Z Z (Qh Z Z (Qa Z (gn4 Z Z Z Z (gn2 Z Z (Qh Z Z ?_)))))
  refine kc5 hK Z Z Z Z Z ?_
  refine Zr Z (Qb fun K hK => mv2 Z Z (kc2 hK Z Z ?_))
  refine Qq (Qg ?_)
  rw [HW Wa]
  exact QR rfl rfl ⟨rfl, rfl⟩
 ·try rw [h1]
  try simp only [qA] at h1
  refine Qd Z (Qf Z Z (Qd Z (Qx Z Z Z (Qd Z (Yg Z Z (Qh Z Z (Qa Z ?_)))))))
  refine Qu (g := 19) Z (fun h2 => ?_) (fun h2 => ?_)
  ·try rw [h2]
   try simp only [qA] at h2
   refine gn4 Z Z Z Z (gn2 Z Z (Qh Z Z (kc5 hK Z Z Z Z Z ?_)))
   refine Zr Z (Qb fun K hK => mv2 Z Z (kc2 hK Z Z ?_))
   refine Qq (Qg ?_)
   rw [HW Wa]
   exact QR rfl rfl ⟨rfl, rfl⟩
  ·try rw [h2]
   try simp only [qA] at h2
   refine Qd Z (Qf Z Z (Qd Z (Qx Z Z Z (Qd Z (Qf Z Z (Qd Z (Qx Z Z Z (Qd Z ?_))))))))
   first | refine QL rfl QP ?_ | refine QL rfl rfl ?_
   refine Qd Z (Mf Z Z (Qh Z Z (kc5 hK Z Z Z Z Z ?_)))
   refine Qs Z (fun h3 => ?_) (fun h3 => ?_)
   ·try rw [h3]
    try simp only [qA] at h3
    refine Qb fun K hK => mv2 Z Z (kc2 hK Z Z ?_)
    refine Qq (Qg ?_)
    rw [HW Wa]
    exact QR rfl rfl ⟨rfl, rfl⟩
   ·try rw [h3]
    try simp only [qA] at h3
    refine Qr (ks4 Z Z Z Z (Qb fun K hK => QB (cs := [_]) Z Z Z Z (Qa Z (Qf Z Z (Qx Z Z Z (Qt (Z5 hw hl) Z Z (.inr Z) (Qa Z (kc4 hK Z Z Z Z ?_))))))))
    refine Qb fun K hK => Qf Z Z (QM (ds0 := [2, 0]) Z Z Z Z Z (mv2 Z Z (Qf Z Z (QM (ds0 := [7, 6, 2, 0]) Z Z Z Z Z (GY Z Z (Xu Z Z Z (Qa Z (QS (ds0 := [2, 0]) (Yl hl) Z Z (.inr Z) Z Z (Qa Z ?_)))))))))
    refine QQ Z Z (ZI Z (Xb (ds0 := []) Z Z Z Z Z Z Z Z Z Z (kc3 hK Z Z Z ?_)))
    refine QA ?_ -- 1
    refine Qb fun K hK => Qf Z Z (Qx Z Z Z (ZG Z Z (Qa Z ?_)))
    refine Qu (g := 47) Z (fun h4 => ?_) (fun h4 => ?_)
    ·try rw [h4]
     try simp only [qA] at h4
     refine gn4 Z Z Z Z (Qh Z Z (kc3 hK Z Z Z ?_))
     refine Zr Z (Qb fun K hK => mv2 Z Z (kc2 hK Z Z ?_))
     refine Qq (Qg ?_)
     rw [KI (by first | exact .inl h4 | exact .inr h5)]
     exact QR rfl rfl ⟨rfl, rfl⟩
    ·try rw [h4]
     try simp only [qA] at h4
     refine Qd Z (Qf Z Z (Qd Z (Qx Z Z Z (Qd Z (Qa Z (Qd Z (ZG Z Z (Qh Z Z (kc3 hK Z Z Z ?_)))))))))
     refine Qs Z (fun h5 => ?_) (fun h5 => ?_)
     ·try rw [h5]
      try simp only [qA] at h5
      refine Qb fun K hK => mv2 Z Z (kc2 hK Z Z ?_)
      refine Qq (Qg ?_)
      rw [KI (by first | exact .inl h4 | exact .inr h5)]
      exact QR rfl rfl ⟨rfl, rfl⟩
     ·try rw [h5]
      try simp only [qA] at h5
      refine Qr (ks2 Z Z (Qb fun K hK => Qa Z (FT (ds0 := [2, 1]) Z Z (fun _ h => ⟨R6, h⟩) Z (.inl Z) Wf Wh Wh Z Z (QJ (ds0 := [3, 2, 1]) (cs := [_, _, _, _]) Z Z Z Z Z Z (QD Z Z (Hi (ds0 := [1]) Z Z Wn ⟨_, rfl, rfl, rfl, rfl, rfl⟩ Z Z Wf Z Z Wh Wh Z Z (mv2 Z Z (kc2 hK Z Z ?_))))))))
      refine Qq ?_
      rw [PF Wa (MG Wa Wa) h4 h5]
      exact M6 rfl rfl rfl Wf (by simp [Zj, Gt]) rfl rfl
theorem XJ {w : Qo} (hw : WSm w) {l : List StepT} (hl : l.length <= 10000000) {u p : Int} : Ok Tryz.prog 11 [Yb w, Zj l, .int .i64 u, .int .i64 p] (dOS (YE w l u p)) := by
 refine Ok.ofT ZR Tryz.func11 QeX (Qgr Z) ?_
 show TW _ _ tf11.body _ _
 refine Qb fun K hK => Zx Z Z Z (mv2 Z Z (kc4 hK Z Z Z Z ?_))
 refine QA ?_ -- 0
 refine Qb fun K hK => Qa Z (Yg Z Z (Qa Z ?_))
 refine Qu (g := 13) Z (fun h1 => ?_) (fun h1 => ?_)
 ·try rw [h1]
  try simp only [qA] at h1
  refine gn4 Z Z Z Z (Y7 Z (Qh Z Z (Qa Z (gn2 Z Z (Qh Z Z (Qa Z (Y7 Z ?_)))))))
  refine gn4 Z Z Z Z (gn4 Z Z Z Z (Qh Z Z (kc5 hK Z Z Z Z Z ?_)))
  refine Zr Z (Qb fun K hK => mv2 Z Z (kc2 hK Z Z ?_))
  refine Qq (Qg ?_)
  rw [F5 Wa]
  exact QR rfl rfl ⟨rfl, rfl⟩
 ·try rw [h1]
  try simp only [qA] at h1
  refine Qd Z (Qa Z (Qd Z (Qf Z Z (Qd Z (Qx Z Z Z (Qd Z ?_))))))
  first | refine QL rfl QP ?_ | refine QL rfl rfl ?_
  refine Qd Z (Mf Z Z (Qh Z Z (Qa Z ?_)))
  refine Qu (g := 20) Z (fun h2 => ?_) (fun h2 => ?_)
  ·try rw [h2]
   try simp only [qA] at h2
   refine gn2 Z Z (Qh Z Z (Qa Z (gn4 Z Z Z Z (gn4 Z Z Z Z ?_))))
   refine Y7 Z (Qh Z Z (kc5 hK Z Z Z Z Z ?_))
   refine Zr Z (Qb fun K hK => mv2 Z Z (kc2 hK Z Z ?_))
   refine Qq (Qg ?_)
   rw [F5 Wa]
   exact QR rfl rfl ⟨rfl, rfl⟩
  ·try rw [h2]
   try simp only [qA] at h2
   refine Qd Z (Qa Z (Qd Z (Yg Z Z (Qh Z Z (Qa Z ?_)))))
   refine Qu (g := 24) Z (fun h3 => ?_) (fun h3 => ?_)
   ·try rw [h3]
    try simp only [qA] at h3
    refine gn4 Z Z Z Z (gn4 Z Z Z Z (Y7 Z (Qh Z Z (kc5 hK Z Z Z Z Z ?_))))
    refine Zr Z (Qb fun K hK => mv2 Z Z (kc2 hK Z Z ?_))
    refine Qq (Qg ?_)
    rw [F5 Wa]
    exact QR rfl rfl ⟨rfl, rfl⟩
   ·try rw [h3]
    try simp only [qA] at h3
    refine Qd Z (Qa Z (Qd Z (Qf Z Z (Qd Z (Qx Z Z Z (Qd Z (Qa Z (Qd Z (QF Z Z Z Wa (ZM Wa Wa) Z (Qd Z (Q2 Z Z ?_)))))))))))
    refine Qd Z (Qx Z Z Z (Qd Z ?_))
    first | refine QL rfl QP ?_ | refine QL rfl rfl ?_
    refine Qd Z (Mf Z Z (Qh Z Z (kc5 hK Z Z Z Z Z ?_)))
    refine Qs Z (fun h4 => ?_) (fun h4 => ?_)
    ·try rw [h4]
     try simp only [qA] at h4
     refine Qb fun K hK => mv2 Z Z (kc2 hK Z Z ?_)
     refine Qq (Qg ?_)
     rw [DU Wa Wa Wa]
     exact QR rfl rfl ⟨rfl, rfl⟩
    ·try rw [h4]
     try simp only [qA] at h4
     refine Qr (ks4 Z Z Z Z (Qb fun K hK => mv2 Z Z (Sl Z (Mc Wa (by have := hw.cs _ (Qgw (Wa : u.toNat < w.length)); omega)) (Qan Z Z Wa Z (Qa Z (Qt (Yl hl) Z Z (.inr Z) (QZ Z Z Z (QQ Z Z (ZI Z ?_)))))))))
     refine Q4 Z Z Z Z Z Z Z Z (kc3 hK Z Z Z ?_)
     refine QA ?_ -- 1
     refine Qb fun K hK => QB (cs := [_]) Z Z Z Z (Qa Z (QB (cs := [_, _, _, _]) Z Z Z Z (Qt (Gp (s := Qcu l u p) hw hl) Z Z (.inr Z) (Z9 Z (kc3 hK Z Z Z ?_)))))
     refine Qs Z (fun h5 => ?_) (fun h5 => ?_)
     ·try rw [h5]
      try simp only [qA] at h5
      refine Qb fun K hK => mv2 Z Z (kc2 hK Z Z ?_)
      refine Qq (Qg ?_)
      rw [CJ h5]
      exact QR rfl rfl ⟨rfl, rfl⟩
     ·try rw [h5]
      try simp only [qA] at h5
      refine Qr (ks2 Z Z (Qb fun K hK => Qa Z (FT (ds0 := [2, 1]) Z Z (fun _ h => ⟨R6, h⟩) Z (.inl Z) Wf Wh Wh Z Z (QJ (ds0 := [3, 2, 1]) (cs := [_, _, _, _]) Z Z Z Z Z Z (QD Z Z (Hi (ds0 := [1]) Z Z Wn ⟨_, rfl, rfl, rfl, rfl, rfl⟩ Z Z Wf Z Z Wh Wh Z Z (mv2 Z Z (kc2 hK Z Z ?_))))))))
      refine Qq ?_
      rw [DV Wa Wa Wa Wa h5]
      exact M6 rfl rfl rfl Wf (by simp [Zj, Gt, Qcu]; rfl) rfl rfl
theorem Gm {w : Qo} (hw : WSm w) {l : List StepT} (hl : l.length <= 10000000) {inc : List TermT} (hi : inc.length <= 1000000) : Ok Tryz.prog 78 [Yb w, Zj l, ZL inc] (.bool (GQ w l inc)) := by
 refine Ok.ofT ZR Tryz.func78 Qf2 (Qgr Z) ?_
 show TW _ _ tf78.body _ _
 refine Qb fun K hK => Zx Z Z Z (Qa Z (kc3 hK Z Z Z ?_))
 refine QA ?_ -- 0
 refine Qb fun K hK => Qa Z (kc4 hK Z Z Z Z ?_)
 refine Qy ?_
 refine Zq (ι := Nat) (fun i => ⟨[(1, Zj l), (2, ZL inc), (3, .ref 3 0 0), (7, .int .i64 i)], [(3, ⟨[[.sl ((w).map YQ)]], 1, 28, true⟩)]⟩) (fun i => i <= inc.length /\ (inc.take i).all (fun t => decide (J9 (Ze w l t.u) t.m = 2)) = true) (fun i => inc.length - i) 0 ?_ ?_ ?_
 ·exact Q3 (l := [1, 2, 3, 7]) (lH := [3]) (kp4 rfl rfl rfl rfl) (Qc rfl Ql) rfl rfl rfl
 ·exact ⟨QgD _, by simp⟩
 intro i hI
 try dsimp only
 refine QA ?_ -- 1
 refine Qb fun K hK => mv2 Z Z ?_
 first | refine QL rfl QP ?_ | refine QL rfl rfl ?_
 refine Yg Z Z (kc5 hK Z Z Z Z Z ?_)
 refine Qs Z (fun h1 => ?_) (fun h1 => ?_)
 ·try rw [h1]
  try simp only [qA] at h1
  refine Qr (ks4 Z Z Z Z ?_)
  refine QA ?_ -- 2
  refine Qy (Qb fun K hK => QJ (ds0 := [7, 1, 0]) (cs := [_]) Z Z Z Z Z Z (mv2 Z Z (Qa Z (QF Z Z Z Wa (QO Wa) Z (Q2 Z Z (QM (ds0 := [7, 1, 0]) Z Z Z Z Z (QS (ds0 := [1, 0]) (Z5 hw hl) Z Z (.inr Z) Z Z (mv2 Z Z ?_))))))))
  refine QF Z Z Z Wa (QO Wa) Z (Q2 Z Z (QM (ds0 := [1, 0]) Z Z Z Z Z (QS (ds0 := [0]) (X0) Z Z (.inr Z) Z Z (X5 Z Z (kc5 hK Z Z Z Z Z ?_)))))
  refine Qs Z (fun h2 => ?_) (fun h2 => ?_)
  ·try rw [h2]
   try simp only [qA] at h2
   refine Qb fun K hK => Qa Z (kc1 hK Z ?_)
   refine Qq (Qp (Qg (Q0 (Qp (Qg (Qn Z ?_))))))
   rw [GQ, XX (i := i) Wa (by simpa using h2)]
  ·try rw [h2]
   try simp only [qA] at h2
   refine Qr (Qe (ks4 Z Z Z Z (QI fun K hK => Qa Z (QZ Z Z Wc (Qa Z (hK _ ?_))))))
   refine Qi (i + 1) ?_ ?_ ?_
   ·exact Q3 (l := [1, 2, 3, 7]) (lH := [3]) (kp4 rfl rfl rfl rfl) (Qc rfl Ql) rfl rfl rfl
   ·exact ⟨Wa, Yf Wa hI.2 (by simpa using h2)⟩
   ·first | omega | (simp only; omega) | (dsimp only; omega)
 ·try rw [h1]
  try simp only [qA] at h1
  refine Zh (QH (Qw (QE (Zf (ZC) (Qb fun K hK => Qa Z (kc1 hK Z ?_))))))
  refine Qq (Qn Z ?_)
  rw [GQ, XP (i := i) Wa hI.2]
theorem Gn {w : Qo} (hw : WSm w) {l : List StepT} (hl : l.length <= 10000000) {inc : List TermT} (hi : inc.length <= 1000000) : Ok Tryz.prog 79 [Yb w, Zj l, ZL inc] (.int .i64 (MV w l inc)) := by
 refine Ok.ofT ZR Tryz.func79 Qf3 (Qgr Z) ?_
 show TW _ _ tf79.body _ _
 refine Qb fun K hK => Zx Z Z Z (Qa Z (kc3 hK Z Z Z ?_))
 refine Qb fun K hK => Qa Z (kc4 hK Z Z Z Z ?_)
 refine QA ?_ -- 0
 refine Qb fun K hK => Qa Z (kc5 hK Z Z Z Z Z ?_)
 refine Qy ?_
 refine Zq (ι := Nat × Int) (fun ⟨i, a⟩ => ⟨[(1, Zj l), (2, ZL inc), (3, .ref 3 0 0), (7, .int .i64 a), (8, .int .i64 i)], [(3, ⟨[[.sl ((w).map YQ)]], 1, 28, true⟩)]⟩) (fun ⟨i, a⟩ => i <= inc.length /\ XB (Ze w l) inc (-1) = XB (Ze w l) (inc.drop i) a) (fun ⟨i, a⟩ => inc.length - i) (0, -1) ?_ ?_ ?_
 ·exact Q3 (l := [1, 2, 3, 7, 8]) (lH := [3]) (kp5 rfl rfl rfl rfl rfl) (Qc rfl Ql) rfl rfl rfl
 ·exact ⟨QgD _, by simp⟩
 intro ⟨i, a⟩ hI
 dsimp only at hI
 try dsimp only
 refine QA ?_ -- 1
 refine Qb fun K hK => mv2 Z Z ?_
 first | refine QL rfl QP ?_ | refine QL rfl rfl ?_
 refine Yg Z Z (kc6 hK Z Z Z Z Z Z ?_)
 refine Qs Z (fun h1 => ?_) (fun h1 => ?_)
 ·try rw [h1]
  try simp only [qA] at h1
  refine Qr (ks5 Z Z Z Z Z ?_)
  refine QA ?_ -- 2
  refine Qy (Qb fun K hK => QJ (ds0 := [6, 0]) (cs := [_]) Z Z Z Z Z Z (mv2 Z Z (Qa Z (QF Z Z Z Wa (QO Wa) Z (Q2 Z Z (QM (ds0 := [6, 0]) Z Z Z Z Z (QS (ds0 := [0]) (Z5 hw hl) Z Z (.inr Z) Z Z (mv2 Z Z ?_))))))))
  refine QF Z Z Z Wa (QO Wa) Z (Q2 Z Z (QM (ds0 := [0]) Z Z Z Z Z (QS (ds0 := []) (X0) Z Z (.inr Z) Z Z (kc6 hK Z Z Z Z Z Z ?_))))
  refine Qy (Qb fun K hK => ZG Z Z (Qa Z (kc7 hK Z Z Z Z Z Z Z ?_)))
  refine Qs Z (fun h2 => ?_) (fun h2 => ?_)
  ·try rw [h2]
   try simp only [qA] at h2
   refine Qb fun K hK => Qa Z (kc1 hK Z ?_)
   refine Qq (Qp (Qp (Qg (Q0 (Qp (Qg (QC Z ?_)))))))
   rw [MV, hI.2, KX Wa, if_pos h2]
  ·try rw [h2]
   try simp only [qA] at h2
   refine Qb fun K hK => ZG Z Z (Qa Z (kc6 hK Z Z Z Z Z Z ?_))
   refine Qs Z (fun h3 => ?_) (fun h3 => ?_)
   ·try rw [h3]
    try simp only [qA] at h3
    refine QA ?_ -- 3
    refine Qb fun K hK => Qa Z (Mf Z Z (kc5 hK Z Z Z Z Z ?_))
    refine Qs Z (fun h4 => ?_) (fun h4 => ?_)
    ·try rw [h4]
     try simp only [qA] at h4
     refine Qb fun K hK => Qa Z (kc1 hK Z ?_)
     refine Qq (Qg (Qp (Qp (Qg (Q0 (Qp (Qg (QC Z ?_))))))))
     rw [MV, hI.2, KX Wa, if_neg h2, if_pos h3, if_pos h4]
    ·try rw [h4]
     try simp only [qA] at h4
     refine Qr (ks4 Z Z Z Z (QI fun K hK => mv2 Z Z (QF Z Z Z Wa (QO Wa) Z (Q2 Z Z (Qx Z Z Z (Qa Z (hK _ ?_)))))))
     refine Qe (Qe (ks5 Z Z Z Z Z (QI fun K hK => Qa Z (QZ Z Z Wc (Qa Z (hK _ ?_))))))
     refine Qi (i + 1, (inc[i]'Wa).u) ?_ ?_ ?_
     ·exact Q3 (l := [1, 2, 3, 7, 8]) (lH := [3]) (kp5 rfl rfl rfl rfl rfl) (Qc rfl Ql) rfl rfl rfl
     ·exact ⟨Wa, by rw [hI.2, KX Wa, if_neg h2, if_pos h3, if_neg h4]⟩
     ·show inc.length - (i + 1) < inc.length - i; omega
   ·try rw [h3]
    try simp only [qA] at h3
    refine Qr (Qe (Qe (ks5 Z Z Z Z Z (QI fun K hK => Qa Z (QZ Z Z Wc (Qa Z (hK _ ?_)))))))
    refine Qi (i + 1, a) ?_ ?_ ?_
    ·exact Q3 (l := [1, 2, 3, 7, 8]) (lH := [3]) (kp5 rfl rfl rfl rfl rfl) (Qc rfl Ql) rfl rfl rfl
    ·exact ⟨Wa, by rw [hI.2, KX Wa, if_neg h2, if_neg h3]⟩
    ·show inc.length - (i + 1) < inc.length - i; omega
 ·try rw [h1]
  try simp only [qA] at h1
  refine Zh (QH (Qw (QE (ks1 Z (Qb fun K hK => mv2 Z Z (kc1 hK Z ?_))))))
  refine Qq (QC Z ?_)
  rw [MV, hI.2, S7 Wa]
theorem Gl {w : Qo} (hw : WSm w) {db : List (List TermT)} (hd : db.length <= 100000000) (hi : ∀ x ∈ db, x.length <= 1000000) {l : List StepT} (hl : l.length <= 10000000) : Ok Tryz.prog 53 [Yb w, dDb db, Zj l] (.tup [.int .i64 (Yt w db l).1, .int .i64 (Yt w db l).2]) := by
 refine Ok.ofT ZR Tryz.func53 QfD (Qgr Z) ?_
 show TW _ _ tf53.body _ _
 refine Qb fun K hK => Zx Z Z Z (mv2 Z Z (kc3 hK Z Z Z ?_))
 refine QA ?_ -- 0
 refine Qb fun K hK => Qa Z (kc4 hK Z Z Z Z ?_)
 refine Qy ?_
 refine Zq (ι := Nat) (fun i => ⟨[(1, dDb db), (2, Zj l), (3, .ref 3 0 0), (8, .int .i64 i)], [(3, ⟨[[.sl ((w).map YQ)]], 1, 28, true⟩)]⟩) (fun i => i <= db.length /\ Yt w db l = Xg w l i (db.drop i)) (fun i => db.length - i) 0 ?_ ?_ ?_
 ·exact Q3 (l := [1, 2, 3, 8]) (lH := [3]) (kp4 rfl rfl rfl rfl) (Qc rfl Ql) rfl rfl rfl
 ·exact ⟨QgD _, rfl⟩
 intro i hI
 try dsimp only
 refine QA ?_ -- 1
 refine Qb fun K hK => mv2 Z Z ?_
 first | refine QL rfl QP ?_ | refine QL rfl rfl ?_
 refine Yg Z Z (kc5 hK Z Z Z Z Z ?_)
 refine Qs Z (fun h1 => ?_) (fun h1 => ?_)
 ·try rw [h1]
  try simp only [qA] at h1
  refine Qr (ks4 Z Z Z Z ?_)
  refine QA ?_ -- 2
  refine Qy ?_
  refine QA ?_ -- 3
  refine Qb fun K hK => QJ (ds0 := [0]) (cs := [_]) Z Z Z Z Z Z (mv2 Z Z (Qa Z (QF Z Z Z Wa (QO Wa) Z (QM (ds0 := [0]) Z Z Z Z Z (QS (ds0 := []) (Gm hw hl (hi _ (Qgw Wa))) Z Z (.inr Z) Z Z (kc5 hK Z Z Z Z Z ?_))))))
  refine Qs Z (fun h2 => ?_) (fun h2 => ?_)
  ·try rw [h2]
   try simp only [qA] at h2
   refine Qb fun K hK => mv2 Z Z (Qa Z (kc2 hK Z Z ?_))
   refine Qq (Qg (Qp (Qg (Q0 (Qp (Qg ?_))))))
   rw [hI.2, Ll Wa, if_pos h2]
   exact QR rfl rfl ⟨rfl, rfl⟩
  ·try rw [h2]
   try simp only [qA] at h2
   refine Qr (ks4 Z Z Z Z (Qb fun K hK => QJ (ds0 := [1, 0]) (cs := [_]) Z Z Z Z Z Z (mv2 Z Z (Qa Z (QF Z Z Z Wa (QO Wa) Z (QM (ds0 := [1, 0]) Z Z Z Z Z (QS (ds0 := [0]) (Gn hw hl (hi _ (Qgw Wa))) Z Z (.inr Z) Z Z (Qa Z (kc5 hK Z Z Z Z Z ?_)))))))))
   refine Qb fun K hK => Qa Z (Mf Z Z (kc6 hK Z Z Z Z Z Z ?_))
   refine Qs Z (fun h3 => ?_) (fun h3 => ?_)
   ·try rw [h3]
    try simp only [qA] at h3
    refine Qb fun K hK => mv2 Z Z (mv2 Z Z (kc2 hK Z Z ?_))
    refine Qq (Qp (Qg (Q0 (Qp (Qg ?_)))))
    rw [hI.2, Ll Wa, if_neg (by rw [h2]; simp), if_pos h3]
    exact QR rfl rfl ⟨rfl, rfl⟩
   ·try rw [h3]
    try simp only [qA] at h3
    refine Qr (Qe (ks4 Z Z Z Z (QI fun K hK => Qa Z (QZ Z Z Wc (Qa Z (hK _ ?_))))))
    refine Qi (i + 1) ?_ ?_ ?_
    ·exact Q3 (l := [1, 2, 3, 8]) (lH := [3]) (kp4 rfl rfl rfl rfl) (Qc rfl Ql) rfl rfl rfl
    ·exact ⟨Wa, by rw [hI.2, Ll Wa, if_neg (by rw [h2]; simp), if_neg h3]⟩
    ·first | omega | (simp only; omega) | (dsimp only; omega)
 ·try rw [h1]
  try simp only [qA] at h1
  refine Zh (QH (Qw (QE (Zf (ZC) (Qb fun K hK => mv2 Z Z (kc2 hK Z Z ?_))))))
  refine Qq ?_
  rw [hI.2, Qbn Wa]
  exact QR rfl rfl ⟨rfl, rfl⟩
end Go.Proofs
namespace M25
open Go Go.Abs M3
def Qax (w : Qo) (i : Nat) : List (List TermT) := ((Fu w).take i).map RowT.t
theorem Rr {w : Qo} {i : Nat} (h : i < (Fu w).length) : Qax w (i + 1) = Qax w i ++ [(Fu w)[i].t] := by
 rw [Qax, List.take_succ_eq_append_getElem h, List.map_append]; rfl
theorem QbN {w : Qo} {i : Nat} (h : (Fu w).length <= i) : Qax w i = mDB w := by rw [Qax, QgH h]; rfl
theorem Qay (w : Qo) (i : Nat) : (Qax w i).length <= (Fu w).length := by rw [Qax, List.length_map]; exact List.length_take_le' ..
theorem Qar {w : Qo} (hw : WSm w) (h0 : 0 < w.length) : (Fu w).length <= 1600000 := by
 have := (HO hw h0 w.length (Nat.le_refl _)).2
 have := hw.len
 rw [Fu]; omega
theorem BS {w : Qo} {db : List (List TermT)} : ∀ (n : Nat) (out : List StepT), (NK w db n out).1.length <= out.length + n
 | 0, out => Nat.le_refl _
 | n + 1, out => by
  rw [NK]
  split
  ·simp
  ·refine QgK (BS n _) ?_
   have := F6 w out ⟨(Yt w db out).2, Fy w (db.getD (Yt w db out).1.toNat []) (Yt w db out).2⟩ (Yt w db out).1
   omega
theorem TB {v : Int} (h : (v + 1).toNat <= 61) : IntKind.i64.wrap ((1 : Int) * 2 ^ min (v + 1).toNat IntKind.i64.bits) = 2 ^ (v + 1).toNat := by
 rw [show min (v + 1).toNat IntKind.i64.bits = (v + 1).toNat from by simp only [IntKind.bits]; omega, Int.one_mul]
 have := R0 (i := (v + 1).toNat) Wa
 exact Qm Wa Wa
theorem BY {α : Type} {f : α -> List D} {l : List α} {k : Int} (h : k = (l.length : Int)) : ((l.map f).take k.toNat).drop (((0 : Nat) : Int)).toNat = l.map f := by
 subst h; rw [Int.toNat_natCast, QgH Wf]; rfl
end M25
namespace Go.Proofs
open Go Go.Abs M3 M25
theorem GG {w : Qo} (hw : WSm w) {db : List (List TermT)} (hd : db.length <= 100000000) (hi : ∀ x ∈ db, x.length <= 1000000) {l : List StepT} (hl : l.length <= 1000000) : Ok Tryz.prog 27 [Yb w, dDb db, Zj l] (.tup [Zj (MZ w db l).1, .int .i64 (MZ w db l).2]) := by
 refine Ok.ofT ZR Tryz.func27 Qfd (Qgr Z) ?_
 show TW _ _ tf27.body _ _
 have hn := hw.len
 refine Qb fun K hK => Zx Z Z Z (mv2 Z Z (kc3 hK Z Z Z ?_))
 refine Qb fun K hK => Qa Z (Cp Z Z (fun _ h => DD R6 h) Z (.inl Z) Wf Wh Wh (Qa Z (kc3 hK Z Z Z ?_)))
 refine QA ?_ -- 0
 refine Qb fun K hK => Qa Z (kc4 hK Z Z Z Z ?_)
 refine Qy ?_
 refine Zq (ι := Nat × List StepT) (fun ⟨n, out⟩ => ⟨[(1, dDb db), (3, .ref 3 0 0), (8, Zj out), (9, .int .i64 n)], [(3, ⟨[[.sl ((w).map YQ)]], 1, 28, true⟩)]⟩) (fun ⟨n, out⟩ => n <= w.length * 18 + 1 /\ out.length <= l.length + n /\ MZ w db l = NK w db (w.length * 18 + 1 - n) out) (fun ⟨n, out⟩ => w.length * 18 + 1 - n) (0, l) ?_ ?_ ?_
 ·exact le_trans (SR (l := [1, 3, 9]) (lH := [3]) 13 8 (kp3 rfl rfl rfl) (Qc rfl Ql) rfl rfl rfl Wf rfl rfl rfl rfl) (Q3 (l := [1, 3, 8, 9]) (lH := [3]) (kp4 rfl rfl rfl rfl) (Qc rfl Ql) rfl rfl rfl)
 ·exact ⟨QgD _, Nat.le_refl _, rfl⟩
 intro ⟨n, out⟩ hI
 obtain ⟨hI1, hI2, hI3⟩ := hI
 try dsimp only at hI1 hI2 hI3
 try dsimp only
 refine QA ?_ -- 1
 refine Qb fun K hK => Qa Z (Qf Z Z (Qx Z Z Z ?_))
 first | refine QL rfl QP ?_ | refine QL rfl rfl ?_
 refine Qca Z Z Wc (QbE Z Z (kc5 hK Z Z Z Z Z ?_))
 refine Qs Z (fun h1 => ?_) (fun h1 => ?_)
 ·try rw [h1]
  try simp only [qA] at h1
  refine Qr (ks4 Z Z Z Z ?_)
  refine QA ?_ -- 2
  refine Qy (Qb fun K hK => QB (cs := [_]) Z Z Z Z (mv2 Z Z (Qt (Gl hw hd hi Wa) Z Z (.inl Z) (Qa Z (QU Z Z (QU Z Z (mv2 Z Z (kc6 hK Z Z Z Z Z Z ?_))))))))
  refine QA ?_ -- 3
  refine Qb fun K hK => Qa Z (Yg Z Z (kc7 hK Z Z Z Z Z Z Z ?_))
  refine Qs Z (fun h2 => ?_) (fun h2 => ?_)
  ·try rw [h2]
   try simp only [qA] at h2
   try have hu := Ti h2
   refine Qb fun K hK => mv2 Z Z (mv2 Z Z (kc2 hK Z Z ?_))
   refine Qq (Qg (Qp (Qg (Q0 (Qp (Qg ?_))))))
   rw [hI3, Cc h2 Wa]
   exact QR rfl rfl ⟨rfl, rfl⟩
  ·try rw [h2]
   try simp only [qA] at h2
   try have hu := Ti h2
   refine Qr (ks6 Z Z Z Z Z Z (QI fun K hK => QJ (ds0 := [4, 3, 2, 1, 0]) (cs := [_]) Z Z Z Z Z Z (mv2 Z Z (QJ (ds0 := [7, 6, 4, 3, 2, 1, 0]) (cs := [_]) Z Z Z Z Z Z (mv2 Z Z (QF Z Z Z Wa (ZM Wa Wa) Z (QM (ds0 := [7, 6, 4, 3, 2, 1, 0]) Z Z Z Z Z (Qa Z ?_))))))))
   refine QS (ds0 := [6, 4, 3, 2, 1, 0]) (Y5 hw (hi _ (Qgw Wa))) Z Z (.inr Z) Z Z (QQ Z Z (Qa Z (QS (ds0 := [3, 2, 1, 0]) (XK (t := ⟨(Yt w db out).2, Fy w (db[(Yt w db out).1.toNat]'Wa) (Yt w db out).2⟩) hw Wa) Z Z (.inl Z) Z Z (Qa Z (QU Z Z (QU Z Z (Qa Z (hK _ ?_))))))))
   refine Qe (ks4 Z Z Z Z (QI fun K hK => Qa Z (QZ Z Z Wc (Qa Z (hK _ ?_)))))
   refine Qi (n + 1, (Yj w out ⟨(Yt w db out).2, Fy w (db[(Yt w db out).1.toNat]'Wa) (Yt w db out).2⟩ (Yt w db out).1).getD []) ?_ ?_ ?_
   ·exact Q3 (l := [1, 3, 8, 9]) (lH := [3]) (kp4 rfl rfl rfl rfl) (Qc rfl Ql) rfl rfl rfl
   ·exact ⟨Wa, by have := F6 w out ⟨(Yt w db out).2, Fy w (db[(Yt w db out).1.toNat]'Wa) (Yt w db out).2⟩ (Yt w db out).1; simp only; omega, by rw [hI3, Qbl h2 Wa Wa, show w.length * 18 + 1 - (n + 1) = w.length * 18 + 1 - n - 1 by omega]⟩
   ·show w.length * 18 + 1 - (n + 1) < w.length * 18 + 1 - n; omega
 ·try rw [h1]
  try simp only [qA] at h1
  refine Zh (QH (Qw (QE (ks1 Z (Qb fun K hK => mv2 Z Z (Qa Z (kc2 hK Z Z ?_)))))))
  refine Qq ?_
  rw [hI3, show w.length * 18 + 1 - n = 0 by omega]
  exact QR rfl rfl ⟨rfl, rfl⟩
theorem Q1 {a b : List StepT} (ha : a.length <= 10000000) : Ok Tryz.prog 14 [Zj a, Zj b] (.bool (decide (a = b))) := by
 refine Ok.ofT ZR Tryz.func14 Qe0 (Qgr Z) ?_
 show TW _ _ tf14.body _ _
 refine Qb fun K hK => Qa Z (kc2 hK Z Z ?_)
 refine QA ?_ -- 0
 refine Qb fun K hK => Qa Z ?_
 first | refine QL rfl QP ?_ | refine QL rfl rfl ?_
 refine Qa Z ?_
 first | refine QL rfl QP ?_ | refine QL rfl rfl ?_
 refine X5 Z Z (kc3 hK Z Z Z ?_)
 refine Qs Z (fun h1 => ?_) (fun h1 => ?_)
 ·try rw [h1]
  try simp only [qA] at h1
  refine Qb fun K hK => Qa Z (kc1 hK Z ?_)
  refine Qq (Qg (Qn Z ?_))
  rw [decide_eq_false fun e => h1 (by rw [e])]
 ·try rw [h1]
  try simp only [qA] at h1
  refine Qr (ks2 Z Z ?_)
  refine QA ?_ -- 1
  refine Qb fun K hK => Qa Z (kc3 hK Z Z Z ?_)
  refine Qy ?_
  refine Zq (ι := Nat) (fun i => ⟨[(0, Zj a), (1, Zj b), (5, .int .i64 i)], []⟩) (fun i => i <= a.length /\ a.take i = b.take i) (fun i => a.length - i) 0 ?_ ?_ ?_
  ·exact Za (kp3 rfl rfl rfl)
  ·exact ⟨QgD _, by simp⟩
  intro i hI
  try dsimp only
  refine QA ?_ -- 2
  refine Qb fun K hK => mv2 Z Z ?_
  first | refine QL rfl QP ?_ | refine QL rfl rfl ?_
  refine Yg Z Z (kc4 hK Z Z Z Z ?_)
  refine Qs Z (fun h2 => ?_) (fun h2 => ?_)
  ·try rw [h2]
   try simp only [qA] at h2
   refine Qr (ks3 Z Z Z ?_)
   refine QA ?_ -- 3
   refine Qy (Qb fun K hK => mv2 Z Z (QF Z Z Z Wa (QO Wa) Z (QJ (ds0 := [0]) (cs := [_, _, _, _]) Z Z Z Z Z Z (mv2 Z Z (QF Z Z Z Wa (QO Wa) Z (QJ (ds0 := [0]) (cs := [_, _, _, _]) Z Z Z Z Z Z (QbD Z Z B6 (kc4 hK Z Z Z Z ?_))))))))
   refine Qs Z (fun h3 => ?_) (fun h3 => ?_)
   ·try rw [h3]
    try simp only [qA] at h3
    refine Qb fun K hK => Qa Z (kc1 hK Z ?_)
    refine Qq (Qp (Qg (Q0 (Qp (Qg (Qn Z ?_))))))
    rw [BV (i := i) Wa Wa h3]
   ·try rw [h3]
    try simp only [qA] at h3
    refine Qr (Qe (ks3 Z Z Z (QI fun K hK => Qa Z (QZ Z Z Wc (Qa Z (hK _ ?_))))))
    refine Qi (i + 1) ?_ ?_ ?_
    ·exact Za (kp3 rfl rfl rfl)
    ·exact ⟨Wa, Tu Wa Wa hI.2 h3⟩
    ·first | omega | (simp only; omega) | (dsimp only; omega)
  ·try rw [h2]
   try simp only [qA] at h2
   refine Zh (QH (Qw (QE (Zf (ZC) (Qb fun K hK => Qa Z (kc1 hK Z ?_))))))
   refine Qq (Qn Z ?_)
   rw [QgH Wa, QgH Wa] at hI; exact (decide_eq_true hI.2).symm
theorem _root_.Ws {p : Prop} (h : p := by rfl) : p := h
theorem FW {w : Qo} (hw : WSm w) (h0 : 0 < w.length) : Ok Tryz.prog 8 [Yb w, ZJ []] (dDb (mDB w)) := by
 refine Ok.ofT ZR Tryz.func8 tp8 (Qgr Z) ?_
 show TW _ _ tf8.body _ _
 have hn := Qar hw h0
 refine Qb fun K hK => Zx Z Z Z (Qa Z (kc2 hK Z Z ?_))
 refine Qb fun K hK => QB (cs := [_]) Z Z Z Z (Qt (GF hw) Z Z (.inl Z) (Qa Z (kc3 hK Z Z Z ?_)))
 refine Qb fun K hK => Qa Z (kc4 hK Z Z Z Z ?_)
 refine QA ?_ -- 0
 refine Qb fun K hK => Qa Z (kc5 hK Z Z Z Z Z ?_)
 refine Qy ?_
 refine Zq (ι := Nat) (fun i => ⟨[(1, ZJ []), (2, .ref 2 0 0), (5, Qdw (Fu w)), (6, .osl 6 (Qax w i).length), (7, .int .i64 i)], [(2, ⟨[[.sl ((w).map YQ)]], 1, 28, true⟩), (6, ⟨(Qax w i).map (fun t => [ZL t]), 1, 50, true⟩)]⟩) (fun i => i <= (Fu w).length) (fun i => (Fu w).length - i) 0 ?_ ?_ ?_
 ·exact le_trans (Yd 6 6 1 50 rfl rfl) (Q3 (l := [1, 2, 5, 6, 7]) (lH := [2, 6]) (kp5 rfl rfl rfl rfl rfl) (Qc rfl (Qc rfl Ql)) rfl rfl rfl)
 ·exact QgD _
 intro i hI
 have hlen := Qay w i
 try dsimp only
 refine QA ?_ -- 1
 refine Qb fun K hK => mv2 Z Z ?_
 first | refine QL rfl QP ?_ | refine QL rfl rfl ?_
 refine Yg Z Z (kc6 hK Z Z Z Z Z Z ?_)
 refine Qs Z (fun h1 => ?_) (fun h1 => ?_)
 ·try rw [h1]
  try simp only [qA, List.length_nil] at h1
  refine Qr (ks5 Z Z Z Z Z ?_)
  refine QA ?_ -- 2
  refine Qy (QI fun K hK => mv2 Z Z (Qa Z (QF Z Z Z Wa (QO Wa) Z (Q2 Z Z (Qx Z Z Z (QD Z Z (Xs Z Z (fun _ h => Xo Z Z Z h) Z Wf Z Z Z Wh Wh (Qa Z (hK _ ?_)))))))))
  refine Qe (ks5 Z Z Z Z Z (QI fun K hK => Qa Z (QZ Z Z Wc (Qa Z (hK _ ?_)))))
  refine Qi (i + 1) ?_ ?_ ?_
  ·exact Q3 (l := [1, 2, 5, 6, 7]) (lH := [2, 6]) (kp5 rfl rfl rfl rfl rfl) (Qc rfl (Qc rfl Ql)) (by first | (rw [Rr Wa]; done) | (rw [Rr Wa]; rfl) | (rw [Rr Wa, List.length_append]; rfl) | (simp [Rr Wa]; done) | (simp [Rr Wa]; omega) | rfl) (by first | (rw [Rr Wa]; done) | (rw [Rr Wa]; rfl) | (rw [Rr Wa, List.map_append]; rfl) | (simp [Rr Wa]; done) | rfl) rfl
  ·omega
  ·first | omega | (simp only; omega) | (dsimp only; omega)
 ·try rw [h1]
  try simp only [qA, List.length_nil] at h1
  refine Zh (QH (Qw (QE (ks3 Z Z Z ?_))))
  refine QA ?_ -- 3
  refine Qb fun K hK => Qa Z (kc4 hK Z Z Z Z ?_)
  refine Qy ?_
  refine Zq (ι := Unit) (fun _ => ⟨[(1, ZJ []), (2, .ref 2 0 0), (6, .osl 6 (mDB w).length), (8, .int .i64 0)], [(2, ⟨[[.sl ((w).map YQ)]], 1, 28, true⟩), (6, ⟨(mDB w).map (fun t => [ZL t]), 1, 50, true⟩)]⟩) (fun _ => True) (fun _ => 0) () ?_ ?_ ?_
  ·exact Q3 (l := [1, 2, 6, 8]) (lH := [2, 6]) (kp4 rfl rfl rfl rfl) (Qc rfl (Qc rfl Ql)) (by rw [QbN Wa]) (by rw [QbN Wa]) rfl
  ·trivial
  intro _ hJ
  try dsimp only
  refine QA ?_ -- 4
  refine Qb fun K hK => mv2 Z Z ?_
  first | refine QL rfl QP ?_ | refine QL rfl rfl ?_
  refine Yg Z Z (Qa Z ?_)
  refine Qu (g := 31) Z (fun h2 => ?_) (fun h2 => ?_)
  ·try rw [h2]
   try simp only [qA, List.length_nil] at h2
   exact absurd h2 Wk
  ·try rw [h2]
   try simp only [qA, List.length_nil] at h2
   refine gn4 Z Z Z Z (Y7 Z (Qh Z Z (kc5 hK Z Z Z Z Z ?_)))
   refine ZU Z (Zh (QH (Qw (QE (ks1 Z (Qb fun K hK => mv2 Z Z (kc1 hK Z ?_)))))))
   refine Qq ?_
   exact Jn rfl rfl rfl Wf Ws
theorem DS {v : Int} (h0 : -1 <= v) (h1v : v <= 60) : Ok Tryz.prog 61 [.int .i64 v] (.int .i64 (2 ^ (v + 1).toNat)) := by
 refine Ok.ofT ZR Tryz.func61 QfL (Qgr Z) ?_
 show TW _ _ tf61.body _ _
 refine Qb fun K hK => Qa Z (kc1 hK Z ?_)
 refine Qb fun K hK => Qa Z (QZ Z Z Wc (Qan Z Z Wa (TB Wa) (Qa Z (kc1 hK Z ?_))))
 refine Qq (QC Z ?_)
 rfl
theorem DT {w : Qo} (hw : WSm w) {u : Int} : Ok Tryz.prog 60 [Yb w, .int .i64 u] (.bool (inW w u)) := by
 refine Ok.ofT ZR Tryz.func60 QfK (Qgr Z) ?_
 show TW _ _ tf60.body _ _
 refine Qb fun K hK => Zx Z Z Z (Qa Z (kc2 hK Z Z ?_))
 refine Qb fun K hK => Qa Z (Mf Z Z (Qa Z ?_))
 refine Qu (g := 7) Z (fun h1 => ?_) (fun h1 => ?_)
 ·try rw [h1]
  try simp only [qA] at h1
  refine Qd Z (Qa Z (Qd Z (Qf Z Z (Qd Z (Qx Z Z Z (Qd Z ?_))))))
  first | refine QL rfl QP ?_ | refine QL rfl rfl ?_
  refine Qd Z (Yg Z Z (Qh Z Z (Qa Z (kc1 hK Z ?_))))
  refine Qq (Qn Z ?_)
  first | rfl | (rw [GP Wa]; done) | (rw [inW, decide_eq_true h1, Bool.true_and])
 ·try rw [h1]
  try simp only [qA] at h1
  refine gn4 Z Z Z Z (Y7 Z (Qh Z Z (Qa Z (kc1 hK Z ?_))))
  refine Qq (Qn Z ?_)
  first | rfl | (rw [GP Wa]; done) | (rw [inW, decide_eq_true h1, Bool.true_and])
theorem Jx {w : Qo} (hw : WSm w) {u : Int} : Ok Tryz.prog 33 [Yb w, .int .i64 u] (.int .i64 (YK w u)) := by
 refine Ok.ofT ZR Tryz.func33 Qfj (Qgr Z) ?_
 show TW _ _ tf33.body _ _
 refine Qb fun K hK => Zx Z Z Z (Qa Z (kc2 hK Z Z ?_))
 refine QA ?_ -- 0
 refine Qb fun K hK => QB (cs := [_]) Z Z Z Z (Qa Z (Qt (DT hw) Z Z (.inr Z) (Z9 Z (kc3 hK Z Z Z ?_))))
 refine Qs Z (fun h1 => ?_) (fun h1 => ?_)
 ·try rw [h1]
  try simp only [qA] at h1
  try have h1b := GO.1 h1
  refine Qb fun K hK => Qa Z (kc1 hK Z ?_)
  refine Qq (Qg (QC Z ?_))
  rw [X2.2 h1]
 ·try rw [h1]
  try simp only [qA] at h1
  try have h1b := GO.1 h1
  refine Qr (ks2 Z Z (Qb fun K hK => Qf Z Z (Qx Z Z Z (Qa Z (QF Z Z Z Wa (ZM Wa Wa) Z (Q2 Z Z (Qx Z Z Z ?_)))))))
  first | refine QL rfl QP ?_ | refine QL rfl rfl ?_
  refine Qt (DS Wa (by have := hw.cs _ (Qgw (Wa : u.toNat < w.length)); omega)) Z Z (.inr Z) (Xu Z Z (TA (by have := hw.cs _ (Qgw (Wa : u.toNat < w.length)); omega)) (Qa Z (kc1 hK Z ?_)))
  refine Qq (QC Z ?_)
  rw [RR h1b.1 h1b.2, show min (w[u.toNat]'Wa).cs.length 16 = (w[u.toNat]'Wa).cs.length from Nat.min_eq_left (hw.cs _ (Qgw _)), Qac]
theorem Hs {w : Qo} (hw : WSm w) {l : List StepT} (hl : l.length <= 10000000) {u : Int} : Ok Tryz.prog 34 [Yb w, Zj l, .int .i64 u] (.int .i64 (J8 w l u)) := by
 refine Ok.ofT ZR Tryz.func34 Qfk (Qgr Z) ?_
 show TW _ _ tf34.body _ _
 refine Qb fun K hK => Zx Z Z Z (Qa Z (kc3 hK Z Z Z ?_))
 refine QA ?_ -- 0
 refine Qb fun K hK => Qa Z ?_
 first | refine QL rfl QP ?_ | refine QL rfl rfl ?_
 refine Xu Z Z Wc (Qa Z (kc4 hK Z Z Z Z ?_))
 refine Qy ?_
 refine Zq (ι := Nat) (fun i => ⟨[(1, Zj l), (2, .int .i64 u), (3, .ref 3 0 0), (7, .int .i64 ((i : Int) - 1))], [(3, ⟨[[.sl ((w).map YQ)]], 1, 28, true⟩)]⟩) (fun i => i <= l.length /\ J8 w l u = J8 w (l.take i) u) (fun i => i) l.length ?_ ?_ ?_
 ·exact Q3 (l := [1, 2, 3, 7]) (lH := [3]) (kp4 rfl rfl rfl rfl) (Qc rfl Ql) rfl rfl rfl
 ·exact ⟨Nat.le_refl _, by rw [List.take_length]⟩
 intro i hI
 try dsimp only
 refine QA ?_ -- 1
 refine Qb fun K hK => Qa Z (Mf Z Z (kc5 hK Z Z Z Z Z ?_))
 refine Qs Z (fun h1 => ?_) (fun h1 => ?_)
 ·try rw [h1]
  try simp only [qA] at h1
  refine Qr (ks4 Z Z Z Z ?_)
  refine QA ?_ -- 2
  refine Qy (Qb fun K hK => mv2 Z Z (QF Z Z Z Wa (ZM Wa Wa) Z (Q2 Z Z (Qx Z Z Z (Qa Z (ZG Z Z (kc5 hK Z Z Z Z Z ?_)))))))
  refine Qs Z (fun h2 => ?_) (fun h2 => ?_)
  ·try rw [h2]
   try simp only [qA] at h2
   refine Qb fun K hK => mv2 Z Z (QF Z Z Z Wa (ZM Wa Wa) Z (Q2 Z Z (Qx Z Z Z (Qa Z (kc1 hK Z ?_)))))
   refine Qq (Qp (Qg (Q0 (Qp (Qg (QC Z ?_))))))
   rw [hI.2, Bh (k := ((i : Int) - 1).toNat) Wa Wa h2]
  ·try rw [h2]
   try simp only [qA] at h2
   refine Qr (Qe (ks4 Z Z Z Z (QI fun K hK => Qa Z (Xu Z Z Wc (Qa Z (hK _ ?_))))))
   refine Qi (i - 1) ?_ ?_ ?_
   ·exact Q3 (l := [1, 2, 3, 7]) (lH := [3]) (kp4 rfl rfl rfl rfl) (Qc rfl Ql) (by simp only [List.cons.injEq, Prod.mk.injEq, D.int.injEq, and_true, true_and]; omega) rfl rfl
   ·exact ⟨Wa, by rw [hI.2, D2 (k := ((i : Int) - 1).toNat) Wa Wa h2]⟩
   ·first | omega | (simp only; omega) | (dsimp only; omega)
 ·try rw [h1]
  try simp only [qA] at h1
  refine Zh (QH (Qw (QE (ks2 Z Z (Qb fun K hK => QB (cs := [_]) Z Z Z Z (Qa Z (Qt (Jx hw) Z Z (.inr Z) (Qa Z (kc1 hK Z ?_)))))))))
  refine Qq (QC Z ?_)
  rw [hI.2, show i = 0 by omega]; rfl
theorem Nv {w : Qo} (hw : WSm w) {l : List StepT} (hl : l.length <= 10000000) {u : Int} : Ok Tryz.prog 20 [Yb w, Zj l, .int .i64 u] (.int .i64 (Ze w l u)) := by
 refine Ok.ofT ZR Tryz.func20 Qe6 (Qgr Z) ?_
 show TW _ _ tf20.body _ _
 refine Qb fun K hK => Zx Z Z Z (Qa Z (kc3 hK Z Z Z ?_))
 refine QA ?_ -- 0
 refine Qb fun K hK => QB (cs := [_]) Z Z Z Z (Qa Z (Qt (Jx hw) Z Z (.inr Z) (ZG Z Z (kc4 hK Z Z Z Z ?_))))
 refine Qs Z (fun h1 => ?_) (fun h1 => ?_)
 ·try rw [h1]
  try simp only [qA] at h1
  refine Qb fun K hK => Qa Z (kc1 hK Z ?_)
  refine Qq (Qg (QC Z ?_))
  rw [RM (X2.1 h1)]
 ·try rw [h1]
  try simp only [qA] at h1
  refine Qr (ks3 Z Z Z (Qb fun K hK => QB (cs := [_]) Z Z Z Z (mv2 Z Z (Qt (Hs hw hl) Z Z (.inr Z) (Qa Z (kc1 hK Z ?_))))))
  refine Qq (QC Z ?_)
  rw [RL (by simpa using fun e => h1 (X2.2 e))]
theorem Jg {l : List StepT} (hl : l.length <= 10000000) : Ok Tryz.prog 18 [Zj l] (.int .i64 (Y3 l)) := by
 refine Ok.ofT ZR Tryz.func18 Qe4 (Qgr Z) ?_
 show TW _ _ tf18.body _ _
 refine Qb fun K hK => Qa Z (kc1 hK Z ?_)
 refine QA ?_ -- 0
 refine Qb fun K hK => Qa Z ?_
 first | refine QL rfl QP ?_ | refine QL rfl rfl ?_
 refine ZG Z Z (kc2 hK Z Z ?_)
 refine Qs Z (fun h1 => ?_) (fun h1 => ?_)
 ·try rw [h1]
  try simp only [qA] at h1
  refine Qb fun K hK => Qa Z (kc1 hK Z ?_)
  refine Qq (Qg (QC Z ?_))
  rw [SS h1]
 ·try rw [h1]
  try simp only [qA] at h1
  refine Qr (ks1 Z (Qb fun K hK => mv2 Z Z ?_))
  first | refine QL rfl QP ?_ | refine QL rfl rfl ?_
  refine Xu Z Z Wc (QF Z Z Z Wa (ZM Wa Wa) Z (Q2 Z Z (Qx Z Z Z (Qa Z (kc1 hK Z ?_)))))
  refine Qq (QC Z ?_)
  rw [Da (k := ((l.length : Int) - 1).toNat) Wa]
theorem PB {l : List StepT} (hl : l.length <= 10000000) {s : StepT} : Ok Tryz.prog 36 [Zj l, .agg (Gt s)] (Zj (l ++ [s])) := by
 refine Ok.ofT ZR Tryz.func36 Qfm (Qgr Z) ?_
 show TW _ _ tf36.body _ _
 refine Qb fun K hK => Zx Z Z Z (Qa Z (kc2 hK Z Z ?_))
 refine Qb fun K hK => mv2 Z Z ?_
 first | refine QL rfl QP ?_ | refine QL rfl rfl ?_
 refine Qa Z ?_
 first | refine QL rfl QP ?_ | refine QL rfl rfl ?_
 refine NO Z Z Z Z Z Wa Wa Wf R6 (BY Z) (QJ (ds0 := [2, 1, 0]) (cs := [_, _, _, _]) Z Z Z Z Z Z (QD Z Z (FT (ds0 := [0]) Z Z (fun _ h => Xo Z Z Z h) Z (.inr Wf) R6 Wh Wh Z Z (Qa Z (kc1 hK Z ?_)))))
 refine Qq ?_
 exact Jn rfl rfl rfl Wf (by simp [Zj, Gt])
theorem Gx {w : Qo} (hw : WSm w) {l : List StepT} (hl : l.length <= 10000000) (hp : GX w l) {t : TermT} {c : Int} : Ok Tryz.prog 12 [Yb w, Zj l, .agg (GL t), .int .i64 c] (dOS (Yj w l t c)) := by
 refine Ok.ofT ZR Tryz.func12 QeY (Qgr Z) ?_
 show TW _ _ tf12.body _ _
 refine Qb fun K hK => Zx Z Z Z (Zx Z Z Z (mv2 Z Z (kc4 hK Z Z Z Z ?_)))
 refine Qb fun K hK => QB (cs := [_]) Z Z Z Z (Qa Z (Qf Z Z (Qx Z Z Z (Qt (Nv hw hl) Z Z (.inr Z) (Qa Z (kc4 hK Z Z Z Z ?_))))))
 refine QA ?_ -- 0
 refine Qb fun K hK => Qa Z (Yg Z Z (Qa Z ?_))
 refine Qu (g := 18) Z (fun h1 => ?_) (fun h1 => ?_)
 ·try rw [h1]
  try simp only [qA] at h1
  refine gn4 Z Z Z Z (Y7 Z (Qh Z Z (Qa Z (gn4 Z Z Z Z (Y7 Z ?_)))))
  refine Qh Z Z (kc5 hK Z Z Z Z Z ?_)
  refine Zr Z (Qb fun K hK => mv2 Z Z (kc2 hK Z Z ?_))
  refine Qq (Qg ?_)
  rw [HW (.inl h1)]
  exact QR rfl rfl ⟨rfl, rfl⟩
 ·try rw [h1]
  try simp only [qA] at h1
  refine Qd Z (Qa Z (Qd Z (Qf Z Z (Qd Z (Qx Z Z Z (Qd Z (GY Z Z (Qd Z (ZG Z Z (Qh Z Z (Qa Z ?_)))))))))))
  refine Qu (g := 25) Z (fun h2 => ?_) (fun h2 => ?_)
  ·try rw [h2]
   try simp only [qA] at h2
   refine gn4 Z Z Z Z (Y7 Z (Qh Z Z (kc5 hK Z Z Z Z Z ?_)))
   refine Zr Z (Qb fun K hK => mv2 Z Z (kc2 hK Z Z ?_))
   refine Qq (Qg ?_)
   rw [CK hp h2]
   exact QR rfl rfl ⟨rfl, rfl⟩
  ·try rw [h2]
   try simp only [qA] at h2
   refine Qd Z (Qa Z (Qd Z (Qf Z Z (Qd Z (Qx Z Z Z (Qd Z (NN Z Z (Qd Z (ZG Z Z (Qh Z Z (kc5 hK Z Z Z Z Z ?_)))))))))))
   refine Qs Z (fun h3 => ?_) (fun h3 => ?_)
   ·try rw [h3]
    try simp only [qA] at h3
    refine Qb fun K hK => mv2 Z Z (kc2 hK Z Z ?_)
    refine Qq (Qg ?_)
    rw [CL h3]
    exact QR rfl rfl ⟨rfl, rfl⟩
   ·try rw [h3]
    try simp only [qA] at h3
    refine Qr (ks4 Z Z Z Z (Qb fun K hK => Qa Z (Qf Z Z (QM (ds0 := [3, 2, 1]) Z Z Z Z Z (Qa Z (Qf Z Z (QM (ds0 := [7, 3, 2, 1]) Z Z Z Z Z (NN Z Z (Qa Z (QS (ds0 := [3, 2, 1]) (Jg hl) Z Z (.inr Z) Z Z ?_))))))))))
    refine Qa Z (QQ Z Z (QS (ds0 := [1]) (PB (s := ⟨t.u, Sg (Ze w l t.u) t.m, Y3 l, c⟩) hl) Z Z (.inl Z) Z Z (mv2 Z Z (kc2 hK Z Z ?_))))
    refine Qq ?_
    rw [CM hp Wa h2 h3]
    exact QR rfl rfl ⟨rfl, rfl⟩
end Go.Proofs
namespace M25
open Go Go.Abs M3
/-! ### prop: what is left of each unit, scans -/
structure Qdd (w : Qo) (db : List (List TermT)) (l : List StepT) (a : Nat) (k : Nat) : Prop where
  ha : a < db.length
  hk : k < db[a].length
  eq : Yt w db l = ((a : Int), db[a][k].u)
  one : J9 (Ze w l db[a][k].u) db[a][k].m = 1
  two : ∀ j, ∀ hj : j < db[a].length, j ≠ k -> J9 (Ze w l db[a][j].u) db[a][j].m = 2
theorem Ca {w : Qo} {l : List StepT} {s : StepT} (hp : GX w l) (hs : Lo s.m) : GX w (l ++ [s]) := fun t ht => by
  rcases QgC.1 ht with ht | ht
  · exact hp t ht
  · simp only [QgA] at ht; subst ht; exact hs
def QeT (w : Qo) (l : List StepT) (t : TermT) (c : Int) : StepT := ⟨t.u, Sg (Ze w l t.u) t.m, Y3 l, c⟩
open Go Go.Abs M3
/-! ### Sets that are made: moderate sizes -/
theorem QaQ (l : List (Cu × Cu)) (x y : Cu) : (HE l x y).length <= l.length + 1 := SY l x y
theorem Ru (f : Cu -> Cu -> Bool) : ∀ (c : List Cu) (out : List (Cu × Cu)), (∀ x ∈ c, Cu.sm x) -> (∀ s ∈ out, Cu.sm s.1 /\ Cu.sm s.2) -> (HD f c out).length <= out.length + c.length /\ ∀ s ∈ HD f c out, Cu.sm s.1 /\ Cu.sm s.2
 | [], out, _, h => ⟨by simp [HD], by simpa [HD] using h⟩
 | [x], out, _, h => ⟨by simp [HD], by simpa [HD] using h⟩
 | x :: y :: r, out, hc, h => by
  rw [HD]
  have hxy := QaQ out x y
  split
  ·obtain ⟨h1, h2⟩ := Ru f (y :: r) (HE out x y) (fun z hz => hc z (by simp at hz ⊢; exact .inr hz)) (Df h (hc x Wf) (hc y Wf))
   exact ⟨by simp only [List.length_cons] at h1 ⊢; omega, h2⟩
  ·obtain ⟨h1, h2⟩ := Ru f (y :: r) out (fun z hz => hc z (by simp at hz ⊢; exact .inr hz)) h
   exact ⟨by simp only [List.length_cons] at h1 ⊢; omega, h2⟩
def SmN (n : Nat) (l : List (Cu × Cu)) : Prop := l.length <= n /\ ∀ s ∈ l, Cu.sm s.1 /\ Cu.sm s.2
theorem SmN.sm {n : Nat} {l : List (Cu × Cu)} (h : SmN n l) (hn : n <= 1000000) : Sm l := ⟨QgK h.1 hn, h.2⟩
theorem SmN.up {n m : Nat} {l : List (Cu × Cu)} (h : SmN n l) (hn : n <= m) : SmN m l := ⟨QgK h.1 hn, h.2⟩
theorem SmN.nil (n : Nat) : SmN n [] := ⟨QgD _, by simp⟩
theorem QbW {a b : List (Cu × Cu)} {n m : Nat} (ha : SmN n a) (hb : SmN m b) (h : n + m <= 1000000) : SmN (2 + 2 * (n + m)) (QbT a b) := by
 unfold QbT
 split
 ·have hab : Sm (a ++ b) := (ha.sm Wa).app (hb.sm Wa) (by have := ha.1; have := hb.1; omega)
  unfold T9
  split
  ·obtain ⟨h1, h2⟩ := Ru (mIn (a ++ b)) (Y0 (a ++ b)) [] (YF hab) Wf
   have := HC (a ++ b)
   have := ha.1
   have := hb.1
   exact ⟨by simp only [List.length_nil, List.length_append] at *; omega, h2⟩
  ·exact SmN.nil _
 ·exact SmN.nil _
theorem Bz {a : List (Cu × Cu)} {n : Nat} (ha : SmN n a) (h : n <= 1000000) : SmN (2 + 2 * n) (La a) := by
 unfold La
 split
 ·obtain ⟨h1, h2⟩ := Ru (fun x y => !mIn a x y) (Y0 a) [] (YF (ha.sm h)) Wf
  have := HC a
  have := ha.1
  exact ⟨by simp only [List.length_nil] at *; omega, h2⟩
 ·exact SmN.nil _
def DO (n : Nat) (s : FU) : Prop := SmN n s.1 /\ SmN n s.2
theorem QdL {a b : FU} {n m : Nat} (ha : DO n a) (hb : DO m b) (h : n + m <= 1000000) : DO (2 + 2 * (n + m)) (Qah a b) := by
 unfold Qah
 split
 ·exact ⟨QbW ha.1 hb.1 h, QbW ha.2 hb.2 h⟩
 ·exact ⟨SmN.nil _, SmN.nil _⟩
theorem BA {a : FU} {n : Nat} (ha : DO n a) (h : n <= 1000000) : DO (2 + 2 * n) (MU a) := by
 unfold MU
 split
 ·exact ⟨Bz ha.1 h, Bz ha.2 h⟩
 ·exact ⟨SmN.nil _, SmN.nil _⟩
theorem Ga (e a b c : Int) (f : Bool) : Cu.sm ⟨e, a, b, c, [], [], f⟩ := ⟨QgD _, QgD _⟩
theorem HY {a b c : Int} {p q : List UInt8} (hp : p.length <= 1000000) : DO 1 (Y9 a b c p q) := by
 unfold Y9
 split
 ·exact ⟨SmN.nil _, SmN.nil _⟩
 ·split
  ·refine ⟨SmN.nil _, ⟨Nat.le_refl _, fun s hs => ?_⟩⟩
   simp only [QgA] at hs; subst hs
   exact ⟨⟨hp, QgD _⟩, ⟨hp, QgD _⟩⟩
  ·refine ⟨⟨Nat.le_refl _, fun s hs => ?_⟩, SmN.nil _⟩
   simp only [QgA] at hs; subst hs
   constructor
   ·unfold MS; split
    ·exact Ga ..
    ·exact Ga ..
   ·unfold Fv; split
    ·exact Ga ..
    ·exact Ga ..
def DP : FU := ([(Gy, Pp)], [(Gy, Pp)])
theorem QbH : DO 1 DP := by
 have h : SmN 1 [(Gy, Pp)] := ⟨Nat.le_refl _, fun s hs => by simp only [QgA] at hs; subst hs; exact ⟨Ga .., Ga ..⟩⟩
 exact ⟨h, h⟩
def bnd (i : Nat) : Nat := 4 * 2 ^ i
theorem QbJ {i : Nat} (h : i <= 16) : bnd i <= 262144 := by
 have : 2 ^ i <= 2 ^ 16 := Nat.pow_le_pow_right Wa h
 have e : (2 : Nat) ^ 16 = 65536 := by decide
 unfold bnd; omega
theorem QdR {s : FU} {i : Nat} (h : DO (bnd i - 4) s) {a b c : Int} {p q : List UInt8} (hp : p.length <= 1000000) (hi : i <= 16) : DO (bnd (i + 1) - 4) (Qah s (Y9 a b c p q)) := by
 have h1 := QbJ hi
 have h4 : 4 <= bnd i := by unfold bnd; have := Nat.one_le_two_pow (n := i); omega
 have := QdL h (HY (a := a) (b := b) (c := c) (q := q) hp) Wa
 have e : bnd (i + 1) = 2 * bnd i := by unfold bnd; rw [Nat.pow_succ]; omega
 exact ⟨this.1.up Wa, this.2.up Wa⟩
theorem Qbo {s : FU} {i : Nat} (h : DO (bnd i - 4) s) : DO (bnd (i + 1) - 4) s := by
 have e : bnd (i + 1) = 2 * bnd i := by unfold bnd; rw [Nat.pow_succ]; omega
 exact ⟨h.1.up Wa, h.2.up Wa⟩
def SetOk (s : FU) : Prop := DO 600000 s
theorem SetOk.sm {s : FU} (h : SetOk s) : Sm s.1 /\ Sm s.2 := ⟨h.1.sm Wa, h.2.sm Wa⟩
def v0 : Vr := ⟨0, 0, 0, [], []⟩
/-! ### Made sets may be -/
def exV (v : Vr) : FU := Y9 v.a v.b v.c v.p v.q
def SI (L : List Vr) : FU := L.foldl (fun s v => Qah s (exV v)) ([], [])
theorem QaJ (L : List Vr) (v : Vr) : SI (L ++ [v]) = Qah (SI L) (exV v) := by simp [SI]
def Ps : List Vr -> List (List Vr)
 | [] => [[]]
 | v :: l => Ps l ++ (Ps l).map (v :: ·)
theorem N6 : ∀ {l L : List Vr}, L.Sublist l -> L ∈ Ps l
 | _, _, .slnil => by simp [Ps]
 | _, _, .cons a h => by rw [Ps, QgC]; exact .inl (N6 h)
 | _, _, .cons_cons a h => by rw [Ps, QgC]; exact .inr (QgF.2 ⟨_, N6 h, rfl⟩)
theorem QaK : ((Ps versions ++ Ps [v0]).all fun L => JO (SI L) && JO (MU (SI L))) = true := by decide +kernel
theorem Qdy : ((v0 :: versions).all fun v => JO (exV v) && PY v.a v.b v.c v.p v.q) = true := by decide +kernel
theorem Qce : JO DP = true := by decide +kernel
def VsL (l : List Vr) : Prop := l.Sublist versions \/ l = [v0]
theorem VsL.fold {l L : List Vr} (h : VsL l) (hL : L.Sublist l) : JO (SI L) = true /\ JO (MU (SI L)) = true := by
 have hm : L ∈ Ps versions ++ Ps [v0] := by
  rcases h with h | rfl
  ·exact List.mem_append_left _ (N6 (hL.trans h))
  ·exact QgG _ (N6 hL)
 have := QgB.1 QaK L hm
 rw [Qgv] at this; exact this
theorem VsL.ex {l : List Vr} (h : VsL l) {v : Vr} (hv : v ∈ l) : JO (exV v) = true /\ PY v.a v.b v.c v.p v.q = true := by
 have hm : v ∈ v0 :: versions := by
  rcases h with h | rfl
  ·exact List.mem_cons_of_mem _ (h.subset hv)
  ·simp only [QgA] at hv; subst hv; simp
 have := QgB.1 Qdy v hm
 rw [Qgv] at this; exact this
def SetMay (s : FU) : Prop := SetOk s /\ JO s = true
theorem SetMay.sm {s : FU} (h : SetMay s) : Sm s.1 /\ Sm s.2 := h.1.sm
structure CR where
 v : Vr
 x : D
 y : D
 z : D
def dCR (r : CR) : List D := [.int .i64 r.v.a, .int .i64 r.v.b, .int .i64 r.v.c, .str r.v.p, .str r.v.q, r.x, r.y, r.z]
def CR.ren (r : CR) : CR := ⟨r.v, r.x.renS upN, r.y.renS upN, r.z.renS upN⟩
def VsOk (zs : List CR) : Prop := VsL (zs.map CR.v)
theorem VsOk.ren {zs : List CR} (h : VsOk zs) : VsOk (zs.map CR.ren) := by
 have e : (zs.map CR.ren).map CR.v = zs.map CR.v := by rw [List.map_map]; rfl
 unfold VsOk; rw [e]; exact h
theorem CG (l : List CR) : (l.map dCR).map (fun r => r.map (D.renS upN)) = (l.map CR.ren).map dCR := by
 rw [List.map_map, List.map_map]; rfl
structure UR where
 n : List UInt8
 f : List UInt8
 k : Nat
 cs : List CR
def dUR (u : UR) : List D := [.str u.n, .str u.f, .osl u.k u.cs.length]
def UR.ren (u : UR) : UR := ⟨u.n, u.f, upN u.k, u.cs.map CR.ren⟩
theorem Qct (l : List UR) : (l.map dUR).map (fun r => r.map (D.renS upN)) = (l.map UR.ren).map dUR := by
 rw [List.map_map, List.map_map]
 refine List.map_congr_left fun u _ => ?_
 simp [dUR, UR.ren, D.renS]
structure Fam (H : Qgo) (kg ku eu ec : Nat) (us : List UR) : Prop where
 ne : ku ≠ kg
 u : ∃ pr, lk H ku = some ⟨us.map dUR, 3, eu, pr⟩
 c : ∀ y ∈ us, y.k ≠ kg /\ ∃ pr, lk H y.k = some ⟨y.cs.map dCR, 8, ec, pr⟩
 v : ∀ y ∈ us, y.cs.length <= 16 /\ ∀ z ∈ y.cs, Py z.v
 vs : ∀ y ∈ us, VsOk y.cs
theorem Fam.up {H : Qgo} {kg ku eu ec : Nat} {us : List UR} (h : Fam H kg ku eu ec us) : Fam (upH H) (upN kg) (upN ku) eu ec (us.map UR.ren) := by
 obtain ⟨h1, ⟨pu, h2⟩, h3, h4, h5⟩ := h
 refine ⟨fun e => h1 (Lz e), ⟨pu, ?_⟩, fun y hy => ?_, fun y hy => ?_, fun y hy => by
  obtain ⟨u, hu, rfl⟩ := QgF.1 hy
  exact (h5 u hu).ren⟩
 ·rw [JD, h2, Option.map_some, Box.ren, Qct]
 ·obtain ⟨u, hu, rfl⟩ := QgF.1 hy
  obtain ⟨q1, pr, q2⟩ := h3 u hu
  refine ⟨fun e => q1 (Lz e), pr, ?_⟩
  show lk (upH H) (upN u.k) = _
  rw [JD, q2, Option.map_some, Box.ren, CG]; rfl
 ·obtain ⟨u, hu, rfl⟩ := QgF.1 hy
  obtain ⟨q1, q2⟩ := h4 u hu
  refine ⟨by simpa [UR.ren] using q1, fun z hz => ?_⟩
  obtain ⟨z0, hz0, rfl⟩ := QgF.1 hz
  exact q2 z0 hz0
theorem Fam.cons {H : Qgo} {kg ku eu ec : Nat} {us : List UR} (h : Fam H kg ku eu ec us) {b : Box} : Fam ((kg, b) :: H) kg ku eu ec us := by
 obtain ⟨h1, ⟨pu, h2⟩, h3, h4, h5⟩ := h
 exact ⟨h1, ⟨pu, Qk (Ne.symm h1) h2⟩, fun y hy => let ⟨q1, pr, q2⟩ := h3 y hy; ⟨q1, pr, Qk (Ne.symm q1) q2⟩, h4, h5⟩
def Qdn (n : Nat) (x : WantT) : Prop := 1 <= x.u /\ x.u < n /\ SetOk x.s
def WantMay (n : Nat) (x : WantT) : Prop := Qdn n x /\ JO x.s = true
theorem LB {l L : List Vr} {i : Nat} (hL : L.Sublist (l.take i)) : L.Sublist (l.take (i + 1)) := by
 refine hL.trans ?_
 rw [show l.take i = (l.take (i + 1)).take i by rw [List.take_take, Nat.min_eq_left Wa]]
 exact List.take_sublist _ _
theorem QeK {zs : List CR} {i : Nat} (h : i < zs.length) {L : List Vr} (hL : L.Sublist ((zs.map CR.v).take i)) : (L ++ [zs[i].v]).Sublist ((zs.map CR.v).take (i + 1)) := by
 rw [List.take_succ_eq_append_getElem (by simpa using h)]
 simp only [List.getElem_map]
 exact hL.append (List.Sublist.refl _)
def Sn (n : Nat) (r : List WantT) : Prop := (1 <= r.length /\ r.length <= 2) /\ ∀ x ∈ r, WantMay n x
def Md (n : Nat) (m : Int) (ns : List (List WantT)) : Prop := (ns.length : Int) <= m /\ ∀ r ∈ ns, Sn n r
theorem QcN {n : Nat} {x : WantT} (h : WantMay n x) : Sn n [x] := ⟨by simp, by intro y hy; simp only [QgA] at hy; subst hy; exact h⟩
theorem QcO {n : Nat} {x y : WantT} (h : WantMay n x) (h' : WantMay n y) : Sn n [x, y] := ⟨by simp, by
 intro z hz
 simp only [Qgt, Qgs, or_false] at hz
 rcases hz with rfl | rfl
 ·exact h
 ·exact h'⟩
theorem BP {n : Nat} {ns : List (List WantT)} {r : List WantT} (h : ∀ r ∈ ns, Sn n r) (hr : Sn n r) : ∀ x ∈ ns ++ [r], Sn n x := fun x hx => by
 rcases QgC.1 hx with hx | hx
 ·exact h x hx
 ·simp only [QgA] at hx; subst hx; exact hr
end M25
namespace Go.Proofs
open Go Go.Abs M3 M25
theorem HJ {s : St} {args : List Opd} {kg : Nat} {L : List Int} {I n : Int} {et : Nat} (ha : Zi s args = some [.ref kg 0 0, .int .i64 n]) (hg : lk s.H kg = some (gB L I et)) (hL : ∀ x ∈ L, I64 x) (hn : n <= 9223372036854775807) : Kp Tryz.prog 25 args s [(kg, gB L I et)] [] [(kg, gB L (nxI I) et)] (.int .i64 (nx L I n)) := by
 refine LN (b' := gB L (nxI I) et) (ds' := [.ref (upN kg) 0 0, .int .i64 n]) ha (fun j x h => ?_) (fun k b hk j hj => ?_) (fun x hx j hj => ?_) ?_ Z Z Z Z ?_
 ·obtain ⟨rfl, rfl⟩ := Xz h; exact hg
 ·obtain ⟨rfl, rfl⟩ := Xz hk; simp [Box.ids, gB] at hj
 ·simp only [Qgt, Qgs, or_false] at hx
  rcases hx with rfl | rfl
  ·simp [D.ids, D.sid] at hj; subst hj; rw [Qv]; rfl
  ·simp [D.ids, D.sid] at hj
 ·rw [Qv]; rfl
 ·exact XZ (by unfold upN; omega) hL hn et
theorem _root_.Wi {p : Prop} (h : p := by first | decide | omega) : p := h
theorem _root_.Wv {p : Prop} (h : p := by simp [Dr.ok, Hv]) : p := h
theorem _root_.Wj {p : Prop} (h : p := by repeat (first | exact Qv | refine Qk (by first | decide | omega) ?_)) : p := h
theorem G4 {H : Qgo} {kg kc : Nat} {L : List Int} {I : Int} {eg ec : Nat} {pr : Bool} {zs : List CR} (hkg : 1000000 <= kg) (hg : lk H kg = some (gB L I eg)) (hc : lk H kc = some ⟨zs.map dCR, 8, ec, pr⟩) (hne : kg ≠ kc) (hB : Big H) (hC : Closed H) (hL : ∀ x ∈ L, I64 x) (hz : ∀ z ∈ zs, Py z.v) (hn : zs.length <= 16) (hvs : VsOk zs) : ∃ d H2, (∃ s I2, SetMay s /\ d = Rq s /\ H2 = (kg, gB L I2 eg) :: H) /\ OkH Tryz.prog 52 [.ref kg 0 0, .osl kc zs.length] H d H2 := by
 have hkc := hB _ _ hc
 refine OkH.ofX (R := fun d H2 => ∃ s I2, SetMay s /\ d = Rq s /\ H2 = (kg, gB L I2 eg) :: H) ZR Tryz.func52 QfC (Qgr Z) ?_
 show TX _ _ tf52.body _ _
 refine Q6 fun K hK => ?_
 refine ZI (by repeat (first | exact hB.none Wk | refine Zu Wi ?_)) ?_
 refine hK _ _ (QK (kp3 Z Z Z) ?_)
 refine Q6 fun K hK => Qa Z (YA (HJ (I := I) Z (Qk Wa hg) hL Wa) (Qa Z (hK _ _ (QK (kp4 Z Z Z Z) ?_))))
 refine Q6 fun K hK => Qt (Ya) Z Z (.inl Z) ?_
 refine ZI (by repeat (first | exact hB.none Wk | refine Zu Wi ?_)) ?_
 refine Q4 Z Z Z Z Z Z Z Z (hK _ _ (QK (kp5 Z Z Z Z Z) ?_))
 refine XG ?_ -- 0
 refine Q6 fun K hK => Qa Z (hK _ _ (QK (kp6 Z Z Z Z Z Z) ?_))
 refine YB ?_
 refine G0 (ι := Nat × FU) (fun ⟨i, s⟩ => ⟨[(0, .ref kg 0 0), (1, .osl kc zs.length), (4, .ref 4 0 0), (5, .int .i64 (nx L I 8)), (6, .ref 6 0 0), (7, .int .i64 i)], [(4, ⟨[[.fsl [], .fsl []]], 2, 68, true⟩), (6, ⟨[[ZH s.1, ZH s.2]], 2, 68, true⟩), (kg, gB L (nxI I) eg)] ++ H⟩) (fun ⟨i, s⟩ => (i <= zs.length /\ DO (bnd i - 4) s) /\ ∃ L, L.Sublist ((zs.map CR.v).take i) /\ s = SI L) (fun ⟨i, s⟩ => zs.length - i) (0, ([], [])) ?_ ?_ ?_
 ·exact MK (l := [0, 1, 4, 5, 6, 7]) (B := [_, _, _, _]) (kp6 rfl rfl rfl rfl rfl rfl) rfl (by intro p hp; simp only [Qgt, Qgs, or_false] at hp; rcases hp with rfl | rfl | rfl <;> exact ⟨by repeat (first | exact Qv | refine Qk Wi ?_), rfl⟩) rfl (by intro p hp h; simp only [Qgt, Qgs, or_false] at hp; rcases hp with rfl | rfl | rfl | rfl <;> first | (simp only at h; omega) | (repeat (first | exact QW | refine QV ?_))) hB hC (by intro p hp k hk; simp only [Qgt, Qgs, or_false] at hp; rcases hp with rfl | rfl | rfl | rfl | rfl | rfl <;> first | (simp [D.ids, D.sid, Q8, QT, ZJ] at hk; done) | (simp [D.ids, D.sid, Q8, QT, ZJ] at hk; subst hk; repeat (first | exact QW | exact Zt hg | exact Zt hc | refine QV ?_)))
 ·exact ⟨⟨QgD _, SmN.nil _, SmN.nil _⟩, [], List.nil_sublist _, rfl⟩
 intro ⟨i, s⟩ hI
 try dsimp only at hI
 have hb16 := QbJ (i := i) Wa
 try dsimp only
 refine XG ?_ -- 1
 refine Q6 fun K hK => mv2 Z Z ?_
 first | refine QL rfl QP ?_ | refine QL rfl rfl ?_
 refine Yg Z Z (hK _ _ (QK (kp7 Z Z Z Z Z Z Z) ?_))
 refine YN Z (fun h1 => ?_) (fun h1 => ?_)
 ·try rw [h1]
  try simp only [qA] at h1
  refine Y8 (QX (kp6 Z Z Z Z Z Z) ?_)
  refine XG ?_ -- 2
  refine YB (Q6 fun K hK => mv2 Z Z (Sl Z (Mc Wa Wa) (Qdj Z Z Wa (GY Z Z (ZG Z Z (hK _ _ (QK (kp7 Z Z Z Z Z Z Z) ?_)))))))
  refine YN Z (fun h2 => ?_) (fun h2 => ?_)
  ·try rw [h2]
   try simp only [qA] at h2
   have hvp := (hz _ (Qgw (Wa : i < zs.length))).1
   refine ZQ fun K hK => QJ (ds0 := [1, 0]) (cs := [_, _]) Z Z Z Z Wv Z (mv2 Z Z (XW (ds0 := [4, 3, 2, 1, 0]) Z Z (Qk Wa (Qk Wa (Qk Wa hc))) Wf Wa Wa Z Wv Z (Qf Z (Zt (Qk Wa (Qk Wa (Qk Wa hc)))) (QJ (ds0 := [2, 1, 0]) (cs := [_, _, _, _, _]) Z (Z8 (Qk Wa (Qk Wa (Qk Wa hc))) (QO Wa)) Z Z Wv Z (QS (ds0 := [1, 0]) (Jb (hz _ (Qgw Wa)).1 (hz _ (Qgw Wa)).2) Z Z (.inl Z) Wv Z (QS (ds0 := [0]) (FX (a := s) (b := (Y9 (zs[i]'Wa).v.a (zs[i]'Wa).v.b (zs[i]'Wa).v.c (zs[i]'Wa).v.p (zs[i]'Wa).v.q)) (hI.1.2.1.sm Wa) (hI.1.2.2.sm Wa) ((HY hvp).1.sm Wa) ((HY hvp).2.sm Wa) (by have := hI.1.2.1.1; have := (HY (a := (zs[i]'Wa).v.a) (b := (zs[i]'Wa).v.b) (c := (zs[i]'Wa).v.c) (q := (zs[i]'Wa).v.q) hvp).1.1; omega) (by have := hI.1.2.2.1; have := (HY (a := (zs[i]'Wa).v.a) (b := (zs[i]'Wa).v.b) (c := (zs[i]'Wa).v.c) (q := (zs[i]'Wa).v.q) hvp).2.1; omega)) Z Z (.inl Z) Wv Z (Xb (ds0 := []) Z Z Z Z Z Z Z Z Wv Z (hK _ ?_))))))))
   refine Qe (QX (kp6 Z Z Z Z Z Z) (ZQ fun K hK => Qa Z (QZ Z Z Wc (Qa Z (hK _ ?_)))))
   refine Qi (i + 1, Qah s (Y9 (zs[i]'Wa).v.a (zs[i]'Wa).v.b (zs[i]'Wa).v.c (zs[i]'Wa).v.p (zs[i]'Wa).v.q)) ?_ ?_ ?_
   ·exact MK (l := [0, 1, 4, 5, 6, 7]) (B := [_, _, _, _]) (kp6 rfl rfl rfl rfl rfl rfl) rfl (by intro p hp; simp only [Qgt, Qgs, or_false] at hp; rcases hp with rfl | rfl | rfl <;> exact ⟨by repeat (first | exact Qv | refine Qk Wi ?_), rfl⟩) rfl (by intro p hp h; simp only [Qgt, Qgs, or_false] at hp; rcases hp with rfl | rfl | rfl | rfl <;> first | (simp only at h; omega) | (repeat (first | exact QW | refine QV ?_))) hB hC (by intro p hp k hk; simp only [Qgt, Qgs, or_false] at hp; rcases hp with rfl | rfl | rfl | rfl | rfl | rfl <;> first | (simp [D.ids, D.sid, Q8, QT, ZJ] at hk; done) | (simp [D.ids, D.sid, Q8, QT, ZJ] at hk; subst hk; repeat (first | exact QW | exact Zt hg | exact Zt hc | refine QV ?_)))
   ·exact ⟨⟨by show i + 1 <= _; omega, QdR hI.1.2 (hz _ (Qgw Wa)).1 Wa⟩, by obtain ⟨L, hL, hs⟩ := hI.2; exact ⟨_, QeK Wa hL, by rw [QaJ, <- hs]; rfl⟩⟩
   ·show zs.length - (i + 1) < zs.length - i; omega
  ·try rw [h2]
   try simp only [qA] at h2
   have hvp := (hz _ (Qgw (Wa : i < zs.length))).1
   refine Y8 (Qe (QX (kp6 Z Z Z Z Z Z) (ZQ fun K hK => Qa Z (QZ Z Z Wc (Qa Z (hK _ ?_))))))
   refine Qi (i + 1, s) ?_ ?_ ?_
   ·exact MK (l := [0, 1, 4, 5, 6, 7]) (B := [_, _, _]) (kp6 rfl rfl rfl rfl rfl rfl) rfl (by intro p hp; simp only [Qgt, Qgs, or_false] at hp; rcases hp with rfl | rfl | rfl <;> exact ⟨by repeat (first | exact Qv | refine Qk Wi ?_), rfl⟩) rfl (by intro p hp h; simp only [Qgt, Qgs, or_false] at hp; rcases hp with rfl | rfl | rfl <;> first | (simp only at h; omega) | (repeat (first | exact QW | refine QV ?_))) hB hC (by intro p hp k hk; simp only [Qgt, Qgs, or_false] at hp; rcases hp with rfl | rfl | rfl | rfl | rfl | rfl <;> first | (simp [D.ids, D.sid, Q8, QT, ZJ] at hk; done) | (simp [D.ids, D.sid, Q8, QT, ZJ] at hk; subst hk; repeat (first | exact QW | exact Zt hg | exact Zt hc | refine QV ?_)))
   ·exact ⟨⟨by show i + 1 <= _; omega, Qbo hI.1.2⟩, by obtain ⟨L, hL, hs⟩ := hI.2; exact ⟨L, LB hL, hs⟩⟩
   ·show zs.length - (i + 1) < zs.length - i; omega
 ·try rw [h1]
  try simp only [qA] at h1
  refine Hb (YH (Qw (QE (QX (kp3 Z Z Z) ?_))))
  refine XG ?_ -- 3
  refine Q6 fun K hK => Qa Z (YA (HJ (I := nxI I) Z (Qk Wa (Qk Wa Qv)) hL Wa) (hK _ _ (QK (kp3 Z Z Z) ?_)))
  refine YB (Q6 fun K hK => ZG Z Z (Qa Z (hK _ _ (QK (kp4 Z Z Z Z) ?_))))
  refine YN Z (fun h3 => ?_) (fun h3 => ?_)
  ·try rw [h3]
   try simp only [qA] at h3
   refine Q6 fun K hK => Qt (G7) Z Z (.inl Z) (Q4 Z (Qk Wa Z) Z Z Z Z Z Z (hK _ _ (QK (kp1 Z) ?_)))
   refine NE (Qp (Kb ?_))
   refine ⟨Rq DP, (kg, gB L (nxI (nxI I)) eg) :: H, ⟨DP, _, ⟨⟨QbH.1.up Wa, QbH.2.up Wa⟩, Qce⟩, rfl, rfl⟩, (XU hB hC hkg rfl).1, (XU hB hC hkg rfl).2, ?_⟩
   refine H8 (cs := [ZH DP.1, ZH DP.2]) Z (Z8 Wj Z) Z Z Z ?_
   exact J6 (B := [_, _, _, _, _]) hB Wj (by intro p hp h; simp only [Qgt, Qgs, or_false] at hp; rcases hp with rfl | rfl | rfl | rfl | rfl <;> first | rfl | (simp only at h; omega))
  ·try rw [h3]
   try simp only [qA] at h3
   refine Q6 fun K hK => ZG Z Z (Qa Z (hK _ _ (QK (kp3 Z Z Z) ?_)))
   refine YN Z (fun h4 => ?_) (fun h4 => ?_)
   ·try rw [h4]
    try simp only [qA] at h4
    refine Q6 fun K hK => QB (cs := [_, _]) Z (Z8 (Qk Wa Z) Z) Z Z (Qt (G9 (a := s) (hI.1.2.1.sm Wa) (hI.1.2.2.sm Wa)) Z Z (.inl Z) (Q4 Z (Qk Wa Z) Z Z Z Z Z Z (hK _ _ (QK (kp1 Z) ?_))))
    refine NE (Qp (Kb ?_))
    refine ⟨Rq (MU s), (kg, gB L (nxI (nxI I)) eg) :: H, ⟨(MU s), _, ⟨⟨(BA hI.1.2 Wa).1.up Wa, (BA hI.1.2 Wa).2.up Wa⟩, by obtain ⟨L, hL, hs⟩ := hI.2; rw [hs]; exact (VsL.fold hvs (hL.trans (List.take_sublist _ _))).2⟩, rfl, rfl⟩, (XU hB hC hkg rfl).1, (XU hB hC hkg rfl).2, ?_⟩
    refine H8 (cs := [ZH (MU s).1, ZH (MU s).2]) Z (Z8 Wj Z) Z Z Z ?_
    exact J6 (B := [_, _, _, _, _]) hB Wj (by intro p hp h; simp only [Qgt, Qgs, or_false] at hp; rcases hp with rfl | rfl | rfl | rfl | rfl <;> first | rfl | (simp only at h; omega))
   ·try rw [h4]
    try simp only [qA] at h4
    refine Y8 (Qe (QX (kp2 Z Z) (Q6 fun K hK => QB (cs := [_, _]) Z (Z8 (Qk Wa Z) Z) Z Z (Q4 Z (Qk Wa Z) Z Z Z Z Z Z (hK _ _ (QK (kp1 Z) ?_))))))
    refine NE ?_
    refine ⟨Rq s, (kg, gB L (nxI (nxI I)) eg) :: H, ⟨s, _, ⟨⟨hI.1.2.1.up Wa, hI.1.2.2.up Wa⟩, by obtain ⟨L, hL, hs⟩ := hI.2; rw [hs]; exact (VsL.fold hvs (hL.trans (List.take_sublist _ _))).1⟩, rfl, rfl⟩, (XU hB hC hkg rfl).1, (XU hB hC hkg rfl).2, ?_⟩
    refine H8 (cs := [ZH s.1, ZH s.2]) Z (Z8 Wj Z) Z Z Z ?_
    exact J6 (B := [_, _, _, _, _]) hB Wj (by intro p hp h; simp only [Qgt, Qgs, or_false] at hp; rcases hp with rfl | rfl | rfl | rfl | rfl <;> first | rfl | (simp only at h; omega))
open Go Go.Abs M3 M25
/-- The call of 'set', over boxes that are lent. -/
theorem Qeq {H : Qgo} {kg kc : Nat} {L : List Int} {I : Int} {eg ec : Nat} {pr : Bool} {zs : List CR} (hg : lk H kg = some (gB L I eg)) (hc : lk H kc = some ⟨zs.map dCR, 8, ec, pr⟩) (hne : kg ≠ kc) (hC : Closed H) (hL : ∀ x ∈ L, I64 x) (hz : ∀ z ∈ zs, Py z.v) (hn : zs.length <= 16) (hvs : VsOk zs) :
  ∃ s I2, SetMay s /\ ∀ (st : St) (args : List Opd), Zi st args = some [.ref kg 0 0, .osl kc zs.length] -> (∀ j x, lk H j = some x -> lk st.H j = some x) -> Kp Tryz.prog 52 args st H [] [(kg, gB L I2 eg)] (Rq s) := by
 obtain ⟨d, H2, ⟨s, I2, hs, rfl, rfl⟩, hok⟩ := G4 (H := upH H) (kg := upN kg) (kc := upN kc) (L := L) (I := I) (eg := eg) (ec := ec) (pr := pr) (zs := zs.map CR.ren) (by unfold upN; omega) (by rw [JD, hg]; rfl) (by rw [JD, hc, Option.map_some, Box.ren, CG]) (fun e => hne (Lz e)) Ly (Nt hC) hL
  (fun z hz' => by obtain ⟨z0, h0, rfl⟩ := QgF.1 hz'; exact hz z0 h0) (by simpa using hn) hvs.ren
 refine ⟨s, I2, hs, fun st args ha hF => LN (b' := gB L I2 eg) (ds' := [.ref (upN kg) 0 0, .osl (upN kc) zs.length]) ha hF hC (fun x hx j hj => ?_) (Zt hg) Z Z Z Z ?_⟩
 ·simp only [Qgt, Qgs, or_false] at hx
  rcases hx with rfl | rfl
  ·simp [D.ids, D.sid] at hj; subst hj; exact Zt hg
  ·simp [D.ids, D.sid] at hj; subst hj; exact Zt hc
 ·rw [List.length_map] at hok; exact hok
theorem GD {H : Qgo} {kg ku : Nat} {L : List Int} {I : Int} {eg eu ec : Nat} {us : List UR} (hkg : 1000000 <= kg) (hg : lk H kg = some (gB L I eg)) (hU : Fam H kg ku eu ec us) (hB : Big H) (hC : Closed H) (hL : ∀ x ∈ L, I64 x) (h2n : 2 <= us.length) (hn : us.length <= 48) : ∃ d H2, (∃ x I2, WantMay us.length x /\ d = .agg (NG x) /\ H2 = (kg, gB L I2 eg) :: H) /\ OkH Tryz.prog 26 [.ref kg 0 0, .osl ku us.length] H d H2 := by
 obtain ⟨pu, hu⟩ := hU.u
 have hku := hB _ _ hu
 have hne := hU.ne
 have hx0 := MX (v := Qag L (IntKind.i64.wrap (nxI I - 1))) (n := (us.length : Int) - 1)
 have hx1 := MW (v := Qag L (IntKind.i64.wrap (nxI I - 1))) (n := (us.length : Int) - 1) Wa
 change 0 <= nx L I ((us.length : Int) - 1) at hx0
 change nx L I ((us.length : Int) - 1) < _ at hx1
 obtain ⟨hyk, pr, hy⟩ := hU.c (us[(1 + nx L I ((us.length : Int) - 1)).toNat]'Wa) (Qgw _)
 obtain ⟨hv1, hv2⟩ := hU.v (us[(1 + nx L I ((us.length : Int) - 1)).toNat]'Wa) (Qgw _)
 obtain ⟨s, I2, hs, hcall⟩ := Qeq (H := (kg, gB L (nxI I) eg) :: H) Qv (Qk (Ne.symm hyk) hy) (Ne.symm hyk) (hC.pr rfl) hL hv2 hv1 (hU.vs _ (Qgw _))
 refine OkH.ofX (R := fun d H2 => ∃ x I2, WantMay us.length x /\ d = .agg (NG x) /\ H2 = (kg, gB L I2 eg) :: H) ZR Tryz.func26 Qfc (Qgr Z) ?_
 show TX _ _ tf26.body _ _
 refine Q6 fun K hK => ?_
 refine ZI (by repeat (first | exact hB.none Wk | refine Zu Wi ?_)) ?_
 refine hK _ _ (QK (kp3 Z Z Z) ?_)
 refine Q6 fun K hK => mv2 Z Z ?_
 first | refine QL rfl QP ?_ | refine QL rfl rfl ?_
 refine Xu Z Z Wc (YA (HJ (I := I) Z (Qk Wa hg) hL Wa) (QZ Z Z Wc (Qa Z (hK _ _ (QK (kp4 Z Z Z Z) ?_)))))
 refine Q6 fun K hK => Qa rfl (Qa rfl (Qa rfl (Qa rfl (Xt rfl rfl (Qk Wa (Qk Wa hu)) Wf Wa Wa rfl (Qf rfl (Zt (Qk Wa (Qk Wa hu))) (Qx rfl (Z8 (Qk Wa (Qk Wa hu)) (ZM Wa Wa)) rfl (YA (hcall _ _ rfl (J6 (B := [_, _]) hB Qv (by intro p hp h; simp only [Qgt, Qgs, or_false] at hp; rcases hp with rfl | rfl <;> first | rfl | (simp only at h; omega)))) (QQ rfl rfl (Q4 rfl (Qk Wa (Qk Wa rfl)) rfl rfl rfl rfl rfl rfl (hK _ _ (QK (kp1 rfl) ?_)))))))))))
 refine NE ?_
 refine ⟨.agg (NG ⟨1 + nx L I ((us.length : Int) - 1), s⟩), (kg, gB L I2 eg) :: H, ⟨⟨1 + nx L I ((us.length : Int) - 1), s⟩, _, ⟨⟨by show 1 <= 1 + _; omega, by show 1 + _ < (us.length : Int); omega, hs.1⟩, hs.2⟩, rfl, rfl⟩, (XU hB hC hkg rfl).1, (XU hB hC hkg rfl).2, ?_⟩
 refine H8 (cs := NG ⟨1 + nx L I ((us.length : Int) - 1), s⟩) Z (Z8 Wj Z) Z Z Z ?_
 exact J6 (B := [_, _, _, _]) hB Wj (by intro p hp h; simp only [Qgt, Qgs, or_false] at hp; rcases hp with rfl | rfl | rfl | rfl <;> first | rfl | (simp only at h; omega))
/-- The call of 'want'. -/
theorem Du {H : Qgo} {kg ku : Nat} {L : List Int} {I : Int} {eg eu ec : Nat} {us : List UR} (hg : lk H kg = some (gB L I eg)) (hU : Fam H kg ku eu ec us) (hC : Closed H) (hL : ∀ x ∈ L, I64 x) (h2 : 2 <= us.length) (hn : us.length <= 48) :
  ∃ x I2, WantMay us.length x /\ ∀ (st : St) (args : List Opd), Zi st args = some [.ref kg 0 0, .osl ku us.length] -> (∀ j x, lk H j = some x -> lk st.H j = some x) -> Kp Tryz.prog 26 args st H [] [(kg, gB L I2 eg)] (.agg (NG x)) := by
 obtain ⟨d, H2, ⟨x, I2, hx, rfl, rfl⟩, hok⟩ := GD (H := upH H) (kg := upN kg) (ku := upN ku) (L := L) (I := I) (eg := eg) (eu := eu) (ec := ec) (us := us.map UR.ren) (by unfold upN; omega) (by rw [JD, hg]; rfl) hU.up Ly (Nt hC) hL (by simpa using h2) (by simpa using hn)
 obtain ⟨pu, hu⟩ := hU.u
 rw [List.length_map] at hx hok
 refine ⟨x, I2, hx, fun st args ha hF => LN (b' := gB L I2 eg) (ds' := [.ref (upN kg) 0 0, .osl (upN ku) us.length]) ha hF hC (fun x hx j hj => ?_) (Zt hg) Z Z Z Z hok⟩
 simp only [Qgt, Qgs, or_false] at hx
 rcases hx with rfl | rfl
 ·simp [D.ids, D.sid] at hj; subst hj; exact Zt hg
 ·simp [D.ids, D.sid] at hj; subst hj; exact Zt hu
open Go Go.Abs M3 M25
theorem Gd {H : Qgo} {kg ku : Nat} {L : List Int} {I most : Int} {eg eu ec : Nat} {us : List UR} (hkg : 1000000 <= kg) (hg : lk H kg = some (gB L I eg)) (hU : Fam H kg ku eu ec us) (hB : Big H) (hC : Closed H) (hL : ∀ x ∈ L, I64 x) (h2n : 2 <= us.length) (hn : us.length <= 48) (hm0 : 0 <= most) (hm1 : most <= 10) : ∃ d H2, (∃ ns I2, Md us.length most ns /\ d = QT ns /\ H2 = (kg, gB L I2 eg) :: H) /\ OkH Tryz.prog 23 [.ref kg 0 0, .osl ku us.length, .int .i64 most] H d H2 := by
 obtain ⟨pu, hu⟩ := hU.u
 have hku := hB _ _ hu
 have hne := hU.ne
 have hk0 : 0 <= nx L I (most + 1) := MX
 have hk1 : nx L I (most + 1) < most + 1 := MW Wa
 refine OkH.ofX (R := fun d H2 => ∃ ns I2, Md us.length most ns /\ d = QT ns /\ H2 = (kg, gB L I2 eg) :: H) ZR Tryz.func23 Qe9 (Qgr Z) ?_
 show TX _ _ tf23.body _ _
 refine Q6 fun K hK => Qa Z (hK _ _ (QK (kp3 Z Z Z) ?_))
 refine Q6 fun K hK => Qa Z (hK _ _ (QK (kp4 Z Z Z Z) ?_))
 refine XG ?_ -- 0
 refine Q6 fun K hK => mv2 Z Z (QZ Z Z Wc (YA (HJ (I := I) Z hg hL Wa) (Qa Z (hK _ _ (QK (kp4 Z Z Z Z) ?_)))))
 refine YB ?_
 refine G0 (ι := Nat × List (List WantT) × Int) (fun ⟨k, ns, J⟩ => ⟨[(0, .ref kg 0 0), (1, .osl ku us.length), (7, .osl 7 ns.length), (8, .int .i64 k)], [(7, ⟨(ns).map (fun r => [Q8 r]), 1, 59, true⟩), (kg, gB L J eg)] ++ H⟩) (fun ⟨k, ns, J⟩ => (ns.length : Int) + k <= most /\ ∀ r ∈ ns, Sn us.length r) (fun ⟨k, ns, J⟩ => k) ((nx L I (most + 1)).toNat, [], nxI I) ?_ ?_ ?_
 ·exact le_trans (Yd 7 7 1 59 rfl (by repeat (first | exact hB.none Wk | refine Zu Wi ?_))) (MK (l := [0, 1, 7, 8]) (B := [_, _]) (kp4 rfl rfl rfl rfl) (by simp only [Int.toNat_of_nonneg hk0] <;> rfl) (by intro p hp; simp only [Qgt, Qgs, or_false] at hp; rcases hp with rfl | rfl <;> exact ⟨by repeat (first | exact Qv | refine Qk Wi ?_), rfl⟩) rfl (by intro p hp h; simp only [Qgt, Qgs, or_false] at hp; rcases hp with rfl | rfl <;> first | (simp only at h; omega) | (repeat (first | exact QW | refine QV ?_))) hB hC (by intro p hp k hk; simp only [Qgt, Qgs, or_false] at hp; rcases hp with rfl | rfl | rfl | rfl <;> first | (simp [D.ids, D.sid, Q8, QT, ZJ] at hk; done) | (simp [D.ids, D.sid, Q8, QT, ZJ] at hk; subst hk; repeat (first | exact QW | exact Zt hg | exact Zt hu | refine QV ?_))))
 ·exact ⟨by simp only [List.length_nil]; omega, by simp⟩
 intro ⟨k, ns, J⟩ hI
 try dsimp only at hI
 try dsimp only
 refine XG ?_ -- 1
 refine Q6 fun K hK => Qa Z (Pv Z Z (hK _ _ (QK (kp5 Z Z Z Z Z) ?_)))
 refine YN Z (fun h1 => ?_) (fun h1 => ?_)
 ·try rw [h1]
  try simp only [qA] at h1
  refine Y8 (QX (kp4 Z Z Z Z) ?_)
  refine XG ?_ -- 2
  refine YB (Q6 fun K hK => mv2 Z Z ?_)
  obtain ⟨x1, J1, hx1, hc1⟩ := Du (I := J) (H := (kg, gB L (J) eg) :: H) Qv hU.cons (hC.pr rfl) hL h2n hn
  refine YA (hc1 _ _ rfl (J6 (B := [_, _]) hB Wj (by intro p hp h; simp only [Qgt, Qgs, or_false] at hp; rcases hp with rfl | rfl <;> first | rfl | (simp only at h; omega)))) ?_
  refine QD Z (by repeat (first | exact hB.none Wk | refine Zu Wi ?_)) ?_
  refine Qa Z (hK _ _ (QK (kp5 Z Z Z Z Z) ?_))
  refine Qdo (ι := List WantT × Int) (fun ⟨r, J4⟩ => ⟨[(0, .ref kg 0 0), (1, .osl ku us.length), (7, .osl 7 ns.length), (8, .int .i64 k), (9, Q8 r)], [(7, ⟨(ns).map (fun r => [Q8 r]), 1, 59, true⟩), (kg, gB L J4 eg)] ++ H⟩) (fun ⟨r, J4⟩ => Sn us.length r) ?_ ?_
  ·skip
   refine Q6 fun K hK => Qa Z (YA (HJ (I := J1) Z (Qk Wa Qv) hL Wa) (ZG Z Z (hK _ _ (QK (kp6 Z Z Z Z Z Z) ?_))))
   refine YN Z (fun h2 => ?_) (fun h2 => ?_)
   ·try rw [h2]
    try simp only [qA] at h2
    refine ZQ fun K hK => mv2 Z Z (Qa Z ?_)
    obtain ⟨x2, J2, hx2, hc2⟩ := Du (I := nxI J1) (H := (kg, gB L (nxI J1) eg) :: H) Qv hU.cons (hC.pr rfl) hL h2n hn
    refine YA (hc2 _ _ rfl (J6 (B := [_, _, _, _, _]) hB Wj (by intro p hp h; simp only [Qgt, Qgs, or_false] at hp; rcases hp with rfl | rfl | rfl | rfl | rfl <;> first | rfl | (simp only at h; omega)))) ?_
    refine QD Z (by repeat (first | exact hB.none Wk | refine Zu Wi ?_)) ?_
    refine Qb6 Z Z Wn ⟨_, rfl, rfl, rfl, rfl, rfl⟩ (by repeat (first | exact hB.none Wk | refine Zu Wi ?_)) (Qk Wk (Qk Wa (Qk Wa Z))) Z Z Z Wf Wf ?_
    refine Qa Z (hK _ ?_)
    refine Z1 ([x1, x2], J2) ?_ ?_
    ·exact le_trans (T4 (l := [0, 1, 7, 8]) (B := [_, _, _, _, _, _, _, _, _]) (A := [(7, ⟨(ns).map (fun r => [Q8 r]), 1, 59, true⟩), (kg, gB L J2 eg)]) 30 9 (kp4 rfl rfl rfl rfl) rfl rfl rfl Wm (by intro p hp hk; simp only [Qgt, Qgs, or_false] at hp; rcases hp with rfl | rfl | rfl | rfl <;> first | (simp [D.ids, D.sid, Q8, QT, ZJ] at hk; done) | (simp [D.ids, D.sid, Q8, QT, ZJ] at hk; omega)) (by intro p hp; simp only [Qgt, Qgs, or_false] at hp; rcases hp with rfl | rfl <;> exact ⟨by first | decide | (simp only; omega), by repeat (first | exact Qv | refine Qk Wi ?_), rfl⟩) (by intro p hp h; simp only [Qgt, Qgs, or_false] at hp; rcases hp with rfl | rfl | rfl | rfl | rfl | rfl | rfl | rfl | rfl <;> first | (simp only at h; omega) | (repeat (first | exact QW | refine QV ?_))) hB hC (by intro p hp k hk; simp only [Qgt, Qgs, or_false] at hp; rcases hp with rfl | rfl | rfl | rfl <;> first | (simp [D.ids, D.sid, Q8, QT, ZJ] at hk; done) | (simp [D.ids, D.sid, Q8, QT, ZJ] at hk; subst hk; repeat (first | exact QW | exact Zt hg | exact Zt hu | refine QV ?_)))) (MK (l := [0, 1, 7, 8, 9]) (B := [_, _]) (kp5 rfl rfl rfl rfl rfl) rfl (by intro p hp; simp only [Qgt, Qgs, or_false] at hp; rcases hp with rfl | rfl <;> exact ⟨by repeat (first | exact Qv | refine Qk Wi ?_), rfl⟩) rfl (by intro p hp h; simp only [Qgt, Qgs, or_false] at hp; rcases hp with rfl | rfl <;> first | (simp only at h; omega) | (repeat (first | exact QW | refine QV ?_))) hB hC (by intro p hp k hk; simp only [Qgt, Qgs, or_false] at hp; rcases hp with rfl | rfl | rfl | rfl | rfl <;> first | (simp [D.ids, D.sid, Q8, QT, ZJ] at hk; done) | (simp [D.ids, D.sid, Q8, QT, ZJ] at hk; subst hk; repeat (first | exact QW | exact Zt hg | exact Zt hu | refine QV ?_))))
    ·exact QcO hx1 hx2
   ·try rw [h2]
    try simp only [qA] at h2
    refine Y8 ?_
    refine Z1 ([x1], nxI J1) ?_ ?_
    ·exact le_trans (T4 (l := [0, 1, 7, 8]) (B := [_, _, _, _, _]) (A := [(7, ⟨(ns).map (fun r => [Q8 r]), 1, 59, true⟩), (kg, gB L (nxI J1) eg)]) 21 9 (kp4 rfl rfl rfl rfl) rfl (Qk Wa rfl) rfl Wm (by intro p hp hk; simp only [Qgt, Qgs, or_false] at hp; rcases hp with rfl | rfl | rfl | rfl <;> first | (simp [D.ids, D.sid, Q8, QT, ZJ] at hk; done) | (simp [D.ids, D.sid, Q8, QT, ZJ] at hk; omega)) (by intro p hp; simp only [Qgt, Qgs, or_false] at hp; rcases hp with rfl | rfl <;> exact ⟨by first | decide | (simp only; omega), by repeat (first | exact Qv | refine Qk Wi ?_), rfl⟩) (by intro p hp h; simp only [Qgt, Qgs, or_false] at hp; rcases hp with rfl | rfl | rfl | rfl | rfl <;> first | (simp only at h; omega) | (repeat (first | exact QW | refine QV ?_))) hB hC (by intro p hp k hk; simp only [Qgt, Qgs, or_false] at hp; rcases hp with rfl | rfl | rfl | rfl <;> first | (simp [D.ids, D.sid, Q8, QT, ZJ] at hk; done) | (simp [D.ids, D.sid, Q8, QT, ZJ] at hk; subst hk; repeat (first | exact QW | exact Zt hg | exact Zt hu | refine QV ?_)))) (MK (l := [0, 1, 7, 8, 9]) (B := [_, _]) (kp5 rfl rfl rfl rfl rfl) rfl (by intro p hp; simp only [Qgt, Qgs, or_false] at hp; rcases hp with rfl | rfl <;> exact ⟨by repeat (first | exact Qv | refine Qk Wi ?_), rfl⟩) rfl (by intro p hp h; simp only [Qgt, Qgs, or_false] at hp; rcases hp with rfl | rfl <;> first | (simp only at h; omega) | (repeat (first | exact QW | refine QV ?_))) hB hC (by intro p hp k hk; simp only [Qgt, Qgs, or_false] at hp; rcases hp with rfl | rfl | rfl | rfl | rfl <;> first | (simp [D.ids, D.sid, Q8, QT, ZJ] at hk; done) | (simp [D.ids, D.sid, Q8, QT, ZJ] at hk; subst hk; repeat (first | exact QW | exact Zt hg | exact Zt hu | refine QV ?_))))
    ·exact QcN hx1
  intro ⟨r, J4⟩ hJ
  try dsimp only at hJ
  try dsimp only
  refine ZQ fun K hK => mv2 Z Z ?_
  refine QD Z (by repeat (first | exact hB.none Wk | refine Zu Wi ?_)) ?_
  refine Xs Z Z (fun _ h => Xo Z Z Z h) Z Wf Z Z Z Wh Wh (Qa Z (hK _ ?_))
  refine Qe (QX (kp4 Z Z Z Z) (ZQ fun K hK => Qa Z (Xu Z Z Wc (Qa Z (hK _ ?_)))))
  refine Qi (k - 1, ns ++ [r], J4) ?_ ?_ ?_
  ·exact le_trans (QdG (B := [_, _, _, _]) 7 hB hC) (MK (l := [0, 1, 7, 8]) (A := [(7, ⟨ns.map (fun r => [Q8 r]) ++ [[Q8 r]], 1, 59, true⟩), (kg, gB L J4 eg)]) (B := [_, _, _, _]) (kp4 rfl rfl rfl rfl) (by simp [D.scrub, show ¬ kg = 7 by omega, show ¬ ku = 7 by omega] <;> omega) (by intro p hp; simp only [Qgt, Qgs, or_false] at hp; rcases hp with rfl | rfl <;> exact ⟨by repeat (first | exact Qv | refine Qk Wi ?_), rfl⟩) Wf (by intro p hp h; simp only [Qgt, Qgs, or_false] at hp; rcases hp with rfl | rfl | rfl | rfl <;> first | (simp only at h; omega) | (repeat (first | exact QW | refine QV ?_))) hB hC (by intro p hp k hk; simp only [Qgt, Qgs, or_false] at hp; rcases hp with rfl | rfl | rfl | rfl <;> first | (simp [D.ids, D.sid, Q8, QT, ZJ] at hk; done) | (simp [D.ids, D.sid, Q8, QT, ZJ] at hk; subst hk; repeat (first | exact QW | exact Zt hg | exact Zt hu | refine QV ?_))))
  ·exact ⟨by simp only [List.length_append, List.length_singleton]; omega, BP hI.2 hJ⟩
  ·show k - 1 < k; omega
 ·try rw [h1]
  try simp only [qA] at h1
  refine Hb (YH (Qw (QE (QX (kp1 Z) (Q6 fun K hK => mv2 Z Z (hK _ _ (QK (kp1 Z) ?_)))))))
  refine NE ?_
  refine ⟨QT ns, (kg, gB L J eg) :: H, ⟨ns, _, ⟨Wa, hI.2⟩, rfl, rfl⟩, (XU hB hC hkg rfl).1, (XU hB hC hkg rfl).2, ?_⟩
  refine YG Z (by simp [Cj, D.fz, D.fzS, NL, lk, D.can, D.canS, QT]) ?_
  exact J6 (B := [_, _]) hB Wj (by intro p hp h; simp only [Qgt, Qgs, or_false] at hp; rcases hp with rfl | rfl <;> first | rfl | (simp only at h; omega))
end Go.Proofs
namespace M25
open Go Go.Abs M3
/-! ### The boxes of a world under way -/
def fbx (ec : Nat) (us : List UR) : Qgo := us.map fun u => (u.k, ⟨u.cs.map dCR, 8, ec, true⟩)
def Yh (us : List UR) : Prop := ∀ j, ∀ h : j < us.length, us[j].k = 500001 + j
theorem SP {us : List UR} {u : UR} (h : Yh us) (hu : u.k = 500001 + us.length) : Yh (us ++ [u]) := fun j hj => by
 rw [List.length_append, List.length_singleton] at hj
 by_cases e : j < us.length
 ·rw [List.getElem_append_left e]; exact h j e
 ·have : j = us.length := Wa
  subst this
  rw [List.getElem_append_right (Nat.le_refl _)]; simpa using hu
theorem Mx (ec : Nat) (us : List UR) : Qak (fbx ec us) := fun p hp => by
 obtain ⟨u, _, rfl⟩ := QgF.1 hp; rfl
theorem PR {ec : Nat} : ∀ {us : List UR} {k : Nat} {b : Box}, lk (fbx ec us) k = some b -> ∃ u ∈ us, k = u.k /\ b = ⟨u.cs.map dCR, 8, ec, true⟩
 | [], _, _, h => by cases h
 | u :: us, k, b, h => by
  simp only [fbx, List.map_cons] at h
  rw [Qj] at h
  split at h
  ·rename_i e; cases h; exact ⟨u, by simp, e.symm, rfl⟩
  ·obtain ⟨v, hv, q⟩ := PR (us := us) h
   exact ⟨v, by simp [hv], q⟩
theorem KR {us : List UR} (h : Yh us) {u : UR} (hu : u ∈ us) : 500001 <= u.k /\ u.k < 500001 + us.length := by
 obtain ⟨j, hj, rfl⟩ := QgN hu
 have := h j hj
 omega
theorem Rs {ec : Nat} {us : List UR} (h : Yh us) : QeN 500001 (fbx ec us) := fun k b hk => by
 obtain ⟨u, hu, rfl, _⟩ := PR hk
 exact (KR h hu).1
theorem YY {ec : Nat} {us : List UR} (h : Yh us) {k : Nat} (hk : k < 500001 \/ 500001 + us.length <= k) : lk (fbx ec us) k = none := by
 cases hh : lk (fbx ec us) k with
 | none => rfl
 | some b =>
  obtain ⟨u, hu, rfl, _⟩ := PR hh
  have := KR h hu
  omega
theorem CS {ec : Nat} : ∀ {us : List UR} {n : Nat}, (∀ j, ∀ h : j < us.length, us[j].k = n + j) -> ∀ j, ∀ h : j < us.length, lk (fbx ec us) (n + j) = some ⟨us[j].cs.map dCR, 8, ec, true⟩
 | [], _, _, j, hj => by simp at hj
 | u :: us, n, hk, 0, _ => by
  have := hk 0 Wf
  simp only [List.getElem_cons_zero, Nat.add_zero] at this
  simp only [fbx, List.map_cons, Nat.add_zero]
  rw [Qj, if_pos this]; rfl
 | u :: us, n, hk, j + 1, hj => by
  have h0 := hk 0 Wf
  simp only [List.getElem_cons_zero, Nat.add_zero] at h0
  simp only [fbx, List.map_cons]
  rw [Qj, if_neg Wa]
  have := CS (ec := ec) (us := us) (n := n + 1) (fun i hi => by
   have := hk (i + 1) (by simpa using hi)
   simp only [List.getElem_cons_succ] at this
   omega) j (by simpa using hj)
  rw [show n + 1 + j = n + (j + 1) by omega] at this
  simp only [List.getElem_cons_succ]
  exact this
theorem CQ {ec : Nat} {us : List UR} (h : Yh us) {j : Nat} (hj : j < us.length) : lk (fbx ec us) (500001 + j) = some ⟨us[j].cs.map dCR, 8, ec, true⟩ := CS h j hj
theorem LY (ec : Nat) (us : List UR) (u : UR) : fbx ec (us ++ [u]) = fbx ec us ++ [(u.k, ⟨u.cs.map dCR, 8, ec, true⟩)] := by simp [fbx]
theorem QaG {ec : Nat} {us : List UR} (h : Yh us) {kg : Nat} {x y : Box} {u : UR} (hu : u.k = 500001 + us.length) (hkg : u.k ≠ kg) (k : Nat) :
  lk ((u.k, ⟨u.cs.map dCR, 8, ec, true⟩) :: (500000, x) :: (kg, y) :: fbx ec us) k = lk ((500000, x) :: (kg, y) :: fbx ec (us ++ [u])) k := by
 rw [LY]
 by_cases e : u.k = k
 ·subst e
  rw [Qv, Qj, if_neg Wa, Qj, if_neg (Ne.symm hkg), YZ (YY h (.inr Wa)), Qv]
 ·rw [Qj, if_neg e, Qj, Qj, Qj, Qj]
  split
  ·rfl
  ·split
   ·rfl
   ·rw [ZX]
    cases h2 : lk (fbx ec us) k with
    | some v => rfl
    | none => rw [Qj, if_neg e]; rfl
def zr (v : Vr) (sh : Int) : CR := ⟨v, .int .i64 sh, .fsl [], .fsl []⟩
def Qdc (u : UR) : Prop := u.cs.length <= 4 /\ ∀ z ∈ u.cs, ∃ v sh, z = zr v sh /\ Py v
theorem QbP {u : UR} : (dUR u).flatMap D.sid = [u.k] := by simp [dUR, D.sid]
theorem K8 {us : List UR} {e et : Nat} {k : Nat} (h : k ∈ (Box.ids ⟨us.map dUR, e, et, false⟩)) : ∃ u ∈ us, k = u.k := by
 simp only [Box.ids, Qgz, if_false, Qgy, QgF] at h
 obtain ⟨r, ⟨u, hu, rfl⟩, hk⟩ := h
 have : k ∈ (dUR u).flatMap D.sid := Qgy.2 hk
 rw [QbP] at this
 exact ⟨u, hu, by simpa using this⟩
theorem QcW {us : List UR} (h : Yh us) : ∀ r ∈ us.map dUR, ∀ d ∈ r, 500000 ∉ d.sid := fun r hr d hd hk => by
 obtain ⟨u, hu, rfl⟩ := QgF.1 hr
 have : 500000 ∈ (dUR u).flatMap D.sid := Qgy.2 ⟨d, hd, hk⟩
 rw [QbP] at this
 have h2 := KR h hu
 simp only [QgA] at this
 omega
theorem Rj {B F : Qgo} {j : Nat} (h : (lk F j).isSome = true) : (lk (B ++ F) j).isSome = true := by
 rw [ZX]; split
 ·rfl
 ·exact h
theorem Fg {ec : Nat} {us : List UR} (h : Yh us) {u : UR} (hu : u ∈ us) : (lk (fbx ec us) u.k).isSome = true := by
 obtain ⟨j, hj, rfl⟩ := QgN hu
 rw [h j hj, CQ h hj]; rfl
theorem Rt {ec : Nat} {us : List UR} {u : UR} (h : Yh us) (hu : u.k = 500001 + us.length) : lk (fbx ec (us ++ [u])) (500001 + us.length) = some ⟨u.cs.map dCR, 8, ec, true⟩ := by
 rw [LY, YZ (YY h (.inr (Nat.le_refl _))), <- hu, Qv]
section
variable {l : List Nat} {fr fr1 fr' : Qgp} {B : Qgo} {kg eg eu ec : Nat} {L : List Int} {J : Int} {us : List UR}
theorem QeQ (hf : Q9 l fr = fr1) (ef : fr1 = fr') (hK : Yh us) (hu : lk B 500000 = some ⟨us.map dUR, 3, eu, false⟩) (hg : lk B kg = some (gB L J eg)) (hB : ∀ p ∈ B, 500001 <= p.1 -> p.1 = kg) (hkg : kg ≠ 500000)
  (hfr : ∀ p ∈ fr', ∀ k ∈ p.2.ids, k = 500000 \/ k = kg \/ ∃ u ∈ us, k = u.k) : St.le ⟨fr, B ++ fbx ec us⟩ ⟨fr', [(500000, ⟨us.map dUR, 3, eu, false⟩), (kg, gB L J eg)] ++ fbx ec us⟩ := by
 have s0 : ∀ k, (k = 500000 \/ k = kg \/ ∃ u ∈ us, k = u.k) -> (lk ([(500000, (⟨us.map dUR, 3, eu, false⟩ : Box)), (kg, gB L J eg)] ++ fbx ec us) k).isSome = true := fun k hk => by
  rcases hk with rfl | rfl | ⟨u, hu, rfl⟩
  ·exact QW
  ·exact QV QW
  ·exact Rj (Fg hK hu)
 refine T5 (N := 500001) hf ef (fun p hp => ?_) rfl (fun p hp j hj => s0 j ?_) (fun p hp h => ?_) (Rs hK) (Mx ec us) (fun p hp k hk => s0 k (hfr p hp k hk))
 ·simp only [Qgt, Qgs, or_false] at hp
  rcases hp with rfl | rfl
  ·exact hu
  ·exact hg
 ·simp only [Qgt, Qgs, or_false] at hp
  rcases hp with rfl | rfl
  ·exact .inr (.inr (K8 hj))
  ·simp [Box.ids, gB] at hj
 ·rw [hB p hp h]; exact QV QW
theorem Qda {cs : List CR} (hf : Q9 l fr = fr1) (ef : fr1 = fr') (hK : Yh us) (hc : lk B (500001 + us.length) = some ⟨cs.map dCR, 8, ec, true⟩) (hu : lk B 500000 = some ⟨us.map dUR, 3, eu, false⟩) (hg : lk B kg = some (gB L J eg)) (hB : ∀ p ∈ B, 500001 <= p.1 -> p.1 = kg \/ p.1 = 500001 + us.length)
  (hfr : ∀ p ∈ fr', ∀ k ∈ p.2.ids, k = 500000 \/ k = kg \/ k = 500001 + us.length \/ ∃ u ∈ us, k = u.k) : St.le ⟨fr, B ++ fbx ec us⟩ ⟨fr', [(500001 + us.length, ⟨cs.map dCR, 8, ec, true⟩), (500000, ⟨us.map dUR, 3, eu, false⟩), (kg, gB L J eg)] ++ fbx ec us⟩ := by
 have s0 : ∀ k, (k = 500000 \/ k = kg \/ k = 500001 + us.length \/ ∃ u ∈ us, k = u.k) -> (lk ([(500001 + us.length, (⟨cs.map dCR, 8, ec, true⟩ : Box)), (500000, (⟨us.map dUR, 3, eu, false⟩ : Box)), (kg, gB L J eg)] ++ fbx ec us) k).isSome = true := fun k hk => by
  rcases hk with rfl | rfl | rfl | ⟨u, hu, rfl⟩
  ·exact QV QW
  ·exact QV (QV QW)
  ·exact QW
  ·exact Rj (Fg hK hu)
 refine T5 (N := 500001) hf ef (fun p hp => ?_) rfl (fun p hp j hj => s0 j ?_) (fun p hp h => ?_) (Rs hK) (Mx ec us) (fun p hp k hk => s0 k (hfr p hp k hk))
 ·simp only [Qgt, Qgs, or_false] at hp
  rcases hp with rfl | rfl | rfl
  ·exact hc
  ·exact hu
  ·exact hg
 ·simp only [Qgt, Qgs, or_false] at hp
  rcases hp with rfl | rfl | rfl
  ·simp [Box.ids] at hj
  ·exact .inr (.inr (.inr (K8 hj)))
  ·simp [Box.ids, gB] at hj
 ·rcases hB p hp h with e | e
  ·rw [e]; exact QV (QV QW)
  ·rw [e]; exact QW
theorem QdV {u : UR} (hf : Q9 l fr = fr1) (ef : fr1 = fr') (hK : Yh us) (huk : u.k = 500001 + us.length) (hc : lk B (500001 + us.length) = some ⟨u.cs.map dCR, 8, ec, true⟩) (hu : lk B 500000 = some ⟨(us ++ [u]).map dUR, 3, eu, false⟩) (hg : lk B kg = some (gB L J eg)) (hB : ∀ p ∈ B, 500001 <= p.1 -> p.1 = kg \/ p.1 = 500001 + us.length) (hkg : 1000000 <= kg) (hlen : us.length <= 100)
  (hfr : ∀ p ∈ fr', ∀ k ∈ p.2.ids, k = 500000 \/ k = kg \/ ∃ v ∈ us ++ [u], k = v.k) : St.le ⟨fr, B ++ fbx ec us⟩ ⟨fr', [(500000, ⟨(us ++ [u]).map dUR, 3, eu, false⟩), (kg, gB L J eg)] ++ fbx ec (us ++ [u])⟩ := by
 have hK1 := SP hK huk
 have mv := fun k => QaG (ec := ec) hK (kg := kg) (x := ⟨(us ++ [u]).map dUR, 3, eu, false⟩) (y := gB L J eg) huk Wa k
 have s0 : ∀ k, (k = 500000 \/ k = kg \/ ∃ v ∈ us ++ [u], k = v.k) -> (lk ([(u.k, (⟨u.cs.map dCR, 8, ec, true⟩ : Box)), (500000, (⟨(us ++ [u]).map dUR, 3, eu, false⟩ : Box)), (kg, gB L J eg)] ++ fbx ec us) k).isSome = true := fun k hk => by
  show (lk ((u.k, _) :: (500000, _) :: (kg, _) :: fbx ec us) k).isSome = true
  rw [mv]
  rcases hk with rfl | rfl | ⟨v, hv, rfl⟩
  ·exact QW
  ·exact QV QW
  ·exact QV (QV (Fg hK1 hv))
 refine le_trans (T5 (N := 500001) (A' := [(u.k, ⟨u.cs.map dCR, 8, ec, true⟩), (500000, ⟨(us ++ [u]).map dUR, 3, eu, false⟩), (kg, gB L J eg)]) hf ef (fun p hp => ?_) rfl (fun p hp j hj => s0 j ?_) (fun p hp h => ?_) (Rs hK) (Mx ec us) (fun p hp k hk => s0 k (hfr p hp k hk))) (RI ⟨fun _ => rfl, mv⟩)
 ·simp only [Qgt, Qgs, or_false] at hp
  rcases hp with rfl | rfl | rfl
  ·rw [huk]; exact hc
  ·exact hu
  ·exact hg
 ·simp only [Qgt, Qgs, or_false] at hp
  rcases hp with rfl | rfl | rfl
  ·simp [Box.ids] at hj
  ·exact .inr (.inr (K8 hj))
  ·simp [Box.ids, gB] at hj
 ·rcases hB p hp h with e | e
  ·rw [e]; exact QV (QV QW)
  ·rw [e, <- huk]; exact QW
end
def u0 (v : Vr) : UR := ⟨[], [], 500001, [zr v (-1)]⟩
theorem Qbu {kg a b : Nat} (h : 1000000 <= kg) (ha : a < 1000000) (hb : b < 1000000) : JP a b kg = kg := by
 unfold JP; rw [if_neg Wa, if_neg Wa]
theorem Bg {l : List Nat} {fr fr1 fr' : Qgp} {kg eg eu ec : Nat} {L : List Int} {I : Int} (hkg : 1000000 <= kg) (hf : Q9 l fr = fr1) (ef : fr1.map (fun p => (p.1, (p.2.ren (JP 18 500000)).ren (JP 16 500001))) = fr') :
  St.le ⟨fr, [(18, ⟨[[.str [], .str [], .osl 16 1]], 3, eu, false⟩), (16, ⟨[dCR (zr v0 (-1))], 8, ec, true⟩), (kg, gB L I eg)]⟩ ⟨fr', [(500000, ⟨[u0 v0].map dUR, 3, eu, false⟩), (kg, gB L I eg)] ++ fbx ec [u0 v0]⟩ := by
 subst hf ef
 have k1 := Qbu (a := 18) (b := 500000) hkg Wk Wk
 have k2 := Qbu (a := 16) (b := 500001) hkg Wk Wk
 refine le_trans (Hz l fr _) (le_trans (RK 18 500000 Wk Wk _) (le_trans (RK 16 500001 Wk Wk _) ?_))
 have hH : ∀ k, lk ([(500000, (⟨[u0 v0].map dUR, 3, eu, false⟩ : Box)), (kg, gB L I eg)] ++ fbx ec [u0 v0]) k = lk (P7 (JP 16 500001) (P7 (JP 18 500000) [(18, ⟨[[.str [], .str [], .osl 16 1]], 3, eu, false⟩), (16, ⟨[dCR (zr v0 (-1))], 8, ec, true⟩), (kg, gB L I eg)])) k := fun k => by
  have e : P7 (JP 16 500001) (P7 (JP 18 500000) [(18, (⟨[[.str [], .str [], .osl 16 1]], 3, eu, false⟩ : Box)), (16, ⟨[dCR (zr v0 (-1))], 8, ec, true⟩), (kg, gB L I eg)]) = [(500000, ⟨[u0 v0].map dUR, 3, eu, false⟩), (500001, ⟨[dCR (zr v0 (-1))], 8, ec, true⟩), (kg, gB L I eg)] := by
   simp only [P7, List.map_cons, List.map_nil, k1, k2]; rfl
  rw [e]
  show lk ((500000, _) :: (kg, _) :: (500001, _) :: []) k = _
  rw [Qj, Qj, Qj, Qj, Qj, Qj]
  by_cases h1 : 500000 = k
  ·rw [if_pos h1, if_pos h1]
  ·rw [if_neg h1, if_neg h1]
   by_cases h2 : kg = k
   ·rw [if_pos h2, if_neg Wa, if_pos h2]
   ·rw [if_neg h2, if_neg h2]; rfl
 refine KS (by simp only [St.ren, List.map_map]; rfl) fun k => (hH k).symm
def names5 : List (List UInt8) := [[97, 110, 116], [98, 101, 101], [99, 111, 119], [100, 111, 103], [101, 108, 107]]
theorem Q7 : names5.length = 5 := rfl
theorem QcX : versions.length = 4 := rfl
theorem QdX {i : Nat} (h : i < versions.length) : Py versions[i] := by
 have := LA _ (Qgw h)
 exact ⟨QgK this.1 Wa, QgK this.2 Wa⟩
structure UnitsIn (us : List UR) : Prop where
 keys : Yh us
 fresh : ∀ u ∈ us, Qdc u
 first : ∃ z rest, us = ⟨[], [], 500001, [z]⟩ :: rest
theorem UnitsIn.zero : UnitsIn [u0 v0] := by
 refine ⟨fun j hj => ?_, fun u hu => ?_, ⟨zr v0 (-1), [], rfl⟩⟩
 ·have : j = 0 := by simp at hj; exact hj
  subst this; rfl
 ·simp only [QgA] at hu; subst hu
  refine ⟨by simp [u0], fun z hz => ?_⟩
  simp only [u0, QgA] at hz; subst hz
  exact ⟨v0, -1, rfl, ⟨QgD _, QgD _⟩⟩
theorem UnitsIn.snoc {us : List UR} (h : UnitsIn us) {n f : List UInt8} {cs : List CR} (hc : cs.length <= 4) (hz : ∀ z ∈ cs, ∃ v sh, z = zr v sh /\ Py v) : UnitsIn (us ++ [⟨n, f, 500001 + us.length, cs⟩]) := by
 obtain ⟨h1, h2, z, rest, h3⟩ := h
 refine ⟨SP h1 rfl, fun u hu => ?_, z, rest ++ [⟨n, f, 500001 + us.length, cs⟩], by rw [h3]; rfl⟩
 rcases QgC.1 hu with hu | hu
 ·exact h2 u hu
 ·simp only [QgA] at hu; subst hu; exact ⟨hc, hz⟩
def CsIn (n : Nat) (cs : List CR) : Prop := cs.length <= n /\ ∀ z ∈ cs, ∃ v sh, z = zr v sh /\ Py v
theorem CsIn.nil (n : Nat) : CsIn n [] := ⟨QgD _, by simp⟩
theorem CsIn.keep {n : Nat} {cs : List CR} (h : CsIn n cs) : CsIn (n + 1) cs := ⟨Nat.le_succ_of_le h.1, h.2⟩
theorem CsIn.snoc {n : Nat} {cs : List CR} (h : CsIn n cs) {v : Vr} (hv : Py v) {sh : Int} : CsIn (n + 1) (cs ++ [zr v sh]) := by
 refine ⟨by simp; exact h.1, fun z hz => ?_⟩
 rcases QgC.1 hz with hz | hz
 ·exact h.2 z hz
 ·simp only [QgA] at hz; subst hz; exact ⟨v, sh, rfl, hv⟩
theorem CsIn.at {n : Nat} {cs : List CR} (h : CsIn n cs) {i : Nat} (hi : i < cs.length) : Py cs[i].v := by
 obtain ⟨v, sh, e, hv⟩ := h.2 _ (Qgw hi)
 rw [e]; exact hv
/-! ### What units are called, and of which versions they are -/
def nmR (r : Nat) : List UInt8 := names5.getD (r / 2) []
def ftR (r : Nat) : List UInt8 := if r % 2 = 1 then [102] else []
def shp (u : UR) : List UInt8 × List UInt8 × List Vr := (u.n, u.f, u.cs.map CR.v)
inductive UL : Nat -> List (List UInt8 × List UInt8 × List Vr) -> Prop
 | base : UL 0 [([], [], [v0])]
 | snoc {b r : Nat} {l : List (List UInt8 × List UInt8 × List Vr)} {vs : List Vr} (h : UL b l) (hb : b <= r) (hr : r < 10) (hf : r % 2 = 1 -> 2 <= l.length) (hc : vs.Sublist versions) : UL (r + 1) (l ++ [(nmR r, ftR r, vs)])
 | up {b b' : Nat} {l : List (List UInt8 × List UInt8 × List Vr)} (h : UL b l) (hb : b <= b') : UL b' l
theorem By {n : Nat} (h : n < names5.length) : nmR (2 * n) = names5[n] /\ ftR (2 * n) = [] /\ nmR (2 * n + 1) = names5[n] /\ ftR (2 * n + 1) = [102] := by
 refine ⟨?_, ?_, ?_, ?_⟩
 ·rw [nmR, show 2 * n / 2 = n by omega, List.getD_eq_getElem?_getD, List.getElem?_eq_getElem h]; rfl
 ·rw [ftR, if_neg Wa]
 ·rw [nmR, show (2 * n + 1) / 2 = n by omega, List.getD_eq_getElem?_getD, List.getElem?_eq_getElem h]; rfl
 ·rw [ftR, if_pos Wa]
theorem Qab {n : Nat} {us : List UR} {k : Nat} {cs : List CR} (h : UL (2 * n) (us.map shp)) (hn : n < names5.length) (hc : (cs.map CR.v).Sublist versions) : UL (2 * n + 1) ((us ++ [UR.mk names5[n] [] k cs]).map shp) := by
 obtain ⟨e1, e2, _, _⟩ := By hn
 have := UL.snoc h (Nat.le_refl _) (by have := Q7; omega) (fun e => Wa) hc
 rw [List.map_append]
 show UL _ (_ ++ [(names5[n], [], cs.map CR.v)])
 rw [<- e1, <- e2]; exact this
theorem QeJ {n : Nat} {us : List UR} {k : Nat} {cs : List CR} (h : UL (2 * n + 1) (us.map shp)) (hn : n < names5.length) (h2 : 2 <= us.length) (hc : (cs.map CR.v).Sublist versions) : UL (2 * (n + 1)) ((us ++ [UR.mk names5[n] [102] k cs]).map shp) := by
 obtain ⟨_, _, e1, e2⟩ := By hn
 have := UL.snoc h (Nat.le_refl _) (by have := Q7; omega) (fun _ => by simpa using h2) hc
 rw [List.map_append]
 show UL (2 * n + 1 + 1) (_ ++ [(names5[n], [102], cs.map CR.v)])
 rw [<- e1, <- e2]; exact this
theorem UL.vs {b : Nat} {l : List (List UInt8 × List UInt8 × List Vr)} (h : UL b l) : ∀ s ∈ l, VsL s.2.2 := by
 induction h with
 | base => intro s hs; simp only [QgA] at hs; subst hs; exact .inr rfl
 | snoc _ _ _ _ hc ih =>
  intro s hs
  rcases QgC.1 hs with hs | hs
  ·exact ih s hs
  ·simp only [QgA] at hs; subst hs; exact .inl hc
 | up _ _ ih => exact ih
theorem UL.feat {b : Nat} {l : List (List UInt8 × List UInt8 × List Vr)} (h : UL b l) : ∀ i (hi : i < l.length), l[i].2.1 ≠ [] -> 2 <= i := by
 induction h with
 | base =>
  intro i hi hf
  have : i = 0 := by simp at hi; exact hi
  subst this; exact absurd rfl hf
 | @snoc b r l vs h _ _ hr _ ih =>
  intro i hi hf
  rw [List.length_append, List.length_singleton] at hi
  by_cases e : i < l.length
  ·rw [List.getElem_append_left e] at hf; exact ih i e hf
  ·have : i = l.length := Wa
   subst this
   rw [List.getElem_append_right (Nat.le_refl _)] at hf
   simp only [Nat.sub_self, List.getElem_cons_zero, ftR] at hf
   split at hf
   ·rename_i q; exact hr q
   ·exact absurd rfl hf
 | up _ _ ih => exact ih
theorem QdZ {l : List Vr} {cs : List CR} {i : Nat} {x : Int} (h : i < l.length) (hL : (cs.map CR.v).Sublist (l.take i)) : ((cs ++ [zr l[i] x]).map CR.v).Sublist (l.take (i + 1)) := by
 rw [List.map_append, List.take_succ_eq_append_getElem h]
 exact hL.append (List.Sublist.refl _)
theorem QdY {cs c2 : List CR} {m : Nat} {x : Int} (h : m < cs.length) (hL : (c2.map CR.v).Sublist ((cs.map CR.v).take m)) : ((c2 ++ [zr cs[m].v x]).map CR.v).Sublist ((cs.map CR.v).take (m + 1)) := by
 rw [List.map_append, List.take_succ_eq_append_getElem (by simpa using h)]
 simp only [List.getElem_map]
 exact hL.append (List.Sublist.refl _)
theorem DK {L : List Vr} {i : Nat} (h : L.Sublist (versions.take i)) : L.Sublist versions := h.trans (List.take_sublist _ _)
theorem Dc {α : Type} {k : Nat} {v v' : α} {l : List (Nat × α)} (h : v = v') : lk ((k, v) :: l) k = some v' := by rw [Qv, h]
theorem Tl {us : List UR} {e et : Nat} (h : Yh us) : Box.scrub (500001 + us.length) ⟨us.map dUR, e, et, false⟩ = ⟨us.map dUR, e, et, false⟩ := Tk fun hk => by
 obtain ⟨u, hu, e⟩ := K8 hk
 have := KR h hu
 omega
theorem DI {us : List UR} (h : Yh us) {n f : List UInt8} {k m : Nat} (hk : k ≠ 500000) : ∀ r ∈ us.map dUR ++ [[D.str n, D.str f, D.osl k m]], ∀ d ∈ r, 500000 ∉ d.sid := fun r hr d hd => by
 rcases QgC.1 hr with hr | hr
 ·exact QcW h r hr d hd
 ·simp only [QgA] at hr; subst hr
  simp only [Qgt, Qgs, or_false] at hd
  rcases hd with rfl | rfl | rfl <;> simp [D.sid]
  exact Ne.symm hk
theorem QcV {us : List UR} {u : UR} : (us ++ [u]).map dUR = us.map dUR ++ [dUR u] := by simp
theorem Qcr {cs : List CR} {z : CR} : (cs ++ [z]).map dCR = cs.map dCR ++ [dCR z] := by simp
theorem KB {us : List UR} (h : Yh us) {kg eu ec : Nat} {g1 g2 g3 : Box} (hkg : 1000000 <= kg) (h1 : g1.pr = true) (h2 : g2.pr = true) (hlen : us.length <= 100) :
  (∀ k, 1000000 <= k -> (lk [(kg, g1)] k).isSome = true -> (lk (((500000, (⟨us.map dUR, 3, eu, false⟩ : Box)) :: fbx ec us) ++ [(kg, g2), (kg, g1)]) k).isSome = true) /\
  (∀ k b, lk (((500000, (⟨us.map dUR, 3, eu, false⟩ : Box)) :: fbx ec us) ++ [(kg, g2), (kg, g1)]) k = some b -> 500000 <= k /\ ∀ j ∈ b.ids, (lk (((500000, (⟨us.map dUR, 3, eu, false⟩ : Box)) :: fbx ec us) ++ [(kg, g2), (kg, g1)]) j).isSome = true) /\
  (∀ k b, lk (((500000, (⟨us.map dUR, 3, eu, false⟩ : Box)) :: fbx ec us) ++ [(kg, g2), (kg, g1)]) k = some b -> lk ((kg, g2) :: (500000, ⟨us.map dUR, 3, eu, false⟩) :: (kg, g3) :: fbx ec us) k = some b) := by
 have cs : ∀ k b, lk (((500000, (⟨us.map dUR, 3, eu, false⟩ : Box)) :: fbx ec us) ++ [(kg, g2), (kg, g1)]) k = some b -> (k = 500000 /\ b = ⟨us.map dUR, 3, eu, false⟩) \/ (∃ u ∈ us, k = u.k /\ b = ⟨u.cs.map dCR, 8, ec, true⟩) \/ (k = kg /\ b = g2) := fun k b hk => by
  rw [List.cons_append, Qj] at hk
  split at hk
  ·rename_i e; cases hk; exact .inl ⟨e.symm, rfl⟩
  ·rw [ZX] at hk
   cases hh : lk (fbx ec us) k with
   | some v =>
    rw [hh] at hk; cases hk
    exact .inr (.inl (PR hh))
   | none =>
    rw [hh] at hk
    simp only at hk
    rw [Qj] at hk
    split at hk
    ·rename_i e; cases hk; exact .inr (.inr ⟨e.symm, rfl⟩)
    ·rename_i e
     rw [Qj, if_neg e] at hk; cases hk
 refine ⟨fun k _ hk => ?_, fun k b hk => ?_, fun k b hk => ?_⟩
 ·obtain ⟨b, hb⟩ := Qgx.1 hk
  obtain ⟨rfl, _⟩ := Xz hb
  exact Rj QW
 ·rcases cs k b hk with ⟨rfl, rfl⟩ | ⟨u, hu, rfl, rfl⟩ | ⟨rfl, rfl⟩
  ·refine ⟨Nat.le_refl _, fun j hj => ?_⟩
   obtain ⟨u, hu, rfl⟩ := K8 hj
   rw [List.cons_append]
   refine QV ?_
   obtain ⟨b, hb⟩ := Qgx.1 (Fg (ec := ec) h hu)
   rw [YC hb]; rfl
  ·have := KR h hu
   exact ⟨Wa, fun j hj => by simp [Box.ids] at hj⟩
  ·exact ⟨Wa, fun j hj => by rw [Jm h2] at hj; cases hj⟩
 ·rcases cs k b hk with ⟨rfl, rfl⟩ | ⟨u, hu, rfl, rfl⟩ | ⟨rfl, rfl⟩
  ·exact Qk Wa Qv
  ·have hm := KR h hu
   obtain ⟨j, hj, rfl⟩ := QgN hu
   refine Qk Wa (Qk Wa (Qk Wa ?_))
   rw [h j hj]; exact CQ h hj
  ·exact Qv
end M25
namespace Go.Proofs
open Go Go.Abs M3 M25
theorem _root_.Wg {p : Prop} (h : p := by repeat (first | exact Qv | refine Qk (by omega) ?_)) : p := h
theorem Gf {kg : Nat} {L : List Int} {I most : Int} {eg eu ec : Nat} (heu : eu = 64) (hec : ec = 61) (hkg : 1000000 <= kg) (hL : ∀ x ∈ L, I64 x) (hm0 : 1 <= most) (hm1 : most <= 5) : ∃ d H2, (∃ us I2, (UnitsIn us /\ 2 <= us.length /\ us.length <= 11 /\ ∃ b, UL b (us.map shp)) /\ d = .osl 500000 us.length /\ H2 = ((500000, ⟨us.map dUR, 3, eu, false⟩) :: fbx ec us) ++ [(kg, gB L I2 eg), (kg, gB L I eg)]) /\ OkH Tryz.prog 22 [.ref kg 0 0, .int .i64 most] [(kg, gB L I eg)] d H2 := by
 subst heu hec
 have e3 : ¬ kg = 500000 := Wa
 have k1 := Qbu (a := 18) (b := 500000) hkg Wk Wk
 have k2 := Qbu (a := 16) (b := 500001) hkg Wk Wk
 refine OkH.ofX (R := fun d H2 => ∃ us I2, (UnitsIn us /\ 2 <= us.length /\ us.length <= 11 /\ ∃ b, UL b (us.map shp)) /\ d = .osl 500000 us.length /\ H2 = ((500000, ⟨us.map dUR, 3, 64, false⟩) :: fbx 61 us) ++ [(kg, gB L I2 eg), (kg, gB L I eg)]) ZR Tryz.func22 Qe8 (Qgr Z) ?_
 show TX _ _ tf22.body _ _
 refine Q6 fun K hK => Qa Z (hK _ _ (QK (kp2 Z Z) ?_))
 refine Q6 fun K hK => ?_
 refine QD Z (by repeat (first | exact Z | refine Zu Wi ?_)) ?_
 refine Qa Z (hK _ _ (QK (kp3 Z Z Z) ?_))
 refine Ct (T4 (l := [0, 1]) (B := [_]) (A := []) (H0 := [(kg, gB L I eg)]) 14 5 (kp2 rfl rfl) rfl rfl rfl rfl (by intro p hp hk; simp only [Qgt, Qgs, or_false] at hp; rcases hp with rfl | rfl <;> first | (simp [D.ids, D.sid, Q8, QT, ZJ] at hk; done) | (simp [D.ids, D.sid, Q8, QT, ZJ] at hk; omega)) (by intro p hp; cases hp) (by intro p hp h; simp only [QgA] at hp; subst hp; simp only at h; omega) (fun k b h => by obtain ⟨rfl, rfl⟩ := Xz h; exact hkg) (fun k b h j hj => by obtain ⟨rfl, rfl⟩ := Xz h; simp [Box.ids, gB] at hj) (by intro p hp k hk; simp only [Qgt, Qgs, or_false] at hp; rcases hp with rfl | rfl <;> first | (simp [D.ids, D.sid, Q8, QT, ZJ] at hk; done) | (simp [D.ids, D.sid, Q8, QT, ZJ] at hk; subst hk; repeat (first | exact QW | refine QV ?_)))) ?_
 refine Q6 fun K hK => QQ Z Z ?_
 refine QD Z (by repeat (first | exact Z | refine Zu Wi ?_)) ?_
 refine QQ Z Z ?_
 refine QD Z (by repeat (first | exact Z | refine Zu Wi ?_)) ?_
 refine Qa Z (hK _ _ (QK (kp4 Z Z Z Z) ?_))
 refine Q6 fun K hK => Qt (Xx) Z Z (.inl Z) (Qa Z (hK _ _ (QK (kp5 Z Z Z Z Z) ?_)))
 refine XG ?_ -- 0
 refine Q6 fun K hK => Qa Z (hK _ _ (QK (kp6 Z Z Z Z Z Z) ?_))
 refine YB ?_
 refine G0 (ι := List UR × Int × Nat) (fun ⟨us, J, n⟩ => ⟨[(0, .ref kg 0 0), (1, .int .i64 most), (5, .sl (Kq names5)), (6, .osl 500000 us.length), (7, .sl (versions.map dVr)), (8, .int .i64 n)], [(500000, ⟨(us).map dUR, 3, 64, false⟩), (kg, gB L (J) eg)] ++ fbx 61 (us)⟩) (fun ⟨us, J, n⟩ => UnitsIn us /\ us.length <= 1 + 2 * n /\ n <= 5 /\ 1 + n <= us.length /\ UL (2 * n) (us.map shp)) (fun ⟨us, J, n⟩ => 5 - n) ([u0 v0], I, 0) ?_ ?_ ?_
 ·refine Bg (l := [0, 1, 5, 6, 7, 8]) hkg (kp6 Z Z Z Z Z Z) ?_; simp only [List.map_cons, List.map_nil, D.ren, D.renS, k1, k2]; rfl
 ·exact ⟨UnitsIn.zero, by simp, Wa, by simp, UL.base⟩
 intro ⟨us, J, n⟩ hI
 try dsimp only at hI
 have e1 : ¬ kg = 500001 + us.length := Wa
 have e2 : ¬ 500000 = 500001 + us.length := Wa
 have e4 : ¬ 500001 + us.length = 500000 := Wa
 have hx0 : 0 <= nx L J most := MX
 have hx1 : nx L J most < most := MW Wa
 have hn5 := Q7
 have hv4 := QcX
 try dsimp only
 refine XG ?_ -- 1
 refine Q6 fun K hK => mv2 Z Z (Qa Z ?_)
 refine YA (HJ (I := J) Z Wg hL Wa) ?_
 refine QZ Z Z Wc (Yg Z Z (Qa Z ?_))
 refine Qu (g := 26) Z (fun h1 => ?_) (fun h1 => ?_)
 ·try rw [h1]
  try simp only [qA] at h1
  refine Qd Z (Qa Z (Qd Z (Qa Z (Qd Z ?_))))
  first | refine QL rfl QP ?_ | refine QL rfl rfl ?_
  refine Qd Z (Yg Z Z (Qh Z Z (hK _ _ (QK (kp7 Z Z Z Z Z Z Z) ?_))))
  refine YN Z (fun h2 => ?_) (fun h2 => ?_)
  ·try rw [h2]
   try simp only [qA] at h2
   refine Y8 (QX (kp6 Z Z Z Z Z Z) ?_)
   refine XG ?_ -- 2
   refine YB (Q6 fun K hK => Qa Z (hK _ _ (QK (kp7 Z Z Z Z Z Z Z) ?_)))
   refine Q6 fun K hK => Qa Z ?_
   refine YA (HJ (I := nxI J) Z Wg hL Wa) ?_
   refine Qa Z (hK _ _ (QK (kp8 Z Z Z Z Z Z Z Z) ?_))
   refine XG ?_ -- 3
   refine Q6 fun K hK => Qa Z (hK _ _ (QK (kp9 Z Z Z Z Z Z Z Z Z) ?_))
   refine YB ?_
   refine G0 (ι := List CR × Nat) (fun ⟨cs, i⟩ => ⟨[(0, .ref kg 0 0), (1, .int .i64 most), (5, .sl (Kq names5)), (6, .osl 500000 us.length), (7, .sl (versions.map dVr)), (8, .int .i64 n), (9, .osl (500001 + us.length) cs.length), (10, .int .i64 (nx L (nxI J) 16)), (11, .int .i64 i)], [(500001 + (us).length, ⟨(cs).map dCR, 8, 61, true⟩), (500000, ⟨(us).map dUR, 3, 64, false⟩), (kg, gB L (nxI (nxI J)) eg)] ++ fbx 61 (us)⟩) (fun ⟨cs, i⟩ => (i <= 4 /\ CsIn i cs) /\ (cs.map CR.v).Sublist (versions.take i)) (fun ⟨cs, i⟩ => 4 - i) ([], 0) ?_ ?_ ?_
   ·exact le_trans (Yd 9 (500001 + us.length) 8 61 rfl (by repeat (first | exact YY hI.1.keys (.inr Wa) | refine Zu Wa ?_))) (Qda (l := [0, 1, 5, 6, 7, 8, 9, 10, 11]) (B := [_, _, _, _, _]) (kp9 rfl rfl rfl rfl rfl rfl rfl rfl rfl) rfl hI.1.keys Wg Wg Wg (by intro p hp h; simp only [Qgt, Qgs, or_false] at hp; rcases hp with rfl | rfl | rfl | rfl | rfl <;> first | (simp only at h; omega) | exact .inl rfl | exact .inr rfl) (by intro p hp k hk; simp only [Qgt, Qgs, or_false] at hp; rcases hp with rfl | rfl | rfl | rfl | rfl | rfl | rfl | rfl | rfl <;> first | (simp [D.ids, D.sid, Q8, QT, ZJ] at hk; done) | (simp [D.ids, D.sid, Q8, QT, ZJ] at hk; subst hk; first | exact .inl rfl | exact .inr (.inl rfl) | exact .inr (.inr (.inl rfl)) | (refine .inr (.inr (.inl ?_)); simp; done) | (first | exact .inr (.inr ⟨_, QgG _ (QgA.2 rfl), rfl⟩) | exact .inr (.inr (.inr ⟨_, QgG _ (QgA.2 rfl), rfl⟩))))))
   ·exact ⟨⟨Wa, CsIn.nil _⟩, List.nil_sublist _⟩
   intro ⟨cs, i⟩ hC
   try dsimp only at hC
   have hcl := hC.1.2.1
   try dsimp only
   refine XG ?_ -- 4
   refine Q6 fun K hK => mv2 Z Z ?_
   first | refine QL rfl QP ?_ | refine QL rfl rfl ?_
   refine Yg Z Z (hK _ _ (QK (TC Z Z Z Z Z Z Z Z Z Z) ?_))
   refine YN Z (fun h3 => ?_) (fun h3 => ?_)
   ·try rw [h3]
    try simp only [qA] at h3
    refine Y8 (QX (kp9 Z Z Z Z Z Z Z Z Z) ?_)
    refine XG ?_ -- 5
    refine YB (Q6 fun K hK => mv2 Z Z (Sl Z (Mc Wa Wa) (Qdj Z Z Wa (GY Z Z (ZG Z Z (hK _ _ (QK (TC Z Z Z Z Z Z Z Z Z Z) ?_)))))))
    refine YN Z (fun h4 => ?_) (fun h4 => ?_)
    ·try rw [h4]
     try simp only [qA] at h4
     refine ZQ fun K hK => mv2 Z Z (Qa Z (QF Z Z Z Wa (QO Wa) Z (QB (cs := [_, _, _, _, _]) Z Z Z Z (QQ Z Z ?_))))
     refine QD Z (by repeat (first | exact YY hI.1.keys (.inl Wa) | exact YY hK1.keys (.inl Wa) | refine Zu Wi ?_)) ?_
     refine Xs (hk0 := Wa) Z Z (fun _ h => Xo Z Z Z h) (Qk Wa Qv) Wf Z Z Z Wh Wh (Qa Z (hK _ ?_))
     refine Qe (QX (kp9 Z Z Z Z Z Z Z Z Z) (ZQ fun K hK => Qa Z (QZ Z Z Wc (Qa Z (hK _ ?_)))))
     refine Qi (cs ++ [zr (versions[i]'Wa) 0], i + 1) ?_ ?_ ?_
     ·exact le_trans (RJ (B := [_, _, _, _, _]) (500001 + us.length) (Mx _ _)) (Qda (l := [0, 1, 5, 6, 7, 8, 9, 10, 11]) (B := [_, _, _, _, _]) (kp9 rfl rfl rfl rfl rfl rfl rfl rfl rfl) (by simp [D.scrub, e1, e2, e3, e4] <;> omega) hI.1.keys (by rw [List.map_append]; exact Qv) (by repeat (first | exact Qv | exact Dc (Tl hI.1.keys) | refine Qk Wa ?_)) Wg (by intro p hp h; simp only [Qgt, Qgs, or_false] at hp; rcases hp with rfl | rfl | rfl | rfl | rfl <;> first | (simp only at h; omega) | exact .inl rfl | exact .inr rfl) (by intro p hp k hk; simp only [Qgt, Qgs, or_false] at hp; rcases hp with rfl | rfl | rfl | rfl | rfl | rfl | rfl | rfl | rfl <;> first | (simp [D.ids, D.sid, Q8, QT, ZJ] at hk; done) | (simp [D.ids, D.sid, Q8, QT, ZJ] at hk; subst hk; first | exact .inl rfl | exact .inr (.inl rfl) | exact .inr (.inr (.inl rfl)) | (refine .inr (.inr (.inl ?_)); simp; done) | (first | exact .inr (.inr ⟨_, QgG _ (QgA.2 rfl), rfl⟩) | exact .inr (.inr (.inr ⟨_, QgG _ (QgA.2 rfl), rfl⟩))))))
     ·try dsimp only
      exact ⟨⟨Wa, hC.1.2.snoc (QdX Wa)⟩, QdZ Wa hC.2⟩
     ·show 4 - (i + 1) < 4 - i; omega
    ·try rw [h4]
     try simp only [qA] at h4
     refine Y8 (Qe (QX (kp9 Z Z Z Z Z Z Z Z Z) (ZQ fun K hK => Qa Z (QZ Z Z Wc (Qa Z (hK _ ?_))))))
     refine Qi (cs, i + 1) ?_ ?_ ?_
     ·exact Qda (l := [0, 1, 5, 6, 7, 8, 9, 10, 11]) (B := [_, _, _]) (kp9 rfl rfl rfl rfl rfl rfl rfl rfl rfl) rfl hI.1.keys Wg Wg Wg (by intro p hp h; simp only [Qgt, Qgs, or_false] at hp; rcases hp with rfl | rfl | rfl <;> first | (simp only at h; omega) | exact .inl rfl | exact .inr rfl) (by intro p hp k hk; simp only [Qgt, Qgs, or_false] at hp; rcases hp with rfl | rfl | rfl | rfl | rfl | rfl | rfl | rfl | rfl <;> first | (simp [D.ids, D.sid, Q8, QT, ZJ] at hk; done) | (simp [D.ids, D.sid, Q8, QT, ZJ] at hk; subst hk; first | exact .inl rfl | exact .inr (.inl rfl) | exact .inr (.inr (.inl rfl)) | (refine .inr (.inr (.inl ?_)); simp; done) | (first | exact .inr (.inr ⟨_, QgG _ (QgA.2 rfl), rfl⟩) | exact .inr (.inr (.inr ⟨_, QgG _ (QgA.2 rfl), rfl⟩)))))
     ·try dsimp only
      exact ⟨⟨Wa, hC.1.2.keep⟩, LB hC.2⟩
     ·show 4 - (i + 1) < 4 - i; omega
   ·try rw [h3]
    try simp only [qA] at h3
    refine Hb (YH (Qw (QE (QX (kp7 Z Z Z Z Z Z Z) (Q6 fun K hK => mv2 Z Z (Qa Z (QF Z Z Z Wa (QO Wa) Z (Qx Z Z Z (Qa Z ?_)))))))))
    refine QQ Z Z ?_
    refine QD Z (by repeat (first | exact YY hI.1.keys (.inl Wa) | exact YY hK1.keys (.inl Wa) | refine Zu Wi ?_)) ?_
    refine TH (hk0 := by decide) Z Z (fun _ h => Xo Z Z Z h) (Qk Wa (Qk Wa Qv)) Wf Z Z (.inr (DI hI.1.keys Wa)) Wh Wh (Qa Z (hK _ _ (QK (kp7 Z Z Z Z Z Z Z) ?_)))
    have hc4 : CsIn 4 cs := ⟨Wa, hC.1.2.2⟩
    refine Ct (le_trans (RJ (B := [_, _, _, _, _]) 500000 (Mx _ _)) (QdV (u := (UR.mk (names5[n]'(by have := Q7; omega)) [] (500001 + us.length) cs)) (l := [0, 1, 5, 6, 7, 8, 9]) (fr' := [(0, .ref kg 0 0), (1, .int .i64 most), (5, .sl (Kq names5)), (6, .osl 500000 (us ++ [(UR.mk (names5[n]'(by have := Q7; omega)) [] (500001 + us.length) cs)]).length), (7, .sl (versions.map dVr)), (8, .int .i64 n), (9, .osl (500001 + us.length) cs.length)]) (B := [_, _, _, _, _]) (kp7 rfl rfl rfl rfl rfl rfl rfl) (by simp [D.scrub, e1, e2, e3, e4]) hI.1.keys rfl Wg (by rw [List.map_append]; exact Qv) Wg (by intro p hp h; simp only [Qgt, Qgs, or_false] at hp; rcases hp with rfl | rfl | rfl | rfl | rfl <;> first | (simp only at h; omega) | exact .inl rfl | exact .inr rfl) hkg Wa (by intro p hp k hk; simp only [Qgt, Qgs, or_false] at hp; rcases hp with rfl | rfl | rfl | rfl | rfl | rfl | rfl <;> first | (simp [D.ids, D.sid, Q8, QT, ZJ] at hk; done) | (simp [D.ids, D.sid, Q8, QT, ZJ] at hk; subst hk; first | exact .inl rfl | exact .inr (.inl rfl) | (first | exact .inr (.inr ⟨_, QgG _ (QgA.2 rfl), rfl⟩) | exact .inr (.inr (.inr ⟨_, QgG _ (QgA.2 rfl), rfl⟩))))))) ?_
    have hK1 := hI.1.snoc (n := (names5[n]'(by have := Q7; omega))) (f := []) hc4.1 hc4.2
    have hl1 : (us ++ [(UR.mk (names5[n]'(by have := Q7; omega)) [] (500001 + us.length) cs)]).length = us.length + 1 := by simp
    have f1 : ¬ kg = 500001 + (us ++ [(UR.mk (names5[n]'(by have := Q7; omega)) [] (500001 + us.length) cs)]).length := Wa
    have f2 : ¬ 500000 = 500001 + (us ++ [(UR.mk (names5[n]'(by have := Q7; omega)) [] (500001 + us.length) cs)]).length := Wa
    have f4 : ¬ 500001 + (us ++ [(UR.mk (names5[n]'(by have := Q7; omega)) [] (500001 + us.length) cs)]).length = 500000 := Wa
    have f5 : ¬ 500001 + us.length = 500001 + (us ++ [(UR.mk (names5[n]'(by have := Q7; omega)) [] (500001 + us.length) cs)]).length := Wa
    refine Q6 fun K hK => Qa Z (Yg Z Z (Qa Z ?_))
    refine Qu (g := 67) Z (fun h5 => ?_) (fun h5 => ?_)
    ·try rw [h5]
     try simp only [qA] at h5
     refine Qd Z (Qa Z (Qd Z ?_))
     refine YA (HJ (I := nxI (nxI J)) Z Wg hL Wa) ?_
     refine Qd Z (ZG Z Z (Qh Z Z (hK _ _ (QK (kp8 Z Z Z Z Z Z Z Z) ?_))))
     refine YN Z (fun h6 => ?_) (fun h6 => ?_)
     ·try rw [h6]
      try simp only [qA] at h6
      refine Q6 fun K hK => Qa Z (hK _ _ (QK (kp8 Z Z Z Z Z Z Z Z) ?_))
      refine XG ?_ -- 6
      refine Q6 fun K hK => Qa Z (hK _ _ (QK (kp9 Z Z Z Z Z Z Z Z Z) ?_))
      refine YB ?_
      refine G0 (ι := List CR × Nat × Int) (fun ⟨c2, m, J3⟩ => ⟨[(0, .ref kg 0 0), (1, .int .i64 most), (5, .sl (Kq names5)), (6, .osl 500000 (us ++ [(UR.mk (names5[n]'(by have := Q7; omega)) [] (500001 + us.length) cs)]).length), (7, .sl (versions.map dVr)), (8, .int .i64 n), (9, .osl (500001 + us.length) cs.length), (12, .osl (500001 + (us ++ [(UR.mk (names5[n]'(by have := Q7; omega)) [] (500001 + us.length) cs)]).length) c2.length), (13, .int .i64 m)], [(500001 + (us ++ [(UR.mk (names5[n]'(by have := Q7; omega)) [] (500001 + us.length) cs)]).length, ⟨(c2).map dCR, 8, 61, true⟩), (500000, ⟨(us ++ [(UR.mk (names5[n]'(by have := Q7; omega)) [] (500001 + us.length) cs)]).map dUR, 3, 64, false⟩), (kg, gB L (J3) eg)] ++ fbx 61 (us ++ [(UR.mk (names5[n]'(by have := Q7; omega)) [] (500001 + us.length) cs)])⟩) (fun ⟨c2, m, J3⟩ => (m <= cs.length /\ CsIn m c2) /\ (c2.map CR.v).Sublist ((cs.map CR.v).take m)) (fun ⟨c2, m, J3⟩ => cs.length - m) ([], 0, nxI (nxI (nxI J))) ?_ ?_ ?_
      ·exact le_trans (Yd 12 (500001 + (us ++ [(UR.mk (names5[n]'(by have := Q7; omega)) [] (500001 + us.length) cs)]).length) 8 61 rfl (by repeat (first | exact YY hK1.keys (.inr Wa) | refine Zu Wa ?_))) (Qda (l := [0, 1, 5, 6, 7, 8, 9, 12, 13]) (B := [_, _, _, _]) (kp9 rfl rfl rfl rfl rfl rfl rfl rfl rfl) rfl hK1.keys Wg Wg Wg (by intro p hp h; simp only [Qgt, Qgs, or_false] at hp; rcases hp with rfl | rfl | rfl | rfl <;> first | (simp only at h; omega) | exact .inl rfl | exact .inr rfl) (by intro p hp k hk; simp only [Qgt, Qgs, or_false] at hp; rcases hp with rfl | rfl | rfl | rfl | rfl | rfl | rfl | rfl | rfl <;> first | (simp [D.ids, D.sid, Q8, QT, ZJ] at hk; done) | (simp [D.ids, D.sid, Q8, QT, ZJ] at hk; subst hk; first | exact .inl rfl | exact .inr (.inl rfl) | exact .inr (.inr (.inl rfl)) | (refine .inr (.inr (.inl ?_)); simp; done) | (first | exact .inr (.inr ⟨_, QgG _ (QgA.2 rfl), rfl⟩) | exact .inr (.inr (.inr ⟨_, QgG _ (QgA.2 rfl), rfl⟩))))))
      ·exact ⟨⟨Wa, CsIn.nil _⟩, List.nil_sublist _⟩
      intro ⟨c2, m, J3⟩ hM
      try dsimp only at hM
      have hcl2 := hM.1.2.1
      try dsimp only
      refine XG ?_ -- 7
      refine Q6 fun K hK => mv2 Z Z ?_
      first | refine QL rfl QP ?_ | refine QL rfl rfl ?_
      refine Yg Z Z (hK _ _ (QK (TC Z Z Z Z Z Z Z Z Z Z) ?_))
      refine YN Z (fun h7 => ?_) (fun h7 => ?_)
      ·try rw [h7]
       try simp only [qA] at h7
       refine Y8 (QX (kp9 Z Z Z Z Z Z Z Z Z) ?_)
       refine XG ?_ -- 8
       refine YB (Q6 fun K hK => Qa Z ?_)
       refine YA (HJ (I := J3) Z Wg hL Wa) ?_
       refine Pv Z Z (hK _ _ (QK (TC Z Z Z Z Z Z Z Z Z Z) ?_))
       refine YN Z (fun h8 => ?_) (fun h8 => ?_)
       ·try rw [h8]
        try simp only [qA] at h8
        refine ZQ fun K hK => mv2 Z Z (Qa Z (Xt Z Z (Qk Wa (Qk Wa (Qk Wa (Qk Wa (Rt (u := (UR.mk (names5[n]'(by have := Q7; omega)) [] (500001 + us.length) cs)) hI.1.keys Z))))) Wf Wa Wa Z (Qf Z (Zt (Qk Wa (Qk Wa (Qk Wa (Qk Wa (Rt (u := (UR.mk (names5[n]'(by have := Q7; omega)) [] (500001 + us.length) cs)) hI.1.keys Z)))))) (QB (cs := [_, _, _, _, _]) Z (Z8 (Qk Wa (Qk Wa (Qk Wa (Qk Wa (Rt (u := (UR.mk (names5[n]'(by have := Q7; omega)) [] (500001 + us.length) cs)) hI.1.keys Z))))) (QO (l := cs) Wa)) Z Z (QQ Z Z ?_)))))
        refine QD Z (by repeat (first | exact YY hI.1.keys (.inl Wa) | exact YY hK1.keys (.inl Wa) | refine Zu Wi ?_)) ?_
        refine Xs (hk0 := Wa) Z Z (fun _ h => Xo Z Z Z h) (Qk Wa (Qk Wa Qv)) Wf Z Z Z Wh Wh (Qa Z (hK _ ?_))
        refine Qe (QX (kp9 Z Z Z Z Z Z Z Z Z) (ZQ fun K hK => Qa Z (QZ Z Z Wc (Qa Z (hK _ ?_)))))
        refine Qi (c2 ++ [zr (cs[m]'Wa).v 0], m + 1, nxI J3) ?_ ?_ ?_
        ·exact le_trans (RJ (B := [_, _, _, _, _, _]) (500001 + (us ++ [(UR.mk (names5[n]'(by have := Q7; omega)) [] (500001 + us.length) cs)]).length) (Mx _ _)) (Qda (l := [0, 1, 5, 6, 7, 8, 9, 12, 13]) (B := [_, _, _, _, _, _]) (kp9 rfl rfl rfl rfl rfl rfl rfl rfl rfl) (by simp [D.scrub, f1, f2, f4, f5] <;> omega) hK1.keys (by rw [Qcr (cs := c2)]; exact Qv) (by repeat (first | exact Qv | exact Dc (Tl hK1.keys) | refine Qk Wa ?_)) Wg (by intro p hp h; simp only [Qgt, Qgs, or_false] at hp; rcases hp with rfl | rfl | rfl | rfl | rfl | rfl <;> first | (simp only at h; omega) | exact .inl rfl | exact .inr rfl) (by intro p hp k hk; simp only [Qgt, Qgs, or_false] at hp; rcases hp with rfl | rfl | rfl | rfl | rfl | rfl | rfl | rfl | rfl <;> first | (simp [D.ids, D.sid, Q8, QT, ZJ] at hk; done) | (simp [D.ids, D.sid, Q8, QT, ZJ] at hk; subst hk; first | exact .inl rfl | exact .inr (.inl rfl) | exact .inr (.inr (.inl rfl)) | (refine .inr (.inr (.inl ?_)); simp; done) | (first | exact .inr (.inr ⟨_, QgG _ (QgA.2 rfl), rfl⟩) | exact .inr (.inr (.inr ⟨_, QgG _ (QgA.2 rfl), rfl⟩))))))
        ·try dsimp only
         exact ⟨⟨Wa, hM.1.2.snoc (hC.1.2.at Wa)⟩, QdY Wa hM.2⟩
        ·show cs.length - (m + 1) < cs.length - m; omega
       ·try rw [h8]
        try simp only [qA] at h8
        refine Y8 (Qe (QX (kp9 Z Z Z Z Z Z Z Z Z) (ZQ fun K hK => Qa Z (QZ Z Z Wc (Qa Z (hK _ ?_))))))
        refine Qi (c2, m + 1, nxI J3) ?_ ?_ ?_
        ·exact Qda (l := [0, 1, 5, 6, 7, 8, 9, 12, 13]) (B := [_, _, _, _]) (kp9 rfl rfl rfl rfl rfl rfl rfl rfl rfl) rfl hK1.keys Wg Wg Wg (by intro p hp h; simp only [Qgt, Qgs, or_false] at hp; rcases hp with rfl | rfl | rfl | rfl <;> first | (simp only at h; omega) | exact .inl rfl | exact .inr rfl) (by intro p hp k hk; simp only [Qgt, Qgs, or_false] at hp; rcases hp with rfl | rfl | rfl | rfl | rfl | rfl | rfl | rfl | rfl <;> first | (simp [D.ids, D.sid, Q8, QT, ZJ] at hk; done) | (simp [D.ids, D.sid, Q8, QT, ZJ] at hk; subst hk; first | exact .inl rfl | exact .inr (.inl rfl) | exact .inr (.inr (.inl rfl)) | (refine .inr (.inr (.inl ?_)); simp; done) | (first | exact .inr (.inr ⟨_, QgG _ (QgA.2 rfl), rfl⟩) | exact .inr (.inr (.inr ⟨_, QgG _ (QgA.2 rfl), rfl⟩)))))
        ·try dsimp only
         exact ⟨⟨Wa, hM.1.2.keep⟩, LB hM.2⟩
        ·show cs.length - (m + 1) < cs.length - m; omega
      ·try rw [h7]
       try simp only [qA] at h7
       refine Hb (YH (Qw (QE (QX (kp7 Z Z Z Z Z Z Z) (ZQ fun K hK => mv2 Z Z (Qa Z (QF Z Z Z Wa (QO Wa) Z (Qx Z Z Z (Qa Z ?_)))))))))
       refine QQ Z Z ?_
       refine QD Z (by repeat (first | exact YY hI.1.keys (.inl Wa) | exact YY hK1.keys (.inl Wa) | refine Zu Wi ?_)) ?_
       refine TH (hk0 := by decide) Z Z (fun _ h => Xo Z Z Z h) (Qk Wa (Qk Wa Qv)) Wf Z Z (.inr (DI hK1.keys Wa)) Wh Wh (Qa Z (hK _ ?_))
       refine Qe (QX (kp6 Z Z Z Z Z Z) (ZQ fun K hK => Qa Z (QZ Z Z Wc (Qa Z (hK _ ?_)))))
       refine Qi (us ++ [(UR.mk (names5[n]'(by have := Q7; omega)) [] (500001 + us.length) cs)] ++ [(UR.mk (names5[n]'(by have := Q7; omega)) [102] (500001 + (us ++ [(UR.mk (names5[n]'(by have := Q7; omega)) [] (500001 + us.length) cs)]).length) c2)], J3, n + 1) ?_ ?_ ?_
       ·exact le_trans (RJ (B := [_, _, _, _, _]) 500000 (Mx _ _)) (QdV (u := (UR.mk (names5[n]'(by have := Q7; omega)) [102] (500001 + (us ++ [(UR.mk (names5[n]'(by have := Q7; omega)) [] (500001 + us.length) cs)]).length) c2)) (l := [0, 1, 5, 6, 7, 8]) (B := [_, _, _, _, _]) (kp6 rfl rfl rfl rfl rfl rfl) (by simp [D.scrub, f1, f2, e3, f4, e4] <;> omega) hK1.keys rfl Wg (by rw [QcV (u := (UR.mk (names5[n]'(by have := Q7; omega)) [102] (500001 + (us ++ [(UR.mk (names5[n]'(by have := Q7; omega)) [] (500001 + us.length) cs)]).length) c2))]; exact Qv) Wg (by intro p hp h; simp only [Qgt, Qgs, or_false] at hp; rcases hp with rfl | rfl | rfl | rfl | rfl <;> first | (simp only at h; omega) | exact .inl rfl | exact .inr rfl) hkg Wa (by intro p hp k hk; simp only [Qgt, Qgs, or_false] at hp; rcases hp with rfl | rfl | rfl | rfl | rfl | rfl <;> first | (simp [D.ids, D.sid, Q8, QT, ZJ] at hk; done) | (simp [D.ids, D.sid, Q8, QT, ZJ] at hk; subst hk; first | exact .inl rfl | exact .inr (.inl rfl) | (first | exact .inr (.inr ⟨_, QgG _ (QgA.2 rfl), rfl⟩) | exact .inr (.inr (.inr ⟨_, QgG _ (QgA.2 rfl), rfl⟩))))))
       ·try dsimp only
        exact ⟨hK1.snoc Wa hM.1.2.2, by simp; omega, Wa, by simp; omega, QeJ (Qab hI.2.2.2.2 Wa (DK hC.2)) Wa Wh ((hM.2.trans (List.take_sublist _ _)).trans (DK hC.2))⟩
       ·show 5 - (n + 1) < 5 - n; omega
     ·try rw [h6]
      try simp only [qA] at h6
      refine Y8 (Qe (QX (kp6 Z Z Z Z Z Z) (ZQ fun K hK => Qa Z (QZ Z Z Wc (Qa Z (hK _ ?_))))))
      refine Qi (us ++ [(UR.mk (names5[n]'(by have := Q7; omega)) [] (500001 + us.length) cs)], nxI (nxI (nxI J)), n + 1) ?_ ?_ ?_
      ·exact QeQ (l := [0, 1, 5, 6, 7, 8]) (B := [_, _, _]) (kp6 rfl rfl rfl rfl rfl rfl) rfl hK1.keys Wg Wg (by intro p hp h; simp only [Qgt, Qgs, or_false] at hp; rcases hp with rfl | rfl | rfl <;> first | (simp only at h; omega) | rfl) Wa (by intro p hp k hk; simp only [Qgt, Qgs, or_false] at hp; rcases hp with rfl | rfl | rfl | rfl | rfl | rfl <;> first | (simp [D.ids, D.sid, Q8, QT, ZJ] at hk; done) | (simp [D.ids, D.sid, Q8, QT, ZJ] at hk; subst hk; first | exact .inl rfl | exact .inr (.inl rfl) | (first | exact .inr (.inr ⟨_, QgG _ (QgA.2 rfl), rfl⟩) | exact .inr (.inr (.inr ⟨_, QgG _ (QgA.2 rfl), rfl⟩)))))
      ·try dsimp only
       exact ⟨hK1, by simp; omega, Wa, by simp; omega, UL.up (Qab hI.2.2.2.2 Wa (DK hC.2)) Wa⟩
      ·show 5 - (n + 1) < 5 - n; omega
    ·try rw [h5]
     try simp only [qA] at h5
     refine gn3 Z Z Z (Qh Z Z (hK _ _ (QK (kp8 Z Z Z Z Z Z Z Z) ?_)))
     refine TJ Z (Y8 (Qe (QX (kp6 Z Z Z Z Z Z) (ZQ fun K hK => Qa Z (QZ Z Z Wc (Qa Z (hK _ ?_)))))))
     refine Qi (us ++ [(UR.mk (names5[n]'(by have := Q7; omega)) [] (500001 + us.length) cs)], nxI (nxI J), n + 1) ?_ ?_ ?_
     ·exact QeQ (l := [0, 1, 5, 6, 7, 8]) (B := [_, _]) (kp6 rfl rfl rfl rfl rfl rfl) rfl hK1.keys Wg Wg (by intro p hp h; simp only [Qgt, Qgs, or_false] at hp; rcases hp with rfl | rfl <;> first | (simp only at h; omega) | rfl) Wa (by intro p hp k hk; simp only [Qgt, Qgs, or_false] at hp; rcases hp with rfl | rfl | rfl | rfl | rfl | rfl <;> first | (simp [D.ids, D.sid, Q8, QT, ZJ] at hk; done) | (simp [D.ids, D.sid, Q8, QT, ZJ] at hk; subst hk; first | exact .inl rfl | exact .inr (.inl rfl) | (first | exact .inr (.inr ⟨_, QgG _ (QgA.2 rfl), rfl⟩) | exact .inr (.inr (.inr ⟨_, QgG _ (QgA.2 rfl), rfl⟩)))))
     ·try dsimp only
      exact ⟨hK1, by simp; omega, Wa, by simp; omega, UL.up (Qab hI.2.2.2.2 Wa (DK hC.2)) Wa⟩
     ·show 5 - (n + 1) < 5 - n; omega
  ·try rw [h2]
   try simp only [qA] at h2
   refine Hb (YH (Qw (QE (QX (kp1 Z) (Q6 fun K hK => mv2 Z Z (hK _ _ (QK (kp1 Z) ?_)))))))
   refine NE ?_
   refine ⟨.osl 500000 us.length, ((500000, ⟨us.map dUR, 3, 64, false⟩) :: fbx 61 us) ++ [(kg, gB L (nxI J) eg), (kg, gB L I eg)], ⟨us, _, ⟨hI.1, Wa, Wa, _, hI.2.2.2.2⟩, rfl, rfl⟩, (KB (g3 := gB L J eg) hI.1.keys hkg Z Z Wa).1, (KB (g3 := gB L J eg) hI.1.keys hkg Z Z Wa).2.1, YG Z Z (KB (g3 := gB L J eg) hI.1.keys hkg Z Z Wa).2.2⟩
 ·try rw [h1]
  try simp only [qA] at h1
  refine gn4 Z Z Z Z (Qh Z Z (hK _ _ (QK (kp7 Z Z Z Z Z Z Z) ?_)))
  refine TJ Z (Hb (YH (Qw (QE (QX (kp1 Z) (Q6 fun K hK => mv2 Z Z (hK _ _ (QK (kp1 Z) ?_))))))))
  refine NE ?_
  refine ⟨.osl 500000 us.length, ((500000, ⟨us.map dUR, 3, 64, false⟩) :: fbx 61 us) ++ [(kg, gB L (nxI J) eg), (kg, gB L I eg)], ⟨us, _, ⟨hI.1, Wa, Wa, _, hI.2.2.2.2⟩, rfl, rfl⟩, (KB (g3 := gB L J eg) hI.1.keys hkg Z Z Wa).1, (KB (g3 := gB L J eg) hI.1.keys hkg Z Z Wa).2.1, YG Z Z (KB (g3 := gB L J eg) hI.1.keys hkg Z Z Wa).2.2⟩
end Go.Proofs
