/- Part 4 of the means of the proof: a verified abstract evaluator, the prepared functions, and contracts of functions. It states nothing of the claim by itself. -/
import Derived.Test.YtbnnhnofhilamaaGreatB3
set_option maxRecDepth 4000
set_option linter.unusedSimpArgs false
set_option linter.unusedVariables false
namespace Go.Proofs
open Go Go.Abs M3 M25
theorem _root_.Wt {p : Prop} (h : p := by first | exact .inl (by omega) | exact .inr ⟨by omega, by assumption, by assumption⟩) : p := h
theorem JI {l : List Cu} {c : Cu} (hl : l.length <= 3000000) (hs : ∀ x ∈ l, Cu.sm x) (hc : Cu.sm c) : Ok Tryz.prog 96 [Re l, .agg (dCu c)] (Re (HB l c)) := by
 refine Ok.ofT Z2 Tryz.func96 QfT (Qf0 Z) ?_
 show TW _ _ tf96.body _ _
 refine Qc fun K hK => Zx Z Z Z (Qa Z (kc2 hK Z Z ?_))
 refine Qc fun K hK => Qa Z (kc3 hK Z Z Z ?_)
 refine Qw ?_ -- 0
 refine Qu ?_
 refine Zh (ι := Nat) (fun k => ⟨[(0, Re l), (3, .ref 3 0 0), (5, .int .i64 k)], [(3, ⟨[dCu c], 7, 89, true⟩)]⟩) (fun k => k <= l.length /\ HB l c = l.take k ++ HB (l.drop k) c) (fun k => l.length - k) 0 ?_ ?_ ?_
 ·exact QX (l := [0, 3, 5]) (lH := [3]) (kp3 rfl rfl rfl) (Qb rfl Qi) rfl rfl rfl
 ·exact ⟨Qgc _, by simp⟩
 intro k hI
 try dsimp only
 refine Qw ?_ -- 1
 refine Qc fun K hK => mv2 Z Z (QN Z Z (Z7 Z Z (Qa Z ?_)))
 refine QB (g := 10) Z (fun h1 => ?_) (fun h1 => ?_)
 ·try rw [h1]
  try simp only [qA] at h1
  refine Qh Z (Qa Z (Qh Z (Qa Z (Qh Z (QG Z Z Z Wa (QS Wa) Z (Qh Z (QI (ds0 := [2, 1, 0]) (cs := [_, _, _, _, _, _, _]) Z Z Z Z Z Z (Qh Z (QI (ds0 := [2, 1, 0]) (cs := [_, _, _, _, _, _, _]) Z Z Z Z Z Z (Qh Z (QQ (ds0 := [1, 0]) (Zs (hs _ (Qf5 Wa)).1 (hs _ (Qf5 Wa)).2 hc.1 hc.2) Z Z (.inr Z) Z Z ?_)))))))))))
  refine Qh Z (Z7 Z Z (Ql Z Z (kc4 hK Z Z Z Z ?_)))
  refine Qs Z (fun h2 => ?_) (fun h2 => ?_)
  ·try rw [h2]
   try simp only [qA] at h2
   refine Qr (ks3 Z Z Z (Qu (QH fun K hK => Qa Z (QY Z Z Wc (Qa Z (hK _ ?_))))))
   refine Qd ?_
   refine Qf (k + 1) ?_ ?_ ?_
   ·exact QX (l := [0, 3, 5]) (lH := [3]) (kp3 rfl rfl rfl) (Qb rfl Qi) rfl rfl rfl
   ·exact ⟨Wa, Be Wa h2 hI.2⟩
   ·first | omega | (simp only; omega) | (dsimp only; omega)
  ·try rw [h2]
   try simp only [qA] at h2
   refine Zb (QF (Qt (Qy (ks3 Z Z Z ?_))))
   refine Qw ?_ -- 2
   refine Qc fun K hK => mv2 Z Z (QN Z Z (Z7 Z Z (Qa Z ?_)))
   refine QB (g := 25) Z (fun h3 => ?_) (fun h3 => ?_)
   ·try rw [h3]
    try simp only [qA] at h3
    refine Qh Z (Qa Z (Qh Z (Qa Z (Qh Z (QG Z Z Z Wa (QS Wa) Z (Qh Z (QI (ds0 := [2, 1, 0]) (cs := [_, _, _, _, _, _, _]) Z Z Z Z Z Z (Qh Z (QI (ds0 := [2, 1, 0]) (cs := [_, _, _, _, _, _, _]) Z Z Z Z Z Z (Qh Z (QQ (ds0 := [1, 0]) (Zs (hs _ (Qf5 Wa)).1 (hs _ (Qf5 Wa)).2 hc.1 hc.2) Z Z (.inr Z) Z Z ?_)))))))))))
    refine Qh Z (ZO Z Z (Ql Z Z (kc4 hK Z Z Z Z ?_)))
    refine Qs Z (fun h4 => ?_) (fun h4 => ?_)
    ·try rw [h4]
     try simp only [qA] at h4
     refine Qc fun K hK => mv2 Z Z (kc1 hK Z ?_)
     refine Qq (Qg (Yi Z ?_))
     rw [Bd (k := k) Wa Wl hI.2]; rfl
    ·try rw [h4]
     try simp only [qA] at h4
     refine Qr (ks3 Z Z Z (Qc fun K hK => mv2 Z Z (Hc Z Z Z Z Wa Wa Wh S2 Z (Gz (ds0 := [5, 1, 0]) Z Z (fun _ h => ⟨Qbb, h⟩) Z (.inl Z) Wf Wh Wh Z Z (QI (ds0 := [6, 5, 1, 0]) (cs := [_, _, _, _, _, _, _]) Z Z Z Z Z Z (Qz Z Z (JT (ds0 := [1, 0]) Z Z Wn ⟨_, rfl, rfl, rfl, rfl, rfl⟩ Z Z Wf Z Z Wh Wh Z Z (mv2 Z Z ?_))))))))
     refine Hc Z Z Z Z Wa Wh Wf S2 Z (JT (ds0 := [0]) Z Z Wn ⟨rfl, Qbb, rfl⟩ Z Z Wf Z Z Wh Wh Z Z (Qa Z (kc1 hK Z ?_)))
     refine Qq (Yi Z ?_)
     rw [L0 (k := k) Wt hI.2]; simp [J7, D.fz, D.fzS, FV, lk, D.can, D.canS, Re, D.sid, (show ∀ a b : Nat, a + 1 + b = a + (b + 1) from fun a b => Wa), Qgg (show (l.map dCu).length <= l.length by simp)] <;> rfl
   ·try rw [h3]
    try simp only [qA] at h3
    exact absurd h1 h3
 ·try rw [h1]
  try simp only [qA] at h1
  refine gn4 Z Z Z Z (gn3 Z Z Z (Ql Z Z (kc4 hK Z Z Z Z ?_)))
  refine ZG Z (Zb (QF (Qt (Qy (ks3 Z Z Z ?_)))))
  refine Qw ?_ -- 2
  refine Qc fun K hK => mv2 Z Z (QN Z Z (Z7 Z Z (Qa Z ?_)))
  refine QB (g := 25) Z (fun h5 => ?_) (fun h5 => ?_)
  ·try rw [h5]
   try simp only [qA] at h5
   exact absurd h5 h1
  ·try rw [h5]
   try simp only [qA] at h5
   refine gn4 Z Z Z Z (gn3 Z Z Z (Ql Z Z (kc4 hK Z Z Z Z ?_)))
   refine ZG Z (Qr (ks3 Z Z Z (Qc fun K hK => mv2 Z Z (Hc Z Z Z Z Wa Wa Wh S2 Z (Gz (ds0 := [5, 1, 0]) Z Z (fun _ h => ⟨Qbb, h⟩) Z (.inl Z) Wf Wh Wh Z Z (QI (ds0 := [6, 5, 1, 0]) (cs := [_, _, _, _, _, _, _]) Z Z Z Z Z Z (Qz Z Z (JT (ds0 := [1, 0]) Z Z Wn ⟨_, rfl, rfl, rfl, rfl, rfl⟩ Z Z Wf Z Z Wh Wh Z Z (Qa Z ?_)))))))))
   refine Qa Z (Hc Z Z Z Z Wa Wh Wf S2 Z (JT (ds0 := [0]) Z Z Wn ⟨rfl, Qbb, rfl⟩ Z Z Wf Z Z Wh Wh Z Z (Qa Z (kc1 hK Z ?_))))
   refine Qq (Yi Z ?_)
   rw [L0 (k := k) Wt hI.2]; simp [J7, D.fz, D.fzS, FV, lk, D.can, D.canS, Re, D.sid, (show ∀ a b : Nat, a + 1 + b = a + (b + 1) from fun a b => Wa), Qgg (show (l.map dCu).length <= l.length by simp)] <;> rfl
theorem _root_.Wk {p : Prop} (h : p := by decide) : p := h
theorem Jk {l : List (Cu × Cu)} (hl : Sm l) : Ok Tryz.prog 90 [ZK l] (Re (YY l)) := by
 refine Ok.ofT Z2 Tryz.func90 QfN (Qf0 Z) ?_
 show TW _ _ tf90.body _ _
 have hn := hl.1
 refine Qc fun K hK => Qa Z (kc1 hK Z ?_)
 refine Qc fun K hK => QD (Y3) Z Z (.inl Z) (QD (Xd) Z Z (.inl Z) (Qz Z Z (Qa Z (kc2 hK Z Z ?_))))
 refine Qw ?_ -- 0
 refine Qc fun K hK => Qa Z (kc3 hK Z Z Z ?_)
 refine Qu ?_
 refine Zh (ι := Nat) (fun i => ⟨[(0, ZK l), (3, Re (YY (l.take i))), (4, .int .i64 i)], []⟩) (fun i => i <= l.length) (fun i => l.length - i) 0 ?_ ?_ ?_
 ·exact le_trans (SE 7 _ Wk) (QX (l := [0, 3, 4]) (lH := []) (kp3 rfl rfl rfl) Qi rfl rfl rfl)
 ·exact Qgc _
 intro i hI
 try dsimp only
 refine Qw ?_ -- 1
 refine Qc fun K hK => mv2 Z Z (QN Z Z (Z7 Z Z (kc4 hK Z Z Z Z ?_)))
 refine Qs Z (fun h1 => ?_) (fun h1 => ?_)
 ·try rw [h1]
  try simp only [qA] at h1
  refine Qr (ks3 Z Z Z ?_)
  refine Qw ?_ -- 2
  refine Qu (QH fun K hK => mv2 Z Z (Qa Z (QG Z Z Z Wa (QS Wa) Z (Q6 Z Z (QI (ds0 := [7, 1, 0]) (cs := [_, _, _, _, _, _, _]) Z Z Z Z Z Z (QQ (ds0 := [1, 0]) (JI (Qgj (NZ hl i).1 Wa) (NZ hl i).2 (hl.2 _ (Qf5 Wa)).1) Z Z (.inl Z) Z Z (mv2 Z Z (QG Z Z Z Wa (QS Wa) Z ?_))))))))
  refine Q6 Z Z (QI (ds0 := [1, 0]) (cs := [_, _, _, _, _, _, _]) Z Z Z Z Z Z (QQ (ds0 := [0]) (JI (Qgj (N0 _ _) (by have := (NZ hl i).1; omega)) (RF (NZ hl i).2 (hl.2 _ (Qf5 Wa)).1) (hl.2 _ (Qf5 Wa)).2) Z Z (.inl Z) Z Z (Qa Z (hK _ ?_))))
  refine Qd (ks3 Z Z Z (QH fun K hK => Qa Z (QY Z Z Wc (Qa Z (hK _ ?_)))))
  refine Qf (i + 1) ?_ ?_ ?_
  ·exact QX (l := [0, 3, 4]) (lH := []) (kp3 rfl rfl rfl) Qi (by rw [QaW Wa]; rfl) rfl rfl
  ·omega
  ·first | omega | (simp only; omega) | (dsimp only; omega)
 ·try rw [h1]
  try simp only [qA] at h1
  refine Zb (QF (Qt (Qy (ks1 Z (Qc fun K hK => mv2 Z Z (kc1 hK Z ?_))))))
  refine Qq (Yi Z ?_)
  rw [Qgg (Wa : l.length <= i)]; rfl
open Go Go.Abs M3 M25
theorem Jl {l : List (Cu × Cu)} {x y : Cu} (hn : l.length <= 3000000) (hl : ∀ s ∈ l, Cu.sm s.1 /\ Cu.sm s.2) (hx : Cu.sm x) (hy : Cu.sm y) : OkH Tryz.prog 92 [.osl 500000 l.length, .agg (dCu x), .agg (dCu y)] [(500000, ⟨l.map NH, 14, 92, true⟩)] (.osl 500000 (Hz l x y).length) [(500000, ⟨(Hz l x y).map NH, 14, 92, true⟩)] := by
 refine OkH.mv Z2 Tryz.func92 QfP (Qf0 Z) Z ?_
 show TW _ _ tf92.body _ _
 refine Qc fun K hK => Zx Z Z Z (Zx Z Z Z (Qa Z (kc3 hK Z Z Z ?_)))
 refine Qw ?_ -- 0
 refine Qc fun K hK => Qa Z (QN Z Z (Jf Z Z Wc (Qa Z (kc4 hK Z Z Z Z ?_))))
 refine Qc fun K hK => Qa Z (FT Z Z (Qa Z ?_))
 refine QB (g := 13) Z (fun h1 => ?_) (fun h1 => ?_)
 ·try rw [h1]
  try simp only [qA] at h1
  refine Qh Z (Qa Z (Qh Z (Qa Z (Qh Z (YA (ds0 := [5, 4, 2, 1, 0]) Z Z Z Wf Wa Wa Z Z Z (Qh Z (Qe Z Z (Qh Z (QI (ds0 := [2, 1, 0]) (cs := [_, _, _, _, _, _, _]) Z (Z1 Z (Zq Wa Wa)) Z Z Z Z (Qh Z (QI (ds0 := [2, 1, 0]) (cs := [_, _, _, _, _, _, _]) Z Z Z Z Z Z ?_)))))))))))
  refine Qh Z (QQ (ds0 := [1, 0]) (Zs (hl _ (Qf5 Wa)).2.1 (hl _ (Qf5 Wa)).2.2 hx.1 hx.2) Z Z (.inr Z) Z Z (Qh Z (ZO Z Z (Ql Z Z (kc5 hK Z Z Z Z Z ?_)))))
  refine Qs Z (fun h2 => ?_) (fun h2 => ?_)
  ·try rw [h2]
   try simp only [qA] at h2
   refine Qc fun K hK => mv2 Z Z (QE (cs := [_, _, _, _, _, _, _]) Z Z Z Z (Xm Z Z Z Wf Wa Wa Z (Qe Z Z (Q3 Z Z (Zq Wa Wa) Z Z Z Z Z (kc1 hK Z ?_)))))
   refine Qc fun K hK => mv2 Z Z (kc1 hK Z ?_)
   refine Qq (Qg ?_)
   refine YC Z ?_ (HN ?_)
   ·rw [SK (i := ((l.length : Int) - 1).toNat) Wa h2]; simp [D6, D.fz, D.fzS, M9, D.can, D.canS]
   ·rw [SK (i := ((l.length : Int) - 1).toNat) Wa h2]; simp [lk, List.map_set, NH, dCu, setRow, D.sid]
  ·try rw [h2]
   try simp only [qA] at h2
   refine Qr (ks3 Z Z Z (Qc fun K hK => Qa Z (QE (cs := [_, _, _, _, _, _, _]) Z Z Z Z (QE (cs := [_, _, _, _, _, _, _]) Z Z Z Z (QT Z Z (Qz Z Z (Xl Z Z (fun _ h => Y8 Z Z Z h) Z Wf Z Z Z Wh Wh (Qa Z (kc1 hK Z ?_)))))))))
   refine Qq ?_
   refine YC Z ?_ (HN ?_)
   ·rw [Fv (.inr ⟨((l.length : Int) - 1).toNat, Wa, h2⟩)]; simp [D6, D.fz, D.fzS, M9, D.can, D.canS]
   ·rw [Fv (.inr ⟨((l.length : Int) - 1).toNat, Wa, h2⟩)]; simp [lk, NH, dCu, D.sid]
 ·try rw [h1]
  try simp only [qA] at h1
  refine gn4 Z Z Z Z (gn4 Z Z Z Z (Ql Z Z (kc5 hK Z Z Z Z Z ?_)))
  refine ZG Z (Qr (ks3 Z Z Z (Qc fun K hK => Qa Z (QE (cs := [_, _, _, _, _, _, _]) Z Z Z Z (QE (cs := [_, _, _, _, _, _, _]) Z Z Z Z (QT Z Z (Qz Z Z (Xl Z Z (fun _ h => Y8 Z Z Z h) Z Wf Z Z Z Wh Wh (Qa Z (kc1 hK Z ?_))))))))))
  refine Qq ?_
  have h0 : l = [] := List.eq_nil_of_length_eq_zero Wa
  refine YC Z ?_ (HN ?_)
  ·rw [Fv (.inl h0)]; simp [D6, D.fz, D.fzS, M9, D.can, D.canS]
  ·rw [Fv (.inl h0)]; simp [lk, NH, dCu, D.sid]
open Go Go.Abs M3 M25
theorem GG {l : List (Cu × Cu)} (hl : Sm l) : Ok Tryz.prog 89 [ZK l] (.tup [ZK (TQ l), .bool (l.all Fx)]) := by
  refine Ok.ofT Z2 Tryz.func89 QfM (Qf0 Z) ?_
  show TW _ _ tf89.body _ _
  have hn := hl.1
  have hc1 := Hx l
  refine Qc fun K hK => mv2 Z Z (kc1 hK Z ?_)
  refine Qw ?_ -- 0
  refine Qc fun K hK => Qa Z (kc2 hK Z Z ?_)
  refine Qu ?_
  refine Zh (ι := Nat) (fun i => ⟨[(0, ZK l), (4, .int .i64 i)], []⟩) (fun i => i <= l.length /\ (l.take i).all Fx = true) (fun i => l.length - i) 0 ?_ ?_ ?_
  · exact Ze (kp2 rfl rfl)
  · exact ⟨Qgc _, by simp⟩
  intro i hI
  try dsimp only
  refine Qw ?_ -- 1
  refine Qc fun K hK => mv2 Z Z (QN Z Z (Z7 Z Z (kc3 hK Z Z Z ?_)))
  refine Qs Z (fun h1 => ?_) (fun h1 => ?_)
  · try rw [h1]
    try simp only [qA] at h1
    refine Qr (ks2 Z Z ?_)
    refine Qw ?_ -- 2
    refine Qu (Qc fun K hK => mv2 Z Z (QG Z Z Z Wa (QS Wa) Z (QE (cs := [_, _, _, _, _, _, _, _, _, _, _, _, _, _]) Z Z Z Z (QD (YG (hl.at (i := i) Wa).1.1 (hl.at (i := i) Wa).1.2 (hl.at (i := i) Wa).2.1 (hl.at (i := i) Wa).2.2) Z Z (.inr Z) (Yn Z (kc3 hK Z Z Z ?_))))))
    refine Qs Z (fun h2 => ?_) (fun h2 => ?_)
    · try rw [h2]
      try simp only [qA] at h2
      refine Qc fun K hK => mv2 Z Z (kc2 hK Z Z ?_)
      refine Qq (Qo (Qg (Q0 (Qo (Qg ?_)))))
      first
        | exact QO rfl rfl ⟨by rw [TQ, if_neg (by rw [XO (i := i) Wa Wl]; simp)]; rfl, by rw [XO (i := i) Wa Wl]; rfl⟩
        | (have ha : l.all Fx = true := XF Wa hI.2
           exact QO rfl rfl ⟨by rw [TQ, if_pos ha, hI2.done Wa]; simp [J7, D.fz, D.fzS, FV, lk, D.can, D.canS, ZK], by rw [ha]; rfl⟩)
    · try rw [h2]
      try simp only [qA] at h2
      refine Qr (Qd (ks2 Z Z (QH fun K hK => Qa Z (QY Z Z Wc (Qa Z (hK _ ?_))))))
      refine Qf (i + 1) ?_ ?_ ?_
      · exact Ze (kp2 rfl rfl)
      · exact ⟨Wa, Yb Wa hI.2 Wl⟩
      · first | omega | (simp only; omega) | (dsimp only; omega)
  · try rw [h1]
    try simp only [qA] at h1
    refine Zb (QF (Qt (Qy (ks1 Z (Qc fun K hK => Qa Z (kc2 hK Z Z ?_))))))
    refine Qc fun K hK => Qa Z (QD (Jk hl) Z Z (.inl Z) (Qa Z (kc3 hK Z Z Z ?_)))
    refine Qw ?_ -- 3
    refine Qc fun K hK => Qa Z (kc4 hK Z Z Z Z ?_)
    refine Qu ?_
    refine Zh (ι := Nat × List (Cu × Cu)) (fun ⟨i, out⟩ => ⟨[(0, ZK l), (5, .osl 5 out.length), (6, Re (YY l)), (7, .int .i64 i)], [(5, ⟨out.map NH, 14, 92, true⟩)]⟩) (fun ⟨i, out⟩ => i <= (YY l).length /\ FillI (mIn l) (YY l) i out) (fun ⟨i, out⟩ => (YY l).length - i) (0, []) ?_ ?_ ?_
    · exact le_trans (Yh 5 5 14 92 rfl rfl) (QX (l := [0, 5, 6, 7]) (lH := [5]) (kp4 rfl rfl rfl rfl) (Qb rfl Qi) rfl rfl rfl)
    · exact ⟨Qgc _, FillI.zero⟩
    intro ⟨i, out⟩ hI
    obtain ⟨hI1, hI2⟩ := hI
    have hI3 := hI2.1
    try dsimp only
    refine Qw ?_ -- 4
    refine Qc fun K hK => Qa Z (QY Z Z Wc (Qa Z (QN Z Z (Z7 Z Z (kc5 hK Z Z Z Z Z ?_)))))
    refine Qs Z (fun h3 => ?_) (fun h3 => ?_)
    · try rw [h3]
      try simp only [qA] at h3
      refine Qr (ks4 Z Z Z Z ?_)
      refine Qw ?_ -- 5
      refine Qu (Qc fun K hK => mv2 Z Z (Qa Z (QG Z Z Z Wa (QS Wa) Z (QI (ds0 := [0]) (cs := [_, _, _, _, _, _, _]) Z Z Z Z Z Z (mv2 Z Z (QY Z Z Wc (QG Z Z Z Wa (LK Wa) Z (QI (ds0 := [0]) (cs := [_, _, _, _, _, _, _]) Z Z Z Z Z Z ?_))))))))
      refine QQ (ds0 := []) (Kc hl (YB hl _ (Qf5 Wa)) (YB hl _ (Qf5 Wa))) Z Z (.inr Z) Z Z (kc5 hK Z Z Z Z Z ?_)
      refine Qs Z (fun h4 => ?_) (fun h4 => ?_)
      · try rw [h4]
        try simp only [qA] at h4
        refine QH fun K hK => Qa rfl (Qa rfl (Qa rfl (QG rfl rfl rfl Wa (QS Wa) rfl (QI (ds0 := [1, 0]) (cs := [_, _, _, _, _, _, _]) rfl rfl rfl rfl rfl rfl (Qa rfl (Qa rfl (QY rfl rfl Wc (QG rfl rfl rfl Wa (LK Wa) rfl (QI (ds0 := [1, 0]) (cs := [_, _, _, _, _, _, _]) rfl rfl rfl rfl rfl rfl (Li (ds0 := [0]) (Lr (k := 5) rfl rfl rfl Wk rfl Wk (by simp [D.ids, D.sid, dCu]) ⟨.osl 5 out.length, by simp, by simp [D.ids, D.sid]⟩ rfl rfl (Jl Wa hI2.2.1 (YB hl _ (Qf5 Wa)) (YB hl _ (Qf5 Wa)))) (fun _ h => by cases h) rfl rfl ?_))))))))))
        refine Qa Z (hK _ ?_)
        refine Qd (ks4 Z Z Z Z (QH fun K hK => Qa Z (QY Z Z Wc (Qa Z (hK _ ?_)))))
        refine Qf (i + 1, Hz out (YY l)[i] (YY l)[i + 1]) ?_ ?_ ?_
        · exact le_trans (CZ (l := [0, 6, 7]) (t := 50) (u := 5) 5 (kp3 rfl rfl rfl) rfl rfl rfl rfl) (QX (l := [0, 5, 6, 7]) (lH := [5]) (kp4 rfl rfl rfl rfl) (Qb rfl Qi) rfl rfl rfl)
        · exact ⟨Wa, hI2.take (YB hl) Wa Wl⟩
        · show (YY l).length - (i + 1) < (YY l).length - i; omega
      · try rw [h4]
        try simp only [qA] at h4
        refine Qr (Qd (ks4 Z Z Z Z (QH fun K hK => Qa Z (QY Z Z Wc (Qa Z (hK _ ?_))))))
        refine Qf (i + 1, out) ?_ ?_ ?_
        · exact QX (l := [0, 5, 6, 7]) (lH := [5]) (kp4 rfl rfl rfl rfl) (Qb rfl Qi) rfl rfl rfl
        · exact ⟨Wa, hI2.skip Wa Wl⟩
        · show (YY l).length - (i + 1) < (YY l).length - i; omega
    · try rw [h3]
      try simp only [qA] at h3
      refine Zb (QF (Qt (Qy (ks1 Z (Qc fun K hK => mv2 Z Z (Qa Z (kc2 hK Z Z ?_)))))))
      refine Qq ?_
      first
        | exact QO rfl rfl ⟨by rw [TQ, if_neg (by rw [XO (i := i) Wa Wl]; simp)]; rfl, by rw [XO (i := i) Wa Wl]; rfl⟩
        | (have ha : l.all Fx = true := XF Wa hI.2
           exact QO rfl rfl ⟨by rw [TQ, if_pos ha, hI2.done Wa]; simp [J7, D.fz, D.fzS, FV, lk, D.can, D.canS, ZK], by rw [ha]; rfl⟩)
open Go Go.Abs M3 M25
theorem Kb {a b : List (Cu × Cu)} (ha : Sm a) (hb : Sm b) (hab : a.length + b.length <= 1000000) : Ok Tryz.prog 82 [ZK a, ZK b] (ZK (QbG a b)) := by
 refine Ok.ofT Z2 Tryz.func82 QfF (Qf0 Z) ?_
 show TW _ _ tf82.body _ _
 refine Qc fun K hK => Qa Z (kc2 hK Z Z ?_)
 refine Qw ?_ -- 0
 refine Qc fun K hK => Qa Z (QD (ZZ ha) Z Z (.inr Z) (Yn Z (Qa Z ?_)))
 refine QB (g := 10) Z (fun h1 => ?_) (fun h1 => ?_)
 ·try rw [h1]
  try simp only [qB] at h1
  refine gn3 Z Z Z (Ql Z Z (kc3 hK Z Z Z ?_))
  refine Zt Z (Qc fun K hK => Qa Z (kc1 hK Z ?_))
  refine Qq (Qg (Yi Z ?_))
  rw [QbG, if_neg (by simp [h1])]; rfl
 ·try rw [h1]
  try simp only [qB] at h1
  refine Qh Z (Qa Z (Qh Z (QD (ZZ hb) Z Z (.inr Z) (Qh Z (Yn Z (Ql Z Z (kc3 hK Z Z Z ?_)))))))
  refine Qs Z (fun h2 => ?_) (fun h2 => ?_)
  ·try rw [h2]
   try simp only [qB] at h2
   refine Qc fun K hK => Qa Z (kc1 hK Z ?_)
   refine Qq (Qg (Yi Z ?_))
   rw [QbG, if_neg (by simp [h1, h2])]; rfl
  ·try rw [h2]
   try simp only [qB] at h2
   refine Qr (ks2 Z Z (Qc fun K hK => Qa Z (Cc Z Z (fun _ h => Td QbL h) Z (.inl Z) Wf Wh Wh (Qa Z (Xl Z Z (fun _ h => Td QbL h) Z Wf Z Z Z Wh Wh ?_)))))
   apply QbX [17] Wf
   ·simp [St.freezeL, St.freeze, rem, D.fz, D.fzS, Box.fz, lk, D.scrub]; exact ⟨rfl, rfl⟩
   ·exact GG (ha.app hb hab)
   ·rfl
   ·simp [J7, D.fz, D.fzS, FV, D.can, D.canS, ZK]
   ·exact .inl rfl
   refine Qa Z (QK Z Z (QK Z Z (mv2 Z Z (kc1 hK Z ?_))))
   refine Qc fun K hK => mv2 Z Z (kc1 hK Z ?_)
   refine Qq (Yi Z ?_)
   rw [QbG, if_pos ⟨h1, h2⟩]; rfl
theorem JH {a : List (Cu × Cu)} (ha : Sm a) : Ok Tryz.prog 83 [ZK a] (ZK (TR a)) := by
 refine Ok.ofT Z2 Tryz.func83 QfG (Qf0 Z) ?_
 show TW _ _ tf83.body _ _
 have hn := ha.1
 have hc1 := Hx a
 refine Qc fun K hK => Qa Z (kc1 hK Z ?_)
 refine Qw ?_ -- 0
 refine Qc fun K hK => Qa Z (QD (ZZ ha) Z Z (.inr Z) (Yn Z (kc2 hK Z Z ?_)))
 refine Qs Z (fun h1 => ?_) (fun h1 => ?_)
 ·try rw [h1]
  try simp only [qA] at h1
  refine Qc fun K hK => Qa Z (kc1 hK Z ?_)
  refine Qq (Qg (Yi Z ?_))
  rw [TR, if_neg (by simp [h1])]; rfl
 ·try rw [h1]
  try simp only [qA] at h1
  refine Qr (ks1 Z (Qc fun K hK => Qa Z (kc2 hK Z Z ?_)))
  refine Qc fun K hK => Qa Z (QD (Jk ha) Z Z (.inl Z) (Qa Z (kc3 hK Z Z Z ?_)))
  refine Qw ?_ -- 1
  refine Qc fun K hK => Qa Z (kc4 hK Z Z Z Z ?_)
  refine Qu ?_
  refine Zh (ι := Nat × List (Cu × Cu)) (fun ⟨i, out⟩ => ⟨[(0, ZK a), (3, .osl 3 out.length), (4, Re (YY a)), (5, .int .i64 i)], [(3, ⟨out.map NH, 14, 92, true⟩)]⟩) (fun ⟨i, out⟩ => i <= (YY a).length /\ FillI (fun x y => !mIn a x y) (YY a) i out) (fun ⟨i, out⟩ => (YY a).length - i) (0, []) ?_ ?_ ?_
  ·exact le_trans (Yh 3 3 14 92 rfl rfl) (QX (l := [0, 3, 4, 5]) (lH := [3]) (kp4 rfl rfl rfl rfl) (Qb rfl Qi) rfl rfl rfl)
  ·exact ⟨Qgc _, FillI.zero⟩
  intro ⟨i, out⟩ hI
  obtain ⟨hI1, hI2⟩ := hI
  have hI3 := hI2.1
  try dsimp only
  refine Qw ?_ -- 2
  refine Qc fun K hK => Qa Z (QY Z Z Wc (Qa Z (QN Z Z (Z7 Z Z (kc5 hK Z Z Z Z Z ?_)))))
  refine Qs Z (fun h2 => ?_) (fun h2 => ?_)
  ·try rw [h2]
   try simp only [qA] at h2
   refine Qr (ks4 Z Z Z Z ?_)
   refine Qw ?_ -- 3
   refine Qu (Qc fun K hK => mv2 Z Z (Qa Z (QG Z Z Z Wa (QS Wa) Z (QI (ds0 := [1, 0]) (cs := [_, _, _, _, _, _, _]) Z Z Z Z Z Z (mv2 Z Z (QY Z Z Wc (QG Z Z Z Wa (LK Wa) Z (QI (ds0 := [1, 0]) (cs := [_, _, _, _, _, _, _]) Z Z Z Z Z Z ?_))))))))
   refine QQ (ds0 := [0]) (Kc ha (YB ha _ (Qf5 Wa)) (YB ha _ (Qf5 Wa))) Z Z (.inr Z) Z Z (Yn Z (kc5 hK Z Z Z Z Z ?_))
   refine Qs Z (fun h3 => ?_) (fun h3 => ?_)
   ·try rw [h3]
    try simp only [qA] at h3
    refine QH fun K hK => Qa rfl (Qa rfl (Qa rfl (QG rfl rfl rfl Wa (QS Wa) rfl (QI (ds0 := [1, 0]) (cs := [_, _, _, _, _, _, _]) rfl rfl rfl rfl rfl rfl (Qa rfl (Qa rfl (QY rfl rfl Wc (QG rfl rfl rfl Wa (LK Wa) rfl (QI (ds0 := [1, 0]) (cs := [_, _, _, _, _, _, _]) rfl rfl rfl rfl rfl rfl (Li (ds0 := [0]) (Lr (k := 3) rfl rfl rfl Wk rfl Wk (by simp [D.ids, D.sid, dCu]) ⟨.osl 3 out.length, by simp, by simp [D.ids, D.sid]⟩ rfl rfl (Jl Wa hI2.2.1 (YB ha _ (Qf5 Wa)) (YB ha _ (Qf5 Wa)))) (fun _ h => by cases h) rfl rfl ?_))))))))))
    refine Qa Z (hK _ ?_)
    refine Qd (ks4 Z Z Z Z (QH fun K hK => Qa Z (QY Z Z Wc (Qa Z (hK _ ?_)))))
    refine Qf (i + 1, Hz out (YY a)[i] (YY a)[i + 1]) ?_ ?_ ?_
    ·exact le_trans (CZ (l := [0, 4, 5]) (t := 40) (u := 3) 3 (kp3 rfl rfl rfl) rfl rfl rfl rfl) (QX (l := [0, 3, 4, 5]) (lH := [3]) (kp4 rfl rfl rfl rfl) (Qb rfl Qi) rfl rfl rfl)
    ·exact ⟨Wa, hI2.take (YB ha) Wa (by simp; assumption)⟩
    ·show (YY a).length - (i + 1) < (YY a).length - i; omega
   ·try rw [h3]
    try simp only [qA] at h3
    refine Qr (Qd (ks4 Z Z Z Z (QH fun K hK => Qa Z (QY Z Z Wc (Qa Z (hK _ ?_))))))
    refine Qf (i + 1, out) ?_ ?_ ?_
    ·exact QX (l := [0, 3, 4, 5]) (lH := [3]) (kp4 rfl rfl rfl rfl) (Qb rfl Qi) rfl rfl rfl
    ·exact ⟨Wa, hI2.skip Wa (by simp; assumption)⟩
    ·show (YY a).length - (i + 1) < (YY a).length - i; omega
  ·try rw [h2]
   try simp only [qA] at h2
   refine Zb (QF (Qt (Qy (ks1 Z (Qc fun K hK => mv2 Z Z (kc1 hK Z ?_))))))
   refine Qq (Yi Z ?_)
   rw [TR, if_pos h1, hI2.done Wa]; simp [J7, D.fz, D.fzS, FV, lk, D.can, D.canS, ZK]
open Go Go.Abs M3 M25
theorem FZ {a b : FU} (h1a : Sm a.1) (h2a : Sm a.2) (h1b : Sm b.1) (h2b : Sm b.2) (hl1 : a.1.length + b.1.length <= 1000000) (hl2 : a.2.length + b.2.length <= 1000000) : Ok Tryz.prog 62 [Rf a, Rf b] (Rf (Qai a b)) := by
 refine Ok.ofT Z2 Tryz.func62 Qfl (Qf0 Z) ?_
 show TW _ _ tf62.body _ _
 refine Qc fun K hK => Zx Z Z Z (Zx Z Z Z (ZL Z (kc3 hK Z Z Z ?_)))
 refine Qw ?_ -- 0
 refine Qc fun K hK => QE (cs := [_, _]) Z Z Z Z (QD (YI h1a h2a) Z Z (.inr Z) (Yn Z (Qa Z ?_)))
 refine QB (g := 8) Z (fun h1 => ?_) (fun h1 => ?_)
 ·try rw [h1]
  try simp only [qB] at h1
  refine gn3 Z Z Z (Ql Z Z (kc4 hK Z Z Z Z ?_))
  refine Zt Z (Qc fun K hK => QD (Z8) Z Z (.inl Z) (Q3 Z Z Z Z Z Z Z Z (kc1 hK Z ?_)))
  refine Qq (Qg (Post.eq (ZH (ds := [.sl _, .sl _]) (cs := [_, _]) Z Z Z Z Z) ?_))
  rw [Qai, if_neg (by simp [h1])]; rfl
 ·try rw [h1]
  try simp only [qB] at h1
  refine Qh Z (QE (cs := [_, _]) Z Z Z Z (Qh Z (QD (YI h1b h2b) Z Z (.inr Z) (Qh Z (Yn Z (Ql Z Z (kc4 hK Z Z Z Z ?_)))))))
  refine Qs Z (fun h2 => ?_) (fun h2 => ?_)
  ·try rw [h2]
   try simp only [qB] at h2
   refine Qc fun K hK => QD (Z8) Z Z (.inl Z) (Q3 Z Z Z Z Z Z Z Z (kc1 hK Z ?_))
   refine Qq (Qg (Post.eq (ZH (ds := [.sl _, .sl _]) (cs := [_, _]) Z Z Z Z Z) ?_))
   rw [Qai, if_neg (by simp [h1, h2])]; rfl
  ·try rw [h2]
   try simp only [qB] at h2
   refine Qr (ks3 Z Z Z (Qc fun K hK => Qe Z Z (QR (ds0 := [7, 1, 0]) Z Z Z Z Z (Qe Z Z (QR (ds0 := [7, 1, 0]) Z Z Z Z Z (QQ (ds0 := [1, 0]) (Kb h1a h1b hl1) Z Z (.inl Z) Z Z (Qe Z Z (QR (ds0 := [2, 1, 0]) Z Z Z Z Z (Qe Z Z (QR (ds0 := [2, 1, 0]) Z Z Z Z Z ?_))))))))))
   refine QQ (ds0 := [1, 0]) (Kb h2a h2b hl2) Z Z (.inl Z) Z Z (QT Z Z (YH (ds0 := []) Z Z Z Z Z Z Z Z Z Z (kc1 hK Z ?_)))
   refine Qq (Post.eq (ZH (ds := [.sl _, .sl _]) (cs := [_, _]) Z Z Z Z Z) ?_)
   rw [Qai, if_pos ⟨h1, h2⟩]; rfl
theorem G6 {a : FU} (h1a : Sm a.1) (h2a : Sm a.2) : Ok Tryz.prog 63 [Rf a] (Rf (MP a)) := by
 refine Ok.ofT Z2 Tryz.func63 Qfm (Qf0 Z) ?_
 show TW _ _ tf63.body _ _
 refine Qc fun K hK => Zx Z Z Z (ZL Z (kc2 hK Z Z ?_))
 refine Qw ?_ -- 0
 refine Qc fun K hK => QE (cs := [_, _]) Z Z Z Z (QD (YI h1a h2a) Z Z (.inr Z) (Yn Z (kc3 hK Z Z Z ?_)))
 refine Qs Z (fun h1 => ?_) (fun h1 => ?_)
 ·try rw [h1]
  try simp only [qB] at h1
  refine Qc fun K hK => QD (Z8) Z Z (.inl Z) (Q3 Z Z Z Z Z Z Z Z (kc1 hK Z ?_))
  refine Qq (Qg (Post.eq (ZH (ds := [.sl _, .sl _]) (cs := [_, _]) Z Z Z Z Z) ?_))
  rw [MP, if_neg (by simp [h1])]; rfl
 ·try rw [h1]
  try simp only [qB] at h1
  refine Qr (ks2 Z Z (Qc fun K hK => Qe Z Z (QR (ds0 := [5, 1, 0]) Z Z Z Z Z (QQ (ds0 := [1, 0]) (JH h1a) Z Z (.inl Z) Z Z (Qe Z Z (QR (ds0 := [2, 1, 0]) Z Z Z Z Z (QQ (ds0 := [1, 0]) (JH h2a) Z Z (.inl Z) Z Z (QT Z Z (YH (ds0 := []) Z Z Z Z Z Z Z Z Z Z (kc1 hK Z ?_))))))))))
  refine Qq (Post.eq (ZH (ds := [.sl _, .sl _]) (cs := [_, _]) Z Z Z Z Z) ?_)
  rw [MP, if_pos h1]; rfl
open Go Go.Abs M3 M25
theorem ZR {v n : Int} (hn : n <= 9223372036854775807) (hv : I64 v) : Ok Tryz.prog 9 [.int .i64 v, .int .i64 n] (.int .i64 (mPl v n)) := by
 refine Ok.ofT Z2 Tryz.func9 tp9 (Qf0 Z) ?_
 show TW _ _ tf9.body _ _
 refine Qc fun K hK => Qa Z (kc2 hK Z Z ?_)
 refine Qw ?_ -- 0
 refine Qc fun K hK => Qa Z (Z7 Z Z (kc3 hK Z Z Z ?_))
 refine Qs Z (fun h1 => ?_) (fun h1 => ?_)
 ·try rw [h1]
  try simp only [qB] at h1
  refine Qc fun K hK => Qa Z (kc1 hK Z ?_)
  refine Qq (Qg (QC Z ?_))
  rw [mPl, if_pos h1]
 ·try rw [h1]
  try simp only [qB] at h1
  refine Qr (ks2 Z Z (Qc fun K hK => mv2 Z Z (Cf Z Z Wa (Qa Z (kc2 hK Z Z ?_)))))
  refine Qw ?_ -- 1
  refine Qc fun K hK => Qa Z (Z7 Z Z (kc3 hK Z Z Z ?_))
  refine Qs Z (fun h2 => ?_) (fun h2 => ?_)
  ·try rw [h2]
   try simp only [qB] at h2
   refine Qc fun K hK => mv2 Z Z (QY Z Z (Qm (by have := Int.lt_tmod_of_pos v (Wa : 0 < n); omega) (by have := Int.tmod_lt_of_pos v (Wa : 0 < n); omega)) (Qa Z (kc1 hK Z ?_)))
   refine Qq (Qg (QC Z ?_))
   rw [mPl, if_neg h1, MQ, if_pos h2]
  ·try rw [h2]
   try simp only [qB] at h2
   refine Qr (ks1 Z (Qc fun K hK => mv2 Z Z (kc1 hK Z ?_)))
   refine Qq (QC Z ?_)
   rw [mPl, if_neg h1, MQ, if_neg h2]
theorem FY {l : List Int} {i : Int} : Ok Tryz.prog 37 [Zo l, .int .i64 i] (.int .i64 (Qag l i)) := by
 refine Ok.ofT Z2 Tryz.func37 QeW (Qf0 Z) ?_
 show TW _ _ tf37.body _ _
 refine Qc fun K hK => Qa Z (kc2 hK Z Z ?_)
 refine Qw ?_ -- 0
 refine Qc fun K hK => Qa Z (Z7 Z Z (Qa Z ?_))
 refine QB (g := 7) Z (fun h1 => ?_) (fun h1 => ?_)
 ·try rw [h1]
  try simp only [qA] at h1
  refine gn4 Z Z Z Z (Ql Z Z (kc3 hK Z Z Z ?_))
  refine Zt Z (Qc fun K hK => Qa Z (Cf Z Z Wa (Qa Z (kc1 hK Z ?_))))
  refine Qq (Qg (QC Z ?_))
  rw [Qag, if_pos Wa]
 ·try rw [h1]
  try simp only [qA] at h1
  refine Qh Z (Qa Z (Qh Z (Qa Z (Qh Z (QN Z Z (Qh Z (FT Z Z (Ql Z Z (kc3 hK Z Z Z ?_)))))))))
  refine Qs Z (fun h2 => ?_) (fun h2 => ?_)
  ·try rw [h2]
   try simp only [qA] at h2
   refine Qc fun K hK => Qa Z (Cf Z Z Wa (Qa Z (kc1 hK Z ?_)))
   refine Qq (Qg (QC Z ?_))
   rw [Qag, if_pos Wa]
  ·try rw [h2]
   try simp only [qA] at h2
   refine Qr (ks2 Z Z (Qc fun K hK => mv2 Z Z (QG Z Z Z Wa (Zq Wa Wa) Z (Qx Z Z Z (Qa Z (kc1 hK Z ?_))))))
   refine Qq (QC Z ?_)
   exact (C5 Wa Wa).symm
theorem XP {k : Nat} {L : List Int} {I n : Int} (hk : 1000000 <= k) (hL : ∀ x ∈ L, I64 x) (hn : n <= 9223372036854775807) (et : Nat) : OkH Tryz.prog 17 [.ref k 0 0, .int .i64 n] [(k, gB L I et)] (.int .i64 (nx L I n)) ((k, gB L (nxI I) et) :: [(k, gB L I et)]) := by
 refine OkH.lent hk Z2 Tryz.func17 QeC (Qf0 Z) Z ?_
 show TW _ _ tf17.body _ _
 refine Qc fun K hK => Qa Z (kc2 hK Z Z ?_)
 refine Qc fun K hK => Qa Z (Yd Z Z (Qe Z NY (Qx Z (Z1 Na Z) Z (QY Z Z Z (Yd Z Z (Qe Z NY (Q3 Z Na Z Z Z Z Z Z (kc2 hK Z Z ?_))))))))
 refine Qc fun K hK => Qa Z (Yd Z Z (Qe Z NY (QR (ds0 := [3, 1, 0]) Z (Z1 Na Z) Z Z Z (Qa Z (Yd Z Z (Qe Z NY (QR (ds0 := [4, 3, 1, 0]) Z (Z1 Na Z) Z Z Z (Jf Z Z Z (QQ (ds0 := [1, 0]) (FY) Z Z (.inr Z) Z Z (Qa Z ?_))))))))))
 refine QQ (ds0 := [0]) (ZR hn (QaV hL (Pd _))) Z Z (.inr Z) Z Z (Qa Z (kc1 hK Z ?_))
 refine Qq ?_
 exact YC rfl rfl (QcM Na)
open Go Go.Abs M3 M25
theorem Xb {v : Int} (h0 : 0 <= v) (h1v : v <= 61) : Ok Tryz.prog 42 [.int .i64 v] (.int .i64 (2 ^ v.toNat)) := by
 refine Ok.ofT Z2 Tryz.func42 Qe1 (Qf0 Z) ?_
 show TW _ _ tf42.body _ _
 refine Qc fun K hK => Qa Z (kc1 hK Z ?_)
 refine Qc fun K hK => Qa Z (kc2 hK Z Z ?_)
 refine Qw ?_ -- 0
 refine Qc fun K hK => Qa Z (kc3 hK Z Z Z ?_)
 refine Qu ?_
 refine Zh (ι := Nat) (fun i => ⟨[(0, .int .i64 v), (3, .int .i64 (2 ^ i)), (4, .int .i64 i)], []⟩) (fun i => (i : Int) <= v) (fun i => v.toNat - i) 0 ?_ ?_ ?_
 ·exact Ze (kp3 rfl rfl rfl)
 ·exact h0
 intro i hI
 have hp := RJ (i := i + 1) Wa
 rw [Int.pow_succ] at hp
 try dsimp only
 refine Qw ?_ -- 1
 refine Qc fun K hK => mv2 Z Z (Z7 Z Z (kc4 hK Z Z Z Z ?_))
 refine Qs Z (fun h1 => ?_) (fun h1 => ?_)
 ·try rw [h1]
  try simp only [qB] at h1
  refine Qr (ks3 Z Z Z ?_)
  refine Qw ?_ -- 2
  refine Qu (QH fun K hK => Qa rfl (QbZ rfl rfl (Qm (by obtain ⟨p1, p2⟩ := hp; generalize (2 : Int) ^ i = z at *; omega) (by obtain ⟨p1, p2⟩ := hp; generalize (2 : Int) ^ i = z at *; omega)) (Qa rfl (hK _ ?_))))
  refine Qd (ks3 Z Z Z (QH fun K hK => Qa Z (QY Z Z (Qm Wa Wa) (Qa Z (hK _ ?_)))))
  refine Qf (i + 1) ?_ ?_ ?_
  ·exact QX (l := [0, 3, 4]) (lH := []) (kp3 rfl rfl rfl) Qi (by rw [Int.pow_succ]; rfl) rfl rfl
  ·show ((i + 1 : Nat) : Int) <= v; omega
  ·first | omega | (simp only; omega) | (dsimp only; omega)
 ·try rw [h1]
  try simp only [qB] at h1
  refine Zb (QF (Qt (Qy (ks1 Z (Qc fun K hK => mv2 Z Z (kc1 hK Z ?_))))))
  refine Qq (QC Z ?_)
  rw [show v.toNat = i by omega]
theorem XQ {h m : Int} : Ok Tryz.prog 84 [.int .i64 h, .int .i64 m] (.int .i64 (Zy h m)) := by
 refine Ok.ofT Z2 Tryz.func84 QfH (Qf0 Z) ?_
 show TW _ _ tf84.body _ _
 refine Qc fun K hK => Qa Z (kc2 hK Z Z ?_)
 refine Qw ?_ -- 0
 refine Qu (Qc fun K hK => mv2 Z Z (NF Z Z (Qa Z (ZO Z Z (Qa Z (kc3 hK Z Z Z ?_))))))
 refine Qs Z (fun h1 => ?_) (fun h1 => ?_)
 ·try rw [h1]
  try simp only [qB] at h1
  refine Qc fun K hK => Qa Z (kc1 hK Z ?_)
  refine Qq (Qo (Qg (QC Z ?_)))
  rw [Zy, if_pos h1]
 ·try rw [h1]
  try simp only [qB] at h1
  refine Qc fun K hK => mv2 Z Z (NF Z Z (ZO Z Z (Qa Z (kc1 hK Z ?_))))
  refine Qs Z (fun h2 => ?_) (fun h2 => ?_)
  ·try rw [h2]
   try simp only [qB] at h2
   refine Qc fun K hK => Qa Z (kc1 hK Z ?_)
   refine Qq (Qo (Qg (QC Z ?_)))
   rw [Zy, if_neg h1, if_pos h2]
  ·try rw [h2]
   try simp only [qB] at h2
   refine Qr (Qd (Zf (ZJ) (Qc fun K hK => Qa Z (kc1 hK Z ?_))))
   refine Qq (QC Z ?_)
   rw [Zy, if_neg h1, if_neg h2]
theorem Sc {h m : Int} : Ok Tryz.prog 74 [.int .i64 h, .int .i64 m] (.int .i64 (JY h m)) := by
 refine Ok.ofT Z2 Tryz.func74 Qfx (Qf0 Z) ?_
 show TW _ _ tf74.body _ _
 refine Qc fun K hK => Qa Z (kc2 hK Z Z ?_)
 refine Qw ?_ -- 0
 refine Qu (Qc fun K hK => mv2 Z Z (NO Z Z (ZO Z Z (Qa Z (kc3 hK Z Z Z ?_)))))
 refine Qs Z (fun h1 => ?_) (fun h1 => ?_)
 ·try rw [h1]
  try simp only [qB] at h1
  refine Qc fun K hK => Qa Z (kc1 hK Z ?_)
  refine Qq (Qo (Qg (QC Z ?_)))
  rw [JY, if_pos h1]
 ·try rw [h1]
  try simp only [qB] at h1
  refine Qc fun K hK => mv2 Z Z (NF Z Z (ZO Z Z (Qa Z (kc1 hK Z ?_))))
  refine Qs Z (fun h2 => ?_) (fun h2 => ?_)
  ·try rw [h2]
   try simp only [qB] at h2
   refine Qc fun K hK => Qa Z (kc1 hK Z ?_)
   refine Qq (Qo (Qg (QC Z ?_)))
   rw [JY, if_neg h1, if_pos h2]
  ·try rw [h2]
   try simp only [qB] at h2
   refine Qr (Qd (Zf (ZJ) (Qc fun K hK => Qa Z (kc1 hK Z ?_))))
   refine Qq (QC Z ?_)
   rw [JY, if_neg h1, if_neg h2]
open Go Go.Abs M3 M25
theorem Xp  : Ok Tryz.prog 29 [] (.sl (versions.map dVr)) := by
 refine Ok.ofT Z2 Tryz.func29 QeO (Qf0 Z) ?_
 show TW _ _ tf29.body _ _
 refine Qc fun K hK => Qa Z (hK _ _ (P7 (ZJ) ?_))
 refine Qc fun K hK => QT Z Z (QT Z Z (QT Z Z (QT Z Z (Qz Z Z (Qa Z (kc1 hK Z ?_))))))
 refine Qq (Yi Z ?_)
 rfl
end Go.Proofs
namespace M25
open Go Go.Abs M3
structure WantT where
 u : Int
 s : FU
structure CandT where
 v : Vr
 sh : Int
 ns : List (List WantT)
 bs : List WantT
structure Ch where
 n : List UInt8
 f : List UInt8
 cs : List CandT
abbrev Qn := List Ch
def NI (x : WantT) : List D := [.int .i64 x.u, ZK x.s.1, ZK x.s.2]
def Q8 (l : List WantT) : D := .sl (l.map NI)
def QV (l : List (List WantT)) : D := .sl (l.map fun r => [Q8 r])
def Qcj (c : CandT) : List D := [.int .i64 c.v.a, .int .i64 c.v.b, .int .i64 c.v.c, .str c.v.p, .str c.v.q, .int .i64 c.sh, QV c.ns, Q8 c.bs]
def Lu (l : List CandT) : D := .sl (l.map Qcj)
def Yg (u : Ch) : List D := [.str u.n, .str u.f, Lu u.cs]
def Z4 (w : Qn) : D := .agg [.sl (w.map Yg)]
structure TermT where
 u : Int
 m : Int
 deriving DecidableEq
structure QL where
 u : Int
 m : Int
 l : Int
 c : Int
 deriving DecidableEq
structure RowT where
 k : Int
 u : Int
 a : Int
 b : Int
 t : List TermT
def Fa (t : TermT) : List D := [.int .i64 t.u, .int .i64 t.m]
def ZC (l : List TermT) : D := .sl (l.map Fa)
def Sk (s : QL) : List D := [.int .i64 s.u, .int .i64 s.m, .int .i64 s.l, .int .i64 s.c]
def Zv (l : List QL) : D := .sl (l.map Sk)
def Cs (r : RowT) : List D := [.int .i64 r.k, .int .i64 r.u, .int .i64 r.a, .int .i64 r.b, ZC r.t]
def Qck (l : List RowT) : D := .sl (l.map Cs)
def dDb (l : List (List TermT)) : D := .sl (l.map fun t => [ZC t])
abbrev KY (a b : Int) : Int := Jx .and .i64 a b
abbrev bor (a b : Int) : Int := Jx .or .i64 a b
abbrev NR (a b : Int) : Int := Jx .andNot .i64 a b
def uAt (w : Qn) (u : Int) : Option Ch := if u < 0 then none else w[u.toNat]?
theorem Dm {w : Qn} {u : Int} (h0 : 0 <= u) (h : u < w.length) : uAt w u = some (w[u.toNat]'Wa) := by
 rw [uAt, if_neg Wa, List.getElem?_eq_getElem Wa]
theorem La {w : Qn} {u : Int} (h : u < 0 \/ (w.length : Int) <= u) : uAt w u = none := by
 unfold uAt
 split
 ·rfl
 ·rw [List.getElem?_eq_none]; omega
def Y4 (w : Qn) (u : Int) : Int := match uAt w u with
 | none => 0
 | some x => 2 ^ (min x.cs.length 16 + 1) - 1
theorem RC {w : Qn} {u : Int} (h0 : 0 <= u) (h : u < w.length) : Y4 w u = 2 ^ (min (w[u.toNat]'Wa).cs.length 16 + 1) - 1 := by
 rw [Y4, Dm h0 h]
theorem Fu {w : Qn} {u : Int} (h : u < 0 \/ (w.length : Int) <= u) : Y4 w u = 0 := by rw [Y4, La h]
theorem Ft (w : Qn) (u : Int) : 0 <= Y4 w u /\ Y4 w u <= 131071 := by
 unfold Y4
 split
 ·omega
 ·rename_i x _
  have h1 : (2 : Nat) ^ (min x.cs.length 16 + 1) <= 2 ^ 17 := Nat.pow_le_pow_right Wa Wa
  have h2 : 1 <= (2 : Nat) ^ (min x.cs.length 16 + 1) := Nat.one_le_two_pow
  have h3 : ((2 ^ (min x.cs.length 16 + 1) : Nat) : Int) = (2 : Int) ^ (min x.cs.length 16 + 1) := by simp
  rw [<- h3]
  have h4 : (2 : Nat) ^ 17 = 131072 := by decide
  omega
def Pq (v : Vr) : Prop := v.p.length <= 1000000 /\ v.q.length <= 1000000
structure WSm (w : Qn) : Prop where
 len : w.length <= 48
 cs : ∀ u ∈ w, u.cs.length <= 16
 vs : ∀ u ∈ w, ∀ c ∈ u.cs, Pq c.v
 ns : ∀ u ∈ w, ∀ c ∈ u.cs, c.ns.length <= 1000 /\ c.bs.length <= 1000
 nl : ∀ u ∈ w, ∀ c ∈ u.cs, ∀ r ∈ c.ns, r.length <= 1000
 nw : ∀ u ∈ w, ∀ c ∈ u.cs, ∀ r ∈ c.ns, ∀ x ∈ r, Sm x.s.1 /\ Sm x.s.2
 bw : ∀ u ∈ w, ∀ c ∈ u.cs, ∀ x ∈ c.bs, Sm x.s.1 /\ Sm x.s.2
def Qd6 (s : FU) (v : Vr) : Bool := DR s v.a v.b v.c v.p v.q
def Hb (s : FU) (l : List CandT) : Nat -> Int
 | 0 => 0
 | n + 1 => Hb s l n + match l[n]? with
  | some c => if Qd6 s c.v = true then 2 ^ (n + 1) else 0
  | none => 0
theorem L3 (s : FU) (l : List CandT) : ∀ n, 0 <= Hb s l n /\ Hb s l n <= 2 ^ (n + 1) - 2
 | 0 => by simp [Hb]
 | n + 1 => by
  obtain ⟨h1, h2⟩ := L3 s l n
  have h3 : (2 : Int) ^ (n + 1 + 1) = 2 ^ (n + 1) * 2 := Int.pow_succ ..
  have h4 : (0 : Int) < 2 ^ (n + 1) := Int.pow_pos Wa
  rw [Hb, h3]
  generalize (2 : Int) ^ (n + 1) = z at *
  split
  ·split <;> omega
  ·omega
theorem Bi {s : FU} {l : List CandT} {i : Nat} (h : i < l.length) (hp : Qd6 s l[i].v = true) : Hb s l (i + 1) = Hb s l i + 2 ^ (i + 1) := by
 rw [Hb, List.getElem?_eq_getElem h]; simp only [hp, if_true]
theorem Qa1 {s : FU} {l : List CandT} {i : Nat} (h : i < l.length) (hp : Qd6 s l[i].v = false) : Hb s l (i + 1) = Hb s l i := by
 rw [Hb, List.getElem?_eq_getElem h]; simp only [hp, Qf8, if_false, Int.add_zero]
def Tl (w : Qn) (x : WantT) : Int := match uAt w x.u with
 | none => 0
 | some un => Hb x.s un.cs (min un.cs.length 16)
theorem Bb {w : Qn} {x : WantT} (h0 : 0 <= x.u) (h : x.u < w.length) : Tl w x = Hb x.s (w[x.u.toNat]'Wa).cs (min (w[x.u.toNat]'Wa).cs.length 16) := by
 rw [Tl, Dm h0 h]
theorem LZ {w : Qn} {x : WantT} (h : x.u < 0 \/ (w.length : Int) <= x.u) : Tl w x = 0 := by rw [Tl, La h]
theorem QcD {n : Nat} (h : n <= 17) : 1 <= (2 : Int) ^ n /\ (2 : Int) ^ n <= 131072 := by
 have h1 : (2 : Nat) ^ n <= 2 ^ 17 := Nat.pow_le_pow_right Wa h
 have h2 : 1 <= (2 : Nat) ^ n := Nat.one_le_two_pow
 have h3 : ((2 ^ n : Nat) : Int) = (2 : Int) ^ n := by simp
 rw [<- h3]
 have h4 : (2 : Nat) ^ 17 = 131072 := by decide
 omega
theorem L2 (s : FU) (l : List CandT) {n : Nat} (h : n <= 16) : 0 <= Hb s l n /\ Hb s l n <= 131070 := by
 obtain ⟨h1, h2⟩ := L3 s l n
 have := QcD (n := n + 1) Wa
 omega
theorem Qcy (w : Qn) (x : WantT) : 0 <= Tl w x /\ Tl w x <= 131070 := by
 unfold Tl
 split
 ·omega
 ·exact L2 _ _ Wa
def Xi (m : Int) : Nat -> List Int
 | 0 => []
 | n + 1 => Xi m n ++ if KY m (2 ^ n) = 0 then [] else [(n : Int) - 1]
def KL (m : Int) : List Int := Xi m 17
theorem HR (m : Int) : ∀ n, (Xi m n).length <= n
 | 0 => Nat.le_refl _
 | n + 1 => by
  have := HR m n
  rw [Xi, List.length_append]
  split <;> simp <;> omega
def K1 (f : Int) (u : Int) : List TermT -> Int
 | [] => f
 | t :: r => if t.u = u then t.m else K1 f u r
def GL (w : Qn) (l : List TermT) (u : Int) : Int := K1 (Y4 w u) u l
theorem DV {f u : Int} {l : List TermT} {i : Nat} (h : i < l.length) (hn : ¬ l[i].u = u) : K1 f u (l.drop i) = K1 f u (l.drop (i + 1)) := by
 rw [Qgh h, K1, if_neg hn]
theorem Bh {f u : Int} {l : List TermT} {i : Nat} (h : i < l.length) (hn : l[i].u = u) : K1 f u (l.drop i) = l[i].m := by
 rw [Qgh h, K1, if_pos hn]
def Ho (w : Qn) : Nat -> List Int
 | 0 => []
 | n + 1 => Ho w n ++ [Y4 w n]
theorem GJ (w : Qn) : ∀ n, (Ho w n).length = n
 | 0 => rfl
 | n + 1 => by rw [Ho, List.length_append, GJ w n]; rfl
def Kj (w : Qn) : List Int := Ho w w.length
def XD (w : Qn) (ms : List Int) : Nat -> List TermT
 | 0 => []
 | n + 1 => XD w ms n ++ if ms.getD n 0 = Y4 w n then [] else [⟨n, ms.getD n 0⟩]
theorem PQ (w : Qn) (ms : List Int) : ∀ n, (XD w ms n).length <= n
 | 0 => Nat.le_refl _
 | n + 1 => by
  have := PQ w ms n
  rw [XD, List.length_append]
  split <;> simp <;> omega
def SM (w : Qn) (ms : List Int) : Option (List TermT) := if ms.all (fun m => !decide (m = 0)) = true then some (XD w ms ms.length) else none
def dOT (o : Option (List TermT)) : D := .tup [ZC (o.getD []), .bool o.isSome]
def XC (ms : List Int) (l : List TermT) : List Int := l.foldl (fun ms t => ms.set t.u.toNat (KY (ms.getD t.u.toNat 0) t.m)) ms
def inW (w : Qn) (u : Int) : Bool := decide (0 <= u) && decide (u < w.length)
def Gy (w : Qn) (l : List TermT) : Option (List TermT) := if l.all (fun t => inW w t.u) = true then SM w (XC (Kj w) l) else none
def PH (l : List TermT) (u : Int) : List TermT := l.filter fun t => !decide (t.u = u)
def Yp (l : List TermT) : Nat -> List TermT
 | 0 => []
 | n + 1 => Yp l n ++ l.filter fun t => decide (t.u = ((n : Nat) : Int))
def RG (l : List TermT) : List TermT := Yp l 48
def Yl (w : Qn) (u : Int) (p : Nat) (l : List WantT) (bar : Bool) : Option (List TermT) :=
 Gy w (⟨u, KY (Y4 w u) (2 * 2 ^ p)⟩ :: l.map fun x => ⟨x.u, if bar = true then Tl w x else Y4 w x.u - Tl w x⟩)
def TM (r x : RowT) : Bool := decide (x.k = r.k) && decide (x.u = r.u) && decide (PH x.t r.u = PH r.t r.u)
def QaL (w : Qn) (r x : RowT) : RowT := { x with t := RG (⟨r.u, bor (GL w x.t r.u) (GL w r.t r.u)⟩ :: PH x.t r.u) }
def Xk (w : Qn) (r : RowT) : List RowT -> List RowT
 | [] => [r]
 | x :: l => if TM r x = true then QaL w r x :: l else x :: Xk w r l
def YS (w : Qn) (u : Int) (p : Nat) (l : List (List WantT)) (rows : List RowT) : List RowT := l.foldl (fun rows n => match Yl w u p n false with
 | some t => Xk w ⟨2, u, 0, 0, t⟩ rows
 | none => rows) rows
def K6 (w : Qn) (u : Int) (p : Nat) (l : List WantT) (rows : List RowT) : List RowT := l.foldl (fun rows n => match Yl w u p [n] true with
 | some t => Xk w ⟨3, u, 0, 0, t⟩ rows
 | none => rows) rows
def YJ (w : Qn) (u : Int) (cs : List CandT) : Nat -> List RowT -> List RowT
 | 0, rows => rows
 | n + 1, rows => match cs[n]? with
  | some c => K6 w u n c.bs (YS w u n c.ns (YJ w u cs n rows))
  | none => YJ w u cs n rows
def Yv (w : Qn) : Nat -> List RowT
 | 0 => [⟨1, 0, 0, 0, [⟨0, 1⟩]⟩]
 | n + 1 => match w[n]? with
  | some u => YJ w n u.cs u.cs.length (Yv w n)
  | none => Yv w n
def Hw (w : Qn) : List RowT := Yv w w.length
def mDB (w : Qn) : List (List TermT) := (Hw w).map RowT.t
/-! ### Trails -/
def Q9 (w : Qn) (l : List QL) (u : Int) : Int := l.foldl (fun a s => if s.u = u /\ inW w u = true then s.m else a) (Y4 w u)
def XB (l : List QL) : Int := match l.getLast? with
 | none => 0
 | some s => s.l
def Fs (l : List QL) (u : Int) : Bool := l.any fun s => decide (s.u = u) && decide (s.c = -1)
def QcB : List Int -> Int
 | [x] => x
 | _ => -1
def MR (m : Int) : Int := QcB (KL m)
def Fy (w : Qn) (l : List QL) (s : QL) : Bool :=
 inW w s.u && decide (-1 <= s.c) && decide (KY s.m (Q9 w l s.u) = s.m) &&
  if s.c = -1 then decide (0 <= MR s.m) && !Fs l s.u && decide (s.l = IntKind.i64.wrap (XB l + 1))
  else !decide (s.m = 0) && !decide (s.m = Q9 w l s.u) && decide (s.l = XB l)
def Nd (w : Qn) (l : List QL) : Bool := (List.range l.length).all fun i => match l[i]? with
 | some s => Fy w (l.take i) s
 | none => true
def GN (w : Qn) (l : List QL) (inc : List TermT) : Bool := inc.all fun t => decide (Zy (Q9 w l t.u) t.m = 2)
def ZD (have_ : Int -> Int) : List TermT -> Int -> Int
 | [], at_ => at_
 | t :: r, at_ => if Zy (have_ t.u) t.m = 0 then -1 else if Zy (have_ t.u) t.m = 1 then (if 0 <= at_ then -1 else ZD have_ r t.u) else ZD have_ r at_
def GM (w : Qn) (l : List QL) (inc : List TermT) : Int := ZD (Q9 w l) inc (-1)
def Yo (w : Qn) (l : List QL) : Nat -> List (List TermT) -> Int × Int
 | _, [] => (-1, -1)
 | i, x :: r => if GN w l x = true then (i, -1) else if 0 <= GM w l x then (i, GM w l x) else Yo w l (i + 1) r
def ZE (w : Qn) (db : List (List TermT)) (l : List QL) : Int × Int := Yo w l 0 db
def Ym (w : Qn) (l : List QL) (t : TermT) (c : Int) : Option (List QL) :=
 if c < 0 \/ inW w t.u = false then none
 else if IntKind.i64.wrap (Q9 w l t.u - KY (Q9 w l t.u) t.m) = 0 \/ IntKind.i64.wrap (Q9 w l t.u - KY (Q9 w l t.u) t.m) = Q9 w l t.u then none
 else some (l ++ [⟨t.u, IntKind.i64.wrap (Q9 w l t.u - KY (Q9 w l t.u) t.m), XB l, c⟩])
def Xr (w : Qn) (l : List QL) (u p : Int) : Option (List QL) := match uAt w u with
 | none => none
 | some x => if p < 0 \/ (x.cs.length : Int) <= p then none
  else if Fy w l ⟨u, IntKind.i64.wrap (2 * 2 ^ min p.toNat 64), IntKind.i64.wrap (XB l + 1), -1⟩ = true then some (l ++ [⟨u, IntKind.i64.wrap (2 * 2 ^ min p.toNat 64), IntKind.i64.wrap (XB l + 1), -1⟩]) else none
def dOS (o : Option (List QL)) : D := .tup [Zv (o.getD []), .bool o.isSome]
def KP (w : Qn) (db : List (List TermT)) : Nat -> List QL -> List QL × Int
 | 0, out => (out, -1)
 | n + 1, out => if (ZE w db out).2 < 0 then (out, (ZE w db out).1)
  else KP w db n ((Ym w out ⟨(ZE w db out).2, GL w (db.getD (ZE w db out).1.toNat []) (ZE w db out).2⟩ (ZE w db out).1).getD [])
def X2 (w : Qn) (db : List (List TermT)) (l : List QL) : List QL × Int := KP w db (w.length * 18 + 1) l
end M25
namespace M25
open Go Go.Abs M3
section
variable {fr : QfY} {H : QfX} {t u : Nat}
theorem Lk {k n : Nat} {b : Box} {d : D} (hb : lk H k = some b) (hp : b.pr = true) (hn : n = b.rows.length) (hd : .sl b.rows = d) : J7 ⟨fr, H⟩ (.osl k n) = d := by
 unfold J7; rw [Qd5 (S := FV) rfl hb hp hn]; exact hd
theorem JQ {e : Yz} {k n : Nat} {b : Box} {d : D} (h : lk fr t = some (.osl k n)) (hb : lk H k = some b) (hp : b.pr = true) (hn : n = b.rows.length) (hd : .sl b.rows = d) (he : e = .ret \/ e = .normal := by first | exact .inl rfl | exact .inr rfl) : Post [.tmp t] d e ⟨fr, H⟩ :=
 Yi h (Lk hb hp hn hd) he
theorem MY {e : Yz} {k n : Nat} {b : Box} {q d d' : D} (h : lk fr t = some (.osl k n)) (hb : lk H k = some b) (hp : b.pr = true) (hn : n = b.rows.length) (hd : .sl b.rows = d) (h2 : lk fr u = some q) (hd2 : J7 ⟨fr, H⟩ q = d') (he : e = .ret \/ e = .normal := by first | exact .inl rfl | exact .inr rfl) : Post [.tmp t, .tmp u] (.tup [d, d']) e ⟨fr, H⟩ :=
 QO h h2 ⟨Lk hb hp hn hd, hd2⟩ he
end
theorem Qd7 (n : Nat) : (min (n : Int) 16 + 1).toNat = min n 16 + 1 := Wa
theorem Tk {n : Nat} (h : n <= 62) : IntKind.i64.wrap ((2 : Int) ^ n - 1) = 2 ^ n - 1 := by
 have := RJ h; exact Qm Wa Wa
theorem Qdv (i : Nat) : (2 : Int) ^ ((i : Int) + 1).toNat = 2 ^ (i + 1) := by rw [Qac]
theorem Qbr (s : FU) (l : List CandT) {i : Nat} (h : i < 16) : IntKind.i64.wrap (Hb s l i + (2 : Int) ^ ((i : Int) + 1).toNat) = Hb s l i + 2 ^ (i + 1) := by
 rw [Qdv]
 have h1 := L2 s l (n := i) Wa
 have h2 := QcD (n := i + 1) Wa
 exact Qm Wa Wa
theorem X5 {m : Int} {n : Nat} (h : ¬ KY m (2 ^ n) = 0) : Xi m (n + 1) = Xi m n ++ [(n : Int) - 1] := by rw [Xi, if_neg h]
theorem Kz {m : Int} {n : Nat} (h : KY m (2 ^ n) = 0) : Xi m (n + 1) = Xi m n := by rw [Xi, if_pos h, List.append_nil]
theorem Qby {l : List TermT} {u : Int} {i : Nat} (h : i < l.length) : PH (l.take (i + 1)) u = PH (l.take i) u ++ if l[i].u = u then [] else [l[i]] := by
 rw [List.take_succ_eq_append_getElem h, PH, List.filter_append]
 congr 1
 simp only [List.filter_cons, List.filter_nil]
 by_cases hu : l[i].u = u <;> simp [hu]
theorem Ks {l : List TermT} {u : Int} {i : Nat} (h : i < l.length) (hn : ¬ l[i].u = u) : PH (l.take (i + 1)) u = PH (l.take i) u ++ [l[i]] := by rw [Qby h, if_neg hn]
theorem G0 {l : List TermT} {u : Int} {i : Nat} (h : i < l.length) (hn : l[i].u = u) : PH (l.take (i + 1)) u = PH (l.take i) u := by rw [Qby h, if_pos hn, List.append_nil]
theorem Ml (l : List TermT) (u : Int) : (PH l u).length <= l.length := List.length_filter_le ..
theorem Qas (l : List TermT) (u : Int) (i : Nat) : (PH (l.take i) u).length <= l.length := Qgj (Ml ..) (List.length_take_le' ..)
def Nq (l : List TermT) (u : Nat) (i : Nat) : List TermT := (l.take i).filter fun t => decide (t.u = ((u : Nat) : Int))
theorem QcK {l : List TermT} {u i : Nat} (h : i < l.length) (hn : l[i].u = ((u : Nat) : Int)) : Nq l u (i + 1) = Nq l u i ++ [l[i]] := by
 rw [Nq, List.take_succ_eq_append_getElem h, List.filter_append]; simp [hn, Nq]
theorem Qdx {l : List TermT} {u i : Nat} (h : i < l.length) (hn : ¬ l[i].u = ((u : Nat) : Int)) : Nq l u (i + 1) = Nq l u i := by
 rw [Nq, List.take_succ_eq_append_getElem h, List.filter_append]; simp [hn, Nq]
theorem BR (l : List TermT) (u i : Nat) : (Nq l u i).length <= l.length := Qgj (List.length_filter_le ..) (List.length_take_le' ..)
theorem Tc (l : List TermT) (u : Nat) : Yp l (u + 1) = Yp l u ++ Nq l u l.length := by rw [Yp, Nq, List.take_length]
theorem P1 (l : List TermT) : ∀ n, (Yp l n).length <= n * l.length
 | 0 => by simp [Yp]
 | n + 1 => by
  have := P1 l n
  rw [Tc, List.length_append, Nat.succ_mul]
  have := BR l n l.length
  omega
theorem X6 (w : Qn) (n : Nat) : Ho w (n + 1) = Ho w n ++ [Y4 w n] := rfl
theorem X8 {w : Qn} {ms : List Int} {n : Nat} (h : n < ms.length) (hn : ¬ ms[n] = Y4 w n) : XD w ms (n + 1) = XD w ms n ++ [⟨n, ms[n]⟩] := by
 rw [XD, List.getD_eq_getElem?_getD, List.getElem?_eq_getElem h]; simp [hn]
theorem KM {w : Qn} {ms : List Int} {n : Nat} (h : n < ms.length) (hn : ms[n] = Y4 w n) : XD w ms (n + 1) = XD w ms n := by
 rw [XD, List.getD_eq_getElem?_getD, List.getElem?_eq_getElem h]; simp [hn]
theorem DS {w : Qn} {ms : List Int} {i : Nat} (h : i < ms.length) (hz : ms[i] = 0) : SM w ms = none := by
 rw [SM, if_neg]
 rw [XO h (by simp [hz])]; simp
theorem C9 {w : Qn} {ms : List Int} {i : Nat} (hi : ms.length <= i) (h : (ms.take i).all (fun m => !decide (m = 0)) = true) : SM w ms = some (XD w ms ms.length) := by
 rw [Qgg hi] at h; rw [SM, if_pos h]
theorem MD {w : Qn} {u : Int} (h0 : 0 <= u) (h : u < w.length) : inW w u = true := by simp [inW, h0, h]
theorem KF {w : Qn} {u : Int} (h : u < 0 \/ (w.length : Int) <= u) : inW w u = false := by
 simp only [inW, Qgd, decide_eq_false_iff_not]; omega
theorem Hp {w : Qn} {u : Int} : inW w u = true ↔ 0 <= u /\ u < w.length := by simp [inW]
theorem DT (l : List TermT) : ∀ ms : List Int, (XC ms l).length = ms.length := by
 induction l with
 | nil => intro ms; rfl
 | cons t l ih => intro ms; rw [XC, List.foldl_cons]; exact (ih _).trans (List.length_set ..)
theorem QaZ {ms : List Int} {l : List TermT} {i : Nat} (h : i < l.length) : XC ms (l.take (i + 1)) = (XC ms (l.take i)).set l[i].u.toNat (KY ((XC ms (l.take i)).getD l[i].u.toNat 0) l[i].m) := by
 rw [List.take_succ_eq_append_getElem h, XC, List.foldl_append]; rfl
theorem L1 {ms : List Int} {l : List TermT} {i : Nat} (h : i < l.length) (hu : l[i].u.toNat < (XC ms (l.take i)).length) : XC ms (l.take (i + 1)) = (XC ms (l.take i)).set l[i].u.toNat (KY ((XC ms (l.take i))[l[i].u.toNat]) l[i].m) := by
 rw [QaZ h, List.getD_eq_getElem?_getD, List.getElem?_eq_getElem hu]; rfl
theorem B9 {x y : TermT} : J8 [0, 0] (Fa x) (Fa y) = some (decide (x = y)) := by
 obtain ⟨a, b⟩ := x
 obtain ⟨c, d⟩ := y
 simp only [Fa, J8, if_true, Option.map_some, Bool.and_true, Qf3]
 rw [Bool.eq_iff_iff]
 simp only [Qf4, decide_eq_true_eq, TermT.mk.injEq]
theorem B7 {α : Type} {a b : List α} {i : Nat} (ha : i < a.length) (hb : i < b.length) (h : a.take i = b.take i) (he : a[i] = b[i]) : a.take (i + 1) = b.take (i + 1) := by
 rw [List.take_succ_eq_append_getElem ha, List.take_succ_eq_append_getElem hb, h, he]
theorem QcJ {α : Type} [DecidableEq α] {a b : List α} {i : Nat} (ha : i < a.length) (hb : i < b.length) (he : ¬ a[i] = b[i]) : decide (a = b) = false := decide_eq_false fun e => he (by subst e; rfl)
theorem Md {e : Int} (h1 : 0 <= e) (h2 : e <= 18446744073709551615) : IntKind.u64.wrap e = e := by
 unfold IntKind.wrap
 simp only [IntKind.bits, IntKind.signed, Bool.false_and, Qf8, if_false]
 omega
theorem Qae {p : Nat} (h : p <= 60) : IntKind.i64.wrap ((2 : Int) * 2 ^ min ((p : Nat) : Int).toNat IntKind.i64.bits) = 2 * 2 ^ p := by
 rw [show min ((p : Nat) : Int).toNat IntKind.i64.bits = p from by simp only [IntKind.bits, Int.toNat_natCast]; omega]
 have := RJ (i := p + 1) Wa
 rw [Int.pow_succ] at this
 exact Qm Wa Wa
theorem QcS (w : Qn) (u : Int) (x : WantT) : IntKind.i64.wrap (Y4 w u - Tl w x) = Y4 w u - Tl w x := by
 have h1 := Ft w u
 have h2 := Qcy w x
 exact Qm Wa Wa
def clF (w : Qn) (bar : Bool) (x : WantT) : TermT := ⟨x.u, if bar = true then Tl w x else Y4 w x.u - Tl w x⟩
def clT (w : Qn) (u : Int) (p : Nat) (bar : Bool) (l : List WantT) : List TermT := ⟨u, KY (Y4 w u) (2 * 2 ^ p)⟩ :: l.map (clF w bar)
theorem Kw {w : Qn} {u : Int} {p : Nat} {bar : Bool} {l : List WantT} {i : Nat} (h : i < l.length) (hb : bar = false) : clT w u p bar (l.take (i + 1)) = clT w u p bar (l.take i) ++ [⟨l[i].u, Y4 w l[i].u - Tl w l[i]⟩] := by
 rw [clT, List.take_succ_eq_append_getElem h, List.map_append, <- List.cons_append]; simp [clT, clF, hb]
theorem Kv {w : Qn} {u : Int} {p : Nat} {bar : Bool} {l : List WantT} {i : Nat} (h : i < l.length) (hb : bar = true) : clT w u p bar (l.take (i + 1)) = clT w u p bar (l.take i) ++ [⟨l[i].u, Tl w l[i]⟩] := by
 rw [clT, List.take_succ_eq_append_getElem h, List.map_append, <- List.cons_append]; simp [clT, clF, hb]
theorem Cq (w : Qn) (u : Int) (p : Nat) (bar : Bool) (l : List WantT) : (clT w u p bar l).length = l.length + 1 := by simp [clT]
theorem PL {w : Qn} {l : List TermT} {i : Nat} (h : i < l.length) (hu : inW w l[i].u = false) : Gy w l = none := by
 rw [Gy, XO h hu]; rfl
theorem Ba {w : Qn} {l : List TermT} (h : l.all (fun t => inW w t.u) = true) : Gy w l = SM w (XC (Kj w) l) := by
 rw [Gy, if_pos h]
theorem Mv (w : Qn) (l : List TermT) : (XC (Kj w) l).length = w.length := by rw [DT, Kj, GJ]
def srt (l : List TermT) (u i : Nat) : List TermT := Yp l u ++ Nq l u i
theorem KS {l : List TermT} {u i : Nat} (h : i < l.length) (hn : l[i].u = ((u : Nat) : Int)) : srt l u (i + 1) = srt l u i ++ [l[i]] := by rw [srt, QcK h hn, <- List.append_assoc]; rfl
theorem FP {l : List TermT} {u i : Nat} (h : i < l.length) (hn : ¬ l[i].u = ((u : Nat) : Int)) : srt l u (i + 1) = srt l u i := by rw [srt, Qdx h hn]; rfl
theorem Jc (l : List TermT) (u : Nat) : srt l u 0 = Yp l u := by simp [srt, Nq]
theorem KR (l : List TermT) (u : Nat) {i : Nat} (h : l.length = i) : Yp l (u + 1) = srt l u i := by rw [Tc, h]; rfl
theorem QcL (l : List TermT) (u i : Nat) : (srt l u i).length <= u * l.length + l.length := by
 have h1 := P1 l u
 have h2 := BR l u i
 rw [srt, List.length_append]; omega
end M25
namespace Go.Proofs
open Go Go.Abs M3 M25
theorem ZA {w : Qn} (hw : WSm w) {u : Int} : Ok Tryz.prog 25 [Z4 w, .int .i64 u] (.int .i64 (Y4 w u)) := by
 refine Ok.ofT Z2 Tryz.func25 QeK (Qf0 Z) ?_
 show TW _ _ tf25.body _ _
 refine Qc fun K hK => Zx Z Z Z (Qa Z (kc2 hK Z Z ?_))
 refine Qw ?_ -- 0
 refine Qc fun K hK => Qa Z (Z7 Z Z (Qa Z ?_))
 refine QB (g := 7) Z (fun h1 => ?_) (fun h1 => ?_)
 ·try rw [h1]
  try simp only [qA] at h1
  refine gn4 Z Z Z Z (Xx Z (Ql Z Z (kc3 hK Z Z Z ?_)))
  refine Zt Z (Qc fun K hK => Qa Z (kc1 hK Z ?_))
  refine Qq (Qg (QC Z ?_))
  rw [Fu Wa]
 ·try rw [h1]
  try simp only [qA] at h1
  refine Qh Z (Qa Z (Qh Z (Qe Z Z (Qh Z (Qx Z Z Z (Qh Z (QN Z Z (Qh Z (FT Z Z (Ql Z Z (kc3 hK Z Z Z ?_)))))))))))
  refine Qs Z (fun h2 => ?_) (fun h2 => ?_)
  ·try rw [h2]
   try simp only [qA] at h2
   refine Qc fun K hK => Qa Z (kc1 hK Z ?_)
   refine Qq (Qg (QC Z ?_))
   rw [Fu Wa]
  ·try rw [h2]
   try simp only [qA] at h2
   refine Qr (ks2 Z Z (Qc fun K hK => Qe Z Z (Qx Z Z Z (Qa Z (QG Z Z Z Wa (Zq Wa Wa) Z (Q6 Z Z (Qx Z Z Z (QN Z Z (QdV Z Z (QY Z Z Wc ?_))))))))))
   refine QD (Xb Wa Wa) Z Z (.inr Z) (Jf Z Z (Tk Wa) (Qa Z (kc1 hK Z ?_)))
   refine Qq (QC Z ?_)
   rw [RC Wa Wa, List.length_map, Qd7]
theorem Y2 {w : Qn} (hw : WSm w) {l : List TermT} (hl : l.length <= 1000000) {u : Int} : Ok Tryz.prog 41 [Z4 w, ZC l, .int .i64 u] (.int .i64 (GL w l u)) := by
 refine Ok.ofT Z2 Tryz.func41 Qe0 (Qf0 Z) ?_
 show TW _ _ tf41.body _ _
 refine Qc fun K hK => Zx Z Z Z (Qa Z (kc3 hK Z Z Z ?_))
 refine Qw ?_ -- 0
 refine Qc fun K hK => Qa Z (kc4 hK Z Z Z Z ?_)
 refine Qu ?_
 refine Zh (ι := Nat) (fun i => ⟨[(1, ZC l), (2, .int .i64 u), (3, .ref 3 0 0), (7, .int .i64 i)], [(3, ⟨[[.sl ((w).map Yg)]], 1, 26, true⟩)]⟩) (fun i => i <= l.length /\ K1 (Y4 w u) u l = K1 (Y4 w u) u (l.drop i)) (fun i => l.length - i) 0 ?_ ?_ ?_
 ·exact QX (l := [1, 2, 3, 7]) (lH := [3]) (kp4 rfl rfl rfl rfl) (Qb rfl Qi) rfl rfl rfl
 ·exact ⟨Qgc _, by simp⟩
 intro i hI
 try dsimp only
 refine Qw ?_ -- 1
 refine Qc fun K hK => mv2 Z Z (QN Z Z (Z7 Z Z (kc5 hK Z Z Z Z Z ?_)))
 refine Qs Z (fun h1 => ?_) (fun h1 => ?_)
 ·try rw [h1]
  try simp only [qA] at h1
  refine Qr (ks4 Z Z Z Z ?_)
  refine Qw ?_ -- 2
  refine Qu (Qc fun K hK => mv2 Z Z (QG Z Z Z Wa (QS Wa) Z (Q6 Z Z (Qx Z Z Z (Qa Z (ZO Z Z (kc5 hK Z Z Z Z Z ?_)))))))
  refine Qs Z (fun h2 => ?_) (fun h2 => ?_)
  ·try rw [h2]
   try simp only [qA] at h2
   refine Qc fun K hK => mv2 Z Z (QG Z Z Z Wa (QS Wa) Z (Q6 Z Z (Qx Z Z Z (Qa Z (kc1 hK Z ?_)))))
   refine Qq (Qo (Qg (Q0 (Qo (Qg (QC Z ?_))))))
   rw [GL, hI.2, Bh Wa h2]
  ·try rw [h2]
   try simp only [qA] at h2
   refine Qr (Qd (ks4 Z Z Z Z (QH fun K hK => Qa Z (QY Z Z Wc (Qa Z (hK _ ?_))))))
   refine Qf (i + 1) ?_ ?_ ?_
   ·exact QX (l := [1, 2, 3, 7]) (lH := [3]) (kp4 rfl rfl rfl rfl) (Qb rfl Qi) rfl rfl rfl
   ·exact ⟨Wa, by rw [hI.2, DV Wa Wl]⟩
   ·first | omega | (simp only; omega) | (dsimp only; omega)
 ·try rw [h1]
  try simp only [qA] at h1
  refine Zb (QF (Qt (Qy (ks2 Z Z (Qc fun K hK => QE (cs := [_]) Z Z Z Z (Qa Z (QD (ZA hw) Z Z (.inr Z) (Qa Z (kc1 hK Z ?_)))))))))
  refine Qq (QC Z ?_)
  rw [GL, hI.2, Qgl Wa]; rfl
theorem GB {w : Qn} (hw : WSm w) {x : WantT} (hx : Sm x.s.1 /\ Sm x.s.2) : Ok Tryz.prog 68 [Z4 w, .agg (NI x)] (.int .i64 (Tl w x)) := by
 refine Ok.ofT Z2 Tryz.func68 Qfr (Qf0 Z) ?_
 show TW _ _ tf68.body _ _
 refine Qc fun K hK => Zx Z Z Z (Zx Z Z Z (Qa Z (kc2 hK Z Z ?_)))
 refine Qw ?_ -- 0
 refine Qc fun K hK => Qe Z Z (Qx Z Z Z (Z7 Z Z (Qa Z ?_)))
 refine QB (g := 11) Z (fun h1 => ?_) (fun h1 => ?_)
 ·try rw [h1]
  try simp only [qA] at h1
  refine gn4 Z Z Z Z (gn2 Z Z (Ql Z Z (kc3 hK Z Z Z ?_)))
  refine Zt Z (Qc fun K hK => Qa Z (kc1 hK Z ?_))
  refine Qq (Qg (QC Z ?_))
  rw [LZ Wa]
 ·try rw [h1]
  try simp only [qA] at h1
  refine Qh Z (Qe Z Z (Qh Z (Qx Z Z Z (Qh Z (Qe Z Z (Qh Z (Qx Z Z Z (Qh Z (QN Z Z (Qh Z (FT Z Z ?_)))))))))))
  refine Ql Z Z (kc3 hK Z Z Z ?_)
  refine Qs Z (fun h2 => ?_) (fun h2 => ?_)
  ·try rw [h2]
   try simp only [qA] at h2
   refine Qc fun K hK => Qa Z (kc1 hK Z ?_)
   refine Qq (Qg (QC Z ?_))
   rw [LZ Wa]
  ·try rw [h2]
   try simp only [qA] at h2
   refine Qr (ks2 Z Z (Qc fun K hK => Qa Z (kc3 hK Z Z Z ?_)))
   refine Qc fun K hK => Qe Z Z (Qx Z Z Z (Qe Z Z (Qx Z Z Z (QG Z Z Z Wa (Zq Wa Wa) Z (Q6 Z Z (Qx Z Z Z (Qa Z (kc3 hK Z Z Z ?_))))))))
   refine Qw ?_ -- 1
   refine Qc fun K hK => Qa Z (kc4 hK Z Z Z Z ?_)
   refine Qu ?_
   refine Zh (ι := Nat) (fun i => ⟨[(3, .ref 3 0 0), (5, .int .i64 (Hb x.s (w[x.u.toNat]'Wa).cs i)), (6, Lu (w[x.u.toNat]'Wa).cs), (7, .int .i64 i)], [(3, ⟨[[.int .i64 (x).u, ZK (x).s.1, ZK (x).s.2]], 3, 63, true⟩)]⟩) (fun i => i <= (min (w[x.u.toNat]'Wa).cs.length 16)) (fun i => (min (w[x.u.toNat]'Wa).cs.length 16) - i) 0 ?_ ?_ ?_
   ·exact QX (l := [3, 5, 6, 7]) (lH := [3]) (kp4 rfl rfl rfl rfl) (Qb rfl Qi) rfl rfl rfl
   ·exact Qgc _
   intro i hI
   try dsimp only
   refine Qw ?_ -- 2
   refine Qc fun K hK => mv2 Z Z (QN Z Z (Z7 Z Z (Qa Z ?_)))
   refine QB (g := 30) Z (fun h3 => ?_) (fun h3 => ?_)
   ·try rw [h3]
    try simp only [qA] at h3
    refine Qh Z (Qa Z (Qh Z (Z7 Z Z (Ql Z Z (kc5 hK Z Z Z Z Z ?_)))))
    refine Qs Z (fun h4 => ?_) (fun h4 => ?_)
    ·try rw [h4]
     try simp only [qA] at h4
     refine Qr (ks4 Z Z Z Z ?_)
     refine Qw ?_ -- 3
     refine Qu (Qc fun K hK => Qe Z Z (QI (ds0 := [0]) (cs := [_, _]) Z Z Z Z Z Z (mv2 Z Z (QG Z Z Z Wa (QS Wa) Z (Q6 Z Z (QI (ds0 := [0]) (cs := [_, _, _, _, _]) Z Z Z Z Z Z (QQ (ds0 := []) (G5 hx.1 hx.2 (hw.vs _ (Qf5 _) _ (Qf5 Wa)).1 (hw.vs _ (Qf5 _) _ (Qf5 Wa)).2) Z Z (.inr Z) Z Z (kc5 hK Z Z Z Z Z ?_))))))))
     refine Qs Z (fun h5 => ?_) (fun h5 => ?_)
     ·try rw [h5]
      try simp only [qA] at h5
      refine QH fun K hK => mv2 Z Z (QY Z Z Wc (QD (Xb Wa Wa) Z Z (.inr Z) (QY Z Z (Qbr _ _ Wa) (Qa Z (hK _ ?_)))))
      refine Qd (ks4 Z Z Z Z (QH fun K hK => Qa Z (QY Z Z Wc (Qa Z (hK _ ?_)))))
      refine Qf (i + 1) ?_ ?_ ?_
      ·exact QX (l := [3, 5, 6, 7]) (lH := [3]) (kp4 rfl rfl rfl rfl) (Qb rfl Qi) (by rw [Bi Wa Wl]; rfl) rfl rfl
      ·omega
      ·first | omega | (simp only; omega) | (dsimp only; omega)
     ·try rw [h5]
      try simp only [qA] at h5
      refine Qr (Qd (ks4 Z Z Z Z (QH fun K hK => Qa Z (QY Z Z Wc (Qa Z (hK _ ?_))))))
      refine Qf (i + 1) ?_ ?_ ?_
      ·exact QX (l := [3, 5, 6, 7]) (lH := [3]) (kp4 rfl rfl rfl rfl) (Qb rfl Qi) (by rw [Qa1 Wa Wl]; rfl) rfl rfl
      ·omega
      ·first | omega | (simp only; omega) | (dsimp only; omega)
    ·try rw [h4]
     try simp only [qA] at h4
     refine Zb (QF (Qt (Qy (ks1 Z (Qc fun K hK => mv2 Z Z (kc1 hK Z ?_))))))
     refine Qq (QC Z ?_)
     rw [Bb Wa Wa, show i = min (w[x.u.toNat]'Wa).cs.length 16 by omega]
   ·try rw [h3]
    try simp only [qA] at h3
    refine gn2 Z Z (Ql Z Z (kc5 hK Z Z Z Z Z ?_))
    refine ZG Z (Zb (QF (Qt (Qy (ks1 Z (Qc fun K hK => mv2 Z Z (kc1 hK Z ?_)))))))
    refine Qq (QC Z ?_)
    rw [Bb Wa Wa, show i = min (w[x.u.toNat]'Wa).cs.length 16 by omega]
theorem XV {m : Int} : Ok Tryz.prog 21 [.int .i64 m] (Zo (KL m)) := by
 refine Ok.ofT Z2 Tryz.func21 QeG (Qf0 Z) ?_
 show TW _ _ tf21.body _ _
 refine Qc fun K hK => Qa Z (kc1 hK Z ?_)
 refine Qc fun K hK => Qa Z (kc2 hK Z Z ?_)
 refine Qw ?_ -- 0
 refine Qc fun K hK => Qa Z (kc3 hK Z Z Z ?_)
 refine Qu ?_
 refine Zh (ι := Nat) (fun i => ⟨[(0, .int .i64 m), (3, .osl 3 (Xi m i).length), (4, .int .i64 i)], [(3, ⟨(Xi m i).map (fun x => [.int .i64 x]), 1, 3, true⟩)]⟩) (fun i => i <= 17) (fun i => 17 - i) 0 ?_ ?_ ?_
 ·exact le_trans (Yh 3 3 1 3 rfl rfl) (QX (l := [0, 3, 4]) (lH := [3]) (kp3 rfl rfl rfl) (Qb rfl Qi) rfl rfl rfl)
 ·exact Qgc _
 intro i hI
 have hlen := HR m i
 try dsimp only
 refine Qw ?_ -- 1
 refine Qc fun K hK => Qa Z (Qbt Z Z (kc4 hK Z Z Z Z ?_))
 refine Qs Z (fun h1 => ?_) (fun h1 => ?_)
 ·try rw [h1]
  try simp only [qB] at h1
  refine Qr (ks3 Z Z Z ?_)
  refine Qw ?_ -- 2
  refine Qu (Qc fun K hK => mv2 Z Z (QD (Xb Wa Wa) Z Z (.inr Z) (NF Z Z (X3 Z Z (kc4 hK Z Z Z Z ?_)))))
  refine Qs Z (fun h2 => ?_) (fun h2 => ?_)
  ·try rw [h2]
   try simp only [qB] at h2
   refine QH fun K hK => mv2 Z Z (Jf Z Z Wc (Qz Z Z (Xl Z Z (fun _ h => Y8 Z Z Z h) Z Wf Z Z Z Wh Wh (Qa Z (hK _ ?_)))))
   refine Qd (ks3 Z Z Z (QH fun K hK => Qa Z (QY Z Z Wc (Qa Z (hK _ ?_)))))
   refine Qf (i + 1) ?_ ?_ ?_
   ·exact QX (l := [0, 3, 4]) (lH := [3]) (kp3 rfl rfl rfl) (Qb rfl Qi) (by first | (rw [X5 (m := m) (n := i) h2]; done) | (rw [X5 (m := m) (n := i) h2]; rfl) | (rw [X5 (m := m) (n := i) h2, List.length_append]; rfl) | (simp [X5 (m := m) (n := i) h2]; done) | (simp [X5 (m := m) (n := i) h2]; omega) | rfl) (by first | (rw [X5 (m := m) (n := i) h2]; done) | (rw [X5 (m := m) (n := i) h2]; rfl) | (rw [X5 (m := m) (n := i) h2, List.map_append]; rfl) | (simp [X5 (m := m) (n := i) h2]; done) | rfl) rfl
   ·omega
   ·first | omega | (simp only; omega) | (dsimp only; omega)
  ·try rw [h2]
   try simp only [qB] at h2
   refine Qr (Qd (ks3 Z Z Z (QH fun K hK => Qa Z (QY Z Z Wc (Qa Z (hK _ ?_))))))
   refine Qf (i + 1) ?_ ?_ ?_
   ·exact QX (l := [0, 3, 4]) (lH := [3]) (kp3 rfl rfl rfl) (Qb rfl Qi) (by first | (rw [Kz (m := m) (n := i) h2]; done) | (rw [Kz (m := m) (n := i) h2]; rfl) | (rw [Kz (m := m) (n := i) h2, List.length_append]; rfl) | (simp [Kz (m := m) (n := i) h2]; done) | (simp [Kz (m := m) (n := i) h2]; omega) | rfl) (by first | (rw [Kz (m := m) (n := i) h2]; done) | (rw [Kz (m := m) (n := i) h2]; rfl) | (rw [Kz (m := m) (n := i) h2, List.map_append]; rfl) | (simp [Kz (m := m) (n := i) h2]; done) | rfl) rfl
   ·omega
   ·first | omega | (simp only; omega) | (dsimp only; omega)
 ·try rw [h1]
  try simp only [qB] at h1
  refine Zb (QF (Qt (Qy (ks1 Z (Qc fun K hK => mv2 Z Z (kc1 hK Z ?_))))))
  refine Qq ?_
  exact JQ rfl rfl rfl Wf (by rw [KL, show (17 : Nat) = i by omega]; rfl)
theorem Gj {a b : List TermT} (ha : a.length <= 1000000) : Ok Tryz.prog 69 [ZC a, ZC b] (.bool (decide (a = b))) := by
 refine Ok.ofT Z2 Tryz.func69 Qfs (Qf0 Z) ?_
 show TW _ _ tf69.body _ _
 refine Qc fun K hK => Qa Z (kc2 hK Z Z ?_)
 refine Qw ?_ -- 0
 refine Qc fun K hK => Qa Z (QN Z Z (Qa Z (QN Z Z (X3 Z Z (kc3 hK Z Z Z ?_)))))
 refine Qs Z (fun h1 => ?_) (fun h1 => ?_)
 ·try rw [h1]
  try simp only [qA] at h1
  refine Qc fun K hK => Qa Z (kc1 hK Z ?_)
  refine Qq (Qg (Qp Z ?_))
  rw [decide_eq_false fun e => h1 (by rw [e])]
 ·try rw [h1]
  try simp only [qA] at h1
  refine Qr (ks2 Z Z ?_)
  refine Qw ?_ -- 1
  refine Qc fun K hK => Qa Z (kc3 hK Z Z Z ?_)
  refine Qu ?_
  refine Zh (ι := Nat) (fun i => ⟨[(0, ZC a), (1, ZC b), (5, .int .i64 i)], []⟩) (fun i => i <= a.length /\ a.take i = b.take i) (fun i => a.length - i) 0 ?_ ?_ ?_
  ·exact Ze (kp3 rfl rfl rfl)
  ·exact ⟨Qgc _, by simp⟩
  intro i hI
  try dsimp only
  refine Qw ?_ -- 2
  refine Qc fun K hK => mv2 Z Z (QN Z Z (Z7 Z Z (kc4 hK Z Z Z Z ?_)))
  refine Qs Z (fun h2 => ?_) (fun h2 => ?_)
  ·try rw [h2]
   try simp only [qA] at h2
   refine Qr (ks3 Z Z Z ?_)
   refine Qw ?_ -- 3
   refine Qu (Qc fun K hK => mv2 Z Z (QG Z Z Z Wa (QS Wa) Z (QI (ds0 := [0]) (cs := [_, _]) Z Z Z Z Z Z (mv2 Z Z (QG Z Z Z Wa (QS Wa) Z (QI (ds0 := [0]) (cs := [_, _]) Z Z Z Z Z Z (Qc6 Z Z B9 (kc4 hK Z Z Z Z ?_))))))))
   refine Qs Z (fun h3 => ?_) (fun h3 => ?_)
   ·try rw [h3]
    try simp only [qA] at h3
    refine Qc fun K hK => Qa Z (kc1 hK Z ?_)
    refine Qq (Qo (Qg (Q0 (Qo (Qg (Qp Z ?_))))))
    rw [QcJ (i := i) Wa Wa h3]
   ·try rw [h3]
    try simp only [qA] at h3
    refine Qr (Qd (ks3 Z Z Z (QH fun K hK => Qa Z (QY Z Z Wc (Qa Z (hK _ ?_))))))
    refine Qf (i + 1) ?_ ?_ ?_
    ·exact Ze (kp3 rfl rfl rfl)
    ·exact ⟨Wa, B7 Wa Wa hI.2 h3⟩
    ·first | omega | (simp only; omega) | (dsimp only; omega)
  ·try rw [h2]
   try simp only [qA] at h2
   refine Zb (QF (Qt (Qy (Zf (ZJ) (Qc fun K hK => Qa Z (kc1 hK Z ?_))))))
   refine Qq (Qp Z ?_)
   rw [Qgg Wa, Qgg Wa] at hI; exact (decide_eq_true hI.2).symm
open Go Go.Abs M3 M25
theorem Hg {w : Qn} (hw : WSm w) (et : Nat) (het : et = 3) : OkH Tryz.prog 47 [Z4 w] [] (.osl 500000 (Kj w).length) [(500000, ⟨(Kj w).map (fun x => [.int .i64 x]), 1, et, true⟩)] := by
 subst het
 refine OkH.new Z2 Tryz.func47 Qe6 (Qf0 Z) Z ?_
 show TW _ _ tf47.body _ _
 have hn := hw.len
 refine Qc fun K hK => Zx Z Z Z (Qa Z (kc1 hK Z ?_))
 refine Qc fun K hK => Qa Z (kc2 hK Z Z ?_)
 refine Qw ?_ -- 0
 refine Qc fun K hK => Qa Z (kc3 hK Z Z Z ?_)
 refine Qu ?_
 refine Zh (ι := Nat) (fun i => ⟨[(1, .ref 1 0 0), (3, .osl 500000 (Ho w i).length), (4, .int .i64 i)], [(1, ⟨[[.sl ((w).map Yg)]], 1, 26, true⟩), (500000, ⟨(Ho w i).map (fun x => [.int .i64 x]), 1, 3, true⟩)]⟩) (fun i => i <= w.length) (fun i => w.length - i) 0 ?_ ?_ ?_
 ·exact le_trans (Yh 3 500000 1 3 rfl rfl) (QX (l := [1, 3, 4]) (lH := [1, 500000]) (kp3 rfl rfl rfl) (Qb rfl (Qb rfl Qi)) rfl rfl rfl)
 ·exact Qgc _
 intro i hI
 have hlen := GJ w i
 try dsimp only
 refine Qw ?_ -- 1
 refine Qc fun K hK => Qa Z (Qe Z Z (Qx Z Z Z (QN Z Z (Z7 Z Z (kc4 hK Z Z Z Z ?_)))))
 refine Qs Z (fun h1 => ?_) (fun h1 => ?_)
 ·try rw [h1]
  try simp only [qA] at h1
  refine Qr (ks3 Z Z Z ?_)
  refine Qw ?_ -- 2
  refine Qu (QH fun K hK => Qa Z (QE (cs := [_]) Z Z Z Z (Qa Z (QD (ZA hw) Z Z (.inr Z) (Qz Z Z (Xl Z Z (fun _ h => Y8 Z Z Z h) Z Wf Z Z Z Wh Wh (Qa Z (hK _ ?_))))))))
  refine Qd (ks3 Z Z Z (QH fun K hK => Qa Z (QY Z Z Wc (Qa Z (hK _ ?_)))))
  refine Qf (i + 1) ?_ ?_ ?_
  ·exact QX (l := [1, 3, 4]) (lH := [1, 500000]) (kp3 rfl rfl rfl) (Qb rfl (Qb rfl Qi)) (by first | (rw [X6]; done) | (rw [X6]; rfl) | (rw [X6, List.length_append]; rfl) | (simp [X6]; done) | (simp [X6]; omega) | rfl) (by first | (rw [X6]; done) | (rw [X6]; rfl) | (rw [X6, List.map_append]; rfl) | (simp [X6]; done) | rfl) rfl
  ·omega
  ·first | omega | (simp only; omega) | (dsimp only; omega)
 ·try rw [h1]
  try simp only [qA] at h1
  refine Zb (QF (Qt (Qy (ks1 Z (Qc fun K hK => mv2 Z Z (kc1 hK Z ?_))))))
  refine Qq ?_
  refine YC Z ?_ (HN ?_)
  ·rw [Kj, show w.length = i by omega]; rfl
  ·rw [Kj, show w.length = i by omega]; rfl
theorem Gk {w : Qn} (hw : WSm w) {ms : List Int} (hm : ms.length <= 1000000) : Ok Tryz.prog 48 [Z4 w, Zo ms] (dOT (SM w ms)) := by
 refine Ok.ofT Z2 Tryz.func48 Qe7 (Qf0 Z) ?_
 show TW _ _ tf48.body _ _
 refine Qc fun K hK => Zx Z Z Z (mv2 Z Z (kc2 hK Z Z ?_))
 refine Qc fun K hK => Qa Z (kc3 hK Z Z Z ?_)
 refine Qw ?_ -- 0
 refine Qc fun K hK => Qa Z (kc4 hK Z Z Z Z ?_)
 refine Qu ?_
 refine Zh (ι := Nat) (fun i => ⟨[(1, Zo ms), (2, .ref 2 0 0), (6, .osl 6 (XD w ms i).length), (7, .int .i64 i)], [(2, ⟨[[.sl ((w).map Yg)]], 1, 26, true⟩), (6, ⟨(XD w ms i).map Fa, 2, 78, true⟩)]⟩) (fun i => i <= ms.length /\ (ms.take i).all (fun m => !decide (m = 0)) = true) (fun i => ms.length - i) 0 ?_ ?_ ?_
 ·exact le_trans (Yh 6 6 2 78 rfl rfl) (QX (l := [1, 2, 6, 7]) (lH := [2, 6]) (kp4 rfl rfl rfl rfl) (Qb rfl (Qb rfl Qi)) rfl rfl rfl)
 ·exact ⟨Qgc _, by simp⟩
 intro i hI
 have hlen := PQ w ms i
 try dsimp only
 refine Qw ?_ -- 1
 refine Qc fun K hK => mv2 Z Z (QN Z Z (Z7 Z Z (kc5 hK Z Z Z Z Z ?_)))
 refine Qs Z (fun h1 => ?_) (fun h1 => ?_)
 ·try rw [h1]
  try simp only [qA] at h1
  refine Qr (ks4 Z Z Z Z ?_)
  refine Qw ?_ -- 2
  refine Qu ?_
  refine Qw ?_ -- 3
  refine Qc fun K hK => mv2 Z Z (QG Z Z Z Wa (QS Wa) Z (Qx Z Z Z (ZO Z Z (kc5 hK Z Z Z Z Z ?_))))
  refine Qs Z (fun h2 => ?_) (fun h2 => ?_)
  ·try rw [h2]
   try simp only [qA] at h2
   refine Qc fun K hK => mv2 Z Z (kc2 hK Z Z ?_)
   refine Qq (Qg (Qo (Qg (Q0 (Qo (Qg ?_))))))
   rw [DS (i := i) Wa h2]
   exact QO rfl rfl ⟨rfl, rfl⟩
  ·try rw [h2]
   try simp only [qA] at h2
   refine Qr (ks4 Z Z Z Z (Qc fun K hK => mv2 Z Z (QG Z Z Z Wa (QS Wa) Z (QR (ds0 := [0]) Z Z Z Z Z (QI (ds0 := [1, 0]) (cs := [_]) Z Z Z Z Z Z (Qa Z (QQ (ds0 := [0]) (ZA hw) Z Z (.inr Z) Z Z (X3 Z Z (kc5 hK Z Z Z Z Z ?_)))))))))
   refine Qs Z (fun h3 => ?_) (fun h3 => ?_)
   ·try rw [h3]
    try simp only [qA] at h3
    refine QH fun K hK => mv2 Z Z (mv2 Z Z (QG Z Z Z Wa (QS Wa) Z (Qx Z Z Z (QT Z Z (Qz Z Z (Xl Z Z (fun _ h => Y8 Z Z Z h) Z Wf Z Z Z Wh Wh (Qa Z (hK _ ?_))))))))
    refine Qd (ks4 Z Z Z Z (QH fun K hK => Qa Z (QY Z Z Wc (Qa Z (hK _ ?_)))))
    refine Qf (i + 1) ?_ ?_ ?_
    ·exact QX (l := [1, 2, 6, 7]) (lH := [2, 6]) (kp4 rfl rfl rfl rfl) (Qb rfl (Qb rfl Qi)) (by first | (rw [X8 Wa h3]; done) | (rw [X8 Wa h3]; rfl) | (rw [X8 Wa h3, List.length_append]; rfl) | (simp [X8 Wa h3]; done) | (simp [X8 Wa h3]; omega) | rfl) (by first | (rw [X8 Wa h3]; done) | (rw [X8 Wa h3]; rfl) | (rw [X8 Wa h3, List.map_append]; rfl) | (simp [X8 Wa h3]; done) | rfl) rfl
    ·exact ⟨Wa, Yb Wa hI.2 (by simpa using h2)⟩
    ·first | omega | (simp only; omega) | (dsimp only; omega)
   ·try rw [h3]
    try simp only [qA] at h3
    refine Qr (Qd (ks4 Z Z Z Z (QH fun K hK => Qa Z (QY Z Z Wc (Qa Z (hK _ ?_))))))
    refine Qf (i + 1) ?_ ?_ ?_
    ·exact QX (l := [1, 2, 6, 7]) (lH := [2, 6]) (kp4 rfl rfl rfl rfl) (Qb rfl (Qb rfl Qi)) (by first | (rw [KM Wa h3]; done) | (rw [KM Wa h3]; rfl) | (rw [KM Wa h3, List.length_append]; rfl) | (simp [KM Wa h3]; done) | (simp [KM Wa h3]; omega) | rfl) (by first | (rw [KM Wa h3]; done) | (rw [KM Wa h3]; rfl) | (rw [KM Wa h3, List.map_append]; rfl) | (simp [KM Wa h3]; done) | rfl) rfl
    ·exact ⟨Wa, Yb Wa hI.2 (by simpa using h2)⟩
    ·first | omega | (simp only; omega) | (dsimp only; omega)
 ·try rw [h1]
  try simp only [qA] at h1
  refine Zb (QF (Qt (Qy (ks1 Z (Qc fun K hK => mv2 Z Z (Qa Z (kc2 hK Z Z ?_)))))))
  refine Qq ?_
  rw [C9 (i := i) Wa hI.2]
  exact MY rfl rfl rfl Wf (by show D.sl _ = ZC (XD w ms ms.length); rw [show ms.length = i by omega]; rfl) rfl rfl
theorem _root_.Wm {p : Prop} (h : p := by first | (simp; done) | (simp; omega)) : p := h
theorem XW {w : Qn} (hw : WSm w) {l : List TermT} (hl : l.length <= 2000000) : Ok Tryz.prog 24 [Z4 w, ZC l] (dOT (Gy w l)) := by
 refine Ok.ofT Z2 Tryz.func24 QeJ (Qf0 Z) ?_
 show TW _ _ tf24.body _ _
 have hn := hw.len
 refine Qc fun K hK => Zx Z Z Z (mv2 Z Z (kc2 hK Z Z ?_))
 refine Qc fun K hK => QE (cs := [_]) rfl rfl rfl rfl (Yk (Lp rfl (by intro x hx; simp at hx; subst hx; rfl) rfl rfl rfl (Hg hw _ rfl)) (Qa rfl (kc3 hK rfl rfl rfl ?_)))
 refine Pp (ι := Unit) (fun _ => ⟨[(2, .ref 2 0 0), (6, Zo (XC (Kj w) l))], [(2, ⟨[[.sl ((w).map Yg)]], 1, 26, true⟩)]⟩) (fun _ => l.all (fun t => inW w t.u) = true) ?_ ?_
 ·skip
  refine Qc fun K hK => Qa Z (kc4 hK Z Z Z Z ?_)
  refine Qu ?_
  refine Zh (ι := Nat) (fun i => ⟨[(1, ZC l), (2, .ref 2 0 0), (6, .osl 500000 (XC (Kj w) (l.take i)).length), (7, .int .i64 i)], [(2, ⟨[[.sl ((w).map Yg)]], 1, 26, true⟩), (500000, ⟨(XC (Kj w) (l.take i)).map (fun x => [.int .i64 x]), 1, 3, true⟩)]⟩) (fun i => i <= l.length /\ (l.take i).all (fun t => inW w t.u) = true) (fun i => l.length - i) 0 ?_ ?_ ?_
  ·exact QX (l := [1, 2, 6, 7]) (lH := [2, 500000]) (kp4 rfl rfl rfl rfl) (Qb rfl (Qb rfl Qi)) rfl rfl rfl
  ·exact ⟨Qgc _, by simp⟩
  intro i hI
  have hlen := Mv w (l.take i)
  try dsimp only
  refine Qw ?_ -- 1
  refine Qc fun K hK => mv2 Z Z (QN Z Z (Z7 Z Z (kc5 hK Z Z Z Z Z ?_)))
  refine Qs Z (fun h1 => ?_) (fun h1 => ?_)
  ·try rw [h1]
   try simp only [qA] at h1
   refine Qr (ks4 Z Z Z Z ?_)
   refine Qw ?_ -- 2
   refine Qu ?_
   refine Qw ?_ -- 3
   refine Qc fun K hK => mv2 Z Z (QG Z Z Z Wa (QS Wa) Z (Q6 Z Z (Qx Z Z Z (Z7 Z Z (Qa Z ?_)))))
   refine QB (g := 22) Z (fun h2 => ?_) (fun h2 => ?_)
   ·try rw [h2]
    try simp only [qA] at h2
    refine gn4 Z Z Z Z (gn4 Z Z Z Z (Ql Z Z (kc5 hK Z Z Z Z Z ?_)))
    refine Zt Z (Qc fun K hK => mv2 Z Z (kc2 hK Z Z ?_))
    refine Qq (Qg (Qo (Qg (Q0 (Qo (Fm ?_))))))
    rw [PL (i := i) Wa (KF Wa)]
    exact QO rfl rfl ⟨rfl, rfl⟩
   ·try rw [h2]
    try simp only [qA] at h2
    refine Qh Z (Qa Z (Qh Z (Qa Z (Qh Z (QG Z Z Z Wa (QS Wa) Z (Qh Z (Q6 Z Z (Qh Z (Qx Z Z Z (Qh Z (Qa Z ?_)))))))))))
    refine Qh Z (QN Z Z (Qh Z (FT Z Z (Ql Z Z (kc5 hK Z Z Z Z Z ?_)))))
    refine Qs Z (fun h3 => ?_) (fun h3 => ?_)
    ·try rw [h3]
     try simp only [qA] at h3
     refine Qc fun K hK => mv2 Z Z (kc2 hK Z Z ?_)
     refine Qq (Qg (Qo (Qg (Q0 (Qo (Fm ?_))))))
     rw [PL (i := i) Wa (KF Wa)]
     exact QO rfl rfl ⟨rfl, rfl⟩
    ·try rw [h3]
     try simp only [qA] at h3
     refine Qr (ks4 Z Z Z Z (QH fun K hK => mv2 Z Z (Qa Z (QG Z Z Z Wa (QS Wa) Z (Q6 Z Z (QR (ds0 := [1, 0]) Z Z Z Z Z (mv2 Z Z (Qa Z ?_))))))))
     refine QG Z Z Z Wa (QS Wa) Z (Q6 Z Z (QR (ds0 := [9, 8, 2, 0]) Z Z Z Z Z (YA (ds0 := [8, 2, 0]) Z Z Z Wf Wa Wa Z Z Z (QR (ds0 := [2, 0]) Z (Z1 Z (Zq Wa Wa)) Z Z Z (mv2 Z Z (QG Z Z Z Wa (QS Wa) Z (Q6 Z Z (QR (ds0 := [2, 0]) Z Z Z Z Z (NF Z Z (YA (ds0 := [0]) Z Z Z Wf Wa Wa Z Z Z ?_))))))))))
     refine YH (ds0 := []) Z Z (Zq Wa Wa) Z Z Z Z Z Z Z (hK _ ?_)
     refine Qd (ks4 Z Z Z Z (QH fun K hK => Qa Z (QY Z Z Wc (Qa Z (hK _ ?_)))))
     refine Qf (i + 1) ?_ ?_ ?_
     ·exact QX (l := [1, 2, 6, 7]) (lH := [2, 500000]) (kp4 rfl rfl rfl rfl) (Qb rfl (Qb rfl Qi)) (by rw [L1 Wa Wa, List.length_set]; rfl) (by rw [L1 Wa Wa, List.map_set]; rfl) rfl
     ·exact ⟨Wa, Yb Wa hI.2 (MD Wa Wa)⟩
     ·first | omega | (simp only; omega) | (dsimp only; omega)
  ·try rw [h1]
   try simp only [qA] at h1
   refine Zb (QF (Qt (Qy ?_)))
   refine Z9 () ?_ ?_
   ·exact le_trans (Fp (l := [2]) (lH := [2]) 500000 6 (kp1 rfl) (Qb rfl Qi) rfl rfl rfl Wm rfl rfl rfl rfl) (QX (l := [2, 6]) (lH := [2]) (kp2 rfl rfl) (Qb rfl Qi) (by rw [Qgg (Wa : l.length <= i)]; rfl) rfl rfl)
   ·exact XF Wa hI.2
 intro _ hJ
 try dsimp only
 refine Qc fun K hK => QE (cs := [_]) Z Z Z Z (Qa Z (QD (Gk hw (by rw [Mv]; omega)) Z Z (.inl Z) (QK Z Z (QK Z Z (mv2 Z Z (kc2 hK Z Z ?_))))))
 refine Qq ?_
 rw [Ba hJ]
 exact QO rfl rfl ⟨rfl, rfl⟩
theorem Xc {l : List TermT} (hl : l.length <= 2000000) {u : Int} : Ok Tryz.prog 70 [ZC l, .int .i64 u] (ZC (PH l u)) := by
 refine Ok.ofT Z2 Tryz.func70 Qft (Qf0 Z) ?_
 show TW _ _ tf70.body _ _
 refine Qc fun K hK => Qa Z (kc2 hK Z Z ?_)
 refine Qc fun K hK => Qa Z (kc3 hK Z Z Z ?_)
 refine Qw ?_ -- 0
 refine Qc fun K hK => Qa Z (kc4 hK Z Z Z Z ?_)
 refine Qu ?_
 refine Zh (ι := Nat) (fun i => ⟨[(0, ZC l), (1, .int .i64 u), (5, .osl 5 (PH (l.take i) u).length), (6, .int .i64 i)], [(5, ⟨(PH (l.take i) u).map Fa, 2, 78, true⟩)]⟩) (fun i => i <= l.length) (fun i => l.length - i) 0 ?_ ?_ ?_
 ·exact le_trans (Yh 5 5 2 78 rfl rfl) (QX (l := [0, 1, 5, 6]) (lH := [5]) (kp4 rfl rfl rfl rfl) (Qb rfl Qi) rfl rfl rfl)
 ·exact Qgc _
 intro i hI
 have hlen := Qas l u i
 try dsimp only
 refine Qw ?_ -- 1
 refine Qc fun K hK => mv2 Z Z (QN Z Z (Z7 Z Z (kc5 hK Z Z Z Z Z ?_)))
 refine Qs Z (fun h1 => ?_) (fun h1 => ?_)
 ·try rw [h1]
  try simp only [qA] at h1
  refine Qr (ks4 Z Z Z Z ?_)
  refine Qw ?_ -- 2
  refine Qu (Qc fun K hK => mv2 Z Z (QG Z Z Z Wa (QS Wa) Z (Q6 Z Z (Qx Z Z Z (Qa Z (X3 Z Z (kc5 hK Z Z Z Z Z ?_)))))))
  refine Qs Z (fun h2 => ?_) (fun h2 => ?_)
  ·try rw [h2]
   try simp only [qA] at h2
   refine QH fun K hK => mv2 Z Z (Qa Z (QG Z Z Z Wa (QS Wa) Z (QE (cs := [_, _]) Z Z Z Z (Qz Z Z (Xl Z Z (fun _ h => Y8 Z Z Z h) Z Wf Z Z Z Wh Wh (Qa Z (hK _ ?_)))))))
   refine Qd (ks4 Z Z Z Z (QH fun K hK => Qa Z (QY Z Z Wc (Qa Z (hK _ ?_)))))
   refine Qf (i + 1) ?_ ?_ ?_
   ·exact QX (l := [0, 1, 5, 6]) (lH := [5]) (kp4 rfl rfl rfl rfl) (Qb rfl Qi) (by first | (rw [Ks Wa h2]; done) | (rw [Ks Wa h2]; rfl) | (rw [Ks Wa h2, List.length_append]; rfl) | (simp [Ks Wa h2]; done) | (simp [Ks Wa h2]; omega) | rfl) (by first | (rw [Ks Wa h2]; done) | (rw [Ks Wa h2]; rfl) | (rw [Ks Wa h2, List.map_append]; rfl) | (simp [Ks Wa h2]; done) | rfl) rfl
   ·omega
   ·first | omega | (simp only; omega) | (dsimp only; omega)
  ·try rw [h2]
   try simp only [qA] at h2
   refine Qr (Qd (ks4 Z Z Z Z (QH fun K hK => Qa Z (QY Z Z Wc (Qa Z (hK _ ?_))))))
   refine Qf (i + 1) ?_ ?_ ?_
   ·exact QX (l := [0, 1, 5, 6]) (lH := [5]) (kp4 rfl rfl rfl rfl) (Qb rfl Qi) (by first | (rw [G0 Wa h2]; done) | (rw [G0 Wa h2]; rfl) | (rw [G0 Wa h2, List.length_append]; rfl) | (simp [G0 Wa h2]; done) | (simp [G0 Wa h2]; omega) | rfl) (by first | (rw [G0 Wa h2]; done) | (rw [G0 Wa h2]; rfl) | (rw [G0 Wa h2, List.map_append]; rfl) | (simp [G0 Wa h2]; done) | rfl) rfl
   ·omega
   ·first | omega | (simp only; omega) | (dsimp only; omega)
 ·try rw [h1]
  try simp only [qA] at h1
  refine Zb (QF (Qt (Qy (ks1 Z (Qc fun K hK => mv2 Z Z (kc1 hK Z ?_))))))
  refine Qq ?_
  exact JQ rfl rfl rfl Wf (by rw [Qgg (Wa : l.length <= i)]; rfl)
theorem K7 {l : List TermT} (hl : l.length <= 3000000) : Ok Tryz.prog 71 [ZC l] (ZC (RG l)) := by
 refine Ok.ofT Z2 Tryz.func71 Qfu (Qf0 Z) ?_
 show TW _ _ tf71.body _ _
 refine Qc fun K hK => Qa Z (kc1 hK Z ?_)
 refine Qc fun K hK => Qa Z (kc2 hK Z Z ?_)
 refine Qw ?_ -- 0
 refine Qc fun K hK => Qa Z (kc3 hK Z Z Z ?_)
 refine Qu ?_
 refine Zh (ι := Nat) (fun u => ⟨[(0, ZC l), (3, .osl 3 (Yp l u).length), (4, .int .i64 u)], [(3, ⟨(Yp l u).map Fa, 2, 78, true⟩)]⟩) (fun u => u <= 48) (fun u => 48 - u) 0 ?_ ?_ ?_
 ·exact le_trans (Yh 3 3 2 78 rfl rfl) (QX (l := [0, 3, 4]) (lH := [3]) (kp3 rfl rfl rfl) (Qb rfl Qi) rfl rfl rfl)
 ·exact Qgc _
 intro u hU
 have hlen2 : u * l.length <= 48 * 3000000 := Nat.mul_le_mul Wa hl
 try dsimp only
 refine Qw ?_ -- 1
 refine Qc fun K hK => Qa Z (Z7 Z Z (kc4 hK Z Z Z Z ?_))
 refine Qs Z (fun h1 => ?_) (fun h1 => ?_)
 ·try rw [h1]
  try simp only [qA] at h1
  refine Qr (ks3 Z Z Z ?_)
  refine Qw ?_ -- 2
  refine Qu (Qc fun K hK => Qa Z (kc4 hK Z Z Z Z ?_))
  refine Qu ?_
  refine Zh (ι := Nat) (fun i => ⟨[(0, ZC l), (3, .osl 3 (srt l u i).length), (4, .int .i64 u), (5, .int .i64 i)], [(3, ⟨(srt l u i).map Fa, 2, 78, true⟩)]⟩) (fun i => i <= l.length) (fun i => l.length - i) 0 ?_ ?_ ?_
  ·exact QX (l := [0, 3, 4, 5]) (lH := [3]) (kp4 rfl rfl rfl rfl) (Qb rfl Qi) (by first | (rw [Jc]; done) | (rw [Jc]; rfl) | (rw [Jc, List.length_append]; rfl) | (simp [Jc]; done) | (simp [Jc]; omega) | rfl) (by first | (rw [Jc]; done) | (rw [Jc]; rfl) | (rw [Jc, List.map_append]; rfl) | (simp [Jc]; done) | rfl) rfl
  ·exact Qgc _
  intro i hI
  have hlen3 := QcL l u i
  try dsimp only
  refine Qw ?_ -- 3
  refine Qc fun K hK => mv2 Z Z (QN Z Z (Z7 Z Z (kc5 hK Z Z Z Z Z ?_)))
  refine Qs Z (fun h2 => ?_) (fun h2 => ?_)
  ·try rw [h2]
   try simp only [qA] at h2
   refine Qr (ks4 Z Z Z Z ?_)
   refine Qw ?_ -- 4
   refine Qu (Qc fun K hK => mv2 Z Z (QG Z Z Z Wa (QS Wa) Z (Q6 Z Z (Qx Z Z Z (Qa Z (ZO Z Z (kc5 hK Z Z Z Z Z ?_)))))))
   refine Qs Z (fun h3 => ?_) (fun h3 => ?_)
   ·try rw [h3]
    try simp only [qA] at h3
    refine QH fun K hK => mv2 Z Z (Qa Z (QG Z Z Z Wa (QS Wa) Z (QE (cs := [_, _]) Z Z Z Z (Qz Z Z (Xl Z Z (fun _ h => Y8 Z Z Z h) Z Wf Z Z Z Wh Wh (Qa Z (hK _ ?_)))))))
    refine Qd (ks4 Z Z Z Z (QH fun K hK => Qa Z (QY Z Z Wc (Qa Z (hK _ ?_)))))
    refine Qf (i + 1) ?_ ?_ ?_
    ·exact QX (l := [0, 3, 4, 5]) (lH := [3]) (kp4 rfl rfl rfl rfl) (Qb rfl Qi) (by first | (rw [KS Wa h3]; done) | (rw [KS Wa h3]; rfl) | (rw [KS Wa h3, List.length_append]; rfl) | (simp [KS Wa h3]; done) | (simp [KS Wa h3]; omega) | rfl) (by first | (rw [KS Wa h3]; done) | (rw [KS Wa h3]; rfl) | (rw [KS Wa h3, List.map_append]; rfl) | (simp [KS Wa h3]; done) | rfl) rfl
    ·omega
    ·first | omega | (simp only; omega) | (dsimp only; omega)
   ·try rw [h3]
    try simp only [qA] at h3
    refine Qr (Qd (ks4 Z Z Z Z (QH fun K hK => Qa Z (QY Z Z Wc (Qa Z (hK _ ?_))))))
    refine Qf (i + 1) ?_ ?_ ?_
    ·exact QX (l := [0, 3, 4, 5]) (lH := [3]) (kp4 rfl rfl rfl rfl) (Qb rfl Qi) (by first | (rw [FP Wa h3]; done) | (rw [FP Wa h3]; rfl) | (rw [FP Wa h3, List.length_append]; rfl) | (simp [FP Wa h3]; done) | (simp [FP Wa h3]; omega) | rfl) (by first | (rw [FP Wa h3]; done) | (rw [FP Wa h3]; rfl) | (rw [FP Wa h3, List.map_append]; rfl) | (simp [FP Wa h3]; done) | rfl) rfl
    ·omega
    ·first | omega | (simp only; omega) | (dsimp only; omega)
  ·try rw [h2]
   try simp only [qA] at h2
   refine Zb (QF (Qt (Qy (Qd (ks3 Z Z Z (QH fun K hK => Qa Z (QY Z Z Wc (Qa Z (hK _ ?_)))))))))
   refine Qf (u + 1) ?_ ?_ ?_
   ·exact QX (l := [0, 3, 4]) (lH := [3]) (kp3 rfl rfl rfl) (Qb rfl Qi) (by first | (rw [KR l u (Wa : l.length = i)]; done) | (rw [KR l u (Wa : l.length = i)]; rfl) | (rw [KR l u (Wa : l.length = i), List.length_append]; rfl) | (simp [KR l u (Wa : l.length = i)]; done) | (simp [KR l u (Wa : l.length = i)]; omega) | rfl) (by first | (rw [KR l u (Wa : l.length = i)]; done) | (rw [KR l u (Wa : l.length = i)]; rfl) | (rw [KR l u (Wa : l.length = i), List.map_append]; rfl) | (simp [KR l u (Wa : l.length = i)]; done) | rfl) rfl
   ·omega
   ·first | omega | (simp only; omega) | (dsimp only; omega)
 ·try rw [h1]
  try simp only [qA] at h1
  refine Zb (QF (Qt (Qy (ks1 Z (Qc fun K hK => mv2 Z Z (kc1 hK Z ?_))))))
  refine Qq ?_
  exact JQ rfl rfl rfl Wf (by rw [RG, show (48 : Nat) = u by omega]; rfl)
theorem Xy {w : Qn} (hw : WSm w) {u : Int} {p : Nat} (hp : p <= 60) {l : List WantT} (hl : l.length <= 1000000) (hx : ∀ x ∈ l, Sm x.s.1 /\ Sm x.s.2) {bar : Bool} : Ok Tryz.prog 45 [Z4 w, .int .i64 u, .int .i64 (p : Nat), Q8 l, .bool bar] (dOT (Yl w u p l bar)) := by
 refine Ok.ofT Z2 Tryz.func45 Qe4 (Qf0 Z) ?_
 show TW _ _ tf45.body _ _
 refine Qc fun K hK => Zx Z Z Z (mv2 Z Z (kc5 hK Z Z Z Z Z ?_))
 refine Qc fun K hK => Qa Z (QE (cs := [_]) Z Z Z Z (Qa Z (QD (ZA hw) Z Z (.inr Z) (Qa Z (R4 Z (Md Wa Wa) (Qb0 Z Z Wa (Qae hp) (NF Z Z (QT Z Z (Qz Z Z (Qa Z ?_))))))))))
 refine kc4 hK Z Z Z Z ?_
 refine Pp (ι := Unit) (fun _ => ⟨[(5, .ref 5 0 0), (12, ZC (clT w u p bar l))], [(5, ⟨[[.sl ((w).map Yg)]], 1, 26, true⟩)]⟩) (fun _ => True) ?_ ?_
 ·skip
  refine Qc fun K hK => Qa Z (kc5 hK Z Z Z Z Z ?_)
  refine Qu ?_
  refine Zh (ι := Nat) (fun i => ⟨[(3, Q8 l), (4, .bool bar), (5, .ref 5 0 0), (12, .osl 24 (clT w u p bar (l.take i)).length), (13, .int .i64 i)], [(5, ⟨[[.sl ((w).map Yg)]], 1, 26, true⟩), (24, ⟨(clT w u p bar (l.take i)).map Fa, 2, 78, true⟩)]⟩) (fun i => i <= l.length) (fun i => l.length - i) 0 ?_ ?_ ?_
  ·exact QX (l := [3, 4, 5, 12, 13]) (lH := [5, 24]) (kp5 rfl rfl rfl rfl rfl) (Qb rfl (Qb rfl Qi)) rfl rfl rfl
  ·exact Qgc _
  intro i hI
  have hlen := Cq w u p bar (l.take i)
  have hlen2 : (l.take i).length <= l.length := List.length_take_le' ..
  try dsimp only
  refine Qw ?_ -- 1
  refine Qc fun K hK => mv2 Z Z (QN Z Z (Z7 Z Z (kc6 hK Z Z Z Z Z Z ?_)))
  refine Qs Z (fun h1 => ?_) (fun h1 => ?_)
  ·try rw [h1]
   try simp only [qA] at h1
   refine Qr (ks5 Z Z Z Z Z ?_)
   refine Qw ?_ -- 2
   refine Qu (Qc fun K hK => QI (ds0 := [1, 0]) (cs := [_]) Z Z Z Z Z Z (mv2 Z Z (QG Z Z Z Wa (QS Wa) Z (QI (ds0 := [1, 0]) (cs := [_, _, _]) Z Z Z Z Z Z (QQ (ds0 := [0]) (GB hw (hx _ (Qf5 Wa))) Z Z (.inr Z) Z Z (Qa Z (kc6 hK Z Z Z Z Z Z ?_)))))))
   refine Qw ?_ -- 3
   refine Qc fun K hK => Qa Z (Yn Z (kc7 hK Z Z Z Z Z Z Z ?_))
   refine Qs Z (fun h2 => ?_) (fun h2 => ?_)
   ·try rw [h2]
    try simp only [qA] at h2
    refine QH fun K hK => QI (ds0 := [3, 1, 0]) (cs := [_]) Z Z Z Z Z Z (mv2 Z Z (QG Z Z Z Wa (QS Wa) Z (Q6 Z Z (QR (ds0 := [3, 1, 0]) Z Z Z Z Z (QQ (ds0 := [1, 0]) (ZA hw) Z Z (.inr Z) Z Z (Qa Z (Jf Z Z (QcS w _ _) (Qa Z (hK _ ?_)))))))))
    refine ks6 Z Z Z Z Z Z (QH fun K hK => mv2 Z Z (Qa Z (QG Z Z Z Wa (QS Wa) Z (Q6 Z Z (Qx Z Z Z (Qa Z (QT Z Z (Qz Z Z (Xl Z Z (fun _ h => Y8 Z Z Z h) Z Wf Z Z Z Wh Wh ?_)))))))))
    refine Qa Z (hK _ ?_)
    refine Qd (ks5 Z Z Z Z Z (QH fun K hK => Qa Z (QY Z Z Wc (Qa Z (hK _ ?_)))))
    refine Qf (i + 1) ?_ ?_ ?_
    ·exact QX (l := [3, 4, 5, 12, 13]) (lH := [5, 24]) (kp5 rfl rfl rfl rfl rfl) (Qb rfl (Qb rfl Qi)) (by first | (rw [Kw Wa h2]; done) | (rw [Kw Wa h2]; rfl) | (rw [Kw Wa h2, List.length_append]; rfl) | (simp [Kw Wa h2]; done) | (simp [Kw Wa h2]; omega) | rfl) (by first | (rw [Kw Wa h2]; done) | (rw [Kw Wa h2]; rfl) | (rw [Kw Wa h2, List.map_append]; rfl) | (simp [Kw Wa h2]; done) | rfl) rfl
    ·omega
    ·first | omega | (simp only; omega) | (dsimp only; omega)
   ·try rw [h2]
    try simp only [qA] at h2
    refine Qr (ks6 Z Z Z Z Z Z (QH fun K hK => mv2 Z Z (Qa Z (QG Z Z Z Wa (QS Wa) Z (Q6 Z Z (Qx Z Z Z (Qa Z (QT Z Z (Qz Z Z ?_)))))))))
    refine Xl Z Z (fun _ h => Y8 Z Z Z h) Z Wf Z Z Z Wh Wh (Qa Z (hK _ ?_))
    refine Qd (ks5 Z Z Z Z Z (QH fun K hK => Qa Z (QY Z Z Wc (Qa Z (hK _ ?_)))))
    refine Qf (i + 1) ?_ ?_ ?_
    ·exact QX (l := [3, 4, 5, 12, 13]) (lH := [5, 24]) (kp5 rfl rfl rfl rfl rfl) (Qb rfl (Qb rfl Qi)) (by first | (rw [Kv Wa h2]; done) | (rw [Kv Wa h2]; rfl) | (rw [Kv Wa h2, List.length_append]; rfl) | (simp [Kv Wa h2]; done) | (simp [Kv Wa h2]; omega) | rfl) (by first | (rw [Kv Wa h2]; done) | (rw [Kv Wa h2]; rfl) | (rw [Kv Wa h2, List.map_append]; rfl) | (simp [Kv Wa h2]; done) | rfl) rfl
    ·omega
    ·first | omega | (simp only; omega) | (dsimp only; omega)
  ·try rw [h1]
   try simp only [qA] at h1
   refine Zb (QF (Qt (Qy ?_)))
   refine Z9 () ?_ ?_
   ·exact le_trans (Fp (l := [5]) (lH := [5]) 24 12 (kp1 rfl) (Qb rfl Qi) rfl rfl rfl Wm rfl rfl rfl rfl) (QX (l := [5, 12]) (lH := [5]) (kp2 rfl rfl) (Qb rfl Qi) (by rw [Qgg (Wa : l.length <= i)]; rfl) rfl rfl)
   ·exact trivial
 intro _ hJ
 try dsimp only
 refine Qc fun K hK => QE (cs := [_]) Z Z Z Z (Qa Z (QD (XW hw (by rw [Cq]; omega)) Z Z (.inl Z) (QK Z Z (QK Z Z (mv2 Z Z (kc2 hK Z Z ?_))))))
 refine Qq ?_
 exact QO rfl rfl ⟨rfl, rfl⟩
end Go.Proofs
namespace M25
open Go Go.Abs M3
def IncOk (w : Qn) (l : List TermT) : Prop := l.Pairwise (fun a b => a.u < b.u) /\ ∀ t ∈ l, 0 <= t.u /\ t.u < w.length
theorem PY : ∀ (l : List TermT) (a b : Int), l.Pairwise (fun x y => x.u < y.u) -> (∀ t ∈ l, a <= t.u /\ t.u < b) -> a <= b -> (l.length : Int) <= b - a
 | [], a, b, _, _, h => by simp; omega
 | t :: l, a, b, hp, hb, h => by
  rw [List.pairwise_cons] at hp
  have h1 := hb t Wf
  have := PY l (t.u + 1) b hp.2 (fun s hs => ⟨by have := hp.1 s hs; omega, (hb s (by simp [hs])).2⟩) Wa
  simp only [List.length_cons]; omega
theorem IncOk.len {w : Qn} {l : List TermT} (h : IncOk w l) : l.length <= w.length := by
 have := PY l 0 w.length h.1 h.2 Wa
 omega
theorem IncOk.nil (w : Qn) : IncOk w [] := ⟨List.Pairwise.nil, by simp⟩
theorem SP (w : Qn) (ms : List Int) : ∀ n, (XD w ms n).Pairwise (fun a b => a.u < b.u) /\ ∀ t ∈ XD w ms n, 0 <= t.u /\ t.u < n
 | 0 => ⟨List.Pairwise.nil, by simp [XD]⟩
 | n + 1 => by
  obtain ⟨h1, h2⟩ := SP w ms n
  rw [XD]
  split
  ·rw [List.append_nil]; exact ⟨h1, fun t ht => by have := h2 t ht; omega⟩
  ·refine ⟨List.pairwise_append.2 ⟨h1, List.pairwise_singleton _ _, fun a ha b hb => ?_⟩, fun t ht => ?_⟩
   ·simp only [Qf9] at hb; subst hb; exact (h2 a ha).2
   ·rcases Qgb.1 ht with ht | ht
    ·have := h2 t ht; omega
    ·simp only [Qf9] at ht; subst ht; simp only; omega
theorem Fw {w : Qn} {l t : List TermT} (h : Gy w l = some t) : IncOk w t := by
 unfold Gy at h
 split at h
 ·unfold SM at h
  split at h
  ·cases h
   obtain ⟨h1, h2⟩ := SP w (XC (Kj w) l) (XC (Kj w) l).length
   refine ⟨h1, fun t ht => ?_⟩
   have := h2 t ht
   rw [Mv] at this
   exact this
  ·cases h
 ·cases h
theorem IncOk.ne {w : Qn} {l : List TermT} (h : IncOk w l) : l.Pairwise (fun a b => a.u ≠ b.u) := h.1.imp fun h => Wa
theorem Pb {l : List TermT} (hl : l.Pairwise (fun a b => a.u ≠ b.u)) : ∀ n, (Yp l n).Pairwise (fun a b => a.u < b.u) /\ ∀ t ∈ Yp l n, t ∈ l /\ 0 <= t.u /\ t.u < n
 | 0 => ⟨List.Pairwise.nil, by simp [Yp]⟩
 | n + 1 => by
  obtain ⟨h1, h2⟩ := Pb hl n
  rw [Yp]
  have hf : ∀ t ∈ l.filter (fun t => decide (t.u = ((n : Nat) : Int))), t ∈ l /\ t.u = n := fun t ht => by
   simpa using List.mem_filter.1 ht
  refine ⟨List.pairwise_append.2 ⟨h1, ?_, fun a ha b hb => ?_⟩, fun t ht => ?_⟩
  ·refine List.Pairwise.imp_of_mem (fun {a b} ha hb hab => ?_) (hl.filter _)
   have := (hf a ha).2
   have := (hf b hb).2
   omega
  ·rw [(hf b hb).2]; exact (h2 a ha).2.2
  ·rcases Qgb.1 ht with ht | ht
   ·have := h2 t ht; exact ⟨this.1, Wa, Wa⟩
   ·have := hf t ht; exact ⟨this.1, Wa, Wa⟩
theorem DU {w : Qn} {l : List TermT} (hl : l.Pairwise (fun a b => a.u ≠ b.u)) (hb : ∀ t ∈ l, 0 <= t.u /\ t.u < w.length) : IncOk w (RG l) := by
 obtain ⟨h1, h2⟩ := Pb hl 48
 exact ⟨h1, fun t ht => hb t (h2 t ht).1⟩
theorem QaM {w : Qn} {r x : RowT} (hx : IncOk w x.t) (h0 : 0 <= r.u) (h1 : r.u < w.length) : IncOk w (QaL w r x).t := by
 refine DU (List.pairwise_cons.2 ⟨fun t ht => ?_, hx.ne.filter _⟩) fun t ht => ?_
 ·have := (List.mem_filter.1 ht).2
  simp only [Bool.not_eq_true', decide_eq_false_iff_not] at this
  exact fun e => this e.symm
 ·rcases Qf2.1 ht with rfl | ht
  ·exact ⟨h0, h1⟩
  ·exact hx.2 t (List.mem_filter.1 ht).1
def Ka (w : Qn) (rows : List RowT) : Prop := ∀ x ∈ rows, IncOk w x.t
theorem TY {w : Qn} {r : RowT} (hr : IncOk w r.t) (h0 : 0 <= r.u) (h1 : r.u < w.length) : ∀ {rows : List RowT}, Ka w rows -> Ka w (Xk w r rows)
 | [], _ => fun x hx => by
  simp only [Xk, Qf9] at hx; subst hx; exact hr
 | y :: rows, h => fun x hx => by
  rw [Xk] at hx
  split at hx
  ·rcases Qf2.1 hx with rfl | hx
   ·exact QaM (h y Wf) h0 h1
   ·exact h x (by simp [hx])
  ·rcases Qf2.1 hx with rfl | hx
   ·exact h x Wf
   ·exact TY hr h0 h1 (fun z hz => h z (by simp [hz])) x hx
theorem RK (w : Qn) (r : RowT) : ∀ rows : List RowT, (Xk w r rows).length <= rows.length + 1
 | [] => by simp [Xk]
 | x :: rows => by
  have := RK w r rows
  rw [Xk]; split <;> simp <;> omega
theorem TN {r x : RowT} (h : ¬ x.k = r.k \/ ¬ x.u = r.u \/ ¬ PH x.t r.u = PH r.t r.u) : TM r x = false := by
 simp only [TM, Qgd, decide_eq_false_iff_not]
 rcases h with h | h | h
 ·exact .inl (.inl h)
 ·exact .inl (.inr h)
 ·exact .inr h
theorem C4 {r x : RowT} (h1 : x.k = r.k) (h2 : x.u = r.u) (h3 : PH x.t r.u = PH r.t r.u) : TM r x = true := by simp [TM, h1, h2, h3]
theorem M1 {w : Qn} {r : RowT} {rows : List RowT} {i : Nat} (h : i < rows.length) (hn : TM r rows[i] = false) (hi : Xk w r rows = rows.take i ++ Xk w r (rows.drop i)) : Xk w r rows = rows.take (i + 1) ++ Xk w r (rows.drop (i + 1)) := by
 rw [hi, Qgh h, Xk, if_neg (by rw [hn]; simp), List.take_succ_eq_append_getElem h, List.append_assoc]; rfl
theorem Da {w : Qn} {r : RowT} {rows : List RowT} {i : Nat} (h : i < rows.length) (hn : TM r rows[i] = true) (hi : Xk w r rows = rows.take i ++ Xk w r (rows.drop i)) : Xk w r rows = rows.set i (QaL w r rows[i]) := by
 rw [hi, Qgh h, Xk, if_pos hn, List.set_eq_take_append_cons_drop, if_pos h]
theorem Db {w : Qn} {r : RowT} {rows : List RowT} {i : Nat} (h : rows.length <= i) (hi : Xk w r rows = rows.take i ++ Xk w r (rows.drop i)) : Xk w r rows = rows ++ [r] := by
 rw [hi, Qgl h, Qgg h, Xk]
theorem L6 {w : Qn} {u : Int} {p : Nat} {l : List (List WantT)} {rows : List RowT} {i : Nat} (h : i < l.length) : YS w u p (l.take (i + 1)) rows = match Yl w u p l[i] false with
  | some t => Xk w ⟨2, u, 0, 0, t⟩ (YS w u p (l.take i) rows)
  | none => YS w u p (l.take i) rows := by
 rw [List.take_succ_eq_append_getElem h, YS, List.foldl_append]; rfl
theorem SR {w : Qn} {u : Int} {p : Nat} {l : List (List WantT)} {rows : List RowT} {i : Nat} (h : i < l.length) (ho : (Yl w u p l[i] false).isSome = true) : YS w u p (l.take (i + 1)) rows = Xk w ⟨2, u, 0, 0, (Yl w u p l[i] false).getD []⟩ (YS w u p (l.take i) rows) := by
 rw [L6 h]
 cases hc : Yl w u p l[i] false with
 | none => rw [hc] at ho; cases ho
 | some t => rfl
theorem L5 {w : Qn} {u : Int} {p : Nat} {l : List (List WantT)} {rows : List RowT} {i : Nat} (h : i < l.length) (ho : (Yl w u p l[i] false).isSome = false) : YS w u p (l.take (i + 1)) rows = YS w u p (l.take i) rows := by
 rw [L6 h]
 cases hc : Yl w u p l[i] false with
 | none => rfl
 | some t => rw [hc] at ho; cases ho
theorem Cl {w : Qn} {u : Int} {p : Nat} {l : List WantT} {rows : List RowT} {i : Nat} (h : i < l.length) : K6 w u p (l.take (i + 1)) rows = match Yl w u p [l[i]] true with
  | some t => Xk w ⟨3, u, 0, 0, t⟩ (K6 w u p (l.take i) rows)
  | none => K6 w u p (l.take i) rows := by
 rw [List.take_succ_eq_append_getElem h, K6, List.foldl_append]; rfl
theorem Lm {w : Qn} {u : Int} {p : Nat} {l : List WantT} {rows : List RowT} {i : Nat} (h : i < l.length) (ho : (Yl w u p [l[i]] true).isSome = true) : K6 w u p (l.take (i + 1)) rows = Xk w ⟨3, u, 0, 0, (Yl w u p [l[i]] true).getD []⟩ (K6 w u p (l.take i) rows) := by
 rw [Cl h]
 cases hc : Yl w u p [l[i]] true with
 | none => rw [hc] at ho; cases ho
 | some t => rfl
theorem Ck {w : Qn} {u : Int} {p : Nat} {l : List WantT} {rows : List RowT} {i : Nat} (h : i < l.length) (ho : (Yl w u p [l[i]] true).isSome = false) : K6 w u p (l.take (i + 1)) rows = K6 w u p (l.take i) rows := by
 rw [Cl h]
 cases hc : Yl w u p [l[i]] true with
 | none => rfl
 | some t => rw [hc] at ho; cases ho
theorem CI {w : Qn} {u : Int} {p : Nat} {l : List WantT} {b : Bool} : IncOk w ((Yl w u p l b).getD []) := by
 cases hc : Yl w u p l b with
 | none => exact IncOk.nil w
 | some t => exact Fw hc
theorem FC {w : Qn} {u : Int} {p : Nat} (h0 : 0 <= u) (h1 : u < w.length) : ∀ {l : List (List WantT)} {rows : List RowT}, Ka w rows -> Ka w (YS w u p l rows) /\ (YS w u p l rows).length <= rows.length + l.length
 | [], rows, h => ⟨h, Nat.le_refl _⟩
 | x :: l, rows, h => by
  rw [YS, List.foldl_cons]
  cases hc : Yl w u p x false with
  | none =>
   obtain ⟨q1, q2⟩ := FC h0 h1 (l := l) h
   exact ⟨q1, Qgj q2 Wf⟩
  | some t =>
   obtain ⟨q1, q2⟩ := FC (p := p) h0 h1 (l := l) (TY (r := ⟨2, u, 0, 0, t⟩) (Fw hc) h0 h1 h)
   have := RK w ⟨2, u, 0, 0, t⟩ rows
   exact ⟨q1, Qgj q2 (by simp only [List.length_cons]; omega)⟩
theorem NQ {w : Qn} {u : Int} {p : Nat} (h0 : 0 <= u) (h1 : u < w.length) : ∀ {l : List WantT} {rows : List RowT}, Ka w rows -> Ka w (K6 w u p l rows) /\ (K6 w u p l rows).length <= rows.length + l.length
 | [], rows, h => ⟨h, Nat.le_refl _⟩
 | x :: l, rows, h => by
  rw [K6, List.foldl_cons]
  cases hc : Yl w u p [x] true with
  | none =>
   obtain ⟨q1, q2⟩ := NQ h0 h1 (l := l) h
   exact ⟨q1, Qgj q2 Wf⟩
  | some t =>
   obtain ⟨q1, q2⟩ := NQ (p := p) h0 h1 (l := l) (TY (r := ⟨3, u, 0, 0, t⟩) (Fw hc) h0 h1 h)
   have := RK w ⟨3, u, 0, 0, t⟩ rows
   exact ⟨q1, Qgj q2 (by simp only [List.length_cons]; omega)⟩
theorem Rd {w : Qn} {u : Int} {cs : List CandT} {n : Nat} {rows : List RowT} (h : n < cs.length) : YJ w u cs (n + 1) rows = K6 w u n cs[n].bs (YS w u n cs[n].ns (YJ w u cs n rows)) := by
 rw [YJ, List.getElem?_eq_getElem h]
theorem Mn {w : Qn} {u : Int} {cs : List CandT} (h0 : 0 <= u) (h1 : u < w.length) (hc : ∀ c ∈ cs, c.ns.length <= 1000 /\ c.bs.length <= 1000) {rows : List RowT} (h : Ka w rows) : ∀ n, n <= cs.length -> Ka w (YJ w u cs n rows) /\ (YJ w u cs n rows).length <= rows.length + n * 2000
 | 0, _ => ⟨h, by simp [YJ]⟩
 | n + 1, hn => by
  obtain ⟨q1, q2⟩ := Mn h0 h1 hc h n Wa
  rw [Rd Wa]
  obtain ⟨q3, q4⟩ := FC (p := n) h0 h1 (l := cs[n].ns) q1
  obtain ⟨q5, q6⟩ := NQ (p := n) h0 h1 (l := cs[n].bs) q3
  have := hc cs[n] (Qf5 _)
  exact ⟨q5, Wa⟩
theorem T2 {w : Qn} {n : Nat} (h : n < w.length) : Yv w (n + 1) = YJ w n w[n].cs w[n].cs.length (Yv w n) := by
 rw [Yv, List.getElem?_eq_getElem h]
theorem HK {w : Qn} (hw : WSm w) (h0 : 0 < w.length) : ∀ n, n <= w.length -> Ka w (Yv w n) /\ (Yv w n).length <= 1 + n * 32000
 | 0, _ => ⟨fun x hx => by
   simp only [Yv, Qf9] at hx; subst hx
   exact ⟨List.pairwise_singleton _ _, fun t ht => by simp only [Qf9] at ht; subst ht; exact ⟨Int.le_refl _, by simp only; omega⟩⟩, by simp [Yv]⟩
 | n + 1, hn => by
  obtain ⟨q1, q2⟩ := HK hw h0 n Wa
  rw [T2 Wa]
  obtain ⟨q3, q4⟩ := Mn (u := n) Wa Wa (fun c hc => hw.ns w[n] (Qf5 _) c hc) q1 w[n].cs.length (Nat.le_refl _)
  have := hw.cs w[n] (Qf5 _)
  refine ⟨q3, ?_⟩
  have h5 : w[n].cs.length * 2000 <= 16 * 2000 := Nat.mul_le_mul_right _ this
  omega
theorem C7 {w : Qn} (hw : WSm w) (h0 : 0 < w.length) : ∀ t ∈ mDB w, IncOk w t := fun t ht => by
 obtain ⟨r, hr, rfl⟩ := Qge.1 ht
 exact (HK hw h0 w.length (Nat.le_refl _)).1 r hr
theorem RB {w : Qn} (hw : WSm w) (h0 : 0 < w.length) : (mDB w).length <= 1600000 := by
 have := (HK hw h0 w.length (Nat.le_refl _)).2
 have := hw.len
 rw [mDB, List.length_map, Hw]; omega
theorem Qea {l : List TermT} : ∀ r ∈ l.map Fa, r.length = 2 := fun r hr => by obtain ⟨x, _, rfl⟩ := Qge.1 hr; rfl
theorem Qeb {l : List WantT} : ∀ r ∈ l.map NI, r.length = 3 := fun r hr => by obtain ⟨x, _, rfl⟩ := Qge.1 hr; rfl
theorem DX {l : List QL} : ∀ r ∈ l.map Sk, r.length = 4 := fun r hr => by obtain ⟨x, _, rfl⟩ := Qge.1 hr; rfl
theorem BU {α : Type} {f : α -> List D} {l : List α} {i : Nat} (h : i < l.length) : ((l.map f).take ((i : Int) + 1).toNat).drop ((i : Nat) : Int).toNat = [l[i]].map f := by
 rw [Qac, Int.toNat_natCast, List.drop_take, show i + 1 - i = 1 by omega, Qgh (by simpa using h)]
 simp
theorem WSm.nsLen {w : Qn} (hw : WSm w) {u i : Nat} (hu : u < w.length) (hi : i < w[u].cs.length) : w[u].cs[i].ns.length <= 1000 := (hw.ns _ (Qf5 _) _ (Qf5 _)).1
theorem WSm.bsLen {w : Qn} (hw : WSm w) {u i : Nat} (hu : u < w.length) (hi : i < w[u].cs.length) : w[u].cs[i].bs.length <= 1000 := (hw.ns _ (Qf5 _) _ (Qf5 _)).2
theorem WSm.csLen {w : Qn} (hw : WSm w) {u : Nat} (hu : u < w.length) : w[u].cs.length <= 16 := hw.cs _ (Qf5 _)
theorem Qcw {w : Qn} (hw : WSm w) {u i : Nat} (hu : u < w.length) (hi : i <= w[u].cs.length) : Ka w (YJ w u w[u].cs i (Yv w u)) /\ (YJ w u w[u].cs i (Yv w u)).length <= 10000000 := by
 obtain ⟨q1, q2⟩ := HK hw Wa u Wa
 obtain ⟨q3, q4⟩ := Mn (u := u) Wa Wa (fun c hc => hw.ns w[u] (Qf5 _) c hc) q1 i hi
 have := hw.csLen hu
 have := hw.len
 have h5 : i * 2000 <= 16 * 2000 := Nat.mul_le_mul_right _ Wa
 have h6 : u * 32000 <= 48 * 32000 := Nat.mul_le_mul_right _ Wa
 exact ⟨q3, Wa⟩
theorem RA {w : Qn} (hw : WSm w) {u i : Nat} (hu : u < w.length) (hi : i < w[u].cs.length) (k : Nat) : Ka w (YS w u i (w[u].cs[i].ns.take k) (YJ w u w[u].cs i (Yv w u))) /\ (YS w u i (w[u].cs[i].ns.take k) (YJ w u w[u].cs i (Yv w u))).length <= 20000000 := by
 obtain ⟨q1, q2⟩ := Qcw hw hu (Nat.le_of_lt hi)
 obtain ⟨q3, q4⟩ := FC (u := u) (p := i) Wa Wa (l := w[u].cs[i].ns.take k) q1
 have := hw.nsLen hu hi
 have h2 : (w[u].cs[i].ns.take k).length <= w[u].cs[i].ns.length := List.length_take_le' ..
 exact ⟨q3, Wa⟩
theorem LV {w : Qn} (hw : WSm w) {u i : Nat} (hu : u < w.length) (hi : i < w[u].cs.length) (k : Nat) : Ka w (K6 w u i (w[u].cs[i].bs.take k) (YS w u i w[u].cs[i].ns (YJ w u w[u].cs i (Yv w u)))) /\ (K6 w u i (w[u].cs[i].bs.take k) (YS w u i w[u].cs[i].ns (YJ w u w[u].cs i (Yv w u)))).length <= 30000000 := by
 obtain ⟨q1, q2⟩ := RA hw hu hi w[u].cs[i].ns.length
 rw [List.take_length] at q1 q2
 obtain ⟨q3, q4⟩ := NQ (u := u) (p := i) Wa Wa (l := w[u].cs[i].bs.take k) q1
 have := hw.bsLen hu hi
 have h2 : (w[u].cs[i].bs.take k).length <= w[u].cs[i].bs.length := List.length_take_le' ..
 exact ⟨q3, Wa⟩
end M25
namespace Go.Proofs
open Go Go.Abs M3 M25
theorem Jh {w : Qn} (hw : WSm w) {r : RowT} {rows : List RowT} (hr : Ka w rows) (hrr : IncOk w r.t) (hl : rows.length <= 100000000) : OkH Tryz.prog 46 [Z4 w, .osl 500000 rows.length, .agg (Cs r)] [(500000, ⟨(rows).map Cs, 5, 73, true⟩)] (.osl 500000 (Xk w r rows).length) [(500000, ⟨(Xk w r rows).map Cs, 5, 73, true⟩)] := by
 refine OkH.mv Z2 Tryz.func46 Qe5 (Qf0 Z) Z ?_
 show TW _ _ tf46.body _ _
 have hn := hw.len
 refine Qc fun K hK => Zx Z Z Z (Zx Z Z Z (Qa Z (kc3 hK Z Z Z ?_)))
 refine Qw ?_ -- 0
 refine Qc fun K hK => Qa Z (kc4 hK Z Z Z Z ?_)
 refine Qu ?_
 refine Zh (ι := Nat) (fun i => ⟨[(1, .osl 500000 rows.length), (3, .ref 3 0 0), (5, .ref 5 0 0), (7, .int .i64 i)], [(3, ⟨[[.sl ((w).map Yg)]], 1, 26, true⟩), (5, ⟨[[.int .i64 (r).k, .int .i64 (r).u, .int .i64 (r).a, .int .i64 (r).b, ZC (r).t]], 5, 73, true⟩), (500000, ⟨(rows).map Cs, 5, 73, true⟩)]⟩) (fun i => i <= rows.length /\ Xk w r rows = rows.take i ++ Xk w r (rows.drop i)) (fun i => rows.length - i) 0 ?_ ?_ ?_
 ·exact QX (l := [1, 3, 5, 7]) (lH := [3, 5, 500000]) (kp4 rfl rfl rfl rfl) (Qb rfl (Qb rfl (Qb rfl Qi))) rfl rfl rfl
 ·exact ⟨Qgc _, by simp⟩
 intro i hI
 try dsimp only
 refine Qw ?_ -- 1
 refine Qc fun K hK => mv2 Z Z (QN Z Z (Z7 Z Z (kc5 hK Z Z Z Z Z ?_)))
 refine Qs Z (fun h1 => ?_) (fun h1 => ?_)
 ·try rw [h1]
  try simp only [qA] at h1
  refine Qr (ks4 Z Z Z Z ?_)
  refine Qw ?_ -- 2
  refine Qu (Qc fun K hK => mv2 Z Z (Xm Z Z Z Wf Wa Wa Z (QE (cs := [_, _, _, _, _]) Z (Z1 Z (QS Wa)) Z Z (ZL Z (Q3 Z Z Z Z Z Z Z Z (kc5 hK Z Z Z Z Z ?_))))))
  refine Qc fun K hK => Qe Z Z (QR (ds0 := [20, 19, 18, 17, 16, 15, 14, 13, 12, 11, 10, 9, 8, 7, 6, 5, 4, 3, 2, 1, 0]) Z Z Z Z Z (Qe Z Z (QR (ds0 := [20, 19, 18, 17, 16, 15, 14, 13, 12, 11, 10, 9, 8, 7, 6, 5, 4, 3, 2, 1, 0]) Z Z Z Z Z ?_)))
  first | refine ZO rfl rfl ?_ | refine P6 rfl rfl ?_
  refine Qa Z ?_
  refine QB (g := 25) Z (fun h2 => ?_) (fun h2 => ?_)
  ·try rw [h2]
   try simp only [qA] at h2
   refine Qh Z (Qe Z Z (Qh Z (QR (ds0 := [14, 13, 12, 11, 10, 9, 8, 7, 6, 5, 4, 3, 2, 1, 0]) Z Z Z Z Z (Qh Z (Qe Z Z (Qh Z (QR (ds0 := [14, 13, 12, 11, 10, 9, 8, 7, 6, 5, 4, 3, 2, 1, 0]) Z Z Z Z Z (Qh Z ?_))))))))
   first | refine ZO rfl rfl ?_ | refine P6 rfl rfl ?_
   refine Ql Z Z (Qa Z ?_)
   refine QB (g := 32) Z (fun h3 => ?_) (fun h3 => ?_)
   ·try rw [h3]
    try simp only [qA] at h3
    refine Qh Z (Qe Z Z (Qh Z (QR (ds0 := [7, 1, 0]) Z Z Z Z Z (Qh Z (Qe Z Z (Qh Z (QR (ds0 := [7, 1, 0]) Z Z Z Z Z (Qh Z (QQ (ds0 := [1, 0]) (Xc (Qgj (hr _ (Qf5 Wa)).len Wa)) Z Z (.inl Z) Z Z (Qh Z (Qe Z Z ?_)))))))))))
    refine Qh Z (QR (ds0 := [2, 1, 0]) Z Z Z Z Z (Qh Z (Qe Z Z (Qh Z (QR (ds0 := [2, 1, 0]) Z Z Z Z Z (Qh Z (QQ (ds0 := [1, 0]) (Xc (Qgj hrr.len Wa)) Z Z (.inl Z) Z Z (Qh Z (QQ (ds0 := [0]) (Gj (Qgj (Ml _ _) (Qgj (hr _ (Qf5 Wa)).len Wa))) Z Z (.inr Z) Z Z (Ql Z Z (kc6 hK Z Z Z Z Z Z ?_)))))))))))
    refine Qs Z (fun h4 => ?_) (fun h4 => ?_)
    ·try rw [h4]
     try simp only [qA] at h4
     refine Qc fun K hK => Qe Z Z (QR (ds0 := [8, 7, 1, 0]) Z Z Z Z Z (QI (ds0 := [16, 9, 8, 7, 1, 0]) (cs := [_]) Z Z Z Z Z Z (Qe Z Z (QR (ds0 := [16, 9, 8, 7, 1, 0]) Z Z Z Z Z (Qe Z Z (QR (ds0 := [16, 9, 8, 7, 1, 0]) Z Z Z Z Z (QQ (ds0 := [9, 8, 7, 1, 0]) (Y2 hw (Qgj (hr _ (Qf5 Wa)).len Wa)) Z Z (.inr Z) Z Z (QI (ds0 := [10, 9, 8, 7, 1, 0]) (cs := [_]) Z Z Z Z Z Z (Qe Z Z (QR (ds0 := [10, 9, 8, 7, 1, 0]) Z Z Z Z Z ?_))))))))))
     refine Qe Z Z (QR (ds0 := [10, 9, 8, 7, 1, 0]) Z Z Z Z Z (QQ (ds0 := [9, 8, 7, 1, 0]) (Y2 hw (Qgj hrr.len Wa)) Z Z (.inr Z) Z Z (Qer Z Z (QT Z Z (Qz Z Z (Qe Z Z (QR (ds0 := [2, 1, 0]) Z Z Z Z Z (Qe Z Z (QR (ds0 := [2, 1, 0]) Z Z Z Z Z (QQ (ds0 := [1, 0]) (Xc (Qgj (hr _ (Qf5 Wa)).len Wa)) Z Z (.inl Z) Z Z (JT (ds0 := [0]) Z Z (by simp [D.ids, D.sid, ZC]) ⟨rfl, Qea, rfl⟩ Z Z Wf Z Z (by have q1 := Ml (rows[i]'Wa).t r.u; have q2 := (hr _ (Qf5 (Wa : i < rows.length))).len; simp; omega) (by have q1 := Ml (rows[i]'Wa).t r.u; have q2 := (hr _ (Qf5 (Wa : i < rows.length))).len; simp; omega) Z Z ?_)))))))))))
     refine Qa Z (kc3 hK Z Z Z ?_)
     refine Cg (Fp (l := [1, 7]) (lH := [500000]) 67 9 (kp2 Z Z) (Qb Z Qi) Z Z Z Wm Z Z Z Z) (Qc fun K hK => mv2 Z Z (Qa Z (QD (K7 (l := ⟨r.u, bor (GL w (rows[i]'Wa).t r.u) (GL w r.t r.u)⟩ :: PH (rows[i]'Wa).t r.u) (by have q1 := Ml (rows[i]'Wa).t r.u; have q2 := (hr _ (Qf5 (Wa : i < rows.length))).len; simp; omega)) Z Z (.inl Z) (Xm Z Z Z Wf Wa Wa Z (Qe Z Z (Q3 Z Z (QS Wa) Z Z Z Z Z (kc1 hK Z ?_)))))))
     refine Qc fun K hK => mv2 Z Z (kc1 hK Z ?_)
     refine Qq (Qo (Qg (Q0 (Qo (Qg ?_)))))
     refine YC Z ?_ (HN ?_)
     ·rw [Da (i := i) Wa (C4 h2 h3 h4) hI.2]; simp [D6, D.fz, D.fzS, M9, D.can, D.canS]
     ·rw [Da (i := i) Wa (C4 h2 h3 h4) hI.2]; simp [lk, List.map_set, Cs, QaL, setRow, D.sid, ZC]
    ·try rw [h4]
     try simp only [qA] at h4
     refine Qr (Qd (ks4 Z Z Z Z (QH fun K hK => Qa Z (QY Z Z Wc (Qa Z (hK _ ?_))))))
     refine Qf (i + 1) ?_ ?_ ?_
     ·exact QX (l := [1, 3, 5, 7]) (lH := [3, 5, 500000]) (kp4 rfl rfl rfl rfl) (Qb rfl (Qb rfl (Qb rfl Qi))) rfl rfl rfl
     ·exact ⟨Wa, M1 Wa (TN (by first | exact .inl h2 | exact .inr (.inl h3) | exact .inr (.inr h4))) hI.2⟩
     ·first | omega | (simp only; omega) | (dsimp only; omega)
   ·try rw [h3]
    try simp only [qA] at h3
    refine gn4 Z Z Z Z (gn4 Z Z Z Z (gn3 Z Z Z (Ql Z Z ?_)))
    refine kc6 hK Z Z Z Z Z Z ?_
    refine ZG Z (Qr (Qd (ks4 Z Z Z Z (QH fun K hK => Qa Z (QY Z Z Wc (Qa Z (hK _ ?_)))))))
    refine Qf (i + 1) ?_ ?_ ?_
    ·exact QX (l := [1, 3, 5, 7]) (lH := [3, 5, 500000]) (kp4 rfl rfl rfl rfl) (Qb rfl (Qb rfl (Qb rfl Qi))) rfl rfl rfl
    ·exact ⟨Wa, M1 Wa (TN (by first | exact .inl h2 | exact .inr (.inl h3) | exact .inr (.inr h4))) hI.2⟩
    ·first | omega | (simp only; omega) | (dsimp only; omega)
  ·try rw [h2]
   try simp only [qA] at h2
   refine gn4 Z Z Z Z (Xx Z (Ql Z Z (Qa Z (gn4 Z Z Z Z (Xx Z ?_)))))
   refine gn4 Z Z Z Z (gn2 Z Z (Ql Z Z (kc6 hK Z Z Z Z Z Z ?_)))
   refine ZG Z (Qr (Qd (ks4 Z Z Z Z (QH fun K hK => Qa Z (QY Z Z Wc (Qa Z (hK _ ?_)))))))
   refine Qf (i + 1) ?_ ?_ ?_
   ·exact QX (l := [1, 3, 5, 7]) (lH := [3, 5, 500000]) (kp4 rfl rfl rfl rfl) (Qb rfl (Qb rfl (Qb rfl Qi))) rfl rfl rfl
   ·exact ⟨Wa, M1 Wa (TN (by first | exact .inl h2 | exact .inr (.inl h3) | exact .inr (.inr h4))) hI.2⟩
   ·first | omega | (simp only; omega) | (dsimp only; omega)
 ·try rw [h1]
  try simp only [qA] at h1
  refine Zb (QF (Qt (Qy (ks2 Z Z (Qc fun K hK => Qa Z (QE (cs := [_, _, _, _, _]) Z Z Z Z (Qz Z Z (Xl Z Z (fun _ h => Y8 Z Z Z h) Z Wf Z Z Z Wh Wh (Qa Z (kc1 hK Z ?_))))))))))
  refine Qq ?_
  refine YC Z ?_ (HN ?_)
  ·rw [Db (i := i) Wa hI.2]; simp [D6, D.fz, D.fzS, M9, D.can, D.canS]
  ·rw [Db (i := i) Wa hI.2]; simp [lk, Cs, D.sid, ZC]
theorem Jg {w : Qn} (hw : WSm w) : Ok Tryz.prog 23 [Z4 w] (Qck (Hw w)) := by
 refine Ok.ofT Z2 Tryz.func23 QeI (Qf0 Z) ?_
 show TW _ _ tf23.body _ _
 have hn := hw.len
 refine Qc fun K hK => Zx Z Z Z (Qa Z (kc1 hK Z ?_))
 refine Qc fun K hK => QT Z Z (Qz Z Z (QT Z Z (Qz Z Z (Qa Z (kc2 hK Z Z ?_)))))
 refine Qw ?_ -- 0
 refine Qc fun K hK => Qa Z (kc3 hK Z Z Z ?_)
 refine Qu ?_
 refine Zh (ι := Nat) (fun j => ⟨[(1, .ref 1 0 0), (3, .osl 3 (Yv w j).length), (4, .int .i64 j)], [(1, ⟨[[.sl ((w).map Yg)]], 1, 26, true⟩), (3, ⟨(Yv w j).map Cs, 5, 73, true⟩)]⟩) (fun j => j <= w.length) (fun j => w.length - j) 0 ?_ ?_ ?_
 ·exact le_trans (SE 14 _ Wk) (le_trans (MF (k := 16) (b := ⟨[[.int .i64 1, .int .i64 0, .int .i64 0, .int .i64 0, .sl [[.int .i64 0, .int .i64 1]]]], 5, 73, false⟩) rfl Wf Ww) (le_trans (ME (l := [1, 4]) (lH := [1]) 16 3 3 (kp2 rfl rfl) (Qb rfl Qi) rfl rfl rfl rfl rfl rfl rfl) (QX (l := [1, 3, 4]) (lH := [1, 3]) (kp3 rfl rfl rfl) (Qb rfl (Qb rfl Qi)) rfl rfl rfl)))
 ·exact Qgc _
 intro j hU
 try dsimp only
 refine Qw ?_ -- 1
 refine Qc fun K hK => Qa Z (Qe Z Z (Qx Z Z Z (QN Z Z (Z7 Z Z (kc4 hK Z Z Z Z ?_)))))
 refine Qs Z (fun h1 => ?_) (fun h1 => ?_)
 ·try rw [h1]
  try simp only [qA] at h1
  refine Qr (ks3 Z Z Z ?_)
  refine Qw ?_ -- 2
  refine Qu (Qc fun K hK => Qa Z (kc4 hK Z Z Z Z ?_))
  refine Qu ?_
  refine Zh (ι := Nat) (fun i => ⟨[(1, .ref 1 0 0), (3, .osl 3 (YJ w j (w[j]'Wa).cs i (Yv w j)).length), (4, .int .i64 j), (5, .int .i64 i)], [(1, ⟨[[.sl ((w).map Yg)]], 1, 26, true⟩), (3, ⟨(YJ w j (w[j]'Wa).cs i (Yv w j)).map Cs, 5, 73, true⟩)]⟩) (fun i => i <= (w[j]'Wa).cs.length) (fun i => (w[j]'Wa).cs.length - i) 0 ?_ ?_ ?_
  ·exact QX (l := [1, 3, 4, 5]) (lH := [1, 3]) (kp4 rfl rfl rfl rfl) (Qb rfl (Qb rfl Qi)) rfl rfl rfl
  ·exact Qgc _
  intro i hI
  have hcs := hw.csLen (u := j) Wa
  try dsimp only
  refine Qw ?_ -- 3
  refine Qc fun K hK => Qa Z (Qe Z Z (Qx Z Z Z (Qa Z (QG Z Z Z Wa (QS Wa) Z (Q6 Z Z (Qx Z Z Z (QN Z Z (Z7 Z Z (kc5 hK Z Z Z Z Z ?_)))))))))
  refine Qs Z (fun h2 => ?_) (fun h2 => ?_)
  ·try rw [h2]
   try simp only [qA] at h2
   refine Qr (ks4 Z Z Z Z ?_)
   refine Qw ?_ -- 4
   refine Qu (Qc fun K hK => Qe Z Z (Qx Z Z Z (Qa Z (QG Z Z Z Wa (QS Wa) Z (Q6 Z Z (Qx Z Z Z (Qa Z (QG Z Z Z Wa (QS Wa) Z (QE (cs := [_, _, _, _, _, _, _, _]) Z Z Z Z (ZL Z ?_))))))))))
   refine Q3 Z Z Z Z Z Z Z Z (kc5 hK Z Z Z Z Z ?_)
   refine Qw ?_ -- 5
   refine Qc fun K hK => Qa Z (kc6 hK Z Z Z Z Z Z ?_)
   refine Qu ?_
   refine Zh (ι := Nat) (fun k => ⟨[(1, .ref 1 0 0), (3, .osl 3 (YS w j i (((w[j]'Wa).cs[i]'Wa).ns.take k) (YJ w j (w[j]'Wa).cs i (Yv w j))).length), (4, .int .i64 j), (5, .int .i64 i), (6, .ref 6 0 0), (7, .int .i64 k)], [(1, ⟨[[.sl ((w).map Yg)]], 1, 26, true⟩), (3, ⟨(YS w j i (((w[j]'Wa).cs[i]'Wa).ns.take k) (YJ w j (w[j]'Wa).cs i (Yv w j))).map Cs, 5, 73, true⟩), (6, ⟨[Qcj ((w[j]'Wa).cs[i]'Wa)], 8, 53, true⟩)]⟩) (fun k => k <= ((w[j]'Wa).cs[i]'Wa).ns.length) (fun k => ((w[j]'Wa).cs[i]'Wa).ns.length - k) 0 ?_ ?_ ?_
   ·exact QX (l := [1, 3, 4, 5, 6, 7]) (lH := [1, 3, 6]) (kp6 rfl rfl rfl rfl rfl rfl) (Qb rfl (Qb rfl (Qb rfl Qi))) rfl rfl rfl
   ·exact Qgc _
   intro k hK1
   have hnl := hw.nsLen (u := j) (i := i) Wa Wa
   try dsimp only
   refine Qw ?_ -- 6
   refine Qc fun K hK => Qa Z (Qe Z Z (Qx Z Z Z (QN Z Z (Z7 Z Z (kc7 hK Z Z Z Z Z Z Z ?_)))))
   refine Qs Z (fun h3 => ?_) (fun h3 => ?_)
   ·try rw [h3]
    try simp only [qA] at h3
    refine Qr (ks6 Z Z Z Z Z Z ?_)
    refine Qw ?_ -- 7
    refine Qu (Qc fun K hK => QI (ds0 := [5, 4, 3, 2, 1, 0]) (cs := [_]) Z Z Z Z Z Z (mv2 Z Z (Qe Z Z (QR (ds0 := [7, 6, 5, 4, 3, 2, 1, 0]) Z Z Z Z Z (Qa Z (QG Z Z Z Wa (QS Wa) Z (QR (ds0 := [5, 4, 3, 2, 1, 0]) Z Z Z Z Z (QQ (ds0 := [4, 3, 2, 1, 0]) (Xy hw (p := i) Wa (Qgj (hw.nl _ (Qf5 Wa) _ (Qf5 Wa) _ (Qf5 Wa)) Wa) (hw.nw _ (Qf5 Wa) _ (Qf5 Wa) _ (Qf5 Wa))) Z Z (.inl Z) Z Z (Qa Z ?_)))))))))
    refine QK Z Z (QK Z Z (mv2 Z Z (kc8 hK Z Z Z Z Z Z Z Z ?_)))
    refine Qc fun K hK => Qa Z (kc8 hK Z Z Z Z Z Z Z Z ?_)
    refine Qs Z (fun h4 => ?_) (fun h4 => ?_)
    ·try rw [h4]
     try simp only [qA] at h4
     refine QH fun K hK => QE (cs := [_]) Z Z Z Z (mv2 Z Z (Qa Z (QT Z Z (Cd (Lr (k := 3) Z Z Z Wk Z Wk (by simp [D.ids, D.sid, ZC]) ⟨.osl 3 (YS w j i (((w[j]'Wa).cs[i]'Wa).ns.take k) (YJ w j (w[j]'Wa).cs i (Yv w j))).length, by simp, by simp [D.ids, D.sid]⟩ Z Z (Jh hw (r := ⟨2, j, 0, 0, (Yl w j i (((w[j]'Wa).cs[i]'Wa).ns[k]'Wa) false).getD []⟩) (RA hw Wa Wa _).1 CI (Qgj (RA hw Wa Wa _).2 Wa))) (Qa Z (hK _ ?_))))))
     refine Qd (ks6 Z Z Z Z Z Z (QH fun K hK => Qa Z (QY Z Z Wc (Qa Z (hK _ ?_)))))
     refine Qf (k + 1) ?_ ?_ ?_
     ·exact le_trans (ME (l := [1, 4, 5, 6, 7]) (lH := [1, 6]) 69 3 3 (kp5 rfl rfl rfl rfl rfl) (Qb rfl (Qb rfl Qi)) rfl rfl rfl rfl rfl rfl rfl) (QX (l := [1, 3, 4, 5, 6, 7]) (lH := [1, 3, 6]) (kp6 rfl rfl rfl rfl rfl rfl) (Qb rfl (Qb rfl (Qb rfl Qi))) (by rw [SR Wa h4] <;> rfl) (by rw [SR Wa h4] <;> rfl) rfl)
     ·omega
     ·first | omega | (simp only; omega) | (dsimp only; omega)
    ·try rw [h4]
     try simp only [qA] at h4
     refine Qr (Qd (ks6 Z Z Z Z Z Z (QH fun K hK => Qa Z (QY Z Z Wc (Qa Z (hK _ ?_))))))
     refine Qf (k + 1) ?_ ?_ ?_
     ·exact QX (l := [1, 3, 4, 5, 6, 7]) (lH := [1, 3, 6]) (kp6 rfl rfl rfl rfl rfl rfl) (Qb rfl (Qb rfl (Qb rfl Qi))) (by rw [L5 Wa h4] <;> rfl) (by rw [L5 Wa h4] <;> rfl) rfl
     ·omega
     ·first | omega | (simp only; omega) | (dsimp only; omega)
   ·try rw [h3]
    try simp only [qA] at h3
    refine Zb (QF (Qt (Qy (ks5 Z Z Z Z Z (Qc fun K hK => Qa Z (kc6 hK Z Z Z Z Z Z ?_))))))
    refine Qu ?_
    refine Zh (ι := Nat) (fun m => ⟨[(1, .ref 1 0 0), (3, .osl 3 (K6 w j i (((w[j]'Wa).cs[i]'Wa).bs.take m) (YS w j i ((w[j]'Wa).cs[i]'Wa).ns (YJ w j (w[j]'Wa).cs i (Yv w j)))).length), (4, .int .i64 j), (5, .int .i64 i), (6, .ref 6 0 0), (10, .int .i64 m)], [(1, ⟨[[.sl ((w).map Yg)]], 1, 26, true⟩), (3, ⟨(K6 w j i (((w[j]'Wa).cs[i]'Wa).bs.take m) (YS w j i ((w[j]'Wa).cs[i]'Wa).ns (YJ w j (w[j]'Wa).cs i (Yv w j)))).map Cs, 5, 73, true⟩), (6, ⟨[Qcj ((w[j]'Wa).cs[i]'Wa)], 8, 53, true⟩)]⟩) (fun m => m <= ((w[j]'Wa).cs[i]'Wa).bs.length) (fun m => ((w[j]'Wa).cs[i]'Wa).bs.length - m) 0 ?_ ?_ ?_
    ·exact QX (l := [1, 3, 4, 5, 6, 10]) (lH := [1, 3, 6]) (kp6 rfl rfl rfl rfl rfl rfl) (Qb rfl (Qb rfl (Qb rfl Qi))) (by rw [Qgg (Wa : ((w[j]'Wa).cs[i]'Wa).ns.length <= k)] <;> rfl) (by rw [Qgg (Wa : ((w[j]'Wa).cs[i]'Wa).ns.length <= k)] <;> rfl) rfl
    ·exact Qgc _
    intro m hM
    have hbl := hw.bsLen (u := j) (i := i) Wa Wa
    try dsimp only
    refine Qw ?_ -- 8
    refine Qc fun K hK => Qa Z (Qe Z Z (Qx Z Z Z (QN Z Z (Z7 Z Z (kc7 hK Z Z Z Z Z Z Z ?_)))))
    refine Qs Z (fun h5 => ?_) (fun h5 => ?_)
    ·try rw [h5]
     try simp only [qA] at h5
     refine Qr (ks6 Z Z Z Z Z Z ?_)
     refine Qw ?_ -- 9
     refine Qu (Qc fun K hK => QI (ds0 := [5, 4, 3, 2, 1, 0]) (cs := [_]) rfl rfl rfl rfl rfl rfl (Qa rfl (Qa rfl (Qe rfl rfl (QR (ds0 := [6, 5, 4, 3, 2, 1, 0]) rfl rfl rfl rfl rfl (Qa rfl (Qa rfl (QY rfl rfl Wc (Hc rfl rfl rfl rfl Wa Wa Wh Qeb (BU Wa) (QQ (ds0 := [4, 3, 2, 1, 0]) (Xy hw (p := i) (l := [((w[j]'Wa).cs[i]'Wa).bs[m]'Wa]) Wa Wf (by intro x hx; simp only [Qf9] at hx; subst hx; exact hw.bw _ (Qf5 Wa) _ (Qf5 Wa) _ (Qf5 Wa))) rfl rfl (.inl rfl) rfl rfl ?_))))))))))
     refine Qa Z (QK Z Z (QK Z Z (mv2 Z Z (kc8 hK Z Z Z Z Z Z Z Z ?_))))
     refine Qc fun K hK => Qa Z (kc8 hK Z Z Z Z Z Z Z Z ?_)
     refine Qs Z (fun h6 => ?_) (fun h6 => ?_)
     ·try rw [h6]
      try simp only [qA] at h6
      refine QH fun K hK => QE (cs := [_]) Z Z Z Z (mv2 Z Z (Qa Z (QT Z Z (Cd (Lr (k := 3) Z Z Z Wk Z Wk (by simp [D.ids, D.sid, ZC]) ⟨.osl 3 (K6 w j i (((w[j]'Wa).cs[i]'Wa).bs.take m) (YS w j i ((w[j]'Wa).cs[i]'Wa).ns (YJ w j (w[j]'Wa).cs i (Yv w j)))).length, by simp, by simp [D.ids, D.sid]⟩ Z Z (Jh hw (r := ⟨3, j, 0, 0, (Yl w j i [((w[j]'Wa).cs[i]'Wa).bs[m]'Wa] true).getD []⟩) (LV hw Wa Wa _).1 CI (Qgj (LV hw Wa Wa _).2 Wa))) (Qa Z (hK _ ?_))))))
      refine Qd (ks6 Z Z Z Z Z Z (QH fun K hK => Qa Z (QY Z Z Wc (Qa Z (hK _ ?_)))))
      refine Qf (m + 1) ?_ ?_ ?_
      ·exact le_trans (ME (l := [1, 4, 5, 6, 10]) (lH := [1, 6]) 96 3 3 (kp5 rfl rfl rfl rfl rfl) (Qb rfl (Qb rfl Qi)) rfl rfl rfl rfl rfl rfl rfl) (QX (l := [1, 3, 4, 5, 6, 10]) (lH := [1, 3, 6]) (kp6 rfl rfl rfl rfl rfl rfl) (Qb rfl (Qb rfl (Qb rfl Qi))) (by rw [Lm Wa h6] <;> rfl) (by rw [Lm Wa h6] <;> rfl) rfl)
      ·omega
      ·first | omega | (simp only; omega) | (dsimp only; omega)
     ·try rw [h6]
      try simp only [qA] at h6
      refine Qr (Qd (ks6 Z Z Z Z Z Z (QH fun K hK => Qa Z (QY Z Z Wc (Qa Z (hK _ ?_))))))
      refine Qf (m + 1) ?_ ?_ ?_
      ·exact QX (l := [1, 3, 4, 5, 6, 10]) (lH := [1, 3, 6]) (kp6 rfl rfl rfl rfl rfl rfl) (Qb rfl (Qb rfl (Qb rfl Qi))) (by rw [Ck Wa h6] <;> rfl) (by rw [Ck Wa h6] <;> rfl) rfl
      ·omega
      ·first | omega | (simp only; omega) | (dsimp only; omega)
    ·try rw [h5]
     try simp only [qA] at h5
     refine Zb (QF (Qt (Qy (Qd (ks4 Z Z Z Z (QH fun K hK => Qa Z (QY Z Z Wc (Qa Z (hK _ ?_)))))))))
     refine Qf (i + 1) ?_ ?_ ?_
     ·exact QX (l := [1, 3, 4, 5]) (lH := [1, 3]) (kp4 rfl rfl rfl rfl) (Qb rfl (Qb rfl Qi)) (by rw [Rd Wa, Qgg (Wa : ((w[j]'Wa).cs[i]'Wa).bs.length <= m)] <;> rfl) (by rw [Rd Wa, Qgg (Wa : ((w[j]'Wa).cs[i]'Wa).bs.length <= m)] <;> rfl) rfl
     ·omega
     ·first | omega | (simp only; omega) | (dsimp only; omega)
  ·try rw [h2]
   try simp only [qA] at h2
   refine Zb (QF (Qt (Qy (Qd (ks3 Z Z Z (QH fun K hK => Qa Z (QY Z Z Wc (Qa Z (hK _ ?_)))))))))
   refine Qf (j + 1) ?_ ?_ ?_
   ·exact QX (l := [1, 3, 4]) (lH := [1, 3]) (kp3 rfl rfl rfl) (Qb rfl (Qb rfl Qi)) (by rw [T2 Wa, show (w[j]'Wa).cs.length = i by omega] <;> rfl) (by rw [T2 Wa, show (w[j]'Wa).cs.length = i by omega] <;> rfl) rfl
   ·omega
   ·first | omega | (simp only; omega) | (dsimp only; omega)
 ·try rw [h1]
  try simp only [qA] at h1
  refine Zb (QF (Qt (Qy (ks1 Z (Qc fun K hK => mv2 Z Z (kc1 hK Z ?_))))))
  refine Qq ?_
  exact JQ rfl rfl rfl Wf (by rw [Hw, show w.length = j by omega] <;> rfl)
end Go.Proofs
namespace M25
open Go Go.Abs M3
/-! ### Bits of numbers -/
theorem RX (e : Int) : IntKind.i64.wrap e = (BitVec.ofInt 64 e).toInt := by
 have hb : (BitVec.ofInt 64 e).toInt = if e % 18446744073709551616 < 9223372036854775808 then e % 18446744073709551616 else e % 18446744073709551616 - 18446744073709551616 := by
  rw [BitVec.toInt_ofInt]; rfl
 rw [hb]
 unfold IntKind.wrap
 simp only [IntKind.bits, IntKind.signed, Bool.true_and]
 split
 ·rename_i h
  have := of_decide_eq_true h
  split <;> omega
 ·rename_i h
  have : ¬ (e % 2 ^ 64 >= 2 ^ (64 - 1)) := fun hh => h (decide_eq_true hh)
  split <;> omega
theorem MW (b : BitVec 64) : BitVec.ofInt 64 (b.toNat : Int) = b := by
 rw [BitVec.ofInt_natCast, BitVec.ofNat_toNat, BitVec.setWidth_eq]
theorem Qbz (x y : Int) : BitVec.ofInt 64 (KY x y) = BitVec.ofInt 64 x &&& BitVec.ofInt 64 y := by
 show BitVec.ofInt 64 (IntKind.i64.wrap ((BitVec.ofInt 64 x &&& BitVec.ofInt 64 y).toNat : Int)) = _
 rw [RX, BitVec.ofInt_toInt, MW]
theorem QbA (x y : Int) : BitVec.ofInt 64 (NR x y) = BitVec.ofInt 64 x &&& ~~~ BitVec.ofInt 64 y := by
 show BitVec.ofInt 64 (IntKind.i64.wrap ((BitVec.ofInt 64 x &&& ~~~ BitVec.ofInt 64 y).toNat : Int)) = _
 rw [RX, BitVec.ofInt_toInt, MW]
theorem QaH {x : Int} (h : I64 x) : IntKind.i64.wrap x = x := Qm h.1 h.2
theorem Ln {x : Int} (h : I64 x) : (BitVec.ofInt 64 x).toInt = x := by rw [<- RX, QaH h]
theorem TI (x y : Int) : I64 (KY x y) := Pd _
theorem MB (x y : Int) : I64 (NR x y) := Pd _
def tb (x : Int) (i : Nat) : Bool := (BitVec.ofInt 64 x).getLsbD i
theorem B8 (x y : Int) (i : Nat) : tb (KY x y) i = (tb x i && tb y i) := by rw [tb, Qbz, BitVec.getLsbD_and]; rfl
theorem FR (x y : Int) {i : Nat} : tb (NR x y) i = (tb x i && !tb y i) := by
 rw [tb, QbA, BitVec.getLsbD_and, BitVec.getLsbD_not]
 by_cases h : i < 64
 ·simp [h, tb]
 ·simp [tb, BitVec.getLsbD_of_ge _ i (by omega : 64 <= i)]
theorem QdC (x : Int) {i : Nat} (h : 64 <= i) : tb x i = false := BitVec.getLsbD_of_ge _ i h
theorem Dk {x y : Int} (hx : I64 x) (hy : I64 y) (h : ∀ i, tb x i = tb y i) : x = y := by
 rw [<- Ln hx, <- Ln hy]
 congr 1
 exact BitVec.eq_of_getLsbD_eq fun i _ => h i
theorem RU (i : Nat) : tb 0 i = false := by
 show (BitVec.ofInt 64 0).getLsbD i = false
 rw [show BitVec.ofInt 64 0 = 0#64 from rfl, BitVec.getLsbD_zero]
theorem Mp {x : Int} (hx : I64 x) : x = 0 ↔ ∀ i, tb x i = false := by
 constructor
 ·rintro rfl i; exact RU i
 ·intro h; exact Dk hx ⟨Wa, Wa⟩ fun i => by rw [h i, RU]
theorem QbQ (n : Nat) {i : Nat} (h : i < 64) : tb (n : Int) i = n.testBit i := by
 rw [tb, BitVec.ofInt_natCast, BitVec.getLsbD_ofNat]; simp [h]
theorem QbR {k : Nat} (hk : k < 64) (i : Nat) : tb ((2 : Int) ^ k) i = decide (i = k) := by
 have e : ((2 ^ k : Nat) : Int) = (2 : Int) ^ k := by simp
 by_cases h : i < 64
 ·rw [<- e, QbQ _ h, Nat.testBit_two_pow]
  exact decide_eq_decide.2 eq_comm
 ·rw [QdC _ Wa]; exact (decide_eq_false Wa).symm
theorem GR (x m : Int) : IntKind.i64.wrap (x - KY x m) = NR x m := by
 have h : BitVec.ofInt 64 (x - KY x m) = BitVec.ofInt 64 x &&& ~~~ BitVec.ofInt 64 m := by
  rw [Int.sub_eq_add_neg, BitVec.ofInt_add, BitVec.ofInt_neg, <- BitVec.sub_eq_add_neg, Qbz]
  generalize BitVec.ofInt 64 x = a
  generalize BitVec.ofInt 64 m = b
  have h1 : (a &&& ~~~b) + (a &&& b) = a := by
   rw [BitVec.add_eq_or_of_and_eq_zero]
   ·ext i hi; simp; cases a[i] <;> cases b[i] <;> rfl
   ·ext i hi; simp
    cases a[i] <;> cases b[i] <;> simp
  exact (BitVec.sub_eq_iff_eq_add).2 h1.symm
 have e : NR x m = (BitVec.ofInt 64 (NR x m)).toInt := (Ln (MB x m)).symm
 rw [e, RX, h, QbA]
theorem Kq {x m : Int} : KY x m = 0 ↔ ∀ i, tb x i = true -> tb m i = false := by
 rw [Mp (TI x m)]
 refine forall_congr' fun i => ?_
 rw [B8]; cases tb x i <;> cases tb m i <;> simp
theorem L7 {x m : Int} : NR x m = 0 ↔ ∀ i, tb x i = true -> tb m i = true := by
 rw [Mp (MB x m)]
 refine forall_congr' fun i => ?_
 rw [FR]; cases tb x i <;> cases tb m i <;> simp
theorem Xh {x m : Int} (hx : I64 x) : KY x m = x ↔ ∀ i, tb x i = true -> tb m i = true := by
 constructor
 ·intro h i hi
  have := congrArg (fun z => tb z i) h
  simp only [B8, hi, Bool.true_and] at this
  exact this
 ·intro h
  refine Dk (TI x m) hx fun i => ?_
  rw [B8]
  cases hx2 : tb x i
  ·rfl
  ·rw [h i hx2]; rfl
theorem Nz {x m : Int} (hx : I64 x) : NR x m = x ↔ ∀ i, tb x i = true -> tb m i = false := by
 constructor
 ·intro h i hi
  have := congrArg (fun z => tb z i) h
  simp only [FR, hi, Bool.true_and] at this
  simpa using this
 ·intro h
  refine Dk (MB x m) hx fun i => ?_
  rw [FR]
  cases hx2 : tb x i
  ·rfl
  ·rw [h i hx2]; rfl
def Lo (x : Int) : Prop := 0 <= x /\ x < 131072
theorem Lo.i64 {x : Int} (h : Lo x) : I64 x := ⟨by have := h.1; omega, by have := h.2; omega⟩
theorem Lo.hi {x : Int} (h : Lo x) {i : Nat} (hi : 17 <= i) : tb x i = false := by
 obtain ⟨n, rfl⟩ := Int.eq_ofNat_of_zero_le h.1
 by_cases h6 : i < 64
 ·rw [QbQ _ h6, Nat.testBit_lt_two_pow]
  have h1 : (2 : Nat) ^ 17 <= 2 ^ i := Nat.pow_le_pow_right Wa hi
  have h2 : (2 : Nat) ^ 17 = 131072 := by decide
  have := h.2
  omega
 ·exact QdC _ Wa
theorem Lo.of {x : Int} (hx : I64 x) (h : ∀ i, 17 <= i -> tb x i = false) : Lo x := by
 have hb : (BitVec.ofInt 64 x).toNat < 2 ^ 17 := by
  refine Nat.lt_pow_two_of_testBit _ fun i hi => ?_
  exact h i hi
 have h2 : (2 : Nat) ^ 17 = 131072 := by decide
 have e := Ln hx
 rw [BitVec.toInt_eq_toNat_of_lt Wa] at e
 exact ⟨Wa, Wa⟩
theorem Qdr {x : Int} (h : Lo x) (m : Int) : Lo (NR x m) := Lo.of (MB x m) fun i hi => by rw [FR, h.hi hi]; rfl
theorem Qcv (w : Qn) (u : Int) : Lo (Y4 w u) := ⟨(Ft w u).1, by have := (Ft w u).2; omega⟩
theorem Qbm {x : Int} (hx : I64 x) (m : Int) : JY x m = Zy x m := by
 unfold Zy JY
 have : (Jx .andNot .i64 x m = 0) ↔ (Jx .and .i64 x m = x) := (L7 (x := x) (m := m)).trans (Xh hx).symm
 by_cases h : Jx .andNot .i64 x m = 0
 ·rw [if_pos h, if_pos (this.1 h)]
 ·rw [if_neg h, if_neg (fun e => h (this.2 e))]
theorem JE {x : Int} {k : Nat} (hk : k < 64) : KY x (2 ^ k) = 0 ↔ tb x k = false := by
 rw [Kq]
 constructor
 ·intro h
  cases hx : tb x k
  ·rfl
  ·have := h k hx; rw [QbR hk] at this; simp at this
 ·intro h i hi
  rw [QbR hk]
  by_cases e : i = k
  ·subst e; rw [h] at hi; cases hi
  ·exact decide_eq_false e
theorem Sn {x y : Int} (h : ∀ i, tb x i = true -> tb y i = true) : ∀ n, n <= 64 -> (Xi x n).length <= (Xi y n).length
 | 0, _ => Nat.le_refl _
 | n + 1, hn => by
  have := Sn h n Wa
  rw [Xi, Xi, List.length_append, List.length_append]
  by_cases hx : tb x n = true
  ·rw [if_neg (by rw [JE Wa, hx]; simp), if_neg (by rw [JE Wa, h n hx]; simp)]
   simp only [List.length_singleton]; omega
  ·rw [if_pos (by rw [JE Wa]; simpa using hx)]
   simp only [List.length_nil]; omega
theorem So {x y : Int} (h : ∀ i, tb x i = true -> tb y i = true) {k : Nat} (h1 : tb x k = false) (h2 : tb y k = true) : ∀ n, n <= 64 -> k < n -> (Xi x n).length < (Xi y n).length
 | 0, _, hk => Wa
 | n + 1, hn, hk => by
  rw [Xi, Xi, List.length_append, List.length_append]
  by_cases e : k = n
  ·subst e
   have := Sn h k Wa
   rw [if_pos ((JE Wa).2 h1), if_neg (by rw [JE Wa, h2]; simp)]
   simp only [List.length_nil, List.length_singleton]; omega
  ·have := So h h1 h2 n Wa Wa
   by_cases hx : tb x n = true
   ·rw [if_neg (by rw [JE Wa, hx]; simp), if_neg (by rw [JE Wa, h n hx]; simp)]
    simp only [List.length_singleton]; omega
   ·rw [if_pos (by rw [JE Wa]; simpa using hx)]
    simp only [List.length_nil]; omega
theorem Qcn {x m : Int} (hx : Lo x) (h : KY x m ≠ 0) : (KL (NR x m)).length < (KL x).length := by
 have : ∃ k, tb x k = true /\ tb m k = true := by
  refine Classical.byContradiction fun hn => h (Kq.2 fun i hi => ?_)
  cases hm : tb m i
  ·rfl
  ·exact absurd ⟨i, hi, hm⟩ hn
 obtain ⟨k, h1, h2⟩ := this
 have hk : k < 17 := Classical.byContradiction fun hk => by rw [hx.hi Wa] at h1; cases h1
 exact So (fun i hi => by rw [FR] at hi; simp at hi; exact hi.1) (k := k) (by rw [FR, h1, h2]; rfl) h1 17 Wa hk
open Go Go.Abs M3
/-! ### Trails: the loops' laws -/
theorem Kg (w : Qn) (l : List QL) (s : QL) (u : Int) : Q9 w (l ++ [s]) u = if s.u = u /\ inW w u = true then s.m else Q9 w l u := by
 rw [Q9, List.foldl_append]; rfl
theorem FQ {α : Type} {l : List α} {i k : Nat} (hk : k + 1 = i) (h : k < l.length) : l.take i = l.take k ++ [l[k]] := by
 subst hk; rw [List.take_succ_eq_append_getElem h]
theorem QaS {w : Qn} {l : List QL} {u : Int} {i k : Nat} (hk : k + 1 = i) (h : k < l.length) (hu : l[k].u = u) (hw : inW w u = true) : Q9 w (l.take i) u = l[k].m := by
 rw [FQ hk h, Kg, if_pos ⟨hu, hw⟩]
theorem MJ {w : Qn} {l : List QL} {u : Int} {i k : Nat} (hk : k + 1 = i) (h : k < l.length) (hu : ¬ l[k].u = u \/ ¬ 0 <= u \/ ¬ u < w.length) : Q9 w (l.take i) u = Q9 w (l.take (i - 1)) u := by
 rw [FQ hk h, Kg, if_neg, show i - 1 = k by omega]
 rintro ⟨h1, h2⟩
 rw [Hp] at h2
 rcases hu with hu | hu | hu
 ·exact hu h1
 ·exact hu h2.1
 ·exact hu h2.2
theorem Fq {w : Qn} {l : List QL} {u : Int} (h : inW w u = false) : Q9 w l u = 0 := by
 have hf : Y4 w u = 0 := Fu (by
  refine Classical.byContradiction fun hn => ?_
  rw [MD Wa Wa] at h; cases h)
 suffices hs : ∀ a, l.foldl (fun a s => if s.u = u /\ inW w u = true then s.m else a) a = a by rw [Q9, hs, hf]
 induction l with
 | nil => intro a; rfl
 | cons s l ih => intro a; rw [List.foldl_cons, if_neg (by rw [h]; simp), ih]
def HA (w : Qn) (l : List QL) (u : Int) : Int := l.foldl (fun a s => if s.u = u then s.m else a) (Y4 w u)
theorem QaR {w : Qn} {l : List QL} {u : Int} (h : inW w u = true) : HA w l u = Q9 w l u := by
 unfold HA Q9
 simp only [h, and_true]
theorem PE (w : Qn) (l : List QL) (s : QL) (u : Int) : HA w (l ++ [s]) u = if s.u = u then s.m else HA w l u := by
 rw [HA, List.foldl_append]; rfl
theorem C3 {w : Qn} {l : List QL} {u : Int} {i k : Nat} (hk : k + 1 = i) (h : k < l.length) (hu : l[k].u = u) : HA w (l.take i) u = l[k].m := by
 rw [FQ hk h, PE, if_pos hu]
theorem DO {w : Qn} {l : List QL} {u : Int} {i k : Nat} (hk : k + 1 = i) (h : k < l.length) (hu : ¬ l[k].u = u) : HA w (l.take i) u = HA w (l.take (i - 1)) u := by
 rw [FQ hk h, PE, if_neg hu, show i - 1 = k by omega]
theorem Mu {w : Qn} {u : Int} : Y4 w u = 0 ↔ inW w u = false := by
 constructor
 ·intro h
  cases hw : inW w u
  ·rfl
  ·rw [Hp] at hw
   rw [RC hw.1 hw.2] at h
   have h2 : 2 <= (2 : Int) ^ (min (w[u.toNat]'Wa).cs.length 16 + 1) := by
    rw [Int.pow_succ]
    have := QcD (n := min (w[u.toNat]'Wa).cs.length 16) Wa
    omega
   omega
 ·intro h
  refine Fu (Classical.byContradiction fun hn => ?_)
  rw [MD Wa Wa] at h; cases h
theorem SG {l : List QL} (h : (l.length : Int) = 0) : XB l = 0 := by
 have e : l = [] := List.eq_nil_of_length_eq_zero Wa
 subst e; rfl
theorem LR {l : List QL} {k : Nat} (hk : k + 1 = l.length) : XB l = (l[k]'Wa).l := by
 rw [XB, List.getLast?_eq_getElem?, show l.length - 1 = k by omega, List.getElem?_eq_getElem Wa]
theorem Qa2 : ∀ {l : List Int}, ¬ (l.length : Int) = 1 -> QcB l = -1
 | [], _ => rfl
 | [x], h => by simp at h
 | x :: y :: l, _ => rfl
theorem Bq : ∀ {l : List Int} (h : (l.length : Int) = 1), QcB l = l[(0 : Int).toNat]'Wh
 | [], h => by simp at h
 | [x], _ => rfl
 | x :: y :: l, h => by simp at h; omega
theorem Qa7 {m : Int} (h : ¬ ((KL m).length : Int) = 1) : MR m = -1 := Qa2 h
theorem By {m : Int} (h : ((KL m).length : Int) = 1) : MR m = (KL m)[(0 : Int).toNat]'Wh := Bq h
def QcA (w : Qn) (l : List QL) (i : Nat) : Bool := match l[i]? with
 | some s => Fy w (l.take i) s
 | none => true
theorem FB {w : Qn} {l : List QL} {i : Nat} (h : i < l.length) : QcA w l i = Fy w (l.take i) l[i] := by
 rw [QcA, List.getElem?_eq_getElem h]
theorem LY (w : Qn) (l : List QL) : Nd w l = (List.range l.length).all (QcA w l) := rfl
theorem Xv {w : Qn} {l : List QL} {s : QL} (h : s.u < 0 \/ (w.length : Int) <= s.u \/ s.c < -1) : Fy w l s = false := by
 unfold Fy
 rcases h with h | h | h
 ·rw [KF (.inl h)]; rfl
 ·rw [KF (.inr h)]; rfl
 ·rw [decide_eq_false (Wa : ¬ -1 <= s.c)]; simp
theorem Ya {w : Qn} {l : List QL} {s : QL} (h0 : 0 <= s.u) (h1 : s.u < w.length) (h2 : -1 <= s.c) : Fy w l s = (decide (KY s.m (Q9 w l s.u) = s.m) &&
  if s.c = -1 then decide (0 <= MR s.m) && !Fs l s.u && decide (s.l = IntKind.i64.wrap (XB l + 1))
  else !decide (s.m = 0) && !decide (s.m = Q9 w l s.u) && decide (s.l = XB l)) := by
 rw [Fy, MD h0 h1, decide_eq_true h2]; rfl
theorem HQ {w : Qn} {l : List QL} {t : TermT} {c : Int} (h : c < 0 \/ t.u < 0 \/ (w.length : Int) <= t.u) : Ym w l t c = none := by
 rw [Ym, if_pos]
 rcases h with h | h
 ·exact .inl h
 ·exact .inr (KF h)
theorem Kx {w : Qn} {l : List QL} {t : TermT} {c : Int} (h : IntKind.i64.wrap (Q9 w l t.u - KY (Q9 w l t.u) t.m) = 0 \/ IntKind.i64.wrap (Q9 w l t.u - KY (Q9 w l t.u) t.m) = Q9 w l t.u) : Ym w l t c = none := by
 rw [Ym]
 split
 ·rfl
 ·first | rfl | rw [if_pos h]
theorem Pv {w : Qn} {l : List QL} {t : TermT} {c : Int} (h0 : ¬ c < 0) (h1 : inW w t.u = true) (h2 : ¬ IntKind.i64.wrap (Q9 w l t.u - KY (Q9 w l t.u) t.m) = 0) (h3 : ¬ IntKind.i64.wrap (Q9 w l t.u - KY (Q9 w l t.u) t.m) = Q9 w l t.u) :
  Ym w l t c = some (l ++ [⟨t.u, IntKind.i64.wrap (Q9 w l t.u - KY (Q9 w l t.u) t.m), XB l, c⟩]) := by
 rw [Ym, if_neg (by rw [h1]; simp [h0]), if_neg (by simp [h2, h3])]
theorem Pu (w : Qn) (l : List QL) (t : TermT) (c : Int) : ((Ym w l t c).getD []).length <= l.length + 1 := by
 unfold Ym
 split
 ·simp
 ·split <;> simp
def YK (w : Qn) (l : List QL) : Prop := ∀ s ∈ l, Lo s.m
theorem XT {w : Qn} {l : List QL} (h : YK w l) (u : Int) : Lo (Q9 w l u) := by
 suffices hs : ∀ (l : List QL) a, (∀ s ∈ l, Lo s.m) -> Lo a -> Lo (l.foldl (fun a s => if s.u = u /\ inW w u = true then s.m else a) a) from hs l _ h (Qcv w u)
 intro l
 induction l with
 | nil => intro a _ h; exact h
 | cons s l ih =>
  intro a hl ha
  rw [List.foldl_cons]
  refine ih _ (fun t ht => hl t (by simp [ht])) ?_
  split
  ·exact hl s Wf
  ·exact ha
theorem Cw {w : Qn} {l : List QL} {t : TermT} {c : Int} (hl : YK w l) (h : KY (Q9 w l t.u) t.m = 0) : Ym w l t c = none :=
 Kx (.inr (by rw [GR, Nz (XT hl _).i64, <- Kq]; exact h))
theorem Cx {w : Qn} {l : List QL} {t : TermT} {c : Int} (h : NR (Q9 w l t.u) t.m = 0) : Ym w l t c = none :=
 Kx (.inl (by rw [GR]; exact h))
theorem Sl {w : Qn} {l : List QL} {t : TermT} {c : Int} (hl : YK w l) (h0 : ¬ c < 0) (h1 : ¬ KY (Q9 w l t.u) t.m = 0) (h2 : ¬ NR (Q9 w l t.u) t.m = 0) : Ym w l t c = some (l ++ [⟨t.u, NR (Q9 w l t.u) t.m, XB l, c⟩]) := by
 have hin : inW w t.u = true := by
  cases hw : inW w t.u
  ·rw [Fq hw] at h1
   exact absurd (Kq.2 fun i hi => by rw [RU] at hi; cases hi) h1
  ·rfl
 rw [Pv h0 hin (by rw [GR]; exact h2) (by rw [GR, Nz (XT hl _).i64, <- Kq]; exact h1), GR]
theorem F5 {w : Qn} {l : List QL} {u p : Int} (h : (u < 0 \/ (w.length : Int) <= u) \/ p < 0) : Xr w l u p = none := by
 unfold Xr
 split
 ·rfl
 ·rename_i x hx
  rcases h with h | h
  ·rw [La h] at hx; cases hx
  ·rw [if_pos (.inl h)]
theorem DB {w : Qn} {l : List QL} {u p : Int} (h0 : 0 <= u) (h1 : u < w.length) (h : ((w[u.toNat]'Wa).cs.length : Int) <= p) : Xr w l u p = none := by
 rw [Xr, Dm h0 h1]
 simp only []
 rw [if_pos (.inr h)]
def Qcm (l : List QL) (u p : Int) : QL := ⟨u, IntKind.i64.wrap (2 * 2 ^ min p.toNat 64), IntKind.i64.wrap (XB l + 1), -1⟩
theorem Cv {w : Qn} {l : List QL} {u p : Int} (h : Fy w l (Qcm l u p) = false) : Xr w l u p = none := by
 unfold Xr
 split
 ·rfl
 ·split
  ·rfl
  ·simp only [Qcm] at h
   rw [if_neg (by rw [h]; simp)]
theorem DF {w : Qn} {l : List QL} {u p : Int} (h0 : 0 <= u) (h1 : u < w.length) (h2 : ¬ p < 0) (h3 : ¬ ((w[u.toNat]'Wa).cs.length : Int) <= p) (h : Fy w l (Qcm l u p) = true) : Xr w l u p = some (l ++ [Qcm l u p]) := by
 rw [Xr, Dm h0 h1]
 simp only []
 rw [if_neg Wa]
 simp only [Qcm] at h ⊢
 rw [if_pos h]
theorem KN {h : Int -> Int} {inc : List TermT} {a : Int} {i : Nat} (hi : i < inc.length) : ZD h (inc.drop i) a = if Zy (h inc[i].u) inc[i].m = 0 then -1 else if Zy (h inc[i].u) inc[i].m = 1 then (if 0 <= a then -1 else ZD h (inc.drop (i + 1)) inc[i].u) else ZD h (inc.drop (i + 1)) a := by
 rw [Qgh hi, ZD]
theorem SS {h : Int -> Int} {inc : List TermT} {a : Int} {i : Nat} (hi : inc.length <= i) : ZD h (inc.drop i) a = a := by
 rw [Qgl hi, ZD]
theorem T3 {w : Qn} {l : List QL} {db : List (List TermT)} {i : Nat} (hi : i < db.length) : Yo w l i (db.drop i) = if GN w l db[i] = true then ((i : Int), -1) else if 0 <= GM w l db[i] then ((i : Int), GM w l db[i]) else Yo w l (i + 1) (db.drop (i + 1)) := by
 rw [Qgh hi, Yo]
theorem Qbd {w : Qn} {l : List QL} {db : List (List TermT)} {i : Nat} (hi : db.length <= i) : Yo w l i (db.drop i) = (-1, -1) := by
 rw [Qgl hi, Yo]
theorem N6 (w : Qn) (l : List QL) : ∀ (db : List (List TermT)) (i : Nat), (Yo w l i db = (-1, -1)) \/ ∃ k, i <= k /\ ∃ hk : k - i < db.length, (Yo w l i db = ((k : Int), -1) /\ GN w l db[k - i] = true) \/ (GN w l db[k - i] = false /\ 0 <= GM w l db[k - i] /\ Yo w l i db = ((k : Int), GM w l db[k - i]))
 | [], i => .inl rfl
 | x :: db, i => by
  rw [Yo]
  by_cases h1 : GN w l x = true
  ·rw [if_pos h1]; exact .inr ⟨i, Nat.le_refl _, by simp, .inl ⟨rfl, by simpa using h1⟩⟩
  ·rw [if_neg h1]
   by_cases h2 : 0 <= GM w l x
   ·rw [if_pos h2]; exact .inr ⟨i, Nat.le_refl _, by simp, .inr ⟨by simpa using h1, by simpa using h2, by simp⟩⟩
   ·rw [if_neg h2]
    rcases N6 w l db (i + 1) with h | ⟨k, hk, hlt, h⟩
    ·exact .inl h
    ·refine .inr ⟨k, Wa, by simp only [List.length_cons]; omega, ?_⟩
     have e : (x :: db)[k - i]'(by simp only [List.length_cons]; omega) = db[k - (i + 1)] := by
      obtain ⟨j, hj⟩ : ∃ j, k - i = j + 1 := ⟨k - i - 1, Wa⟩
      simp only [hj, List.getElem_cons_succ]
      congr 1; omega
     rw [e]; exact h
theorem S5 {w : Qn} {l : List QL} {db : List (List TermT)} (h : ¬ (ZE w db l).2 < 0) : 0 <= (ZE w db l).1 /\ (ZE w db l).1 < db.length := by
 unfold ZE at h ⊢
 rcases N6 w l db 0 with e | ⟨k, _, hk, ⟨e, _⟩ | ⟨_, _, e⟩⟩
 ·rw [e] at h; simp at h
 ·rw [e] at h; simp at h
 ·rw [e]; simp only; omega
theorem H6 {w : Qn} {db : List (List TermT)} {n : Nat} {out : List QL} (h : (ZE w db out).2 < 0) (hn : 0 < n) : KP w db n out = (out, (ZE w db out).1) := by
 obtain ⟨m, rfl⟩ : ∃ m, n = m + 1 := ⟨n - 1, Wa⟩
 rw [KP, if_pos h]
theorem Dg {w : Qn} {db : List (List TermT)} {n : Nat} {out : List QL} (h : ¬ (ZE w db out).2 < 0) (hn : 0 < n) (hd : (ZE w db out).1.toNat < db.length) : KP w db n out = KP w db (n - 1) ((Ym w out ⟨(ZE w db out).2, GL w db[(ZE w db out).1.toNat] (ZE w db out).2⟩ (ZE w db out).1).getD []) := by
 obtain ⟨m, rfl⟩ : ∃ m, n = m + 1 := ⟨n - 1, Wa⟩
 rw [KP, if_neg h, List.getD_eq_getElem?_getD, List.getElem?_eq_getElem hd]; rfl
end M25
namespace Go.Proofs
open Go Go.Abs M3 M25
theorem Zi {w : Qn} (hw : WSm w) {l : List QL} (hl : l.length <= 10000000) {u : Int} : Ok Tryz.prog 11 [Z4 w, Zv l, .int .i64 u] (.int .i64 (Q9 w l u)) := by
 refine Ok.ofT Z2 Tryz.func11 Qew (Qf0 Z) ?_
 show TW _ _ tf11.body _ _
 refine Qc fun K hK => Zx Z Z Z (Qa Z (kc3 hK Z Z Z ?_))
 refine Qw ?_ -- 0
 refine Qc fun K hK => Qa Z ?_
 first | refine QN rfl QP ?_ | refine QN rfl rfl ?_
 refine Jf Z Z Wc (Qa Z (kc4 hK Z Z Z Z ?_))
 refine Qu ?_
 refine Zh (ι := Nat) (fun i => ⟨[(1, Zv l), (2, .int .i64 u), (3, .ref 3 0 0), (7, .int .i64 ((i : Int) - 1))], [(3, ⟨[[.sl ((w).map Yg)]], 1, 26, true⟩)]⟩) (fun i => i <= l.length /\ Q9 w l u = Q9 w (l.take i) u) (fun i => i) l.length ?_ ?_ ?_
 ·exact QX (l := [1, 2, 3, 7]) (lH := [3]) (kp4 rfl rfl rfl rfl) (Qb rfl Qi) rfl rfl rfl
 ·exact ⟨Nat.le_refl _, by rw [List.take_length]⟩
 intro i hI
 try dsimp only
 refine Qw ?_ -- 1
 refine Qc fun K hK => Qa Z (FT Z Z (kc5 hK Z Z Z Z Z ?_))
 refine Qs Z (fun h1 => ?_) (fun h1 => ?_)
 ·try rw [h1]
  try simp only [qA] at h1
  refine Qr (ks4 Z Z Z Z ?_)
  refine Qw ?_ -- 2
  refine Qu (Qc fun K hK => mv2 Z Z (QG Z Z Z Wa (Zq Wa Wa) Z (Q6 Z Z (Qx Z Z Z (Qa Z (ZO Z Z (Qa Z ?_)))))))
  refine QB (g := 22) Z (fun h2 => ?_) (fun h2 => ?_)
  ·try rw [h2]
   try simp only [qA] at h2
   refine Qh Z (Qa Z (Qh Z (FT Z Z (Ql Z Z (Qa Z ?_)))))
   refine QB (g := 26) Z (fun h3 => ?_) (fun h3 => ?_)
   ·try rw [h3]
    try simp only [qA] at h3
    refine Qh Z (Qa Z (Qh Z (Qe Z Z (Qh Z (Qx Z Z Z (Qh Z ?_))))))
    first | refine QN rfl QP ?_ | refine QN rfl rfl ?_
    refine Qh Z (Z7 Z Z (Ql Z Z (kc5 hK Z Z Z Z Z ?_)))
    refine Qs Z (fun h4 => ?_) (fun h4 => ?_)
    ·try rw [h4]
     try simp only [qA] at h4
     refine Qc fun K hK => mv2 Z Z (QG Z Z Z Wa (Zq Wa Wa) Z (Q6 Z Z (Qx Z Z Z (Qa Z (kc1 hK Z ?_)))))
     refine Qq (Qo (Qg (Q0 (Qo (Qg (QC Z ?_))))))
     rw [hI.2, QaS (k := ((i : Int) - 1).toNat) Wa Wa h2 (MD Wa Wa)]
    ·try rw [h4]
     try simp only [qA] at h4
     refine Qr (Qd (ks4 Z Z Z Z (QH fun K hK => Qa Z (Jf Z Z Wc (Qa Z (hK _ ?_))))))
     refine Qf (i - 1) ?_ ?_ ?_
     ·exact QX (l := [1, 2, 3, 7]) (lH := [3]) (kp4 rfl rfl rfl rfl) (Qb rfl Qi) (by simp only [List.cons.injEq, Prod.mk.injEq, D.int.injEq, and_true, true_and]; omega) rfl rfl
     ·exact ⟨Wa, by rw [hI.2, MJ (k := ((i : Int) - 1).toNat) Wa Wa (by first | exact .inl h2 | exact .inr (.inl h3) | exact .inr (.inr h4))]⟩
     ·first | omega | (simp only; omega) | (dsimp only; omega)
   ·try rw [h3]
    try simp only [qA] at h3
    refine gn4 Z Z Z Z (Xx Z (Ql Z Z (kc5 hK Z Z Z Z Z ?_)))
    refine ZG Z (Qr (Qd (ks4 Z Z Z Z (QH fun K hK => Qa Z (Jf Z Z Wc (Qa Z (hK _ ?_)))))))
    refine Qf (i - 1) ?_ ?_ ?_
    ·exact QX (l := [1, 2, 3, 7]) (lH := [3]) (kp4 rfl rfl rfl rfl) (Qb rfl Qi) (by simp only [List.cons.injEq, Prod.mk.injEq, D.int.injEq, and_true, true_and]; omega) rfl rfl
    ·exact ⟨Wa, by rw [hI.2, MJ (k := ((i : Int) - 1).toNat) Wa Wa (by first | exact .inl h2 | exact .inr (.inl h3) | exact .inr (.inr h4))]⟩
    ·first | omega | (simp only; omega) | (dsimp only; omega)
  ·try rw [h2]
   try simp only [qA] at h2
   refine gn2 Z Z (Ql Z Z (Qa Z (gn4 Z Z Z Z (Xx Z (Ql Z Z (kc5 hK Z Z Z Z Z ?_))))))
   refine ZG Z (Qr (Qd (ks4 Z Z Z Z (QH fun K hK => Qa Z (Jf Z Z Wc (Qa Z (hK _ ?_)))))))
   refine Qf (i - 1) ?_ ?_ ?_
   ·exact QX (l := [1, 2, 3, 7]) (lH := [3]) (kp4 rfl rfl rfl rfl) (Qb rfl Qi) (by simp only [List.cons.injEq, Prod.mk.injEq, D.int.injEq, and_true, true_and]; omega) rfl rfl
   ·exact ⟨Wa, by rw [hI.2, MJ (k := ((i : Int) - 1).toNat) Wa Wa (by first | exact .inl h2 | exact .inr (.inl h3) | exact .inr (.inr h4))]⟩
   ·first | omega | (simp only; omega) | (dsimp only; omega)
 ·try rw [h1]
  try simp only [qA] at h1
  refine Zb (QF (Qt (Qy (ks2 Z Z (Qc fun K hK => QE (cs := [_]) Z Z Z Z (Qa Z (QD (ZA hw) Z Z (.inr Z) (Qa Z (kc1 hK Z ?_)))))))))
  refine Qq (QC Z ?_)
  rw [hI.2, show i = 0 by omega]; rfl
theorem Ye {l : List QL} (hl : l.length <= 10000000) : Ok Tryz.prog 43 [Zv l] (.int .i64 (XB l)) := by
 refine Ok.ofT Z2 Tryz.func43 Qe2 (Qf0 Z) ?_
 show TW _ _ tf43.body _ _
 refine Qc fun K hK => Qa Z (kc1 hK Z ?_)
 refine Qw ?_ -- 0
 refine Qc fun K hK => Qa Z ?_
 first | refine QN rfl QP ?_ | refine QN rfl rfl ?_
 refine ZO Z Z (kc2 hK Z Z ?_)
 refine Qs Z (fun h1 => ?_) (fun h1 => ?_)
 ·try rw [h1]
  try simp only [qA] at h1
  refine Qc fun K hK => Qa Z (kc1 hK Z ?_)
  refine Qq (Qg (QC Z ?_))
  rw [SG h1]
 ·try rw [h1]
  try simp only [qA] at h1
  refine Qr (ks1 Z (Qc fun K hK => mv2 Z Z ?_))
  first | refine QN rfl QP ?_ | refine QN rfl rfl ?_
  refine Jf Z Z Wc (QG Z Z Z Wa (Zq Wa Wa) Z (Q6 Z Z (Qx Z Z Z (Qa Z (kc1 hK Z ?_)))))
  refine Qq (QC Z ?_)
  rw [LR (k := ((l.length : Int) - 1).toNat) Wa]
theorem Kt {l : List QL} (hl : l.length <= 10000000) {u : Int} : Ok Tryz.prog 67 [Zv l, .int .i64 u] (.bool (Fs l u)) := by
 refine Ok.ofT Z2 Tryz.func67 Qfq (Qf0 Z) ?_
 show TW _ _ tf67.body _ _
 refine Qc fun K hK => Qa Z (kc2 hK Z Z ?_)
 refine Qw ?_ -- 0
 refine Qc fun K hK => Qa Z (kc3 hK Z Z Z ?_)
 refine Qu ?_
 refine Zh (ι := Nat) (fun i => ⟨[(0, Zv l), (1, .int .i64 u), (5, .int .i64 i)], []⟩) (fun i => i <= l.length /\ (l.take i).any (fun s => decide (s.u = u) && decide (s.c = -1)) = false) (fun i => l.length - i) 0 ?_ ?_ ?_
 ·exact Ze (kp3 rfl rfl rfl)
 ·exact ⟨Qgc _, by simp⟩
 intro i hI
 try dsimp only
 refine Qw ?_ -- 1
 refine Qc fun K hK => mv2 Z Z ?_
 first | refine QN rfl QP ?_ | refine QN rfl rfl ?_
 refine Z7 Z Z (kc4 hK Z Z Z Z ?_)
 refine Qs Z (fun h1 => ?_) (fun h1 => ?_)
 ·try rw [h1]
  try simp only [qA] at h1
  refine Qr (ks3 Z Z Z ?_)
  refine Qw ?_ -- 2
  refine Qu (Qc fun K hK => mv2 Z Z (QG Z Z Z Wa (QS Wa) Z (Q6 Z Z (Qx Z Z Z (Qa Z (ZO Z Z (Qa Z ?_)))))))
  refine QB (g := 19) Z (fun h2 => ?_) (fun h2 => ?_)
  ·try rw [h2]
   try simp only [qA] at h2
   refine Qh Z (Qa Z (Qh Z (Qa Z (Qh Z (QG Z Z Z Wa (QS Wa) Z (Qh Z (Q6 Z Z (Qh Z (Qx Z Z Z (Qh Z (ZO Z Z ?_)))))))))))
   refine Ql Z Z (kc4 hK Z Z Z Z ?_)
   refine Qs Z (fun h3 => ?_) (fun h3 => ?_)
   ·try rw [h3]
    try simp only [qA] at h3
    refine Qc fun K hK => Qa Z (kc1 hK Z ?_)
    refine Qq (Qo (Qg (Q0 (Qo (Qg (Qp Z ?_))))))
    rw [Fs, Tq (i := i) Wa (by simp [h2, h3])]
   ·try rw [h3]
    try simp only [qA] at h3
    refine Qr (Qd (ks3 Z Z Z (QH fun K hK => Qa Z (QY Z Z Wc (Qa Z (hK _ ?_))))))
    refine Qf (i + 1) ?_ ?_ ?_
    ·exact Ze (kp3 rfl rfl rfl)
    ·exact ⟨Wa, R7 Wa hI.2 (by first | (simp [h2, h3]; done) | (simp [h2]; done))⟩
    ·first | omega | (simp only; omega) | (dsimp only; omega)
  ·try rw [h2]
   try simp only [qA] at h2
   refine gn4 Z Z Z Z (gn2 Z Z (Ql Z Z (kc4 hK Z Z Z Z ?_)))
   refine ZG Z (Qr (Qd (ks3 Z Z Z (QH fun K hK => Qa Z (QY Z Z Wc (Qa Z (hK _ ?_)))))))
   refine Qf (i + 1) ?_ ?_ ?_
   ·exact Ze (kp3 rfl rfl rfl)
   ·exact ⟨Wa, R7 Wa hI.2 (by first | (simp [h2, h3]; done) | (simp [h2]; done))⟩
   ·first | omega | (simp only; omega) | (dsimp only; omega)
 ·try rw [h1]
  try simp only [qA] at h1
  refine Zb (QF (Qt (Qy (Zf (ZJ) (Qc fun K hK => Qa Z (kc1 hK Z ?_))))))
  refine Qq (Qp Z ?_)
  rw [Fs, Cj (i := i) Wa hI.2]
theorem Hh {m : Int} : Ok Tryz.prog 66 [.int .i64 m] (.int .i64 (MR m)) := by
 refine Ok.ofT Z2 Tryz.func66 Qfp (Qf0 Z) ?_
 show TW _ _ tf66.body _ _
 refine Qc fun K hK => Qa Z (kc1 hK Z ?_)
 refine Qc fun K hK => Qa Z (QD (XV) Z Z (.inl Z) (Qa Z (kc1 hK Z ?_)))
 refine Qw ?_ -- 0
 refine Qc fun K hK => Qa Z ?_
 first | refine QN rfl QP ?_ | refine QN rfl rfl ?_
 refine X3 Z Z (kc2 hK Z Z ?_)
 refine Qs Z (fun h1 => ?_) (fun h1 => ?_)
 ·try rw [h1]
  try simp only [qA] at h1
  refine Qc fun K hK => Qa Z (kc1 hK Z ?_)
  refine Qq (Qg (QC Z ?_))
  rw [Qa7 h1]
 ·try rw [h1]
  try simp only [qA] at h1
  refine Qr (ks1 Z (Qc fun K hK => Qa Z (QG Z Z Z Wa (Zq Wa Wa) Z (Qx Z Z Z (Qa Z (kc1 hK Z ?_))))))
  refine Qq (QC Z ?_)
  rw [By h1]
theorem Gp {w : Qn} (hw : WSm w) {l : List QL} (hl : l.length <= 10000000) {s : QL} : Ok Tryz.prog 44 [Z4 w, Zv l, .agg (Sk s)] (.bool (Fy w l s)) := by
 refine Ok.ofT Z2 Tryz.func44 Qe3 (Qf0 Z) ?_
 show TW _ _ tf44.body _ _
 refine Qc fun K hK => Zx Z Z Z (Zx Z Z Z (Qa Z (kc3 hK Z Z Z ?_)))
 refine Qw ?_ -- 0
 refine Qc fun K hK => Qe Z Z (Qx Z Z Z (Z7 Z Z (Qa Z ?_)))
 refine QB (g := 11) Z (fun h1 => ?_) (fun h1 => ?_)
 ·try rw [h1]
  try simp only [qA] at h1
  refine gn4 Z Z Z Z (gn2 Z Z (Ql Z Z (Qa Z (gn3 Z Z Z (Ql Z Z ?_)))))
  refine kc4 hK Z Z Z Z ?_
  refine Zt Z (Qc fun K hK => Qa Z (kc1 hK Z ?_))
  refine Qq (Qg (Qp Z ?_))
  (repeat clear hK K); first | (rw [Xv Wa]; done) | (rw [Ya Wa Wa Wa]; simp_all; done) | (rw [Ya Wa Wa Wa]; simp_all; omega)
 ·try rw [h1]
  try simp only [qA] at h1
  refine Qh Z (Qe Z Z (Qh Z (Qx Z Z Z (Qh Z (Qe Z Z (Qh Z (Qx Z Z Z (Qh Z ?_))))))))
  first | refine QN rfl QP ?_ | refine QN rfl rfl ?_
  refine Qh Z (FT Z Z (Ql Z Z (Qa Z ?_)))
  refine QB (g := 19) Z (fun h2 => ?_) (fun h2 => ?_)
  ·try rw [h2]
   try simp only [qA] at h2
   refine gn3 Z Z Z (Ql Z Z (kc4 hK Z Z Z Z ?_))
   refine Zt Z (Qc fun K hK => Qa Z (kc1 hK Z ?_))
   refine Qq (Qg (Qp Z ?_))
   (repeat clear hK K); first | (rw [Xv Wa]; done) | (rw [Ya Wa Wa Wa]; simp_all; done) | (rw [Ya Wa Wa Wa]; simp_all; omega)
  ·try rw [h2]
   try simp only [qA] at h2
   refine Qh Z (Qe Z Z (Qh Z (Qx Z Z Z (Qh Z (Z7 Z Z (Ql Z Z (kc4 hK Z Z Z Z ?_)))))))
   refine Qs Z (fun h3 => ?_) (fun h3 => ?_)
   ·try rw [h3]
    try simp only [qA] at h3
    refine Qc fun K hK => Qa Z (kc1 hK Z ?_)
    refine Qq (Qg (Qp Z ?_))
    (repeat clear hK K); first | (rw [Xv Wa]; done) | (rw [Ya Wa Wa Wa]; simp_all; done) | (rw [Ya Wa Wa Wa]; simp_all; omega)
   ·try rw [h3]
    try simp only [qA] at h3
    refine Qr (ks3 Z Z Z (Qc fun K hK => QE (cs := [_]) Z Z Z Z (Qa Z (Qe Z Z (Qx Z Z Z (QD (Zi hw hl) Z Z (.inr Z) (Qa Z (kc3 hK Z Z Z ?_))))))))
    refine Qw ?_ -- 1
    refine Qc fun K hK => Qe Z Z (Qx Z Z Z (ZO Z Z (kc4 hK Z Z Z Z ?_)))
    refine Qs Z (fun h4 => ?_) (fun h4 => ?_)
    ·try rw [h4]
     try simp only [qA] at h4
     refine Qc fun K hK => Qe Z Z (QR (ds0 := [26, 25, 24, 23, 22, 21, 20, 19, 18, 17, 16, 15, 14, 13, 12, 11, 10, 9, 8, 7, 6, 5, 4, 3, 2, 1, 0]) Z Z Z Z Z (QQ (ds0 := [25, 24, 23, 22, 21, 20, 19, 18, 17, 16, 15, 14, 13, 12, 11, 10, 9, 8, 7, 6, 5, 4, 3, 2, 1, 0]) (Hh) Z Z (.inr Z) Z Z (FT Z Z (Qa Z ?_))))
     refine QB (g := 36) Z (fun h5 => ?_) (fun h5 => ?_)
     ·try rw [h5]
      try simp only [qA] at h5
      refine Qh Z (Qe Z Z (Qh Z (QR (ds0 := [20, 17, 16, 15, 14, 13, 12, 11, 10, 9, 8, 7, 6, 5, 4, 3, 2, 1, 0]) Z Z Z Z Z (Qh Z (Qa Z (Qh Z (NF Z Z (Qh Z (Qe Z Z (Qh Z (QR (ds0 := [17, 16, 15, 14, 13, 12, 11, 10, 9, 8, 7, 6, 5, 4, 3, 2, 1, 0]) Z Z Z Z Z ?_)))))))))))
      refine Qh Z (ZO Z Z (Ql Z Z (Qa Z ?_)))
      refine QB (g := 45) Z (fun h6 => ?_) (fun h6 => ?_)
      ·try rw [h6]
       try simp only [qA] at h6
       refine Qh Z (Qa Z (Qh Z (Qe Z Z (Qh Z (QR (ds0 := [11, 10, 9, 8, 7, 6, 5, 4, 3, 2, 1, 0]) Z Z Z Z Z (Qh Z (QQ (ds0 := [10, 9, 8, 7, 6, 5, 4, 3, 2, 1, 0]) (Kt hl) Z Z (.inr Z) Z Z (Qh Z (Yn Z (Ql Z Z (Qa Z ?_)))))))))))
       refine QB (g := 52) Z (fun h7 => ?_) (fun h7 => ?_)
       ·try rw [h7]
        try simp only [qA] at h7
        refine Qh Z (Qe Z Z (Qh Z (QR (ds0 := [2, 1, 0]) Z Z Z Z Z (Qh Z (Qa Z (Qh Z (QQ (ds0 := [3, 2, 1, 0]) (Ye hl) Z Z (.inr Z) Z Z (Qh Z (QY Z Z Z (Qh Z (ZO Z Z ?_)))))))))))
        refine Ql Z Z (Qa Z (kc1 hK Z ?_))
        refine Qq (Qg (Qp Z ?_))
        (repeat clear hK K); first | (rw [Xv Wa]; done) | (rw [Ya Wa Wa Wa]; simp_all; done) | (rw [Ya Wa Wa Wa]; simp_all; omega)
       ·try rw [h7]
        try simp only [qA] at h7
        refine gn4 Z Z Z Z (gn2 Z Z (Ql Z Z (Qa Z (kc1 hK Z ?_))))
        refine Qq (Qg (Qp Z ?_))
        (repeat clear hK K); first | (rw [Xv Wa]; done) | (rw [Ya Wa Wa Wa]; simp_all; done) | (rw [Ya Wa Wa Wa]; simp_all; omega)
      ·try rw [h6]
       try simp only [qA] at h6
       refine gn4 Z Z Z Z (Xx Z (Ql Z Z (Qa Z (gn4 Z Z Z Z (Xx Z ?_)))))
       refine Xx Z (Ql Z Z (Qa Z (kc1 hK Z ?_)))
       refine Qq (Qg (Qp Z ?_))
       (repeat clear hK K); first | (rw [Xv Wa]; done) | (rw [Ya Wa Wa Wa]; simp_all; done) | (rw [Ya Wa Wa Wa]; simp_all; omega)
     ·try rw [h5]
      try simp only [qA] at h5
      refine gn4 Z Z Z Z (gn3 Z Z Z (Ql Z Z (Qa Z (gn3 Z Z Z ?_))))
      refine gn2 Z Z (Ql Z Z (Qa Z (gn4 Z Z Z Z (gn2 Z Z (Ql Z Z (Qa Z ?_))))))
      refine kc1 hK Z ?_
      refine Qq (Qg (Qp Z ?_))
      (repeat clear hK K); first | (rw [Xv Wa]; done) | (rw [Ya Wa Wa Wa]; simp_all; done) | (rw [Ya Wa Wa Wa]; simp_all; omega)
    ·try rw [h4]
     try simp only [qA] at h4
     refine Qr (ks3 Z Z Z (Qc fun K hK => Qe Z Z (QR (ds0 := [23, 22, 21, 20, 19, 18, 17, 16, 15, 14, 13, 12, 11, 10, 9, 8, 7, 6, 5, 4, 3, 2, 1, 0]) Z Z Z Z Z (X3 Z Z (Qa Z ?_)))))
     refine QB (g := 63) Z (fun h8 => ?_) (fun h8 => ?_)
     ·try rw [h8]
      try simp only [qA] at h8
      refine Qh Z (Qe Z Z (Qh Z (QR (ds0 := [18, 15, 14, 13, 12, 11, 10, 9, 8, 7, 6, 5, 4, 3, 2, 1, 0]) Z Z Z Z Z (Qh Z (Qa Z (Qh Z (NF Z Z (Qh Z (Qe Z Z (Qh Z (QR (ds0 := [15, 14, 13, 12, 11, 10, 9, 8, 7, 6, 5, 4, 3, 2, 1, 0]) Z Z Z Z Z ?_)))))))))))
      refine Qh Z (ZO Z Z (Ql Z Z (Qa Z ?_)))
      refine QB (g := 72) Z (fun h9 => ?_) (fun h9 => ?_)
      ·try rw [h9]
       try simp only [qA] at h9
       refine Qh Z (Qe Z Z (Qh Z (QR (ds0 := [9, 8, 7, 6, 5, 4, 3, 2, 1, 0]) Z Z Z Z Z (Qh Z (Qa Z (Qh Z (X3 Z Z (Ql Z Z (Qa Z ?_)))))))))
       refine QB (g := 78) Z (fun h10 => ?_) (fun h10 => ?_)
       ·try rw [h10]
        try simp only [qA] at h10
        refine Qh Z (Qe Z Z (Qh Z (QR (ds0 := [2, 1, 0]) Z Z Z Z Z (Qh Z (Qa Z (Qh Z (QQ (ds0 := [2, 1, 0]) (Ye hl) Z Z (.inr Z) Z Z (Qh Z (ZO Z Z (Ql Z Z (Qa Z ?_)))))))))))
        refine kc1 hK Z ?_
        refine Qq (Qp Z ?_)
        (repeat clear hK K); first | (rw [Xv Wa]; done) | (rw [Ya Wa Wa Wa]; simp_all; done) | (rw [Ya Wa Wa Wa]; simp_all; omega)
       ·try rw [h10]
        try simp only [qA] at h10
        refine gn4 Z Z Z Z (Xx Z (Ql Z Z (Qa Z (kc1 hK Z ?_))))
        refine Qq (Qp Z ?_)
        (repeat clear hK K); first | (rw [Xv Wa]; done) | (rw [Ya Wa Wa Wa]; simp_all; done) | (rw [Ya Wa Wa Wa]; simp_all; omega)
      ·try rw [h9]
       try simp only [qA] at h9
       refine gn4 Z Z Z Z (Ql Z Z (Qa Z (gn4 Z Z Z Z (Xx Z (Ql Z Z ?_)))))
       refine Qa Z (kc1 hK Z ?_)
       refine Qq (Qp Z ?_)
       (repeat clear hK K); first | (rw [Xv Wa]; done) | (rw [Ya Wa Wa Wa]; simp_all; done) | (rw [Ya Wa Wa Wa]; simp_all; omega)
     ·try rw [h8]
      try simp only [qA] at h8
      refine gn4 Z Z Z Z (gn3 Z Z Z (Ql Z Z (Qa Z (gn3 Z Z Z ?_))))
      refine Xx Z (Ql Z Z (Qa Z (gn4 Z Z Z Z (Xx Z (Ql Z Z (Qa Z (kc1 hK Z ?_)))))))
      refine Qq (Qp Z ?_)
      (repeat clear hK K); first | (rw [Xv Wa]; done) | (rw [Ya Wa Wa Wa]; simp_all; done) | (rw [Ya Wa Wa Wa]; simp_all; omega)
theorem K9 {w : Qn} (hw : WSm w) {l : List QL} (hl : l.length <= 10000000) {t : TermT} {c : Int} : Ok Tryz.prog 40 [Z4 w, Zv l, .agg (Fa t), .int .i64 c] (dOS (Ym w l t c)) := by
 refine Ok.ofT Z2 Tryz.func40 QeZ (Qf0 Z) ?_
 show TW _ _ tf40.body _ _
 refine Qc fun K hK => Zx Z Z Z (Zx Z Z Z (mv2 Z Z (kc4 hK Z Z Z Z ?_)))
 refine Qw ?_ -- 0
 refine Qc fun K hK => Qa Z (Z7 Z Z (Qa Z ?_))
 refine QB (g := 14) Z (fun h1 => ?_) (fun h1 => ?_)
 ·try rw [h1]
  try simp only [qA] at h1
  refine gn3 Z Z Z (Ql Z Z (Qa Z (gn4 Z Z Z Z (gn2 Z Z (Ql Z Z ?_)))))
  refine kc5 hK Z Z Z Z Z ?_
  refine Zt Z (Qc fun K hK => mv2 Z Z (kc2 hK Z Z ?_))
  refine Qq (Qg ?_)
  rw [HQ Wa]
  exact QO rfl rfl ⟨rfl, rfl⟩
 ·try rw [h1]
  try simp only [qA] at h1
  refine Qh Z (Qe Z Z (Qh Z (Qx Z Z Z (Qh Z (Z7 Z Z (Ql Z Z (Qa Z ?_)))))))
  refine QB (g := 19) Z (fun h2 => ?_) (fun h2 => ?_)
  ·try rw [h2]
   try simp only [qA] at h2
   refine gn4 Z Z Z Z (gn2 Z Z (Ql Z Z (kc5 hK Z Z Z Z Z ?_)))
   refine Zt Z (Qc fun K hK => mv2 Z Z (kc2 hK Z Z ?_))
   refine Qq (Qg ?_)
   rw [HQ Wa]
   exact QO rfl rfl ⟨rfl, rfl⟩
  ·try rw [h2]
   try simp only [qA] at h2
   refine Qh Z (Qe Z Z (Qh Z (Qx Z Z Z (Qh Z (Qe Z Z (Qh Z (Qx Z Z Z (Qh Z ?_))))))))
   first | refine QN rfl QP ?_ | refine QN rfl rfl ?_
   refine Qh Z (FT Z Z (Ql Z Z (kc5 hK Z Z Z Z Z ?_)))
   refine Qs Z (fun h3 => ?_) (fun h3 => ?_)
   ·try rw [h3]
    try simp only [qA] at h3
    refine Qc fun K hK => mv2 Z Z (kc2 hK Z Z ?_)
    refine Qq (Qg ?_)
    rw [HQ Wa]
    exact QO rfl rfl ⟨rfl, rfl⟩
   ·try rw [h3]
    try simp only [qA] at h3
    refine Qr (ks4 Z Z Z Z (Qc fun K hK => QE (cs := [_]) Z Z Z Z (Qa Z (Qe Z Z (Qx Z Z Z (QD (Zi hw hl) Z Z (.inr Z) (Qa Z (kc4 hK Z Z Z Z ?_))))))))
    refine Qc fun K hK => Qe Z Z (QR (ds0 := [2, 0]) Z Z Z Z Z (mv2 Z Z (Qe Z Z (QR (ds0 := [7, 6, 2, 0]) Z Z Z Z Z (NF Z Z (Jf Z Z Z (Qa Z (QQ (ds0 := [2, 0]) (Ye hl) Z Z (.inr Z) Z Z (Qa Z ?_)))))))))
    refine QT Z Z (ZL Z (YH (ds0 := []) Z Z Z Z Z Z Z Z Z Z (kc3 hK Z Z Z ?_)))
    refine Qw ?_ -- 1
    refine Qc fun K hK => Qe Z Z (Qx Z Z Z (ZO Z Z (Qa Z ?_)))
    refine QB (g := 47) Z (fun h4 => ?_) (fun h4 => ?_)
    ·try rw [h4]
     try simp only [qA] at h4
     refine gn4 Z Z Z Z (Ql Z Z (kc3 hK Z Z Z ?_))
     refine Zt Z (Qc fun K hK => mv2 Z Z (kc2 hK Z Z ?_))
     refine Qq (Qg ?_)
     rw [Kx (by first | exact .inl h4 | exact .inr h5)]
     exact QO rfl rfl ⟨rfl, rfl⟩
    ·try rw [h4]
     try simp only [qA] at h4
     refine Qh Z (Qe Z Z (Qh Z (Qx Z Z Z (Qh Z (Qa Z (Qh Z (ZO Z Z (Ql Z Z (kc3 hK Z Z Z ?_)))))))))
     refine Qs Z (fun h5 => ?_) (fun h5 => ?_)
     ·try rw [h5]
      try simp only [qA] at h5
      refine Qc fun K hK => mv2 Z Z (kc2 hK Z Z ?_)
      refine Qq (Qg ?_)
      rw [Kx (by first | exact .inl h4 | exact .inr h5)]
      exact QO rfl rfl ⟨rfl, rfl⟩
     ·try rw [h5]
      try simp only [qA] at h5
      refine Qr (ks2 Z Z (Qc fun K hK => Qa Z (Gz (ds0 := [2, 1]) Z Z (fun _ h => ⟨DX, h⟩) Z (.inl Z) Wf Wh Wh Z Z (QI (ds0 := [3, 2, 1]) (cs := [_, _, _, _]) Z Z Z Z Z Z (Qz Z Z (JT (ds0 := [1]) Z Z Wn ⟨_, rfl, rfl, rfl, rfl, rfl⟩ Z Z Wf Z Z Wh Wh Z Z (mv2 Z Z (kc2 hK Z Z ?_))))))))
      refine Qq ?_
      rw [Pv Wa (MD Wa Wa) h4 h5]
      exact MY rfl rfl rfl Wf (by simp [Zv, Sk]) rfl rfl
theorem K8 {w : Qn} (hw : WSm w) {l : List QL} (hl : l.length <= 10000000) {u p : Int} : Ok Tryz.prog 22 [Z4 w, Zv l, .int .i64 u, .int .i64 p] (dOS (Xr w l u p)) := by
 refine Ok.ofT Z2 Tryz.func22 QeH (Qf0 Z) ?_
 show TW _ _ tf22.body _ _
 refine Qc fun K hK => Zx Z Z Z (mv2 Z Z (kc4 hK Z Z Z Z ?_))
 refine Qw ?_ -- 0
 refine Qc fun K hK => Qa Z (Z7 Z Z (Qa Z ?_))
 refine QB (g := 13) Z (fun h1 => ?_) (fun h1 => ?_)
 ·try rw [h1]
  try simp only [qA] at h1
  refine gn4 Z Z Z Z (Xx Z (Ql Z Z (Qa Z (gn2 Z Z (Ql Z Z (Qa Z (Xx Z ?_)))))))
  refine gn4 Z Z Z Z (gn4 Z Z Z Z (Ql Z Z (kc5 hK Z Z Z Z Z ?_)))
  refine Zt Z (Qc fun K hK => mv2 Z Z (kc2 hK Z Z ?_))
  refine Qq (Qg ?_)
  rw [F5 Wa]
  exact QO rfl rfl ⟨rfl, rfl⟩
 ·try rw [h1]
  try simp only [qA] at h1
  refine Qh Z (Qa Z (Qh Z (Qe Z Z (Qh Z (Qx Z Z Z (Qh Z ?_))))))
  first | refine QN rfl QP ?_ | refine QN rfl rfl ?_
  refine Qh Z (FT Z Z (Ql Z Z (Qa Z ?_)))
  refine QB (g := 20) Z (fun h2 => ?_) (fun h2 => ?_)
  ·try rw [h2]
   try simp only [qA] at h2
   refine gn2 Z Z (Ql Z Z (Qa Z (gn4 Z Z Z Z (gn4 Z Z Z Z ?_))))
   refine Xx Z (Ql Z Z (kc5 hK Z Z Z Z Z ?_))
   refine Zt Z (Qc fun K hK => mv2 Z Z (kc2 hK Z Z ?_))
   refine Qq (Qg ?_)
   rw [F5 Wa]
   exact QO rfl rfl ⟨rfl, rfl⟩
  ·try rw [h2]
   try simp only [qA] at h2
   refine Qh Z (Qa Z (Qh Z (Z7 Z Z (Ql Z Z (Qa Z ?_)))))
   refine QB (g := 24) Z (fun h3 => ?_) (fun h3 => ?_)
   ·try rw [h3]
    try simp only [qA] at h3
    refine gn4 Z Z Z Z (gn4 Z Z Z Z (Xx Z (Ql Z Z (kc5 hK Z Z Z Z Z ?_))))
    refine Zt Z (Qc fun K hK => mv2 Z Z (kc2 hK Z Z ?_))
    refine Qq (Qg ?_)
    rw [F5 Wa]
    exact QO rfl rfl ⟨rfl, rfl⟩
   ·try rw [h3]
    try simp only [qA] at h3
    refine Qh Z (Qa Z (Qh Z (Qe Z Z (Qh Z (Qx Z Z Z (Qh Z (Qa Z (Qh Z (QG Z Z Z Wa (Zq Wa Wa) Z (Qh Z (Q6 Z Z ?_)))))))))))
    refine Qh Z (Qx Z Z Z (Qh Z ?_))
    first | refine QN rfl QP ?_ | refine QN rfl rfl ?_
    refine Qh Z (FT Z Z (Ql Z Z (kc5 hK Z Z Z Z Z ?_)))
    refine Qs Z (fun h4 => ?_) (fun h4 => ?_)
    ·try rw [h4]
     try simp only [qA] at h4
     refine Qc fun K hK => mv2 Z Z (kc2 hK Z Z ?_)
     refine Qq (Qg ?_)
     rw [DB Wa Wa Wa]
     exact QO rfl rfl ⟨rfl, rfl⟩
    ·try rw [h4]
     try simp only [qA] at h4
     refine Qr (ks4 Z Z Z Z (Qc fun K hK => mv2 Z Z (R4 Z (Md Wa (by have := hw.cs _ (Qf5 (Wa : u.toNat < w.length)); omega)) (Qb0 Z Z Wa Z (Qa Z (QD (Ye hl) Z Z (.inr Z) (QY Z Z Z (QT Z Z (ZL Z ?_)))))))))
     refine Q3 Z Z Z Z Z Z Z Z (kc3 hK Z Z Z ?_)
     refine Qw ?_ -- 1
     refine Qc fun K hK => QE (cs := [_]) Z Z Z Z (Qa Z (QE (cs := [_, _, _, _]) Z Z Z Z (QD (Gp (s := Qcm l u p) hw hl) Z Z (.inr Z) (Yn Z (kc3 hK Z Z Z ?_)))))
     refine Qs Z (fun h5 => ?_) (fun h5 => ?_)
     ·try rw [h5]
      try simp only [qA] at h5
      refine Qc fun K hK => mv2 Z Z (kc2 hK Z Z ?_)
      refine Qq (Qg ?_)
      rw [Cv h5]
      exact QO rfl rfl ⟨rfl, rfl⟩
     ·try rw [h5]
      try simp only [qA] at h5
      refine Qr (ks2 Z Z (Qc fun K hK => Qa Z (Gz (ds0 := [2, 1]) Z Z (fun _ h => ⟨DX, h⟩) Z (.inl Z) Wf Wh Wh Z Z (QI (ds0 := [3, 2, 1]) (cs := [_, _, _, _]) Z Z Z Z Z Z (Qz Z Z (JT (ds0 := [1]) Z Z Wn ⟨_, rfl, rfl, rfl, rfl, rfl⟩ Z Z Wf Z Z Wh Wh Z Z (mv2 Z Z (kc2 hK Z Z ?_))))))))
      refine Qq ?_
      rw [DF Wa Wa Wa Wa h5]
      exact MY rfl rfl rfl Wf (by simp [Zv, Sk, Qcm]; rfl) rfl rfl
theorem Gm {w : Qn} (hw : WSm w) {l : List QL} (hl : l.length <= 10000000) {inc : List TermT} (hi : inc.length <= 1000000) : Ok Tryz.prog 64 [Z4 w, Zv l, ZC inc] (.bool (GN w l inc)) := by
 refine Ok.ofT Z2 Tryz.func64 Qfn (Qf0 Z) ?_
 show TW _ _ tf64.body _ _
 refine Qc fun K hK => Zx Z Z Z (Qa Z (kc3 hK Z Z Z ?_))
 refine Qw ?_ -- 0
 refine Qc fun K hK => Qa Z (kc4 hK Z Z Z Z ?_)
 refine Qu ?_
 refine Zh (ι := Nat) (fun i => ⟨[(1, Zv l), (2, ZC inc), (3, .ref 3 0 0), (7, .int .i64 i)], [(3, ⟨[[.sl ((w).map Yg)]], 1, 26, true⟩)]⟩) (fun i => i <= inc.length /\ (inc.take i).all (fun t => decide (Zy (Q9 w l t.u) t.m = 2)) = true) (fun i => inc.length - i) 0 ?_ ?_ ?_
 ·exact QX (l := [1, 2, 3, 7]) (lH := [3]) (kp4 rfl rfl rfl rfl) (Qb rfl Qi) rfl rfl rfl
 ·exact ⟨Qgc _, by simp⟩
 intro i hI
 try dsimp only
 refine Qw ?_ -- 1
 refine Qc fun K hK => mv2 Z Z ?_
 first | refine QN rfl QP ?_ | refine QN rfl rfl ?_
 refine Z7 Z Z (kc5 hK Z Z Z Z Z ?_)
 refine Qs Z (fun h1 => ?_) (fun h1 => ?_)
 ·try rw [h1]
  try simp only [qA] at h1
  refine Qr (ks4 Z Z Z Z ?_)
  refine Qw ?_ -- 2
  refine Qu (Qc fun K hK => QI (ds0 := [7, 1, 0]) (cs := [_]) Z Z Z Z Z Z (mv2 Z Z (Qa Z (QG Z Z Z Wa (QS Wa) Z (Q6 Z Z (QR (ds0 := [7, 1, 0]) Z Z Z Z Z (QQ (ds0 := [1, 0]) (Zi hw hl) Z Z (.inr Z) Z Z (mv2 Z Z ?_))))))))
  refine QG Z Z Z Wa (QS Wa) Z (Q6 Z Z (QR (ds0 := [1, 0]) Z Z Z Z Z (QQ (ds0 := [0]) (XQ) Z Z (.inr Z) Z Z (X3 Z Z (kc5 hK Z Z Z Z Z ?_)))))
  refine Qs Z (fun h2 => ?_) (fun h2 => ?_)
  ·try rw [h2]
   try simp only [qA] at h2
   refine Qc fun K hK => Qa Z (kc1 hK Z ?_)
   refine Qq (Qo (Qg (Q0 (Qo (Qg (Qp Z ?_))))))
   rw [GN, XO (i := i) Wa (by simpa using h2)]
  ·try rw [h2]
   try simp only [qA] at h2
   refine Qr (Qd (ks4 Z Z Z Z (QH fun K hK => Qa Z (QY Z Z Wc (Qa Z (hK _ ?_))))))
   refine Qf (i + 1) ?_ ?_ ?_
   ·exact QX (l := [1, 2, 3, 7]) (lH := [3]) (kp4 rfl rfl rfl rfl) (Qb rfl Qi) rfl rfl rfl
   ·exact ⟨Wa, Yb Wa hI.2 (by simpa using h2)⟩
   ·first | omega | (simp only; omega) | (dsimp only; omega)
 ·try rw [h1]
  try simp only [qA] at h1
  refine Zb (QF (Qt (Qy (Zf (ZJ) (Qc fun K hK => Qa Z (kc1 hK Z ?_))))))
  refine Qq (Qp Z ?_)
  rw [GN, XF (i := i) Wa hI.2]
theorem Gn {w : Qn} (hw : WSm w) {l : List QL} (hl : l.length <= 10000000) {inc : List TermT} (hi : inc.length <= 1000000) : Ok Tryz.prog 65 [Z4 w, Zv l, ZC inc] (.int .i64 (GM w l inc)) := by
 refine Ok.ofT Z2 Tryz.func65 Qfo (Qf0 Z) ?_
 show TW _ _ tf65.body _ _
 refine Qc fun K hK => Zx Z Z Z (Qa Z (kc3 hK Z Z Z ?_))
 refine Qc fun K hK => Qa Z (kc4 hK Z Z Z Z ?_)
 refine Qw ?_ -- 0
 refine Qc fun K hK => Qa Z (kc5 hK Z Z Z Z Z ?_)
 refine Qu ?_
 refine Zh (ι := Nat × Int) (fun ⟨i, a⟩ => ⟨[(1, Zv l), (2, ZC inc), (3, .ref 3 0 0), (7, .int .i64 a), (8, .int .i64 i)], [(3, ⟨[[.sl ((w).map Yg)]], 1, 26, true⟩)]⟩) (fun ⟨i, a⟩ => i <= inc.length /\ ZD (Q9 w l) inc (-1) = ZD (Q9 w l) (inc.drop i) a) (fun ⟨i, a⟩ => inc.length - i) (0, -1) ?_ ?_ ?_
 ·exact QX (l := [1, 2, 3, 7, 8]) (lH := [3]) (kp5 rfl rfl rfl rfl rfl) (Qb rfl Qi) rfl rfl rfl
 ·exact ⟨Qgc _, by simp⟩
 intro ⟨i, a⟩ hI
 dsimp only at hI
 try dsimp only
 refine Qw ?_ -- 1
 refine Qc fun K hK => mv2 Z Z ?_
 first | refine QN rfl QP ?_ | refine QN rfl rfl ?_
 refine Z7 Z Z (kc6 hK Z Z Z Z Z Z ?_)
 refine Qs Z (fun h1 => ?_) (fun h1 => ?_)
 ·try rw [h1]
  try simp only [qA] at h1
  refine Qr (ks5 Z Z Z Z Z ?_)
  refine Qw ?_ -- 2
  refine Qu (Qc fun K hK => QI (ds0 := [6, 0]) (cs := [_]) Z Z Z Z Z Z (mv2 Z Z (Qa Z (QG Z Z Z Wa (QS Wa) Z (Q6 Z Z (QR (ds0 := [6, 0]) Z Z Z Z Z (QQ (ds0 := [0]) (Zi hw hl) Z Z (.inr Z) Z Z (mv2 Z Z ?_))))))))
  refine QG Z Z Z Wa (QS Wa) Z (Q6 Z Z (QR (ds0 := [0]) Z Z Z Z Z (QQ (ds0 := []) (XQ) Z Z (.inr Z) Z Z (kc6 hK Z Z Z Z Z Z ?_))))
  refine Qu (Qc fun K hK => ZO Z Z (Qa Z (kc7 hK Z Z Z Z Z Z Z ?_)))
  refine Qs Z (fun h2 => ?_) (fun h2 => ?_)
  ·try rw [h2]
   try simp only [qA] at h2
   refine Qc fun K hK => Qa Z (kc1 hK Z ?_)
   refine Qq (Qo (Qo (Qg (Q0 (Qo (Qg (QC Z ?_)))))))
   rw [GM, hI.2, KN Wa, if_pos h2]
  ·try rw [h2]
   try simp only [qA] at h2
   refine Qc fun K hK => ZO Z Z (Qa Z (kc6 hK Z Z Z Z Z Z ?_))
   refine Qs Z (fun h3 => ?_) (fun h3 => ?_)
   ·try rw [h3]
    try simp only [qA] at h3
    refine Qw ?_ -- 3
    refine Qc fun K hK => Qa Z (FT Z Z (kc5 hK Z Z Z Z Z ?_))
    refine Qs Z (fun h4 => ?_) (fun h4 => ?_)
    ·try rw [h4]
     try simp only [qA] at h4
     refine Qc fun K hK => Qa Z (kc1 hK Z ?_)
     refine Qq (Qg (Qo (Qo (Qg (Q0 (Qo (Qg (QC Z ?_))))))))
     rw [GM, hI.2, KN Wa, if_neg h2, if_pos h3, if_pos h4]
    ·try rw [h4]
     try simp only [qA] at h4
     refine Qr (ks4 Z Z Z Z (QH fun K hK => mv2 Z Z (QG Z Z Z Wa (QS Wa) Z (Q6 Z Z (Qx Z Z Z (Qa Z (hK _ ?_)))))))
     refine Qd (Qd (ks5 Z Z Z Z Z (QH fun K hK => Qa Z (QY Z Z Wc (Qa Z (hK _ ?_))))))
     refine Qf (i + 1, (inc[i]'Wa).u) ?_ ?_ ?_
     ·exact QX (l := [1, 2, 3, 7, 8]) (lH := [3]) (kp5 rfl rfl rfl rfl rfl) (Qb rfl Qi) rfl rfl rfl
     ·exact ⟨Wa, by rw [hI.2, KN Wa, if_neg h2, if_pos h3, if_neg h4]⟩
     ·show inc.length - (i + 1) < inc.length - i; omega
   ·try rw [h3]
    try simp only [qA] at h3
    refine Qr (Qd (Qd (ks5 Z Z Z Z Z (QH fun K hK => Qa Z (QY Z Z Wc (Qa Z (hK _ ?_)))))))
    refine Qf (i + 1, a) ?_ ?_ ?_
    ·exact QX (l := [1, 2, 3, 7, 8]) (lH := [3]) (kp5 rfl rfl rfl rfl rfl) (Qb rfl Qi) rfl rfl rfl
    ·exact ⟨Wa, by rw [hI.2, KN Wa, if_neg h2, if_neg h3]⟩
    ·show inc.length - (i + 1) < inc.length - i; omega
 ·try rw [h1]
  try simp only [qA] at h1
  refine Zb (QF (Qt (Qy (ks1 Z (Qc fun K hK => mv2 Z Z (kc1 hK Z ?_))))))
  refine Qq (QC Z ?_)
  rw [GM, hI.2, SS Wa]
theorem Gl {w : Qn} (hw : WSm w) {db : List (List TermT)} (hd : db.length <= 100000000) (hi : ∀ x ∈ db, x.length <= 1000000) {l : List QL} (hl : l.length <= 10000000) : Ok Tryz.prog 39 [Z4 w, dDb db, Zv l] (.tup [.int .i64 (ZE w db l).1, .int .i64 (ZE w db l).2]) := by
 refine Ok.ofT Z2 Tryz.func39 QeY (Qf0 Z) ?_
 show TW _ _ tf39.body _ _
 refine Qc fun K hK => Zx Z Z Z (mv2 Z Z (kc3 hK Z Z Z ?_))
 refine Qw ?_ -- 0
 refine Qc fun K hK => Qa Z (kc4 hK Z Z Z Z ?_)
 refine Qu ?_
 refine Zh (ι := Nat) (fun i => ⟨[(1, dDb db), (2, Zv l), (3, .ref 3 0 0), (8, .int .i64 i)], [(3, ⟨[[.sl ((w).map Yg)]], 1, 26, true⟩)]⟩) (fun i => i <= db.length /\ ZE w db l = Yo w l i (db.drop i)) (fun i => db.length - i) 0 ?_ ?_ ?_
 ·exact QX (l := [1, 2, 3, 8]) (lH := [3]) (kp4 rfl rfl rfl rfl) (Qb rfl Qi) rfl rfl rfl
 ·exact ⟨Qgc _, rfl⟩
 intro i hI
 try dsimp only
 refine Qw ?_ -- 1
 refine Qc fun K hK => mv2 Z Z ?_
 first | refine QN rfl QP ?_ | refine QN rfl rfl ?_
 refine Z7 Z Z (kc5 hK Z Z Z Z Z ?_)
 refine Qs Z (fun h1 => ?_) (fun h1 => ?_)
 ·try rw [h1]
  try simp only [qA] at h1
  refine Qr (ks4 Z Z Z Z ?_)
  refine Qw ?_ -- 2
  refine Qu ?_
  refine Qw ?_ -- 3
  refine Qc fun K hK => QI (ds0 := [0]) (cs := [_]) Z Z Z Z Z Z (mv2 Z Z (Qa Z (QG Z Z Z Wa (QS Wa) Z (QR (ds0 := [0]) Z Z Z Z Z (QQ (ds0 := []) (Gm hw hl (hi _ (Qf5 Wa))) Z Z (.inr Z) Z Z (kc5 hK Z Z Z Z Z ?_))))))
  refine Qs Z (fun h2 => ?_) (fun h2 => ?_)
  ·try rw [h2]
   try simp only [qA] at h2
   refine Qc fun K hK => mv2 Z Z (Qa Z (kc2 hK Z Z ?_))
   refine Qq (Qg (Qo (Qg (Q0 (Qo (Qg ?_))))))
   rw [hI.2, T3 Wa, if_pos h2]
   exact QO rfl rfl ⟨rfl, rfl⟩
  ·try rw [h2]
   try simp only [qA] at h2
   refine Qr (ks4 Z Z Z Z (Qc fun K hK => QI (ds0 := [1, 0]) (cs := [_]) Z Z Z Z Z Z (mv2 Z Z (Qa Z (QG Z Z Z Wa (QS Wa) Z (QR (ds0 := [1, 0]) Z Z Z Z Z (QQ (ds0 := [0]) (Gn hw hl (hi _ (Qf5 Wa))) Z Z (.inr Z) Z Z (Qa Z (kc5 hK Z Z Z Z Z ?_)))))))))
   refine Qc fun K hK => Qa Z (FT Z Z (kc6 hK Z Z Z Z Z Z ?_))
   refine Qs Z (fun h3 => ?_) (fun h3 => ?_)
   ·try rw [h3]
    try simp only [qA] at h3
    refine Qc fun K hK => mv2 Z Z (mv2 Z Z (kc2 hK Z Z ?_))
    refine Qq (Qo (Qg (Q0 (Qo (Qg ?_)))))
    rw [hI.2, T3 Wa, if_neg (by rw [h2]; simp), if_pos h3]
    exact QO rfl rfl ⟨rfl, rfl⟩
   ·try rw [h3]
    try simp only [qA] at h3
    refine Qr (Qd (ks4 Z Z Z Z (QH fun K hK => Qa Z (QY Z Z Wc (Qa Z (hK _ ?_))))))
    refine Qf (i + 1) ?_ ?_ ?_
    ·exact QX (l := [1, 2, 3, 8]) (lH := [3]) (kp4 rfl rfl rfl rfl) (Qb rfl Qi) rfl rfl rfl
    ·exact ⟨Wa, by rw [hI.2, T3 Wa, if_neg (by rw [h2]; simp), if_neg h3]⟩
    ·first | omega | (simp only; omega) | (dsimp only; omega)
 ·try rw [h1]
  try simp only [qA] at h1
  refine Zb (QF (Qt (Qy (Zf (ZJ) (Qc fun K hK => mv2 Z Z (kc2 hK Z Z ?_))))))
  refine Qq ?_
  rw [hI.2, Qbd Wa]
  exact QO rfl rfl ⟨rfl, rfl⟩
end Go.Proofs
namespace M25
open Go Go.Abs M3
def Ct (w : Qn) (i : Nat) : List (List TermT) := ((Hw w).take i).map RowT.t
theorem Ha {w : Qn} {i : Nat} (h : i < (Hw w).length) : Ct w (i + 1) = Ct w i ++ [(Hw w)[i].t] := by
 rw [Ct, List.take_succ_eq_append_getElem h, List.map_append]; rfl
theorem Lw {w : Qn} {i : Nat} (h : (Hw w).length <= i) : Ct w i = mDB w := by rw [Ct, Qgg h]; rfl
theorem Lv (w : Qn) (i : Nat) : (Ct w i).length <= (Hw w).length := by rw [Ct, List.length_map]; exact List.length_take_le' ..
theorem Lj {w : Qn} (hw : WSm w) (h0 : 0 < w.length) : (Hw w).length <= 1600000 := by
 have := (HK hw h0 w.length (Nat.le_refl _)).2
 have := hw.len
 rw [Hw]; omega
def Qcr (w : Qn) (l : List Int) (j : Nat) : TermT := ⟨mPl (l.getD (2 * j) 0) w.length, 1 + mPl (l.getD (2 * j + 1) 0) (Y4 w (mPl (l.getD (2 * j) 0) w.length))⟩
def Pj (w : Qn) (l : List Int) : Nat -> List TermT
 | 0 => []
 | j + 1 => Pj w l j ++ [Qcr w l j]
theorem Hq (w : Qn) (l : List Int) : ∀ j, (Pj w l j).length = j
 | 0 => rfl
 | j + 1 => by rw [Pj, List.length_append, Hq w l j]; rfl
theorem Qdo (w : Qn) (l : List Int) (j : Nat) : Pj w l (j + 1) = Pj w l j ++ [Qcr w l j] := rfl
def QaX (w : Qn) (l : List Int) : List TermT := (Gy w (Pj w l (min 4 (l.length / 2)))).getD []
theorem Qcx (w : Qn) (l : List Int) : IncOk w (QaX w l) := by
 unfold QaX
 cases h : Gy w (Pj w l (min 4 (l.length / 2))) with
 | none => exact IncOk.nil w
 | some t => exact Fw h
theorem CH {l : List Int} {k : Int} {j : Nat} (e : k.toNat = j) (h : j < l.length) : l[k.toNat]'Wa = l.getD j 0 := by
 subst e; rw [List.getD_eq_getElem?_getD, List.getElem?_eq_getElem h]; rfl
theorem QaJ {w : Qn} {l : List Int} {j : Nat} (h : 2 * j + 1 < l.length) : Qcr w l j = ⟨mPl (l[(2 * (j : Int)).toNat]'Wa) w.length, 1 + mPl (l[(2 * (j : Int) + 1).toNat]'Wa) (Y4 w (mPl (l[(2 * (j : Int)).toNat]'Wa) w.length))⟩ := by
 rw [CH (j := 2 * j) Wa Wa, CH (j := 2 * j + 1) Wa Wa]; rfl
theorem Qbq (v : Int) {n : Int} (h : n <= 131071) : IntKind.i64.wrap (1 + mPl v n) = 1 + mPl v n := by
 have h0 := PO (v := v) (n := n)
 by_cases h1 : 1 <= n
 ·have := PN (v := v) h1; exact Qm Wa Wa
 ·have : mPl v n = 0 := by rw [mPl, if_pos Wa]
  rw [this]; rfl
theorem BK {w : Qn} {db : List (List TermT)} : ∀ (n : Nat) (out : List QL), (KP w db n out).1.length <= out.length + n
 | 0, out => Nat.le_refl _
 | n + 1, out => by
  rw [KP]
  split
  ·simp
  ·refine Qgj (BK n _) ?_
   have := Pu w out ⟨(ZE w db out).2, GL w (db.getD (ZE w db out).1.toNat []) (ZE w db out).2⟩ (ZE w db out).1
   omega
theorem Qad {v : Int} (h : (v + 1).toNat <= 61) : IntKind.i64.wrap ((1 : Int) * 2 ^ min (v + 1).toNat IntKind.i64.bits) = 2 ^ (v + 1).toNat := by
 rw [show min (v + 1).toNat IntKind.i64.bits = (v + 1).toNat from by simp only [IntKind.bits]; omega, Int.one_mul]
 have := RJ (i := (v + 1).toNat) Wa
 exact Qm Wa Wa
theorem BT {α : Type} {f : α -> List D} {l : List α} {k : Int} (h : k = (l.length : Int)) : ((l.map f).take k.toNat).drop (((0 : Nat) : Int)).toNat = l.map f := by
 subst h; rw [Int.toNat_natCast, Qgg Wf]; rfl
end M25
namespace Go.Proofs
open Go Go.Abs M3 M25
theorem GC {w : Qn} (hw : WSm w) {db : List (List TermT)} (hd : db.length <= 100000000) (hi : ∀ x ∈ db, x.length <= 1000000) {l : List QL} (hl : l.length <= 1000000) : Ok Tryz.prog 20 [Z4 w, dDb db, Zv l] (.tup [Zv (X2 w db l).1, .int .i64 (X2 w db l).2]) := by
 refine Ok.ofT Z2 Tryz.func20 QeF (Qf0 Z) ?_
 show TW _ _ tf20.body _ _
 have hn := hw.len
 refine Qc fun K hK => Zx Z Z Z (mv2 Z Z (kc3 hK Z Z Z ?_))
 refine Qc fun K hK => Qa Z (Cc Z Z (fun _ h => Td DX h) Z (.inl Z) Wf Wh Wh (Qa Z (kc3 hK Z Z Z ?_)))
 refine Qw ?_ -- 0
 refine Qc fun K hK => Qa Z (kc4 hK Z Z Z Z ?_)
 refine Qu ?_
 refine Zh (ι := Nat × List QL) (fun ⟨n, out⟩ => ⟨[(1, dDb db), (3, .ref 3 0 0), (8, Zv out), (9, .int .i64 n)], [(3, ⟨[[.sl ((w).map Yg)]], 1, 26, true⟩)]⟩) (fun ⟨n, out⟩ => n <= w.length * 18 + 1 /\ out.length <= l.length + n /\ X2 w db l = KP w db (w.length * 18 + 1 - n) out) (fun ⟨n, out⟩ => w.length * 18 + 1 - n) (0, l) ?_ ?_ ?_
 ·exact le_trans (Fp (l := [1, 3, 9]) (lH := [3]) 13 8 (kp3 rfl rfl rfl) (Qb rfl Qi) rfl rfl rfl Wf rfl rfl rfl rfl) (QX (l := [1, 3, 8, 9]) (lH := [3]) (kp4 rfl rfl rfl rfl) (Qb rfl Qi) rfl rfl rfl)
 ·exact ⟨Qgc _, Nat.le_refl _, rfl⟩
 intro ⟨n, out⟩ hI
 obtain ⟨hI1, hI2, hI3⟩ := hI
 try dsimp only at hI1 hI2 hI3
 try dsimp only
 refine Qw ?_ -- 1
 refine Qc fun K hK => Qa Z (Qe Z Z (Qx Z Z Z ?_))
 first | refine QN rfl QP ?_ | refine QN rfl rfl ?_
 refine QbZ Z Z Wc (Qbt Z Z (kc5 hK Z Z Z Z Z ?_))
 refine Qs Z (fun h1 => ?_) (fun h1 => ?_)
 ·try rw [h1]
  try simp only [qA] at h1
  refine Qr (ks4 Z Z Z Z ?_)
  refine Qw ?_ -- 2
  refine Qu (Qc fun K hK => QE (cs := [_]) Z Z Z Z (mv2 Z Z (QD (Gl hw hd hi Wa) Z Z (.inl Z) (Qa Z (QK Z Z (QK Z Z (mv2 Z Z (kc6 hK Z Z Z Z Z Z ?_))))))))
  refine Qw ?_ -- 3
  refine Qc fun K hK => Qa Z (Z7 Z Z (kc7 hK Z Z Z Z Z Z Z ?_))
  refine Qs Z (fun h2 => ?_) (fun h2 => ?_)
  ·try rw [h2]
   try simp only [qA] at h2
   try have hu := S5 h2
   refine Qc fun K hK => mv2 Z Z (mv2 Z Z (kc2 hK Z Z ?_))
   refine Qq (Qg (Qo (Qg (Q0 (Qo (Qg ?_))))))
   rw [hI3, H6 h2 Wa]
   exact QO rfl rfl ⟨rfl, rfl⟩
  ·try rw [h2]
   try simp only [qA] at h2
   try have hu := S5 h2
   refine Qr (ks6 Z Z Z Z Z Z (QH fun K hK => QI (ds0 := [4, 3, 2, 1, 0]) (cs := [_]) Z Z Z Z Z Z (mv2 Z Z (QI (ds0 := [7, 6, 4, 3, 2, 1, 0]) (cs := [_]) Z Z Z Z Z Z (mv2 Z Z (QG Z Z Z Wa (Zq Wa Wa) Z (QR (ds0 := [7, 6, 4, 3, 2, 1, 0]) Z Z Z Z Z (Qa Z ?_))))))))
   refine QQ (ds0 := [6, 4, 3, 2, 1, 0]) (Y2 hw (hi _ (Qf5 Wa))) Z Z (.inr Z) Z Z (QT Z Z (Qa Z (QQ (ds0 := [3, 2, 1, 0]) (K9 (t := ⟨(ZE w db out).2, GL w (db[(ZE w db out).1.toNat]'Wa) (ZE w db out).2⟩) hw Wa) Z Z (.inl Z) Z Z (Qa Z (QK Z Z (QK Z Z (Qa Z (hK _ ?_))))))))
   refine Qd (ks4 Z Z Z Z (QH fun K hK => Qa Z (QY Z Z Wc (Qa Z (hK _ ?_)))))
   refine Qf (n + 1, (Ym w out ⟨(ZE w db out).2, GL w (db[(ZE w db out).1.toNat]'Wa) (ZE w db out).2⟩ (ZE w db out).1).getD []) ?_ ?_ ?_
   ·exact QX (l := [1, 3, 8, 9]) (lH := [3]) (kp4 rfl rfl rfl rfl) (Qb rfl Qi) rfl rfl rfl
   ·exact ⟨Wa, by have := Pu w out ⟨(ZE w db out).2, GL w (db[(ZE w db out).1.toNat]'Wa) (ZE w db out).2⟩ (ZE w db out).1; simp only; omega, by rw [hI3, Dg h2 Wa Wa, show w.length * 18 + 1 - (n + 1) = w.length * 18 + 1 - n - 1 by omega]⟩
   ·show w.length * 18 + 1 - (n + 1) < w.length * 18 + 1 - n; omega
 ·try rw [h1]
  try simp only [qA] at h1
  refine Zb (QF (Qt (Qy (ks1 Z (Qc fun K hK => mv2 Z Z (Qa Z (kc2 hK Z Z ?_)))))))
  refine Qq ?_
  rw [hI3, show w.length * 18 + 1 - n = 0 by omega]
  exact QO rfl rfl ⟨rfl, rfl⟩
theorem G1 {w : Qn} (hw : WSm w) {l : List Int} (hL : ∀ x ∈ l, I64 x) (hl : l.length <= 1000000) : Ok Tryz.prog 19 [Z4 w, Zo l] (ZC (QaX w l)) := by
 refine Ok.ofT Z2 Tryz.func19 QeE (Qf0 Z) ?_
 show TW _ _ tf19.body _ _
 have hn := hw.len
 refine Qc fun K hK => Zx Z Z Z (Qa Z (kc2 hK Z Z ?_))
 refine Qc fun K hK => Qa Z (kc3 hK Z Z Z ?_)
 refine Pp (ι := Unit) (fun _ => ⟨[(2, .ref 2 0 0), (5, ZC (Pj w l (min 4 (l.length / 2))))], [(2, ⟨[[.sl ((w).map Yg)]], 1, 26, true⟩)]⟩) (fun _ => True) ?_ ?_
 ·skip
  refine Qc fun K hK => Qa Z (kc4 hK Z Z Z Z ?_)
  refine Qu ?_
  refine Zh (ι := Nat) (fun j => ⟨[(1, Zo l), (2, .ref 2 0 0), (5, .osl 5 (Pj w l j).length), (6, .int .i64 (2 * (j : Int)))], [(2, ⟨[[.sl ((w).map Yg)]], 1, 26, true⟩), (5, ⟨(Pj w l j).map Fa, 2, 78, true⟩)]⟩) (fun j => j <= min 4 (l.length / 2)) (fun j => min 4 (l.length / 2) - j) 0 ?_ ?_ ?_
  ·exact le_trans (Yh 5 5 2 78 rfl rfl) (QX (l := [1, 2, 5, 6]) (lH := [2, 5]) (kp4 rfl rfl rfl rfl) (Qb rfl (Qb rfl Qi)) rfl rfl rfl)
  ·exact Qgc _
  intro j hI
  have hlen := Hq w l j
  try dsimp only
  refine Qw ?_ -- 1
  refine Qc fun K hK => Qa Z (QY Z Z Wc (Qa Z ?_))
  first | refine QN rfl QP ?_ | refine QN rfl rfl ?_
  refine Z7 Z Z (Qa Z ?_)
  refine QB (g := 15) Z (fun h1 => ?_) (fun h1 => ?_)
  ·try rw [h1]
   try simp only [qA] at h1
   refine Qh Z (Qa Z (Qh Z (Z7 Z Z (Ql Z Z (kc5 hK Z Z Z Z Z ?_)))))
   refine Qs Z (fun h2 => ?_) (fun h2 => ?_)
   ·try rw [h2]
    try simp only [qA] at h2
    refine Qr (ks4 Z Z Z Z ?_)
    refine Qw ?_ -- 2
    refine Qu (Qc fun K hK => mv2 Z Z (QG Z Z Z Wa (Zq Wa Wa) Z (QR (ds0 := [1, 0]) Z Z Z Z Z (Qe Z Z (QR (ds0 := [2, 1, 0]) Z Z Z Z Z ?_)))))
    first | refine QN rfl QP ?_ | refine QN rfl rfl ?_
    refine QQ (ds0 := [0]) (ZR Wa (hL _ (Qf5 Wa))) Z Z (.inr Z) Z Z (Qa Z (kc5 hK Z Z Z Z Z ?_))
    refine QH fun K hK => mv2 Z Z (mv2 Z Z (QY Z Z Wc (QG Z Z Z Wa (Zq Wa Wa) Z (QR (ds0 := [5, 4, 3, 2, 1, 0]) Z Z Z Z Z (QI (ds0 := [6, 5, 4, 3, 2, 1, 0]) (cs := [_]) Z Z Z Z Z Z (Qa Z (QQ (ds0 := [5, 4, 3, 2, 1, 0]) (ZA hw) Z Z (.inr Z) Z Z (QQ (ds0 := [4, 3, 2, 1, 0]) (ZR (by have := Ft w (mPl (l[(2 * (j : Int)).toNat]'Wa) w.length); omega) (hL _ (Qf5 Wa))) Z Z (.inr Z) Z Z ?_))))))))
    refine QY Z Z (Qbq _ (Ft _ _).2) (QT Z Z (Qz Z Z (JT (ds0 := [0]) Z Z Wn ⟨_, rfl, rfl, rfl, rfl, rfl⟩ Z Z Wf Z Z Wh Wh Z Z (Qa Z (hK _ ?_)))))
    refine Qd (ks4 Z Z Z Z (QH fun K hK => Qa Z (QY Z Z Wc (Qa Z (hK _ ?_)))))
    refine Qf (j + 1) ?_ ?_ ?_
    ·exact le_trans (ME (l := [1, 2, 6]) (lH := [2]) 43 5 5 (kp3 rfl rfl rfl) (Qb rfl Qi) rfl rfl rfl rfl rfl rfl rfl) (QX (l := [1, 2, 5, 6]) (lH := [2, 5]) (kp4 rfl rfl rfl rfl) (Qb rfl (Qb rfl Qi)) (by simp only [List.cons.injEq, Prod.mk.injEq, D.int.injEq, D.osl.injEq, true_and, and_true, Hq]; first | omega | (constructor <;> first | omega | rfl | (simp [Hq]; done))) (by rw [Qdo, List.map_append, QaJ Wa]; rfl) rfl)
    ·show j + 1 <= _; omega
    ·show min 4 (l.length / 2) - (j + 1) < min 4 (l.length / 2) - j; omega
   ·try rw [h2]
    try simp only [qA] at h2
    refine Zb (QF (Qt (Qy ?_)))
    refine Z9 () ?_ ?_
    ·exact le_trans (Fp (l := [2]) (lH := [2]) 5 5 (kp1 rfl) (Qb rfl Qi) rfl rfl rfl Wm rfl rfl rfl rfl) (QX (l := [2, 5]) (lH := [2]) (kp2 rfl rfl) (Qb rfl Qi) (by rw [show min 4 (l.length / 2) = j by omega]; rfl) rfl rfl)
    ·exact trivial
  ·try rw [h1]
   try simp only [qA] at h1
   refine gn2 Z Z (Ql Z Z (kc5 hK Z Z Z Z Z ?_))
   refine ZG Z (Zb (QF (Qt (Qy ?_))))
   refine Z9 () ?_ ?_
   ·exact le_trans (Fp (l := [2]) (lH := [2]) 5 5 (kp1 rfl) (Qb rfl Qi) rfl rfl rfl Wm rfl rfl rfl rfl) (QX (l := [2, 5]) (lH := [2]) (kp2 rfl rfl) (Qb rfl Qi) (by rw [show min 4 (l.length / 2) = j by omega]; rfl) rfl rfl)
   ·exact trivial
 intro _ hJ
 try dsimp only
 refine Qc fun K hK => QE (cs := [_]) Z Z Z Z (Qa Z (QD (XW hw (by rw [Hq]; omega)) Z Z (.inl Z) (Qa Z (QK Z Z (QK Z Z (mv2 Z Z (kc1 hK Z ?_)))))))
 refine Qc fun K hK => mv2 Z Z (kc1 hK Z ?_)
 refine Qq (Yi Z ?_)
 rfl
theorem _root_.Wo {p : Prop} (h : p := by first | (rw [Ha (by omega)]; done) | (rw [Ha (by omega)]; rfl) | (rw [Ha (by omega), List.length_append]; rfl) | (simp [Ha (by omega)]; done) | (simp [Ha (by omega)]; omega) | rfl) : p := h
theorem _root_.Wp {p : Prop} (h : p := by first | (rw [Ha (by omega)]; done) | (rw [Ha (by omega)]; rfl) | (rw [Ha (by omega), List.map_append]; rfl) | (simp [Ha (by omega)]; done) | rfl) : p := h
theorem _root_.Wu {p : Prop} (h : p := by rfl) : p := h
theorem XG {w : Qn} (hw : WSm w) (h0 : 0 < w.length) : Ok Tryz.prog 8 [Z4 w, Zo []] (dDb (mDB w)) := by
 refine Ok.ofT Z2 Tryz.func8 tp8 (Qf0 Z) ?_
 show TW _ _ tf8.body _ _
 have hn := Lj hw h0
 refine Qc fun K hK => Zx Z Z Z (Qa Z (kc2 hK Z Z ?_))
 refine Qc fun K hK => QE (cs := [_]) Z Z Z Z (QD (Jg hw) Z Z (.inl Z) (Qa Z (kc3 hK Z Z Z ?_)))
 refine Qc fun K hK => Qa Z (kc4 hK Z Z Z Z ?_)
 refine Qw ?_ -- 0
 refine Qc fun K hK => Qa Z (kc5 hK Z Z Z Z Z ?_)
 refine Qu ?_
 refine Zh (ι := Nat) (fun i => ⟨[(1, Zo []), (2, .ref 2 0 0), (5, Qck (Hw w)), (6, .osl 6 (Ct w i).length), (7, .int .i64 i)], [(2, ⟨[[.sl ((w).map Yg)]], 1, 26, true⟩), (6, ⟨(Ct w i).map (fun t => [ZC t]), 1, 34, true⟩)]⟩) (fun i => i <= (Hw w).length) (fun i => (Hw w).length - i) 0 ?_ ?_ ?_
 ·exact le_trans (Yh 6 6 1 34 rfl rfl) (QX (l := [1, 2, 5, 6, 7]) (lH := [2, 6]) (kp5 rfl rfl rfl rfl rfl) (Qb rfl (Qb rfl Qi)) rfl rfl rfl)
 ·exact Qgc _
 intro i hI
 have hlen := Lv w i
 try dsimp only
 refine Qw ?_ -- 1
 refine Qc fun K hK => mv2 Z Z ?_
 first | refine QN rfl QP ?_ | refine QN rfl rfl ?_
 refine Z7 Z Z (kc6 hK Z Z Z Z Z Z ?_)
 refine Qs Z (fun h1 => ?_) (fun h1 => ?_)
 ·try rw [h1]
  try simp only [qA, List.length_nil] at h1
  refine Qr (ks5 Z Z Z Z Z ?_)
  refine Qw ?_ -- 2
  refine Qu (QH fun K hK => mv2 Z Z (Qa Z (QG Z Z Z Wa (QS Wa) Z (Q6 Z Z (Qx Z Z Z (Qz Z Z (Xl Z Z (fun _ h => Y8 Z Z Z h) Z Wf Z Z Z Wh Wh (Qa Z (hK _ ?_)))))))))
  refine Qd (ks5 Z Z Z Z Z (QH fun K hK => Qa Z (QY Z Z Wc (Qa Z (hK _ ?_)))))
  refine Qf (i + 1) ?_ ?_ ?_
  ·exact QX (l := [1, 2, 5, 6, 7]) (lH := [2, 6]) (kp5 rfl rfl rfl rfl rfl) (Qb rfl (Qb rfl Qi)) Wo Wp rfl
  ·omega
  ·first | omega | (simp only; omega) | (dsimp only; omega)
 ·try rw [h1]
  try simp only [qA, List.length_nil] at h1
  refine Zb (QF (Qt (Qy (ks3 Z Z Z ?_))))
  refine Qw ?_ -- 3
  refine Qc fun K hK => Qa Z (kc4 hK Z Z Z Z ?_)
  refine Qu ?_
  refine Zh (ι := Unit) (fun _ => ⟨[(1, Zo []), (2, .ref 2 0 0), (6, .osl 6 (mDB w).length), (8, .int .i64 0)], [(2, ⟨[[.sl ((w).map Yg)]], 1, 26, true⟩), (6, ⟨(mDB w).map (fun t => [ZC t]), 1, 34, true⟩)]⟩) (fun _ => True) (fun _ => 0) () ?_ ?_ ?_
  ·exact QX (l := [1, 2, 6, 8]) (lH := [2, 6]) (kp4 rfl rfl rfl rfl) (Qb rfl (Qb rfl Qi)) (by rw [Lw Wa]) (by rw [Lw Wa]) rfl
  ·trivial
  intro _ hJ
  try dsimp only
  refine Qw ?_ -- 4
  refine Qc fun K hK => mv2 Z Z ?_
  first | refine QN rfl QP ?_ | refine QN rfl rfl ?_
  refine Z7 Z Z (Qa Z ?_)
  refine QB (g := 31) Z (fun h2 => ?_) (fun h2 => ?_)
  ·try rw [h2]
   try simp only [qA, List.length_nil] at h2
   exact absurd h2 Wk
  ·try rw [h2]
   try simp only [qA, List.length_nil] at h2
   refine gn4 Z Z Z Z (Xx Z (Ql Z Z (kc5 hK Z Z Z Z Z ?_)))
   refine ZG Z (Zb (QF (Qt (Qy (ks1 Z (Qc fun K hK => mv2 Z Z (kc1 hK Z ?_)))))))
   refine Qq ?_
   exact JQ rfl rfl rfl Wf Wu
theorem Dy {v : Int} (h0 : -1 <= v) (h1v : v <= 60) : Ok Tryz.prog 73 [.int .i64 v] (.int .i64 (2 ^ (v + 1).toNat)) := by
 refine Ok.ofT Z2 Tryz.func73 Qfw (Qf0 Z) ?_
 show TW _ _ tf73.body _ _
 refine Qc fun K hK => Qa Z (kc1 hK Z ?_)
 refine Qc fun K hK => Qa Z (QY Z Z Wc (Qb0 Z Z Wa (Qad Wa) (Qa Z (kc1 hK Z ?_))))
 refine Qq (QC Z ?_)
 rfl
theorem Dz {w : Qn} (hw : WSm w) {u : Int} : Ok Tryz.prog 72 [Z4 w, .int .i64 u] (.bool (inW w u)) := by
 refine Ok.ofT Z2 Tryz.func72 Qfv (Qf0 Z) ?_
 show TW _ _ tf72.body _ _
 refine Qc fun K hK => Zx Z Z Z (Qa Z (kc2 hK Z Z ?_))
 refine Qc fun K hK => Qa Z (FT Z Z (Qa Z ?_))
 refine QB (g := 7) Z (fun h1 => ?_) (fun h1 => ?_)
 ·try rw [h1]
  try simp only [qA] at h1
  refine Qh Z (Qa Z (Qh Z (Qe Z Z (Qh Z (Qx Z Z Z (Qh Z ?_))))))
  first | refine QN rfl QP ?_ | refine QN rfl rfl ?_
  refine Qh Z (Z7 Z Z (Ql Z Z (Qa Z (kc1 hK Z ?_))))
  refine Qq (Qp Z ?_)
  first | rfl | (rw [KF Wa]; done) | (rw [inW, decide_eq_true h1, Bool.true_and])
 ·try rw [h1]
  try simp only [qA] at h1
  refine gn4 Z Z Z Z (Xx Z (Ql Z Z (Qa Z (kc1 hK Z ?_))))
  refine Qq (Qp Z ?_)
  first | rfl | (rw [KF Wa]; done) | (rw [inW, decide_eq_true h1, Bool.true_and])
theorem GH {w : Qn} (hw : WSm w) {u : Int} : Ok Tryz.prog 49 [Z4 w, .int .i64 u] (.int .i64 (Y4 w u)) := by
 refine Ok.ofT Z2 Tryz.func49 Qe8 (Qf0 Z) ?_
 show TW _ _ tf49.body _ _
 refine Qc fun K hK => Zx Z Z Z (Qa Z (kc2 hK Z Z ?_))
 refine Qw ?_ -- 0
 refine Qc fun K hK => QE (cs := [_]) Z Z Z Z (Qa Z (QD (Dz hw) Z Z (.inr Z) (Yn Z (kc3 hK Z Z Z ?_))))
 refine Qs Z (fun h1 => ?_) (fun h1 => ?_)
 ·try rw [h1]
  try simp only [qA] at h1
  try have h1b := Hp.1 h1
  refine Qc fun K hK => Qa Z (kc1 hK Z ?_)
  refine Qq (Qg (QC Z ?_))
  rw [Mu.2 h1]
 ·try rw [h1]
  try simp only [qA] at h1
  try have h1b := Hp.1 h1
  refine Qr (ks2 Z Z (Qc fun K hK => Qe Z Z (Qx Z Z Z (Qa Z (QG Z Z Z Wa (Zq Wa Wa) Z (Q6 Z Z (Qx Z Z Z ?_)))))))
  first | refine QN rfl QP ?_ | refine QN rfl rfl ?_
  refine QD (Dy Wa (by have := hw.cs _ (Qf5 (Wa : u.toNat < w.length)); omega)) Z Z (.inr Z) (Jf Z Z (Tk (by have := hw.cs _ (Qf5 (Wa : u.toNat < w.length)); omega)) (Qa Z (kc1 hK Z ?_)))
  refine Qq (QC Z ?_)
  rw [RC h1b.1 h1b.2, show min (w[u.toNat]'Wa).cs.length 16 = (w[u.toNat]'Wa).cs.length from Nat.min_eq_left (hw.cs _ (Qf5 _)), Qac]
theorem Se {w : Qn} (hw : WSm w) {l : List QL} (hl : l.length <= 10000000) {u : Int} : Ok Tryz.prog 75 [Z4 w, Zv l, .int .i64 u] (.int .i64 (HA w l u)) := by
 refine Ok.ofT Z2 Tryz.func75 Qfy (Qf0 Z) ?_
 show TW _ _ tf75.body _ _
 refine Qc fun K hK => Zx Z Z Z (Qa Z (kc3 hK Z Z Z ?_))
 refine Qw ?_ -- 0
 refine Qc fun K hK => Qa Z ?_
 first | refine QN rfl QP ?_ | refine QN rfl rfl ?_
 refine Jf Z Z Wc (Qa Z (kc4 hK Z Z Z Z ?_))
 refine Qu ?_
 refine Zh (ι := Nat) (fun i => ⟨[(1, Zv l), (2, .int .i64 u), (3, .ref 3 0 0), (7, .int .i64 ((i : Int) - 1))], [(3, ⟨[[.sl ((w).map Yg)]], 1, 26, true⟩)]⟩) (fun i => i <= l.length /\ HA w l u = HA w (l.take i) u) (fun i => i) l.length ?_ ?_ ?_
 ·exact QX (l := [1, 2, 3, 7]) (lH := [3]) (kp4 rfl rfl rfl rfl) (Qb rfl Qi) rfl rfl rfl
 ·exact ⟨Nat.le_refl _, by rw [List.take_length]⟩
 intro i hI
 try dsimp only
 refine Qw ?_ -- 1
 refine Qc fun K hK => Qa Z (FT Z Z (kc5 hK Z Z Z Z Z ?_))
 refine Qs Z (fun h1 => ?_) (fun h1 => ?_)
 ·try rw [h1]
  try simp only [qA] at h1
  refine Qr (ks4 Z Z Z Z ?_)
  refine Qw ?_ -- 2
  refine Qu (Qc fun K hK => mv2 Z Z (QG Z Z Z Wa (Zq Wa Wa) Z (Q6 Z Z (Qx Z Z Z (Qa Z (ZO Z Z (kc5 hK Z Z Z Z Z ?_)))))))
  refine Qs Z (fun h2 => ?_) (fun h2 => ?_)
  ·try rw [h2]
   try simp only [qA] at h2
   refine Qc fun K hK => mv2 Z Z (QG Z Z Z Wa (Zq Wa Wa) Z (Q6 Z Z (Qx Z Z Z (Qa Z (kc1 hK Z ?_)))))
   refine Qq (Qo (Qg (Q0 (Qo (Qg (QC Z ?_))))))
   rw [hI.2, C3 (k := ((i : Int) - 1).toNat) Wa Wa h2]
  ·try rw [h2]
   try simp only [qA] at h2
   refine Qr (Qd (ks4 Z Z Z Z (QH fun K hK => Qa Z (Jf Z Z Wc (Qa Z (hK _ ?_))))))
   refine Qf (i - 1) ?_ ?_ ?_
   ·exact QX (l := [1, 2, 3, 7]) (lH := [3]) (kp4 rfl rfl rfl rfl) (Qb rfl Qi) (by simp only [List.cons.injEq, Prod.mk.injEq, D.int.injEq, and_true, true_and]; omega) rfl rfl
   ·exact ⟨Wa, by rw [hI.2, DO (k := ((i : Int) - 1).toNat) Wa Wa h2]⟩
   ·first | omega | (simp only; omega) | (dsimp only; omega)
 ·try rw [h1]
  try simp only [qA] at h1
  refine Zb (QF (Qt (Qy (ks2 Z Z (Qc fun K hK => QE (cs := [_]) Z Z Z Z (Qa Z (QD (GH hw) Z Z (.inr Z) (Qa Z (kc1 hK Z ?_)))))))))
  refine Qq (QC Z ?_)
  rw [hI.2, show i = 0 by omega]; rfl
theorem Sd {w : Qn} (hw : WSm w) {l : List QL} (hl : l.length <= 10000000) {u : Int} : Ok Tryz.prog 51 [Z4 w, Zv l, .int .i64 u] (.int .i64 (Q9 w l u)) := by
 refine Ok.ofT Z2 Tryz.func51 Qfa (Qf0 Z) ?_
 show TW _ _ tf51.body _ _
 refine Qc fun K hK => Zx Z Z Z (Qa Z (kc3 hK Z Z Z ?_))
 refine Qw ?_ -- 0
 refine Qc fun K hK => QE (cs := [_]) Z Z Z Z (Qa Z (QD (GH hw) Z Z (.inr Z) (ZO Z Z (kc4 hK Z Z Z Z ?_))))
 refine Qs Z (fun h1 => ?_) (fun h1 => ?_)
 ·try rw [h1]
  try simp only [qA] at h1
  refine Qc fun K hK => Qa Z (kc1 hK Z ?_)
  refine Qq (Qg (QC Z ?_))
  rw [Fq (Mu.1 h1)]
 ·try rw [h1]
  try simp only [qA] at h1
  refine Qr (ks3 Z Z Z (Qc fun K hK => QE (cs := [_]) Z Z Z Z (mv2 Z Z (QD (Se hw hl) Z Z (.inr Z) (Qa Z (kc1 hK Z ?_))))))
  refine Qq (QC Z ?_)
  rw [QaR (by simpa using fun e => h1 (Mu.2 e))]
theorem Rc {l : List QL} (hl : l.length <= 10000000) : Ok Tryz.prog 53 [Zv l] (.int .i64 (XB l)) := by
 refine Ok.ofT Z2 Tryz.func53 Qfc (Qf0 Z) ?_
 show TW _ _ tf53.body _ _
 refine Qc fun K hK => Qa Z (kc1 hK Z ?_)
 refine Qw ?_ -- 0
 refine Qc fun K hK => Qa Z ?_
 first | refine QN rfl QP ?_ | refine QN rfl rfl ?_
 refine ZO Z Z (kc2 hK Z Z ?_)
 refine Qs Z (fun h1 => ?_) (fun h1 => ?_)
 ·try rw [h1]
  try simp only [qA] at h1
  refine Qc fun K hK => Qa Z (kc1 hK Z ?_)
  refine Qq (Qg (QC Z ?_))
  rw [SG h1]
 ·try rw [h1]
  try simp only [qA] at h1
  refine Qr (ks1 Z (Qc fun K hK => mv2 Z Z ?_))
  first | refine QN rfl QP ?_ | refine QN rfl rfl ?_
  refine Jf Z Z Wc (QG Z Z Z Wa (Zq Wa Wa) Z (Q6 Z Z (Qx Z Z Z (Qa Z (kc1 hK Z ?_)))))
  refine Qq (QC Z ?_)
  rw [LR (k := ((l.length : Int) - 1).toNat) Wa]
theorem DA {l : List QL} (hl : l.length <= 10000000) {s : QL} : Ok Tryz.prog 52 [Zv l, .agg (Sk s)] (Zv (l ++ [s])) := by
 refine Ok.ofT Z2 Tryz.func52 Qfb (Qf0 Z) ?_
 show TW _ _ tf52.body _ _
 refine Qc fun K hK => Zx Z Z Z (Qa Z (kc2 hK Z Z ?_))
 refine Qc fun K hK => mv2 Z Z ?_
 first | refine QN rfl QP ?_ | refine QN rfl rfl ?_
 refine Qa Z ?_
 first | refine QN rfl QP ?_ | refine QN rfl rfl ?_
 refine Qan Z Z Z Z Z Wa Wa Wf DX (BT Z) (QI (ds0 := [2, 1, 0]) (cs := [_, _, _, _]) Z Z Z Z Z Z (Qz Z Z (Gz (ds0 := [0]) Z Z (fun _ h => Y8 Z Z Z h) Z (.inr Wf) DX Wh Wh Z Z (Qa Z (kc1 hK Z ?_)))))
 refine Qq ?_
 exact JQ rfl rfl rfl Wf (by simp [Zv, Sk])
theorem Pf {w : Qn} (hw : WSm w) {l : List QL} (hl : l.length <= 10000000) (hp : YK w l) {t : TermT} {c : Int} : Ok Tryz.prog 28 [Z4 w, Zv l, .agg (Fa t), .int .i64 c] (dOS (Ym w l t c)) := by
 refine Ok.ofT Z2 Tryz.func28 QeN (Qf0 Z) ?_
 show TW _ _ tf28.body _ _
 refine Qc fun K hK => Zx Z Z Z (Zx Z Z Z (mv2 Z Z (kc4 hK Z Z Z Z ?_)))
 refine Qc fun K hK => QE (cs := [_]) Z Z Z Z (Qa Z (Qe Z Z (Qx Z Z Z (QD (Sd hw hl) Z Z (.inr Z) (Qa Z (kc4 hK Z Z Z Z ?_))))))
 refine Qw ?_ -- 0
 refine Qc fun K hK => Qa Z (Z7 Z Z (Qa Z ?_))
 refine QB (g := 18) Z (fun h1 => ?_) (fun h1 => ?_)
 ·try rw [h1]
  try simp only [qA] at h1
  refine gn4 Z Z Z Z (Xx Z (Ql Z Z (Qa Z (gn4 Z Z Z Z (Xx Z ?_)))))
  refine Ql Z Z (kc5 hK Z Z Z Z Z ?_)
  refine Zt Z (Qc fun K hK => mv2 Z Z (kc2 hK Z Z ?_))
  refine Qq (Qg ?_)
  rw [HQ (.inl h1)]
  exact QO rfl rfl ⟨rfl, rfl⟩
 ·try rw [h1]
  try simp only [qA] at h1
  refine Qh Z (Qa Z (Qh Z (Qe Z Z (Qh Z (Qx Z Z Z (Qh Z (NF Z Z (Qh Z (ZO Z Z (Ql Z Z (Qa Z ?_)))))))))))
  refine QB (g := 25) Z (fun h2 => ?_) (fun h2 => ?_)
  ·try rw [h2]
   try simp only [qA] at h2
   refine gn4 Z Z Z Z (Xx Z (Ql Z Z (kc5 hK Z Z Z Z Z ?_)))
   refine Zt Z (Qc fun K hK => mv2 Z Z (kc2 hK Z Z ?_))
   refine Qq (Qg ?_)
   rw [Cw hp h2]
   exact QO rfl rfl ⟨rfl, rfl⟩
  ·try rw [h2]
   try simp only [qA] at h2
   refine Qh Z (Qa Z (Qh Z (Qe Z Z (Qh Z (Qx Z Z Z (Qh Z (NO Z Z (Qh Z (ZO Z Z (Ql Z Z (kc5 hK Z Z Z Z Z ?_)))))))))))
   refine Qs Z (fun h3 => ?_) (fun h3 => ?_)
   ·try rw [h3]
    try simp only [qA] at h3
    refine Qc fun K hK => mv2 Z Z (kc2 hK Z Z ?_)
    refine Qq (Qg ?_)
    rw [Cx h3]
    exact QO rfl rfl ⟨rfl, rfl⟩
   ·try rw [h3]
    try simp only [qA] at h3
    refine Qr (ks4 Z Z Z Z (Qc fun K hK => Qa Z (Qe Z Z (QR (ds0 := [3, 2, 1]) Z Z Z Z Z (Qa Z (Qe Z Z (QR (ds0 := [7, 3, 2, 1]) Z Z Z Z Z (NO Z Z (Qa Z (QQ (ds0 := [3, 2, 1]) (Rc hl) Z Z (.inr Z) Z Z ?_))))))))))
    refine Qa Z (QT Z Z (QQ (ds0 := [1]) (DA (s := ⟨t.u, NR (Q9 w l t.u) t.m, XB l, c⟩) hl) Z Z (.inl Z) Z Z (mv2 Z Z (kc2 hK Z Z ?_))))
    refine Qq ?_
    rw [Sl hp Wa h2 h3]
    exact QO rfl rfl ⟨rfl, rfl⟩
end Go.Proofs
namespace M25
open Go Go.Abs M3
/-! ### prop: what is left of each unit, scans -/
def ZT (w : Qn) (l : List QL) : List Int := (List.range w.length).map fun k => Q9 w l ((k : Nat) : Int)
theorem Kh (w : Qn) (l : List QL) : (ZT w l).length = w.length := by simp [ZT]
def GK (w : Qn) (i : Nat) : List Int := (List.range w.length).map fun k => if k < i then Y4 w ((k : Nat) : Int) else 0
theorem SC (w : Qn) (i : Nat) : (GK w i).length = w.length := by simp [GK]
theorem DN (w : Qn) : GK w 0 = List.replicate w.length 0 := by
  refine List.ext_getElem (by simp [GK]) fun i h1 h2 => ?_
  simp [GK]
theorem LL {w : Qn} {i : Nat} : GK w (i + 1) = (GK w i).set i (Y4 w ((i : Nat) : Int)) := by
  refine List.ext_getElem (by simp [GK]) fun k h1 h2 => ?_
  rw [List.getElem_set]
  simp only [GK, List.getElem_map, List.getElem_range]
  by_cases e : i = k
  · subst e; simp
  · rw [if_neg e]
    by_cases h : k < i
    · rw [if_pos h, if_pos Wa]
    · rw [if_neg h, if_neg Wa]
theorem SB (w : Qn) {i : Nat} (h : w.length <= i) : GK w i = ZT w [] := by
  refine List.ext_getElem (by simp [GK, ZT]) fun k h1 h2 => ?_
  simp only [GK, ZT, List.getElem_map, List.getElem_range]
  rw [SC] at h1
  rw [if_pos Wa]; rfl
theorem LP {w : Qn} {l : List QL} {k : Nat} (h : k < (ZT w l).length) : (ZT w l)[k] = Q9 w l ((k : Nat) : Int) := by simp [ZT]
theorem PF {w : Qn} {l : List QL} {s : QL} (h0 : 0 <= s.u) (h1 : s.u < w.length) : ZT w (l ++ [s]) = (ZT w l).set s.u.toNat s.m := by
  refine List.ext_getElem (by simp [ZT]) fun k q1 q2 => ?_
  rw [List.getElem_set]
  simp only [ZT, List.getElem_map, List.getElem_range]
  rw [Kh] at q1
  rw [Kg]
  by_cases e : s.u.toNat = k
  · rw [if_pos e, if_pos ⟨Wa, MD Wa Wa⟩]
  · rw [if_neg e, if_neg (by intro h; exact e Wa)]
theorem DP {w : Qn} {l : List QL} {s : QL} (h : ¬ 0 <= s.u \/ ¬ s.u < w.length) : ZT w (l ++ [s]) = ZT w l := by
  refine List.ext_getElem (by simp [ZT]) fun k q1 q2 => ?_
  simp only [ZT, List.getElem_map, List.getElem_range]
  rw [Kh] at q1
  rw [Kg, if_neg]
  rintro ⟨h1, _⟩
  omega
theorem LQ {w : Qn} {l : List QL} {i : Nat} (h : i < l.length) (h0 : 0 <= l[i].u) (h1 : l[i].u < w.length) : ZT w (l.take (i + 1)) = (ZT w (l.take i)).set l[i].u.toNat l[i].m := by
  rw [List.take_succ_eq_append_getElem h, PF h0 h1]
theorem NX {w : Qn} {l : List QL} {i : Nat} (h : i < l.length) (hn : ¬ 0 <= l[i].u \/ ¬ l[i].u < w.length) : ZT w (l.take (i + 1)) = ZT w (l.take i) := by
  rw [List.take_succ_eq_append_getElem h, DP hn]
def hAt (hv : List Int) (u : Int) : Int := if 0 <= u /\ u < hv.length then hv.getD u.toNat 0 else 0
theorem QbC {hv : List Int} {u : Int} (h0 : 0 <= u) (h1 : u < hv.length) : hAt hv u = hv[u.toNat]'Wa := by
  rw [hAt, if_pos ⟨h0, h1⟩, List.getD_eq_getElem?_getD, List.getElem?_eq_getElem Wa]; rfl
theorem TH {hv : List Int} {u : Int} (h : ¬ 0 <= u \/ ¬ u < hv.length) : hAt hv u = 0 := by
  rw [hAt, if_neg]; omega
theorem CU (w : Qn) (l : List QL) : hAt (ZT w l) = Q9 w l := by
  funext u
  by_cases h : 0 <= u /\ u < w.length
  · rw [QbC h.1 (by rw [Kh]; exact h.2), LP, Int.toNat_of_nonneg h.1]
  · rw [TH (by rw [Kh]; omega), Fq]
    exact KF Wa
def X9 (h : Int -> Int) : List TermT -> Int -> Option Int
  | [], a => some a
  | t :: r, a => if JY (h t.u) t.m = 0 then none else if JY (h t.u) t.m = 1 then (if 0 <= a then none else X9 h r t.u) else X9 h r a
theorem N3 {h : Int -> Int} {inc : List TermT} {a : Int} {i : Nat} (hi : i < inc.length) : X9 h (inc.drop i) a = if JY (h inc[i].u) inc[i].m = 0 then none else if JY (h inc[i].u) inc[i].m = 1 then (if 0 <= a then none else X9 h (inc.drop (i + 1)) inc[i].u) else X9 h (inc.drop (i + 1)) a := by
  rw [Qgh hi, X9]
theorem Br {h : Int -> Int} {inc : List TermT} {a : Int} {i : Nat} (hi : inc.length <= i) : X9 h (inc.drop i) a = some a := by
  rw [Qgl hi, X9]
def GQ (h : Int -> Int) : Nat -> List (List TermT) -> Int × Int
  | _, [] => (-1, -1)
  | i, x :: r => match X9 h x (-1) with
    | some u => ((i : Int), u)
    | none => GQ h (i + 1) r
theorem BP {h : Int -> Int} {db : List (List TermT)} {i : Nat} (hi : i < db.length) (ho : (X9 h db[i] (-1)).isSome = true) : GQ h i (db.drop i) = ((i : Int), (X9 h db[i] (-1)).getD 0) := by
  rw [Qgh hi, GQ]
  cases hc : X9 h db[i] (-1) with
  | none => rw [hc] at ho; cases ho
  | some u => rfl
theorem Qbc {h : Int -> Int} {db : List (List TermT)} {i : Nat} (hi : i < db.length) (ho : (X9 h db[i] (-1)).isSome = false) : GQ h i (db.drop i) = GQ h (i + 1) (db.drop (i + 1)) := by
  rw [Qgh hi, GQ]
  cases hc : X9 h db[i] (-1) with
  | none => rfl
  | some u => rw [hc] at ho; cases ho
theorem BO {h : Int -> Int} {db : List (List TermT)} {i : Nat} (hi : db.length <= i) : GQ h i (db.drop i) = (-1, -1) := by rw [Qgl hi, GQ]
theorem Nr (m : Int) : Zy 0 m = 2 := by
  rw [Zy, if_pos]
  exact Kq.2 fun i hi => by rw [RU] at hi; cases hi
theorem GS (x m : Int) : Zy x m = 0 \/ Zy x m = 1 \/ Zy x m = 2 := by
  unfold Zy
  split
  · exact .inr (.inr rfl)
  · split
    · exact .inl rfl
    · exact .inr (.inl rfl)
theorem Nm {h : Int -> Int} (hI : ∀ u, I64 (h u)) (hneg : ∀ u, u < 0 -> h u = 0) : ∀ (l : List TermT) (a : Int), (a = -1 \/ 0 <= a) ->
    (∀ b, X9 h l a = some b -> ZD h l a = b /\ (b = a \/ (a = -1 /\ 0 <= b)) /\ (b = a -> ∀ t ∈ l, Zy (h t.u) t.m = 2)) /\ (X9 h l a = none -> ZD h l a = -1 /\ ∃ t ∈ l, Zy (h t.u) t.m ≠ 2)
  | [], a, ha => ⟨fun b hb => by simp only [X9, Qf3] at hb; subst hb; exact ⟨rfl, .inl rfl, by simp⟩, fun hb => by simp [X9] at hb⟩
  | t :: r, a, ha => by
    rw [X9, ZD, Qbm (hI t.u)]
    rcases GS (h t.u) t.m with e | e | e
    · simp only [show (Zy (h t.u) t.m = 0) = True from by rw [e]; simp, if_true]
      exact ⟨(fun b hb => by cases hb), fun _ => ⟨by first | rfl | trivial, t, by simp, by rw [e]; decide⟩⟩
    · simp only [show (Zy (h t.u) t.m = 0) = False from by rw [e]; simp, show (Zy (h t.u) t.m = 1) = True from by rw [e]; simp, if_true, if_false]
      have hu : 0 <= t.u := Classical.byContradiction fun hn => by
        rw [hneg t.u Wa, Nr] at e; cases e
      by_cases h0 : 0 <= a
      · rw [if_pos h0, if_pos h0]
        exact ⟨(fun b hb => by cases hb), fun _ => ⟨rfl, t, by simp, by rw [e]; decide⟩⟩
      · rw [if_neg h0, if_neg h0]
        obtain ⟨q1, q2⟩ := Nm hI hneg r t.u (.inr hu)
        refine ⟨fun b hb => ?_, fun hb => ?_⟩
        · obtain ⟨p1, p2, _⟩ := q1 b hb
          rcases p2 with rfl | ⟨p2, _⟩
          · exact ⟨p1, .inr ⟨Wa, hu⟩, fun e2 => Wa⟩
          · omega
        · exact ⟨(q2 hb).1, t, by simp, by rw [e]; decide⟩
    · simp only [show (Zy (h t.u) t.m = 0) = False from by rw [e]; simp, show (Zy (h t.u) t.m = 1) = False from by rw [e]; simp, if_false]
      obtain ⟨q1, q2⟩ := Nm hI hneg r a ha
      refine ⟨fun b hb => ?_, fun hb => ?_⟩
      · obtain ⟨p1, p2, p3⟩ := q1 b hb
        refine ⟨p1, p2, fun e2 s hs => ?_⟩
        rcases Qf2.1 hs with rfl | hs
        · exact e
        · exact p3 e2 s hs
      · obtain ⟨p1, s, hs, p2⟩ := q2 hb
        exact ⟨p1, s, by simp [hs], p2⟩
theorem LO {w : Qn} {l : List QL} {u : Int} (h : u < 0) : Q9 w l u = 0 := Fq (KF (.inl h))
theorem H9 {w : Qn} {l : List QL} {inc : List TermT} : GN w l inc = true ↔ ∀ t ∈ inc, Zy (Q9 w l t.u) t.m = 2 := by simp [GN]
theorem Dh {w : Qn} {l : List QL} (hp : YK w l) : ∀ (db : List (List TermT)) (i : Nat), GQ (Q9 w l) i db = Yo w l i db
  | [], _ => rfl
  | x :: db, i => by
    rw [GQ, Yo]
    obtain ⟨q1, q2⟩ := Nm (h := Q9 w l) (fun u => (XT hp u).i64) (fun u => LO) x (-1) (.inl rfl)
    cases hc : X9 (Q9 w l) x (-1) with
    | none =>
      obtain ⟨p1, t, ht, p2⟩ := q2 hc
      rw [if_neg (fun hs => p2 (H9.1 hs t ht)), if_neg (by show ¬ 0 <= ZD _ _ _; rw [p1]; omega)]
      exact Dh hp db (i + 1)
    | some b =>
      obtain ⟨p1, p2, p3⟩ := q1 b hc
      by_cases hs : GN w l x = true
      · rw [if_pos hs]
        simp only
        rcases p2 with rfl | ⟨_, p2⟩
        · rfl
        · exfalso
          have := H9.1 hs
          have key : ∀ (r : List TermT), (∀ t ∈ r, Zy (Q9 w l t.u) t.m = 2) -> ZD (Q9 w l) r (-1) = -1 := by
            intro r
            induction r with
            | nil => intro _; rfl
            | cons t r ih =>
              intro h
              rw [ZD, if_neg (by rw [h t Wf]; decide), if_neg (by rw [h t Wf]; decide)]
              exact ih fun s hs => h s (by simp [hs])
          rw [key x this] at p1
          omega
      · rw [if_neg hs]
        have hb : b ≠ -1 := fun e => hs (H9.2 (p3 e))
        have h0 : 0 <= b := by
          rcases p2 with e | ⟨_, e⟩
          · exact absurd e hb
          · exact e
        have hm : GM w l x = b := p1
        rw [hm, if_pos h0]
theorem BN {w : Qn} {db : List (List TermT)} {l : List QL} (hp : YK w l) : GQ (hAt (ZT w l)) 0 db = ZE w db l := by rw [CU, Dh hp]; rfl
theorem TT {h : Int -> Int} (hneg : ∀ u, u < 0 -> h u = 0) : ∀ (l : List TermT) (a : Int), 0 <= ZD h l a -> (a = ZD h l a /\ ∀ t ∈ l, Zy (h t.u) t.m = 2) \/ (¬ 0 <= a /\ ∃ k, ∃ hk : k < l.length, l[k].u = ZD h l a /\ Zy (h l[k].u) l[k].m = 1 /\ ∀ j, ∀ hj : j < l.length, j ≠ k -> Zy (h l[j].u) l[j].m = 2)
  | [], a, _ => .inl ⟨rfl, by simp⟩
  | t :: r, a, h0 => by
    rw [ZD] at h0 ⊢
    rcases GS (h t.u) t.m with e | e | e
    · rw [if_pos e] at h0; omega
    · rw [if_neg (by rw [e]; decide), if_pos e] at h0 ⊢
      by_cases ha : 0 <= a
      · rw [if_pos ha] at h0; omega
      · rw [if_neg ha] at h0 ⊢
        rcases TT hneg r t.u h0 with ⟨q1, q2⟩ | ⟨q1, k, hk, q2, q3, q4⟩
        · refine .inr ⟨ha, 0, by simp, by simpa using q1, by simpa using e, fun j hj hn => ?_⟩
          obtain ⟨i, rfl⟩ : ∃ i, j = i + 1 := ⟨j - 1, Wa⟩
          simp only [List.getElem_cons_succ]
          exact q2 _ (Qf5 _)
        · rw [hneg t.u Wa, Nr] at e; cases e
    · rw [if_neg (by rw [e]; decide), if_neg (by rw [e]; decide)] at h0 ⊢
      rcases TT hneg r a h0 with ⟨q1, q2⟩ | ⟨q1, k, hk, q2, q3, q4⟩
      · exact .inl ⟨q1, fun s hs => by
          rcases Qf2.1 hs with rfl | hs
          · exact e
          · exact q2 s hs⟩
      · refine .inr ⟨q1, k + 1, by simpa using hk, by simpa using q2, by simpa using q3, fun j hj hn => ?_⟩
        cases j with
        | zero => simpa using e
        | succ j => simp only [List.getElem_cons_succ]; exact q4 j (by simpa using hj) Wa
structure OpenAt (w : Qn) (db : List (List TermT)) (l : List QL) (a : Nat) (k : Nat) : Prop where
  ha : a < db.length
  hk : k < db[a].length
  eq : ZE w db l = ((a : Int), db[a][k].u)
  one : Zy (Q9 w l db[a][k].u) db[a][k].m = 1
  two : ∀ j, ∀ hj : j < db[a].length, j ≠ k -> Zy (Q9 w l db[a][j].u) db[a][j].m = 2
theorem FM {w : Qn} {db : List (List TermT)} {l : List QL} (h : ¬ (ZE w db l).2 < 0) : ∃ a k, OpenAt w db l a k := by
  have h' := h
  unfold ZE at h
  rcases N6 w l db 0 with e | ⟨a, _, ha, ⟨e, _⟩ | ⟨_, h0, e⟩⟩
  · rw [e] at h; simp at h
  · rw [e] at h; simp at h
  · simp only [Nat.sub_zero] at ha h0 e
    rcases TT (fun u hu => LO hu) db[a] (-1) h0 with ⟨q1, _⟩ | ⟨_, k, hk, q2, q3, q4⟩
    · have : (0 : Int) <= -1 := by rw [q1]; exact h0
      omega
    · exact ⟨a, k, ha, hk, by rw [ZE, e, q2]; rfl, q3, q4⟩
theorem Qbe {w : Qn} {db : List (List TermT)} {l : List QL} (h : (ZE w db l).1 < 0) : (ZE w db l).2 < 0 := by
  refine Classical.byContradiction fun hn => ?_
  obtain ⟨a, k, ho⟩ := FM hn
  rw [ho.eq] at h; simp only at h; omega
theorem Tg {x m : Int} (h : Zy x m = 1) : KY x m ≠ 0 /\ ¬ KY x m = x := by
  unfold Zy at h
  split at h
  · cases h
  · rename_i h1
    split at h
    · cases h
    · rename_i h2; exact ⟨h2, h1⟩
theorem Th {x m : Int} : Zy x m = 2 ↔ KY x m = x := by
  unfold Zy
  split
  · rename_i h; exact ⟨fun _ => h, fun _ => rfl⟩
  · rename_i h
    split
    · exact ⟨(fun h2 => by cases h2), fun h2 => absurd h2 h⟩
    · exact ⟨(fun h2 => by cases h2), fun h2 => absurd h2 h⟩
theorem L8 {w : Qn} {l : List QL} {u m : Int} (h : Zy (Q9 w l u) m = 1) : inW w u = true := by
  cases hw : inW w u
  · rw [Fq hw, Nr] at h; cases h
  · rfl
theorem MT {f u : Int} : ∀ {l : List TermT} {k : Nat} (hk : k < l.length), l[k].u = u -> (∀ j, ∀ hj : j < k, (l[j]'Wa).u ≠ u) -> K1 f u l = l[k].m
  | t :: l, 0, _, h, _ => by rw [K1, if_pos (by simpa using h)]; rfl
  | t :: l, k + 1, hk, h, hn => by
    have h0 := hn 0 Wa
    simp only [List.getElem_cons_zero] at h0
    rw [K1, if_neg h0, List.getElem_cons_succ]
    exact MT (by simpa using hk) (by simpa using h) fun j hj => by
      have := hn (j + 1) Wa
      simpa using this
theorem IncOk.uniq {w : Qn} {l : List TermT} (h : IncOk w l) {i j : Nat} (hi : i < l.length) (hj : j < l.length) (e : l[i].u = l[j].u) : i = j := by
  have hp := List.pairwise_iff_getElem.1 h.1
  rcases Nat.lt_trichotomy i j with h1 | h1 | h1
  · have := hp i j hi hj h1; omega
  · exact h1
  · have := hp j i hj hi h1; omega
theorem OpenAt.mask {w : Qn} {db : List (List TermT)} {l : List QL} {a k : Nat} (h : OpenAt w db l a k) (hi : ∀ x ∈ db, IncOk w x) : GL w (db[a]'h.ha) ((db[a]'h.ha)[k]'h.hk).u = ((db[a]'h.ha)[k]'h.hk).m :=
  MT h.hk rfl fun j hj e => by
    have := (hi _ (Qf5 h.ha)).uniq (by have := h.hk; omega) h.hk e
    omega
theorem OpenAt.step {w : Qn} {db : List (List TermT)} {l : List QL} {a k : Nat} (h : OpenAt w db l a k) (hp : YK w l) : Ym w l ((db[a]'h.ha)[k]'h.hk) a = some (l ++ [⟨((db[a]'h.ha)[k]'h.hk).u, NR (Q9 w l ((db[a]'h.ha)[k]'h.hk).u) ((db[a]'h.ha)[k]'h.hk).m, XB l, a⟩]) := by
  obtain ⟨h1, h2⟩ := Tg h.one
  refine Sl hp Wa h1 fun e => h2 ?_
  rw [Xh (XT hp _).i64, <- L7]; exact e
theorem PV {w : Qn} {l : List QL} {s : QL} (hp : YK w l) (hs : Lo s.m) : YK w (l ++ [s]) := fun t ht => by
  rcases Qgb.1 ht with ht | ht
  · exact hp t ht
  · simp only [Qf9] at ht; subst ht; exact hs
def NN (w : Qn) (l : List QL) : Nat -> Nat
  | 0 => 0
  | k + 1 => NN w l k + (KL (Q9 w l ((k : Nat) : Int))).length
def tot (w : Qn) (l : List QL) : Nat := NN w l w.length
theorem Qaa (w : Qn) (l : List QL) : ∀ n, NN w l n <= 17 * n
  | 0 => Nat.le_refl _
  | n + 1 => by
    have := Qaa w l n
    have h2 : (KL (Q9 w l ((n : Nat) : Int))).length <= 17 := HR _ 17
    rw [NN]; omega
theorem Dl {w : Qn} {l : List QL} {u m lv c : Int} (hp : YK w l) (hu : inW w u = true) (hm : KY (Q9 w l u) m ≠ 0) : ∀ n, NN w (l ++ [⟨u, NR (Q9 w l u) m, lv, c⟩]) n <= NN w l n /\ (u < n -> NN w (l ++ [⟨u, NR (Q9 w l u) m, lv, c⟩]) n < NN w l n)
  | 0 => ⟨Nat.le_refl _, fun h => by rw [Hp] at hu; omega⟩
  | n + 1 => by
    obtain ⟨h1, h2⟩ := Dl (lv := lv) (c := c) hp hu hm n
    rw [NN, NN, Kg]
    by_cases e : u = n
    · rw [if_pos ⟨e, by rw [<- e]; exact hu⟩]
      subst e
      have := Qcn (XT hp _) hm
      exact ⟨by simp only; omega, fun _ => by simp only; omega⟩
    · rw [if_neg (fun h => e h.1)]
      exact ⟨Wa, fun h => by have := h2 Wa; omega⟩
theorem QdE {w : Qn} {l : List QL} {u m lv c : Int} (hp : YK w l) (hu : inW w u = true) (hm : KY (Q9 w l u) m ≠ 0) : tot w (l ++ [⟨u, NR (Q9 w l u) m, lv, c⟩]) < tot w l :=
  (Dl hp hu hm w.length).2 (by rw [Hp] at hu; omega)
def Qaf (w : Qn) (l : List QL) (t : TermT) (c : Int) : QL := ⟨t.u, NR (Q9 w l t.u) t.m, XB l, c⟩
theorem OpenAt.step' {w : Qn} {db : List (List TermT)} {l : List QL} {a k : Nat} (h : OpenAt w db l a k) (hp : YK w l) : Ym w l ((db[a]'h.ha)[k]'h.hk) a = some (l ++ [Qaf w l ((db[a]'h.ha)[k]'h.hk) a]) := h.step hp
theorem OpenAt.inW {w : Qn} {db : List (List TermT)} {l : List QL} {a k : Nat} (h : OpenAt w db l a k) : 0 <= ((db[a]'h.ha)[k]'h.hk).u /\ ((db[a]'h.ha)[k]'h.hk).u < w.length := Hp.1 (L8 h.one)
theorem OpenAt.go {w : Qn} {db : List (List TermT)} {l : List QL} {a k : Nat} (h : OpenAt w db l a k) (hp : YK w l) (hi : ∀ x ∈ db, IncOk w x) {n : Nat} (hn : 0 < n) : KP w db n l = KP w db (n - 1) (l ++ [Qaf w l ((db[a]'h.ha)[k]'h.hk) a]) := by
  have h2 : ¬ (ZE w db l).2 < 0 := by rw [h.eq]; have := h.inW.1; simp only; omega
  have hd : (ZE w db l).1.toNat < db.length := by rw [h.eq]; simpa using h.ha
  rw [Dg h2 hn hd]
  have e1 : db[(ZE w db l).1.toNat]'hd = db[a]'h.ha := by
    congr 1; rw [h.eq]; simp
  rw [e1, h.eq]
  simp only
  rw [h.mask hi, h.step' hp]; rfl
theorem OpenAt.plain {w : Qn} {db : List (List TermT)} {l : List QL} {a k : Nat} (h : OpenAt w db l a k) (hp : YK w l) : YK w (l ++ [Qaf w l ((db[a]'h.ha)[k]'h.hk) a]) := PV hp (Qdr (XT hp _) _)
theorem OpenAt.tot {w : Qn} {db : List (List TermT)} {l : List QL} {a k : Nat} (h : OpenAt w db l a k) (hp : YK w l) : M25.tot w (l ++ [Qaf w l ((db[a]'h.ha)[k]'h.hk) a]) < M25.tot w l := QdE hp (L8 h.one) (Tg h.one).1
theorem SF {w : Qn} {l : List QL} {t : TermT} {c : Int} (h0 : 0 <= t.u) (h1 : t.u < w.length) (h2 : t.u.toNat < (ZT w l).length) : ZT w (l ++ [Qaf w l t c]) = (ZT w l).set t.u.toNat (NR ((ZT w l)[t.u.toNat]) t.m) := by
  rw [PF h0 h1, LP, Int.toNat_of_nonneg h0]; rfl
end M25
namespace Go.Proofs
open Go Go.Abs M3 M25
theorem Nu {w : Qn} (hw : WSm w) {l : List QL} (hl : l.length <= 10000000) (et : Nat) (het : et = 3) : OkH Tryz.prog 26 [Z4 w, Zv l] [] (.osl 500000 (ZT w l).length) [(500000, ⟨(ZT w l).map (fun x => [.int .i64 x]), 1, et, true⟩)] := by
 subst het
 refine OkH.new Z2 Tryz.func26 QeL (Qf0 Z) Z ?_
 show TW _ _ tf26.body _ _
 have hn := hw.len
 refine Qc fun K hK => Zx Z Z Z (Qa Z (kc2 hK Z Z ?_))
 refine Qc fun K hK => Qe Z Z (Qx Z Z Z ?_)
 first | refine QN rfl QP ?_ | refine QN rfl rfl ?_
 refine Qc7 Z Z Z Wa Wh Wh (Qa Z (kc3 hK Z Z Z ?_))
 refine Qw ?_ -- 0
 refine Qc fun K hK => Qa Z ?_
 first | refine QN rfl QP ?_ | refine QN rfl rfl ?_
 refine Qa Z (kc5 hK Z Z Z Z Z ?_)
 refine Qu ?_
 refine Zh (ι := Nat) (fun i => ⟨[(1, Zv l), (2, .ref 2 0 0), (5, .osl 500000 (GK w i).length), (14, .int .i64 w.length), (15, .int .i64 i)], [(2, ⟨[[.sl ((w).map Yg)]], 1, 26, true⟩), (500000, ⟨(GK w i).map (fun x => [.int .i64 x]), 1, 3, true⟩)]⟩) (fun i => i <= w.length) (fun i => w.length - i) 0 ?_ ?_ ?_
 ·exact le_trans (ME (l := [1, 2, 14, 15]) (lH := [2]) 12 500000 5 (kp4 rfl rfl rfl rfl) (Qb rfl Qi) rfl rfl rfl rfl rfl rfl rfl) (QX (l := [1, 2, 5, 14, 15]) (lH := [2, 500000]) (kp5 rfl rfl rfl rfl rfl) (Qb rfl (Qb rfl Qi)) (by simp [GK]) (by rw [DN]; simp; rfl) rfl)
 ·exact Qgc _
 intro i hI
 have hlen := SC w i
 try dsimp only
 refine Qc fun K hK => Z7 Z Z (kc6 hK Z Z Z Z Z Z ?_)
 refine Qw ?_ -- 1
 refine Qs Z (fun h1 => ?_) (fun h1 => ?_)
 ·try rw [h1]
  try simp only [qA] at h1
  refine Qr (ks5 Z Z Z Z Z ?_)
  refine Qw ?_ -- 2
  refine Qu (Qc fun K hK => mv2 Z Z (kc6 hK Z Z Z Z Z Z ?_))
  refine QH fun K hK => mv2 Z Z (QE (cs := [_]) Z Z Z Z (Qa Z (QD (GH hw) Z Z (.inr Z) (Xm Z Z Z Wf Wa Wa Z (Q3 Z Z (QS Wa) Z Z Z Z Z (hK _ ?_))))))
  refine Qd (ks5 Z Z Z Z Z (QH fun K hK => QY Z Z Wc (Qa Z (hK _ ?_))))
  refine Qf (i + 1) ?_ ?_ ?_
  ·exact QX (l := [1, 2, 5, 14, 15]) (lH := [2, 500000]) (kp5 rfl rfl rfl rfl rfl) (Qb rfl (Qb rfl Qi)) (by rw [LL, List.length_set] <;> rfl) (by rw [LL, List.map_set] <;> rfl) rfl
  ·omega
  ·first | omega | (simp only; omega) | (dsimp only; omega)
 ·try rw [h1]
  try simp only [qA] at h1
  refine Zb (QF (Qt (Qy (ks2 Z Z ?_))))
  refine Qw ?_ -- 3
  refine Qc fun K hK => Qa Z ?_
  first | refine QN rfl QP ?_ | refine QN rfl rfl ?_
  refine Qa Z (kc4 hK Z Z Z Z ?_)
  refine Qu ?_
  refine Zh (ι := Nat) (fun j => ⟨[(5, .osl 500000 (ZT w (l.take j)).length), (25, Zv l), (26, .int .i64 l.length), (27, .int .i64 j)], [(500000, ⟨(ZT w (l.take j)).map (fun x => [.int .i64 x]), 1, 3, true⟩)]⟩) (fun j => j <= l.length) (fun j => l.length - j) 0 ?_ ?_ ?_
  ·exact QX (l := [5, 25, 26, 27]) (lH := [500000]) (kp4 rfl rfl rfl rfl) (Qb rfl Qi) (by rw [SB w Wa] <;> rfl) (by rw [SB w Wa] <;> rfl) rfl
  ·exact Qgc _
  intro j hJ
  have hlen := Kh w (l.take j)
  try dsimp only
  refine Qc fun K hK => Z7 Z Z (kc5 hK Z Z Z Z Z ?_)
  refine Qw ?_ -- 4
  refine Qs Z (fun h2 => ?_) (fun h2 => ?_)
  ·try rw [h2]
   try simp only [qA] at h2
   refine Qr (ks4 Z Z Z Z ?_)
   refine Qw ?_ -- 5
   refine Qu (Qc fun K hK => QG Z Z Z Wa (QS Wa) Z (QE (cs := [_, _, _, _]) Z Z Z Z (ZL Z (Q3 Z Z Z Z Z Z Z Z (kc5 hK Z Z Z Z Z ?_)))))
   refine Qc fun K hK => Qe Z Z (Qx Z Z Z (FT Z Z (Qa Z ?_)))
   refine QB (g := 34) Z (fun h3 => ?_) (fun h3 => ?_)
   ·try rw [h3]
    try simp only [qA] at h3
    refine Qh Z (Qe Z Z (Qh Z (Qx Z Z Z (Qh Z (Qa Z (Qh Z ?_))))))
    first | refine QN rfl QP ?_ | refine QN rfl rfl ?_
    refine Qh Z (Z7 Z Z (Ql Z Z (kc6 hK Z Z Z Z Z Z ?_)))
    refine Qs Z (fun h4 => ?_) (fun h4 => ?_)
    ·try rw [h4]
     try simp only [qA] at h4
     refine QH fun K hK => Qa Z (Qe Z Z (Qx Z Z Z (Qe Z Z (Qx Z Z Z (Xm Z Z Z Wf Wa Wa Z (Q3 Z Z (Zq Wa Wa) Z Z Z Z Z (hK _ ?_)))))))
     refine Qd (ks4 Z Z Z Z (QH fun K hK => QY Z Z Wc (Qa Z (hK _ ?_))))
     refine Qf (j + 1) ?_ ?_ ?_
     ·exact QX (l := [5, 25, 26, 27]) (lH := [500000]) (kp4 rfl rfl rfl rfl) (Qb rfl Qi) (by rw [LQ Wa h3 Wa, List.length_set] <;> rfl) (by rw [LQ Wa h3 Wa, List.map_set] <;> rfl) rfl
     ·omega
     ·first | omega | (simp only; omega) | (dsimp only; omega)
    ·try rw [h4]
     try simp only [qA] at h4
     refine Qr (Qd (ks4 Z Z Z Z (QH fun K hK => QY Z Z Wc (Qa Z (hK _ ?_)))))
     refine Qf (j + 1) ?_ ?_ ?_
     ·exact QX (l := [5, 25, 26, 27]) (lH := [500000]) (kp4 rfl rfl rfl rfl) (Qb rfl Qi) (by rw [NX Wa (.inr Wa)] <;> rfl) (by rw [NX Wa (.inr Wa)] <;> rfl) rfl
     ·omega
     ·first | omega | (simp only; omega) | (dsimp only; omega)
   ·try rw [h3]
    try simp only [qA] at h3
    refine gn4 Z Z Z Z (Xx Z (Ql Z Z (kc6 hK Z Z Z Z Z Z ?_)))
    refine ZG Z (Qr (Qd (ks4 Z Z Z Z (QH fun K hK => QY Z Z Wc (Qa Z (hK _ ?_))))))
    refine Qf (j + 1) ?_ ?_ ?_
    ·exact QX (l := [5, 25, 26, 27]) (lH := [500000]) (kp4 rfl rfl rfl rfl) (Qb rfl Qi) (by rw [NX Wa (.inl h3)] <;> rfl) (by rw [NX Wa (.inl h3)] <;> rfl) rfl
    ·omega
    ·first | omega | (simp only; omega) | (dsimp only; omega)
  ·try rw [h2]
   try simp only [qA] at h2
   refine Zb (QF (Qt (Qy (ks1 Z (Qc fun K hK => mv2 Z Z (kc1 hK Z ?_))))))
   refine Qq ?_
   refine YC Z ?_ (HN ?_)
   ·rw [Qgg (Wa : l.length <= j)]; rfl
   ·rw [Qgg (Wa : l.length <= j)]; rfl
theorem Tu {hv : List Int} {inc : List TermT} (hi : inc.length <= 1000000) : Ok Tryz.prog 50 [Zo hv, ZC inc] (.tup [.int .i64 ((X9 (hAt hv) inc (-1)).getD 0), .bool (X9 (hAt hv) inc (-1)).isSome]) := by
 refine Ok.ofT Z2 Tryz.func50 Qe9 (Qf0 Z) ?_
 show TW _ _ tf50.body _ _
 refine Qc fun K hK => mv2 Z Z (kc2 hK Z Z ?_)
 refine Qc fun K hK => Qa Z (kc3 hK Z Z Z ?_)
 refine Qw ?_ -- 0
 refine Qc fun K hK => Qa Z ?_
 first | refine QN rfl QP ?_ | refine QN rfl rfl ?_
 refine Qa Z (kc5 hK Z Z Z Z Z ?_)
 refine Qu ?_
 refine Zh (ι := Nat × Int) (fun ⟨i, a⟩ => ⟨[(0, Zo hv), (6, .int .i64 a), (11, ZC inc), (12, .int .i64 inc.length), (13, .int .i64 i)], []⟩) (fun ⟨i, a⟩ => i <= inc.length /\ X9 (hAt hv) inc (-1) = X9 (hAt hv) (inc.drop i) a) (fun ⟨i, a⟩ => inc.length - i) (0, -1) ?_ ?_ ?_
 ·exact Ze (kp5 rfl rfl rfl rfl rfl)
 ·exact ⟨Qgc _, by simp⟩
 intro ⟨i, a⟩ hI
 try dsimp only at hI
 try dsimp only
 refine Qc fun K hK => Z7 Z Z (kc6 hK Z Z Z Z Z Z ?_)
 refine Qw ?_ -- 1
 refine Qs Z (fun h1 => ?_) (fun h1 => ?_)
 ·try rw [h1]
  try simp only [qA] at h1
  refine Qr (ks5 Z Z Z Z Z ?_)
  refine Qw ?_ -- 2
  refine Qu (Qc fun K hK => QG Z Z Z Wa (QS Wa) Z (QE (cs := [_, _]) Z Z Z Z (ZL Z (Q3 Z Z Z Z Z Z Z Z (kc6 hK Z Z Z Z Z Z ?_)))))
  refine Qc fun K hK => Qa Z (kc7 hK Z Z Z Z Z Z Z ?_)
  refine Pp (ι := Unit) (fun _ => ⟨[(0, Zo hv), (6, .int .i64 a), (8, .ref 8 0 0), (9, .int .i64 (hAt hv (inc[i]'Wa).u)), (11, ZC inc), (12, .int .i64 inc.length), (13, .int .i64 i)], [(8, ⟨[Fa (inc[i]'Wa)], 2, 78, true⟩)]⟩) (fun _ => True) ?_ ?_
  ·skip
   refine Qc fun K hK => Qe Z Z (Qx Z Z Z (FT Z Z (Qa Z ?_)))
   refine QB (g := 20) Z (fun h2 => ?_) (fun h2 => ?_)
   ·try rw [h2]
    try simp only [qA] at h2
    refine Qh Z (Qe Z Z (Qh Z (Qx Z Z Z (Qh Z (Qa Z (Qh Z ?_))))))
    first | refine QN rfl QP ?_ | refine QN rfl rfl ?_
    refine Qh Z (Z7 Z Z (Ql Z Z (kc8 hK Z Z Z Z Z Z Z Z ?_)))
    refine Qs Z (fun h3 => ?_) (fun h3 => ?_)
    ·try rw [h3]
     try simp only [qA] at h3
     refine QH fun K hK => Qa Z (Qe Z Z (Qx Z Z Z (QG Z Z Z Wa (Zq Wa Wa) Z (Qx Z Z Z (Qa Z (hK _ ?_))))))
     refine Z9 () ?_ ?_
     ·exact QX (l := [0, 6, 8, 9, 11, 12, 13]) (lH := [8]) (kp7 rfl rfl rfl rfl rfl rfl rfl) (Qb rfl Qi) (by rw [QbC h2 h3] <;> rfl) rfl rfl
     ·exact trivial
    ·try rw [h3]
     try simp only [qA] at h3
     refine Qr ?_
     refine Z9 () ?_ ?_
     ·exact QX (l := [0, 6, 8, 9, 11, 12, 13]) (lH := [8]) (kp7 rfl rfl rfl rfl rfl rfl rfl) (Qb rfl Qi) (by rw [TH (.inr h3)] <;> rfl) rfl rfl
     ·exact trivial
   ·try rw [h2]
    try simp only [qA] at h2
    refine gn4 Z Z Z Z (Xx Z (Ql Z Z (kc8 hK Z Z Z Z Z Z Z Z ?_)))
    refine ZG Z (Qr ?_)
    refine Z9 () ?_ ?_
    ·exact QX (l := [0, 6, 8, 9, 11, 12, 13]) (lH := [8]) (kp7 rfl rfl rfl rfl rfl rfl rfl) (Qb rfl Qi) (by rw [TH (.inl h2)] <;> rfl) rfl rfl
    ·exact trivial
  intro _ hJ
  try dsimp only
  refine Qc fun K hK => Qa Z (Qe Z Z (Qx Z Z Z (QD (Sc) Z Z (.inr Z) (Qa Z (kc7 hK Z Z Z Z Z Z Z ?_)))))
  refine Qu (Qc fun K hK => Qa Z (ZO Z Z (Qa Z ?_)))
  refine QB (g := 39) Z (fun h4 => ?_) (fun h4 => ?_)
  ·try rw [h4]
   try simp only [qA] at h4
   refine gn3 Z Z Z (Zz Z (Zz Z (Xx Z (Ql Z Z (Qa Z (kc8 hK Z Z Z Z Z Z Z Z ?_))))))
   refine Zt Z (Qc fun K hK => mv2 Z Z (kc2 hK Z Z ?_))
   refine Qq (Qo (Qo (Qg (Q0 (Qo (Qg ?_))))))
   rw [hI.2, N3 Wa, if_pos h4]
   exact QO rfl rfl ⟨rfl, rfl⟩
  ·try rw [h4]
   try simp only [qA] at h4
   refine Qh Z (Qa Z (Qh Z (ZO Z Z (Qh Z (Qa Z ?_)))))
   refine QB (g := 42) Z (fun h5 => ?_) (fun h5 => ?_)
   ·try rw [h5]
    try simp only [qA] at h5
    refine Qh Z (Qa Z (Qh Z (FT Z Z (Qh Z (Ql Z Z (Ql Z Z (Qa Z (kc8 hK Z Z Z Z Z Z Z Z ?_))))))))
    refine Qs Z (fun h6 => ?_) (fun h6 => ?_)
    ·try rw [h6]
     try simp only [qA] at h6
     refine Qc fun K hK => mv2 Z Z (kc2 hK Z Z ?_)
     refine Qq (Qo (Qo (Qg (Q0 (Qo (Qg ?_))))))
     rw [hI.2, N3 Wa, if_neg h4, if_pos h5, if_pos h6]
     exact QO rfl rfl ⟨rfl, rfl⟩
    ·try rw [h6]
     try simp only [qA] at h6
     refine Qc fun K hK => Qa Z (ZO Z Z (Qa Z (kc7 hK Z Z Z Z Z Z Z ?_)))
     refine Qs Z (fun h7 => ?_) (fun h7 => ?_)
     ·try rw [h7]
      try simp only [qA] at h7
      refine QH fun K hK => Qe Z Z (Qx Z Z Z (Qa Z (hK _ ?_)))
      refine Qd (Qd (ks5 Z Z Z Z Z (QH fun K hK => QY Z Z Wc (Qa Z (hK _ ?_)))))
      refine Qf (i + 1, (inc[i]'Wa).u) ?_ ?_ ?_
      ·exact QX (l := [0, 6, 11, 12, 13]) (lH := []) (kp5 rfl rfl rfl rfl rfl) Qi rfl rfl rfl
      ·exact ⟨Wa, by rw [hI.2, N3 Wa, if_neg h4, if_pos h5, if_neg h6]⟩
      ·show inc.length - (i + 1) < inc.length - i; omega
     ·try rw [h7]
      try simp only [qA] at h7
      exact absurd h5 h7
   ·try rw [h5]
    try simp only [qA] at h5
    refine gn2 Z Z (Qh Z (Ql Z Z (Ql Z Z (Qa Z (kc8 hK Z Z Z Z Z Z Z Z ?_)))))
    refine ZG Z (Qc fun K hK => Qa Z (ZO Z Z (Qa Z (kc7 hK Z Z Z Z Z Z Z ?_))))
    refine Qs Z (fun h8 => ?_) (fun h8 => ?_)
    ·try rw [h8]
     try simp only [qA] at h8
     exact absurd h8 h5
    ·try rw [h8]
     try simp only [qA] at h8
     refine Qr (Qd (Qd (ks5 Z Z Z Z Z (QH fun K hK => QY Z Z Wc (Qa Z (hK _ ?_))))))
     refine Qf (i + 1, a) ?_ ?_ ?_
     ·exact QX (l := [0, 6, 11, 12, 13]) (lH := []) (kp5 rfl rfl rfl rfl rfl) Qi rfl rfl rfl
     ·exact ⟨Wa, by rw [hI.2, N3 Wa, if_neg h4, if_neg h5]⟩
     ·show inc.length - (i + 1) < inc.length - i; omega
 ·try rw [h1]
  try simp only [qA] at h1
  refine Zb (QF (Qt (Qy (ks1 Z (Qc fun K hK => mv2 Z Z (Qa Z (kc2 hK Z Z ?_)))))))
  refine Qq ?_
  rw [hI.2, Br Wa]
  exact QO rfl rfl ⟨rfl, rfl⟩
theorem Tv {hv : List Int} {db : List (List TermT)} (hd : db.length <= 100000000) (hi : ∀ x ∈ db, x.length <= 1000000) : Ok Tryz.prog 27 [Zo hv, dDb db] (.tup [.int .i64 (GQ (hAt hv) 0 db).1, .int .i64 (GQ (hAt hv) 0 db).2]) := by
 refine Ok.ofT Z2 Tryz.func27 QeM (Qf0 Z) ?_
 show TW _ _ tf27.body _ _
 refine Qc fun K hK => mv2 Z Z (kc2 hK Z Z ?_)
 refine Qw ?_ -- 0
 refine Qc fun K hK => Qa Z ?_
 first | refine QN rfl QP ?_ | refine QN rfl rfl ?_
 refine Qa Z (kc4 hK Z Z Z Z ?_)
 refine Qu ?_
 refine Zh (ι := Nat) (fun i => ⟨[(0, Zo hv), (10, dDb db), (11, .int .i64 db.length), (12, .int .i64 i)], []⟩) (fun i => i <= db.length /\ GQ (hAt hv) 0 db = GQ (hAt hv) i (db.drop i)) (fun i => db.length - i) 0 ?_ ?_ ?_
 ·exact Ze (kp4 rfl rfl rfl rfl)
 ·exact ⟨Qgc _, by simp⟩
 intro i hI
 try dsimp only
 refine Qc fun K hK => Z7 Z Z (kc5 hK Z Z Z Z Z ?_)
 refine Qw ?_ -- 1
 refine Qs Z (fun h1 => ?_) (fun h1 => ?_)
 ·try rw [h1]
  try simp only [qA] at h1
  refine Qr (ks4 Z Z Z Z ?_)
  refine Qw ?_ -- 2
  refine Qu (Qc fun K hK => Qa Z (QG Z Z Z Wa (QS Wa) Z (Qx Z Z Z (mv2 Z Z (kc6 hK Z Z Z Z Z Z ?_)))))
  refine Qc fun K hK => mv2 Z Z (QD (Tu (hi _ (Qf5 Wa))) Z Z (.inl Z) (Qa Z (QK Z Z (QK Z Z (mv2 Z Z (kc7 hK Z Z Z Z Z Z Z ?_))))))
  refine Qc fun K hK => Qa Z (kc7 hK Z Z Z Z Z Z Z ?_)
  refine Qs Z (fun h2 => ?_) (fun h2 => ?_)
  ·try rw [h2]
   try simp only [qA] at h2
   refine Qc fun K hK => mv2 Z Z (mv2 Z Z (kc2 hK Z Z ?_))
   refine Qq (Qo (Qg (Q0 (Qo (Qg ?_)))))
   rw [hI.2, BP Wa h2]
   exact QO rfl rfl ⟨rfl, rfl⟩
  ·try rw [h2]
   try simp only [qA] at h2
   refine Qr (Qd (ks4 Z Z Z Z (QH fun K hK => QY Z Z Wc (Qa Z (hK _ ?_)))))
   refine Qf (i + 1) ?_ ?_ ?_
   ·exact Ze (kp4 rfl rfl rfl rfl)
   ·exact ⟨Wa, by rw [hI.2, Qbc Wa h2]⟩
   ·first | omega | (simp only; omega) | (dsimp only; omega)
 ·try rw [h1]
  try simp only [qA] at h1
  refine Zb (QF (Qt (Qy (Zf (ZJ) (Qc fun K hK => mv2 Z Z (kc2 hK Z Z ?_))))))
  refine Qq ?_
  rw [hI.2, BO Wa]
  exact QO rfl rfl ⟨rfl, rfl⟩
theorem Bu {w : Qn} {db : List (List TermT)} (hd : db.length <= 100000000) (hi : ∀ x ∈ db, x.length <= 1000000) {l : List QL} (hp : YK w l) : Ok Tryz.prog 27 [Zo (ZT w l), dDb db] (.tup [.int .i64 (ZE w db l).1, .int .i64 (ZE w db l).2]) := by
 have h := Tv (hv := ZT w l) hd hi
 rw [BN hp] at h
 exact h
theorem Tt {w : Qn} (hw : WSm w) {db : List (List TermT)} (hd : db.length <= 100000000) (hi : ∀ x ∈ db, x.length <= 1000000) {l : List QL} (hl : l.length <= 10000000) (hp : YK w l) : Ok Tryz.prog 13 [Z4 w, dDb db, Zv l] (.tup [.int .i64 (ZE w db l).1, .int .i64 (ZE w db l).2]) := by
 refine Ok.ofT Z2 Tryz.func13 Qey (Qf0 Z) ?_
 show TW _ _ tf13.body _ _
 refine Qc fun K hK => Zx Z Z Z (mv2 Z Z (kc3 hK Z Z Z ?_))
 refine Qc fun K hK => QE (cs := [_]) rfl rfl rfl rfl (Qa rfl (Yk (Lp rfl (by intro x hx; simp at hx; rcases hx with rfl | rfl <;> rfl) rfl rfl rfl (Nu hw hl _ rfl)) (Qa rfl (QD (Bu (l := l) hd hi hp) rfl (by simp [J7, D.fz, D.fzS, FV, lk, D.can, D.canS, Zo, dDb]) (.inr rfl) (QK rfl rfl (QK rfl rfl (Qa rfl (Qa rfl (kc2 hK rfl rfl ?_)))))))))
 refine Qq ?_
 exact QO rfl rfl ⟨rfl, rfl⟩
theorem Kd {w : Qn} (hw : WSm w) {db : List (List TermT)} (hd : db.length <= 100000000) (hi : ∀ x ∈ db, IncOk w x) {l : List QL} (hl : l.length <= 1000000) (hp : YK w l) : Ok Tryz.prog 10 [Z4 w, dDb db, Zv l] (.tup [Zv (X2 w db l).1, .int .i64 (X2 w db l).2]) := by
 refine Ok.ofT Z2 Tryz.func10 Qev (Qf0 Z) ?_
 show TW _ _ tf10.body _ _
 have hn := hw.len
 have hii : ∀ x ∈ db, x.length <= 1000000 := fun x hx => Qgj (hi x hx).len Wa
 have ht0 := Qaa w l w.length
 refine Qc fun K hK => Zx Z Z Z (mv2 Z Z (kc3 hK Z Z Z ?_))
 refine Qb2 (Qc fun K hK => Qa Z (Cc Z Z (fun _ h => Td DX h) Z (.inl Z) Wf Wh Wh (Qa Z (kc4 hK Z Z Z Z ?_))))
 refine Qc fun K hK => QE (cs := [_]) rfl rfl rfl rfl (Qa rfl (Yk (Lp rfl (by intro x hx; simp at hx; rcases hx with rfl | rfl <;> rfl) rfl rfl rfl (Nu hw Wa _ rfl)) (Qa rfl (kc4 hK rfl rfl rfl rfl ?_))))
 refine Qw ?_ -- 0
 refine Qr (ks4 Z Z Z Z (Qu ?_))
 refine Zh (ι := Nat × List QL) (fun ⟨n, out⟩ => ⟨[(1, dDb db), (3, .ref 3 0 0), (8, Zv out), (9, .osl 500000 (ZT w out).length)], [(3, ⟨[[.sl ((w).map Yg)]], 1, 26, true⟩), (500000, ⟨(ZT w out).map (fun x => [.int .i64 x]), 1, 3, true⟩)]⟩) (fun ⟨n, out⟩ => YK w out /\ out.length <= l.length + n /\ X2 w db l = KP w db (w.length * 18 + 1 - n) out /\ tot w out < w.length * 18 + 1 - n) (fun ⟨n, out⟩ => tot w out) (0, l) ?_ ?_ ?_
 ·exact le_trans (Fp (l := [1, 3, 9]) (lH := [3, 500000]) 17 8 (kp3 rfl rfl rfl) (Qb rfl (Qb rfl Qi)) rfl rfl rfl Wf rfl rfl rfl rfl) (QX (l := [1, 3, 8, 9]) (lH := [3, 500000]) (kp4 rfl rfl rfl rfl) (Qb rfl (Qb rfl Qi)) rfl rfl rfl)
 ·exact ⟨hp, Nat.le_refl _, rfl, by show NN w l w.length < w.length * 18 + 1 - 0; omega⟩
 intro ⟨n, out⟩ hI
 obtain ⟨hI1, hI2, hI3, hI4⟩ := hI
 try dsimp only at hI1 hI2 hI3 hI4
 have hlen := Kh w out
 try dsimp only
 refine Qu (Qc fun K hK => mv2 Z Z (QD (Bu (l := out) hd hii hI1) Z (by simp [J7, D.fz, D.fzS, FV, lk, D.can, D.canS, Zo, dDb]) (.inr Z) (Qa Z (QK Z Z (QK Z Z (mv2 Z Z (kc6 hK Z Z Z Z Z Z ?_)))))))
 refine Qw ?_ -- 1
 refine Qc fun K hK => Qa Z (Z7 Z Z (Qa Z ?_))
 refine QB (g := 29) Z (fun h1 => ?_) (fun h1 => ?_)
 ·try rw [h1]
  try simp only [qA] at h1
  refine gn2 Z Z (Ql Z Z (kc7 hK Z Z Z Z Z Z Z ?_))
  refine Zt Z (Qc fun K hK => mv2 Z Z (mv2 Z Z (kc2 hK Z Z ?_)))
  refine Qq (Qg (Qo (Q0 (Qo ?_))))
  rw [hI3, H6 (Qbe h1) Wa]
  exact QO rfl rfl ⟨rfl, rfl⟩
 ·try rw [h1]
  try simp only [qA] at h1
  refine Qh Z (Qa Z (Qh Z (Z7 Z Z (Ql Z Z (kc7 hK Z Z Z Z Z Z Z ?_)))))
  refine Qs Z (fun h2 => ?_) (fun h2 => ?_)
  ·try rw [h2]
   try simp only [qA] at h2
   try (obtain ⟨a, k, ho⟩ := FM h2; have hin := ho.inW; have ha := ho.ha; rw [ho.eq]; dsimp only)
   refine Qc fun K hK => mv2 Z Z (mv2 Z Z (kc2 hK Z Z ?_))
   refine Qq (Qg (Qo (Q0 (Qo ?_))))
   rw [hI3, H6 h2 Wa]
   exact QO rfl rfl ⟨rfl, rfl⟩
  ·try rw [h2]
   try simp only [qA] at h2
   try (obtain ⟨a, k, ho⟩ := FM h2; have hin := ho.inW; have ha := ho.ha; rw [ho.eq]; dsimp only)
   refine Qr (ks6 Z Z Z Z Z Z ?_)
   refine Qw ?_ -- 2
   refine Qc fun K hK => mv2 Z Z (QG Z Z Z Wa (QS Wa) Z (Qx Z Z Z ?_))
   first | refine QN rfl QP ?_ | refine QN rfl rfl ?_
   refine Qa Z (kc9 hK Z Z Z Z Z Z Z Z Z ?_)
   refine Qu ?_
   refine Zh (ι := Nat) (fun j => ⟨[(1, dDb db), (3, .ref 3 0 0), (8, Zv out), (9, .osl 500000 (ZT w out).length), (10, .int .i64 a), (11, .int .i64 ((db[a]'ho.ha)[k]'ho.hk).u), (38, ZC (db[a]'ho.ha)), (39, .int .i64 (db[a]'ho.ha).length), (40, .int .i64 j)], [(3, ⟨[[.sl ((w).map Yg)]], 1, 26, true⟩), (500000, ⟨(ZT w out).map (fun x => [.int .i64 x]), 1, 3, true⟩)]⟩) (fun j => j <= k) (fun j => k - j) 0 ?_ ?_ ?_
   ·exact QX (l := [1, 3, 8, 9, 10, 11, 38, 39, 40]) (lH := [3, 500000]) (kp9 rfl rfl rfl rfl rfl rfl rfl rfl rfl) (Qb rfl (Qb rfl Qi)) rfl rfl rfl
   ·exact Qgc _
   intro j hJ
   have hk := ho.hk
   have hln := (hi _ (Qf5 ho.ha)).len
   try dsimp only
   refine Qc fun K hK => Z7 Z Z (kc hK (QaN Z Z Z Z Z Z Z Z Z Z) ?_)
   refine Qw ?_ -- 3
   refine Qs Z (fun h3 => ?_) (fun h3 => ?_)
   ·try rw [h3]
    try simp only [qA] at h3
    refine Qr (ks9 Z Z Z Z Z Z Z Z Z ?_)
    refine Qw ?_ -- 4
    refine Qu (Qc fun K hK => QG Z Z Z Wa (QS Wa) Z (QE (cs := [_, _]) Z Z Z Z (ZL Z (Q3 Z Z Z Z Z Z Z Z (kc hK (QaN Z Z Z Z Z Z Z Z Z Z) ?_)))))
    refine Qw ?_ -- 5
    refine Qc fun K hK => Qe Z Z (Qx Z Z Z (Qa Z (X3 Z Z (kc hK (Qet Z Z Z Z Z Z Z Z Z Z Z) ?_))))
    refine Qs Z (fun h4 => ?_) (fun h4 => ?_)
    ·try rw [h4]
     try simp only [qA] at h4
     try (have e := (hi _ (Qf5 ho.ha)).uniq ho.hk Wa h4.symm; subst e)
     refine Zb (QF (Qy (ks9 Z Z Z Z Z Z Z Z Z (QH fun K hK => QY Z Z Wc (Qa Z (hK _ ?_))))))
     refine Qf (j + 1) ?_ ?_ ?_
     ·exact QX (l := [1, 3, 8, 9, 10, 11, 38, 39, 40]) (lH := [3, 500000]) (kp9 rfl rfl rfl rfl rfl rfl rfl rfl rfl) (Qb rfl (Qb rfl Qi)) rfl rfl rfl
     ·show j + 1 <= k; have : j ≠ k := fun e => h4 (by subst e; rfl); omega
     ·show k - (j + 1) < k - j; have : j ≠ k := fun e => h4 (by subst e; rfl); omega
    ·try rw [h4]
     try simp only [qA] at h4
     try (have e := (hi _ (Qf5 ho.ha)).uniq ho.hk Wa h4.symm; subst e)
     refine Qr (ks7 Z Z Z Z Z Z Z (Qc fun K hK => QE (cs := [_]) Z Z Z Z (Qa Z (QE (cs := [_, _]) Z Z Z Z (Qa Z ?_)))))
     have hcall := Pf hw (l := out) Wa hI1 (t := ((db[a]'ho.ha)[k]'ho.hk)) (c := a)
     rw [ho.step' hI1] at hcall
     refine QD (hcall) Z Z (.inl Z) (Qa Z (QK Z Z (QK Z Z (mv2 Z Z (kc8 hK Z Z Z Z Z Z Z Z ?_)))))
     refine Qw ?_ -- 6
     refine Qc fun K hK => Qa Z (Yn Z (kc8 hK Z Z Z Z Z Z Z Z ?_))
     refine Qs Z (fun h5 => ?_) (fun h5 => ?_)
     ·try rw [h5]
      try simp only [qA] at h5
      exact absurd h5 Wf
     ·try rw [h5]
      try simp only [qA] at h5
      refine Qr (ks6 Z Z Z Z Z Z (Qc fun K hK => mv2 Z Z (mv2 Z Z (Qa Z (YA (ds0 := [6, 3, 0]) Z Z Z Wf Wa Wa Z Z Z (QR (ds0 := [3, 0]) Z (Z1 Z (Zq Wa Wa)) Z Z Z (Qe Z Z (QR (ds0 := [3, 0]) Z Z Z Z Z ?_))))))))
      refine NO Z Z (Qa Z (YA (ds0 := [0]) Z Z Z Wf Wa Wa Z Z Z (YH (ds0 := []) Z Z (Zq Wa Wa) Z Z Z Z Z Z Z (kc4 hK Z Z Z Z ?_))))
      refine Zb (FX Wk (QF (Qt (FX Wk (QF (Qy ?_))))))
      refine Qf (n + 1, out ++ [Qaf w out ((db[a]'ho.ha)[k]'ho.hk) a]) ?_ ?_ ?_
      ·exact QX (l := [1, 3, 8, 9]) (lH := [3, 500000]) (kp4 rfl rfl rfl rfl) (Qb rfl (Qb rfl Qi)) (by rw [SF hin.1 hin.2 Wa, List.length_set]; simp [Zv, Sk, Qaf]) (by rw [SF hin.1 hin.2 Wa, List.map_set] <;> rfl) rfl
      ·exact ⟨ho.plain hI1, by simp only [List.length_append, List.length_singleton]; omega, by rw [hI3, ho.go hI1 hi Wa, show w.length * 18 + 1 - (n + 1) = w.length * 18 + 1 - n - 1 by omega], by have := ho.tot hI1; show tot w (out ++ [Qaf w out ((db[a]'ho.ha)[k]'ho.hk) a]) < w.length * 18 + 1 - (n + 1); omega⟩
      ·exact ho.tot hI1
   ·try rw [h3]
    try simp only [qA] at h3
    exfalso; omega
end Go.Proofs
namespace M25
open Go Go.Abs M3
/-! ### Sets that are made: moderate sizes -/
theorem QaG (l : List (Cu × Cu)) (x y : Cu) : (Hz l x y).length <= l.length + 1 := SL l x y
theorem Ri (f : Cu -> Cu -> Bool) : ∀ (c : List Cu) (out : List (Cu × Cu)), (∀ x ∈ c, Cu.sm x) -> (∀ s ∈ out, Cu.sm s.1 /\ Cu.sm s.2) -> (Hy f c out).length <= out.length + c.length /\ ∀ s ∈ Hy f c out, Cu.sm s.1 /\ Cu.sm s.2
 | [], out, _, h => ⟨by simp [Hy], by simpa [Hy] using h⟩
 | [x], out, _, h => ⟨by simp [Hy], by simpa [Hy] using h⟩
 | x :: y :: r, out, hc, h => by
  rw [Hy]
  have hxy := QaG out x y
  split
  ·obtain ⟨h1, h2⟩ := Ri f (y :: r) (Hz out x y) (fun z hz => hc z (by simp at hz ⊢; exact .inr hz)) (LX h (hc x Wf) (hc y Wf))
   exact ⟨by simp only [List.length_cons] at h1 ⊢; omega, h2⟩
  ·obtain ⟨h1, h2⟩ := Ri f (y :: r) out (fun z hz => hc z (by simp at hz ⊢; exact .inr hz)) h
   exact ⟨by simp only [List.length_cons] at h1 ⊢; omega, h2⟩
def SmN (n : Nat) (l : List (Cu × Cu)) : Prop := l.length <= n /\ ∀ s ∈ l, Cu.sm s.1 /\ Cu.sm s.2
theorem SmN.sm {n : Nat} {l : List (Cu × Cu)} (h : SmN n l) (hn : n <= 1000000) : Sm l := ⟨Qgj h.1 hn, h.2⟩
theorem SmN.up {n m : Nat} {l : List (Cu × Cu)} (h : SmN n l) (hn : n <= m) : SmN m l := ⟨Qgj h.1 hn, h.2⟩
theorem SmN.nil (n : Nat) : SmN n [] := ⟨Qgc _, by simp⟩
theorem QbK {a b : List (Cu × Cu)} {n m : Nat} (ha : SmN n a) (hb : SmN m b) (h : n + m <= 1000000) : SmN (2 + 2 * (n + m)) (QbG a b) := by
 unfold QbG
 split
 ·have hab : Sm (a ++ b) := (ha.sm Wa).app (hb.sm Wa) (by have := ha.1; have := hb.1; omega)
  unfold TQ
  split
  ·obtain ⟨h1, h2⟩ := Ri (mIn (a ++ b)) (YY (a ++ b)) [] (YB hab) Wf
   have := Hx (a ++ b)
   have := ha.1
   have := hb.1
   exact ⟨by simp only [List.length_nil, List.length_append] at *; omega, h2⟩
  ·exact SmN.nil _
 ·exact SmN.nil _
theorem Bn {a : List (Cu × Cu)} {n : Nat} (ha : SmN n a) (h : n <= 1000000) : SmN (2 + 2 * n) (TR a) := by
 unfold TR
 split
 ·obtain ⟨h1, h2⟩ := Ri (fun x y => !mIn a x y) (YY a) [] (YB (ha.sm h)) Wf
  have := Hx a
  have := ha.1
  exact ⟨by simp only [List.length_nil] at *; omega, h2⟩
 ·exact SmN.nil _
def Dv (n : Nat) (s : FU) : Prop := SmN n s.1 /\ SmN n s.2
theorem Qdt {a b : FU} {n m : Nat} (ha : Dv n a) (hb : Dv m b) (h : n + m <= 1000000) : Dv (2 + 2 * (n + m)) (Qai a b) := by
 unfold Qai
 split
 ·exact ⟨QbK ha.1 hb.1 h, QbK ha.2 hb.2 h⟩
 ·exact ⟨SmN.nil _, SmN.nil _⟩
theorem Bo {a : FU} {n : Nat} (ha : Dv n a) (h : n <= 1000000) : Dv (2 + 2 * n) (MP a) := by
 unfold MP
 split
 ·exact ⟨Bn ha.1 h, Bn ha.2 h⟩
 ·exact ⟨SmN.nil _, SmN.nil _⟩
theorem H7 (e a b c : Int) (f : Bool) : Cu.sm ⟨e, a, b, c, [], [], f⟩ := ⟨Qgc _, Qgc _⟩
theorem HT {a b c : Int} {p q : List UInt8} (hp : p.length <= 1000000) : Dv 1 (Y6 a b c p q) := by
 unfold Y6
 split
 ·exact ⟨SmN.nil _, SmN.nil _⟩
 ·split
  ·refine ⟨SmN.nil _, ⟨Nat.le_refl _, fun s hs => ?_⟩⟩
   simp only [Qf9] at hs; subst hs
   exact ⟨⟨hp, Qgc _⟩, ⟨hp, Qgc _⟩⟩
  ·refine ⟨⟨Nat.le_refl _, fun s hs => ?_⟩, SmN.nil _⟩
   simp only [Qf9] at hs; subst hs
   constructor
   ·unfold MO; split
    ·exact H7 ..
    ·exact H7 ..
   ·unfold Fr; split
    ·exact H7 ..
    ·exact H7 ..
def Dw : FU := ([(KZ, NL)], [(KZ, NL)])
theorem Qbv : Dv 1 Dw := by
 have h : SmN 1 [(KZ, NL)] := ⟨Nat.le_refl _, fun s hs => by simp only [Qf9] at hs; subst hs; exact ⟨H7 .., H7 ..⟩⟩
 exact ⟨h, h⟩
def bnd (i : Nat) : Nat := 4 * 2 ^ i
theorem Qbx {i : Nat} (h : i <= 16) : bnd i <= 262144 := by
 have : 2 ^ i <= 2 ^ 16 := Nat.pow_le_pow_right Wa h
 have e : (2 : Nat) ^ 16 = 65536 := by decide
 unfold bnd; omega
theorem Qdz {s : FU} {i : Nat} (h : Dv (bnd i - 4) s) {a b c : Int} {p q : List UInt8} (hp : p.length <= 1000000) (hi : i <= 16) : Dv (bnd (i + 1) - 4) (Qai s (Y6 a b c p q)) := by
 have h1 := Qbx hi
 have h4 : 4 <= bnd i := by unfold bnd; have := Nat.one_le_two_pow (n := i); omega
 have := Qdt h (HT (a := a) (b := b) (c := c) (q := q) hp) Wa
 have e : bnd (i + 1) = 2 * bnd i := by unfold bnd; rw [Nat.pow_succ]; omega
 exact ⟨this.1.up Wa, this.2.up Wa⟩
theorem Qbf {s : FU} {i : Nat} (h : Dv (bnd i - 4) s) : Dv (bnd (i + 1) - 4) s := by
 have e : bnd (i + 1) = 2 * bnd i := by unfold bnd; rw [Nat.pow_succ]; omega
 exact ⟨h.1.up Wa, h.2.up Wa⟩
def SetOk (s : FU) : Prop := Dv 600000 s
theorem SetOk.sm {s : FU} (h : SetOk s) : Sm s.1 /\ Sm s.2 := ⟨h.1.sm Wa, h.2.sm Wa⟩
def v0 : Vr := ⟨0, 0, 0, [], []⟩
/-! ### Made sets may be -/
def exV (v : Vr) : FU := Y6 v.a v.b v.c v.p v.q
def Su (L : List Vr) : FU := L.foldl (fun s v => Qai s (exV v)) ([], [])
theorem QaA (L : List Vr) (v : Vr) : Su (L ++ [v]) = Qai (Su L) (exV v) := by simp [Su]
def Pm : List Vr -> List (List Vr)
 | [] => [[]]
 | v :: l => Pm l ++ (Pm l).map (v :: ·)
theorem N7 : ∀ {l L : List Vr}, L.Sublist l -> L ∈ Pm l
 | _, _, .slnil => by simp [Pm]
 | _, _, .cons a h => by rw [Pm, Qgb]; exact .inl (N7 h)
 | _, _, .cons_cons a h => by rw [Pm, Qgb]; exact .inr (Qge.2 ⟨_, N7 h, rfl⟩)
theorem QaB : ((Pm versions ++ Pm [v0]).all fun L => Jz (Su L) && Jz (MP (Su L))) = true := by decide +kernel
theorem Qdj : ((v0 :: versions).all fun v => Jz (exV v) && PM v.a v.b v.c v.p v.q) = true := by decide +kernel
theorem Qb5 : Jz Dw = true := by decide +kernel
def VsL (l : List Vr) : Prop := l.Sublist versions \/ l = [v0]
theorem VsL.fold {l L : List Vr} (h : VsL l) (hL : L.Sublist l) : Jz (Su L) = true /\ Jz (MP (Su L)) = true := by
 have hm : L ∈ Pm versions ++ Pm [v0] := by
  rcases h with h | rfl
  ·exact List.mem_append_left _ (N7 (hL.trans h))
  ·exact Qgf _ (N7 hL)
 have := Qga.1 QaB L hm
 rw [Qf4] at this; exact this
theorem VsL.ex {l : List Vr} (h : VsL l) {v : Vr} (hv : v ∈ l) : Jz (exV v) = true /\ PM v.a v.b v.c v.p v.q = true := by
 have hm : v ∈ v0 :: versions := by
  rcases h with h | rfl
  ·exact List.mem_cons_of_mem _ (h.subset hv)
  ·simp only [Qf9] at hv; subst hv; simp
 have := Qga.1 Qdj v hm
 rw [Qf4] at this; exact this
def SetMay (s : FU) : Prop := SetOk s /\ Jz s = true
theorem SetMay.sm {s : FU} (h : SetMay s) : Sm s.1 /\ Sm s.2 := h.1.sm
structure CR where
 v : Vr
 x : D
 y : D
 z : D
def dCR (r : CR) : List D := [.int .i64 r.v.a, .int .i64 r.v.b, .int .i64 r.v.c, .str r.v.p, .str r.v.q, r.x, r.y, r.z]
def CR.ren (r : CR) : CR := ⟨r.v, r.x.renS upN, r.y.renS upN, r.z.renS upN⟩
def VsOk (zs : List CR) : Prop := VsL (zs.map CR.v)
theorem VsOk.ren {zs : List CR} (h : VsOk zs) : VsOk (zs.map CR.ren) := by
 have e : (zs.map CR.ren).map CR.v = zs.map CR.v := by rw [List.map_map]; rfl
 unfold VsOk; rw [e]; exact h
theorem Cr (l : List CR) : (l.map dCR).map (fun r => r.map (D.renS upN)) = (l.map CR.ren).map dCR := by
 rw [List.map_map, List.map_map]; rfl
structure UR where
 n : List UInt8
 f : List UInt8
 k : Nat
 cs : List CR
def dUR (u : UR) : List D := [.str u.n, .str u.f, .osl u.k u.cs.length]
def UR.ren (u : UR) : UR := ⟨u.n, u.f, upN u.k, u.cs.map CR.ren⟩
theorem Qcl (l : List UR) : (l.map dUR).map (fun r => r.map (D.renS upN)) = (l.map UR.ren).map dUR := by
 rw [List.map_map, List.map_map]
 refine List.map_congr_left fun u _ => ?_
 simp [dUR, UR.ren, D.renS]
structure Fam (H : QfX) (kg ku eu ec : Nat) (us : List UR) : Prop where
 ne : ku ≠ kg
 u : ∃ pr, lk H ku = some ⟨us.map dUR, 3, eu, pr⟩
 c : ∀ y ∈ us, y.k ≠ kg /\ ∃ pr, lk H y.k = some ⟨y.cs.map dCR, 8, ec, pr⟩
 v : ∀ y ∈ us, y.cs.length <= 16 /\ ∀ z ∈ y.cs, Pq z.v
 vs : ∀ y ∈ us, VsOk y.cs
theorem Fam.up {H : QfX} {kg ku eu ec : Nat} {us : List UR} (h : Fam H kg ku eu ec us) : Fam (upH H) (upN kg) (upN ku) eu ec (us.map UR.ren) := by
 obtain ⟨h1, ⟨pu, h2⟩, h3, h4, h5⟩ := h
 refine ⟨fun e => h1 (Ld e), ⟨pu, ?_⟩, fun y hy => ?_, fun y hy => ?_, fun y hy => by
  obtain ⟨u, hu, rfl⟩ := Qge.1 hy
  exact (h5 u hu).ren⟩
 ·rw [JO, h2, Option.map_some, Box.ren, Qcl]
 ·obtain ⟨u, hu, rfl⟩ := Qge.1 hy
  obtain ⟨q1, pr, q2⟩ := h3 u hu
  refine ⟨fun e => q1 (Ld e), pr, ?_⟩
  show lk (upH H) (upN u.k) = _
  rw [JO, q2, Option.map_some, Box.ren, Cr]; rfl
 ·obtain ⟨u, hu, rfl⟩ := Qge.1 hy
  obtain ⟨q1, q2⟩ := h4 u hu
  refine ⟨by simpa [UR.ren] using q1, fun z hz => ?_⟩
  obtain ⟨z0, hz0, rfl⟩ := Qge.1 hz
  exact q2 z0 hz0
theorem Fam.cons {H : QfX} {kg ku eu ec : Nat} {us : List UR} (h : Fam H kg ku eu ec us) {b : Box} : Fam ((kg, b) :: H) kg ku eu ec us := by
 obtain ⟨h1, ⟨pu, h2⟩, h3, h4, h5⟩ := h
 exact ⟨h1, ⟨pu, Qk (Ne.symm h1) h2⟩, fun y hy => let ⟨q1, pr, q2⟩ := h3 y hy; ⟨q1, pr, Qk (Ne.symm q1) q2⟩, h4, h5⟩
def Qdd (n : Nat) (x : WantT) : Prop := 1 <= x.u /\ x.u < n /\ SetOk x.s
def WantMay (n : Nat) (x : WantT) : Prop := Qdd n x /\ Jz x.s = true
theorem Lf {l L : List Vr} {i : Nat} (hL : L.Sublist (l.take i)) : L.Sublist (l.take (i + 1)) := by
 refine hL.trans ?_
 rw [show l.take i = (l.take (i + 1)).take i by rw [List.take_take, Nat.min_eq_left Wa]]
 exact List.take_sublist _ _
theorem Qej {zs : List CR} {i : Nat} (h : i < zs.length) {L : List Vr} (hL : L.Sublist ((zs.map CR.v).take i)) : (L ++ [zs[i].v]).Sublist ((zs.map CR.v).take (i + 1)) := by
 rw [List.take_succ_eq_append_getElem (by simpa using h)]
 simp only [List.getElem_map]
 exact hL.append (List.Sublist.refl _)
def R5 (n : Nat) (r : List WantT) : Prop := (1 <= r.length /\ r.length <= 2) /\ ∀ x ∈ r, WantMay n x
def Me (n : Nat) (m : Int) (ns : List (List WantT)) : Prop := (ns.length : Int) <= m /\ ∀ r ∈ ns, R5 n r
theorem QcF {n : Nat} {x : WantT} (h : WantMay n x) : R5 n [x] := ⟨by simp, by intro y hy; simp only [Qf9] at hy; subst hy; exact h⟩
theorem QcG {n : Nat} {x y : WantT} (h : WantMay n x) (h' : WantMay n y) : R5 n [x, y] := ⟨by simp, by
 intro z hz
 simp only [Qf2, Qf1, or_false] at hz
 rcases hz with rfl | rfl
 ·exact h
 ·exact h'⟩
theorem BH {n : Nat} {ns : List (List WantT)} {r : List WantT} (h : ∀ r ∈ ns, R5 n r) (hr : R5 n r) : ∀ x ∈ ns ++ [r], R5 n x := fun x hx => by
 rcases Qgb.1 hx with hx | hx
 ·exact h x hx
 ·simp only [Qf9] at hx; subst hx; exact hr
end M25
namespace Go.Proofs
open Go Go.Abs M3 M25
theorem HE {s : St} {args : List Opd} {kg : Nat} {L : List Int} {I n : Int} {et : Nat} (ha : Zj s args = some [.ref kg 0 0, .int .i64 n]) (hg : lk s.H kg = some (gB L I et)) (hL : ∀ x ∈ L, I64 x) (hn : n <= 9223372036854775807) : Ku Tryz.prog 17 args s [(kg, gB L I et)] [] [(kg, gB L (nxI I) et)] (.int .i64 (nx L I n)) := by
 refine Lq (b' := gB L (nxI I) et) (ds' := [.ref (upN kg) 0 0, .int .i64 n]) ha (fun j x h => ?_) (fun k b hk j hj => ?_) (fun x hx j hj => ?_) ?_ Z Z Z Z ?_
 ·obtain ⟨rfl, rfl⟩ := XA h; exact hg
 ·obtain ⟨rfl, rfl⟩ := XA hk; simp [Box.ids, gB] at hj
 ·simp only [Qf2, Qf1, or_false] at hx
  rcases hx with rfl | rfl
  ·simp [D.ids, D.sid] at hj; subst hj; rw [Qv]; rfl
  ·simp [D.ids, D.sid] at hj
 ·rw [Qv]; rfl
 ·exact XP (by unfold upN; omega) hL hn et
theorem _root_.Wi {p : Prop} (h : p := by first | decide | omega) : p := h
theorem _root_.Wx {p : Prop} (h : p := by simp [Dr.ok, Hl]) : p := h
theorem _root_.Wj {p : Prop} (h : p := by repeat (first | exact Qv | refine Qk (by first | decide | omega) ?_)) : p := h
theorem G2 {H : QfX} {kg kc : Nat} {L : List Int} {I : Int} {eg ec : Nat} {pr : Bool} {zs : List CR} (hkg : 1000000 <= kg) (hg : lk H kg = some (gB L I eg)) (hc : lk H kc = some ⟨zs.map dCR, 8, ec, pr⟩) (hne : kg ≠ kc) (hB : Big H) (hC : Closed H) (hL : ∀ x ∈ L, I64 x) (hz : ∀ z ∈ zs, Pq z.v) (hn : zs.length <= 16) (hvs : VsOk zs) : ∃ d H2, (∃ s I2, SetMay s /\ d = Rf s /\ H2 = (kg, gB L I2 eg) :: H) /\ OkH Tryz.prog 38 [.ref kg 0 0, .osl kc zs.length] H d H2 := by
 have hkc := hB _ _ hc
 refine OkH.ofX (R := fun d H2 => ∃ s I2, SetMay s /\ d = Rf s /\ H2 = (kg, gB L I2 eg) :: H) Z2 Tryz.func38 QeX (Qf0 Z) ?_
 show TX _ _ tf38.body _ _
 refine Q5 fun K hK => ?_
 refine ZL (by repeat (first | exact hB.none Wk | refine Zr Wi ?_)) ?_
 refine hK _ _ (QM (kp3 Z Z Z) ?_)
 refine Q5 fun K hK => Qa Z (Yk (HE (I := I) Z (Qk Wa hg) hL Wa) (Qa Z (hK _ _ (QM (kp4 Z Z Z Z) ?_))))
 refine Q5 fun K hK => QD (Z8) Z Z (.inl Z) ?_
 refine ZL (by repeat (first | exact hB.none Wk | refine Zr Wi ?_)) ?_
 refine Q3 Z Z Z Z Z Z Z Z (hK _ _ (QM (kp5 Z Z Z Z Z) ?_))
 refine Xw ?_ -- 0
 refine Q5 fun K hK => Qa Z (hK _ _ (QM (kp6 Z Z Z Z Z Z) ?_))
 refine Yw ?_
 refine GW (ι := Nat × FU) (fun ⟨i, s⟩ => ⟨[(0, .ref kg 0 0), (1, .osl kc zs.length), (4, .ref 4 0 0), (5, .int .i64 (nx L I 8)), (6, .ref 6 0 0), (7, .int .i64 i)], [(4, ⟨[[.fsl [], .fsl []]], 2, 60, true⟩), (6, ⟨[[ZK s.1, ZK s.2]], 2, 60, true⟩), (kg, gB L (nxI I) eg)] ++ H⟩) (fun ⟨i, s⟩ => (i <= zs.length /\ Dv (bnd i - 4) s) /\ ∃ L, L.Sublist ((zs.map CR.v).take i) /\ s = Su L) (fun ⟨i, s⟩ => zs.length - i) (0, ([], [])) ?_ ?_ ?_
 ·exact MH (l := [0, 1, 4, 5, 6, 7]) (B := [_, _, _, _]) (kp6 rfl rfl rfl rfl rfl rfl) rfl (by intro p hp; simp only [Qf2, Qf1, or_false] at hp; rcases hp with rfl | rfl | rfl <;> exact ⟨by repeat (first | exact Qv | refine Qk Wi ?_), rfl⟩) rfl (by intro p hp h; simp only [Qf2, Qf1, or_false] at hp; rcases hp with rfl | rfl | rfl | rfl <;> first | (simp only at h; omega) | (repeat (first | exact QZ | refine QW ?_))) hB hC (by intro p hp k hk; simp only [Qf2, Qf1, or_false] at hp; rcases hp with rfl | rfl | rfl | rfl | rfl | rfl <;> first | (simp [D.ids, D.sid, Q8, QV, Zo] at hk; done) | (simp [D.ids, D.sid, Q8, QV, Zo] at hk; subst hk; repeat (first | exact QZ | exact Zp hg | exact Zp hc | refine QW ?_)))
 ·exact ⟨⟨Qgc _, SmN.nil _, SmN.nil _⟩, [], List.nil_sublist _, rfl⟩
 intro ⟨i, s⟩ hI
 try dsimp only at hI
 have hb16 := Qbx (i := i) Wa
 try dsimp only
 refine Xw ?_ -- 1
 refine Q5 fun K hK => mv2 Z Z ?_
 first | refine QN rfl QP ?_ | refine QN rfl rfl ?_
 refine Z7 Z Z (hK _ _ (QM (kp7 Z Z Z Z Z Z Z) ?_))
 refine YL Z (fun h1 => ?_) (fun h1 => ?_)
 ·try rw [h1]
  try simp only [qA] at h1
  refine Y5 (Q1 (kp6 Z Z Z Z Z Z) ?_)
  refine Xw ?_ -- 2
  refine Yw (Q5 fun K hK => mv2 Z Z (R4 Z (Md Wa Wa) (Qc9 Z Z Wa (NF Z Z (ZO Z Z (hK _ _ (QM (kp7 Z Z Z Z Z Z Z) ?_)))))))
  refine YL Z (fun h2 => ?_) (fun h2 => ?_)
  ·try rw [h2]
   try simp only [qA] at h2
   have hvp := (hz _ (Qf5 (Wa : i < zs.length))).1
   refine ZS fun K hK => QI (ds0 := [1, 0]) (cs := [_, _]) Z Z Z Z Wx Z (mv2 Z Z (YA (ds0 := [4, 3, 2, 1, 0]) Z Z (Qk Wa (Qk Wa (Qk Wa hc))) Wf Wa Wa Z Wx Z (Qe Z (Zp (Qk Wa (Qk Wa (Qk Wa hc)))) (QI (ds0 := [2, 1, 0]) (cs := [_, _, _, _, _]) Z (Z1 (Qk Wa (Qk Wa (Qk Wa hc))) (QS Wa)) Z Z Wx Z (QQ (ds0 := [1, 0]) (XY (hz _ (Qf5 Wa)).1 (hz _ (Qf5 Wa)).2) Z Z (.inl Z) Wx Z (QQ (ds0 := [0]) (FZ (a := s) (b := (Y6 (zs[i]'Wa).v.a (zs[i]'Wa).v.b (zs[i]'Wa).v.c (zs[i]'Wa).v.p (zs[i]'Wa).v.q)) (hI.1.2.1.sm Wa) (hI.1.2.2.sm Wa) ((HT hvp).1.sm Wa) ((HT hvp).2.sm Wa) (by have := hI.1.2.1.1; have := (HT (a := (zs[i]'Wa).v.a) (b := (zs[i]'Wa).v.b) (c := (zs[i]'Wa).v.c) (q := (zs[i]'Wa).v.q) hvp).1.1; omega) (by have := hI.1.2.2.1; have := (HT (a := (zs[i]'Wa).v.a) (b := (zs[i]'Wa).v.b) (c := (zs[i]'Wa).v.c) (q := (zs[i]'Wa).v.q) hvp).2.1; omega)) Z Z (.inl Z) Wx Z (YH (ds0 := []) Z Z Z Z Z Z Z Z Wx Z (hK _ ?_))))))))
   refine Qd (Q1 (kp6 Z Z Z Z Z Z) (ZS fun K hK => Qa Z (QY Z Z Wc (Qa Z (hK _ ?_)))))
   refine Qf (i + 1, Qai s (Y6 (zs[i]'Wa).v.a (zs[i]'Wa).v.b (zs[i]'Wa).v.c (zs[i]'Wa).v.p (zs[i]'Wa).v.q)) ?_ ?_ ?_
   ·exact MH (l := [0, 1, 4, 5, 6, 7]) (B := [_, _, _, _]) (kp6 rfl rfl rfl rfl rfl rfl) rfl (by intro p hp; simp only [Qf2, Qf1, or_false] at hp; rcases hp with rfl | rfl | rfl <;> exact ⟨by repeat (first | exact Qv | refine Qk Wi ?_), rfl⟩) rfl (by intro p hp h; simp only [Qf2, Qf1, or_false] at hp; rcases hp with rfl | rfl | rfl | rfl <;> first | (simp only at h; omega) | (repeat (first | exact QZ | refine QW ?_))) hB hC (by intro p hp k hk; simp only [Qf2, Qf1, or_false] at hp; rcases hp with rfl | rfl | rfl | rfl | rfl | rfl <;> first | (simp [D.ids, D.sid, Q8, QV, Zo] at hk; done) | (simp [D.ids, D.sid, Q8, QV, Zo] at hk; subst hk; repeat (first | exact QZ | exact Zp hg | exact Zp hc | refine QW ?_)))
   ·exact ⟨⟨by show i + 1 <= _; omega, Qdz hI.1.2 (hz _ (Qf5 Wa)).1 Wa⟩, by obtain ⟨L, hL, hs⟩ := hI.2; exact ⟨_, Qej Wa hL, by rw [QaA, <- hs]; rfl⟩⟩
   ·show zs.length - (i + 1) < zs.length - i; omega
  ·try rw [h2]
   try simp only [qA] at h2
   have hvp := (hz _ (Qf5 (Wa : i < zs.length))).1
   refine Y5 (Qd (Q1 (kp6 Z Z Z Z Z Z) (ZS fun K hK => Qa Z (QY Z Z Wc (Qa Z (hK _ ?_))))))
   refine Qf (i + 1, s) ?_ ?_ ?_
   ·exact MH (l := [0, 1, 4, 5, 6, 7]) (B := [_, _, _]) (kp6 rfl rfl rfl rfl rfl rfl) rfl (by intro p hp; simp only [Qf2, Qf1, or_false] at hp; rcases hp with rfl | rfl | rfl <;> exact ⟨by repeat (first | exact Qv | refine Qk Wi ?_), rfl⟩) rfl (by intro p hp h; simp only [Qf2, Qf1, or_false] at hp; rcases hp with rfl | rfl | rfl <;> first | (simp only at h; omega) | (repeat (first | exact QZ | refine QW ?_))) hB hC (by intro p hp k hk; simp only [Qf2, Qf1, or_false] at hp; rcases hp with rfl | rfl | rfl | rfl | rfl | rfl <;> first | (simp [D.ids, D.sid, Q8, QV, Zo] at hk; done) | (simp [D.ids, D.sid, Q8, QV, Zo] at hk; subst hk; repeat (first | exact QZ | exact Zp hg | exact Zp hc | refine QW ?_)))
   ·exact ⟨⟨by show i + 1 <= _; omega, Qbf hI.1.2⟩, by obtain ⟨L, hL, hs⟩ := hI.2; exact ⟨L, Lf hL, hs⟩⟩
   ·show zs.length - (i + 1) < zs.length - i; omega
 ·try rw [h1]
  try simp only [qA] at h1
  refine KX (YE (Qt (Qy (Q1 (kp3 Z Z Z) ?_))))
  refine Xw ?_ -- 3
  refine Q5 fun K hK => Qa Z (Yk (HE (I := nxI I) Z (Qk Wa (Qk Wa Qv)) hL Wa) (hK _ _ (QM (kp3 Z Z Z) ?_)))
  refine Yw (Q5 fun K hK => ZO Z Z (Qa Z (hK _ _ (QM (kp4 Z Z Z Z) ?_))))
  refine YL Z (fun h3 => ?_) (fun h3 => ?_)
  ·try rw [h3]
   try simp only [qA] at h3
   refine Q5 fun K hK => QD (JJ) Z Z (.inl Z) (Q3 Z (Qk Wa Z) Z Z Z Z Z Z (hK _ _ (QM (kp1 Z) ?_)))
   refine NG (Qo (JS ?_))
   refine ⟨Rf Dw, (kg, gB L (nxI (nxI I)) eg) :: H, ⟨Dw, _, ⟨⟨Qbv.1.up Wa, Qbv.2.up Wa⟩, Qb5⟩, rfl, rfl⟩, (XM hB hC hkg rfl).1, (XM hB hC hkg rfl).2, ?_⟩
   refine H3 (cs := [ZK Dw.1, ZK Dw.2]) Z (Z1 Wj Z) Z Z Z ?_
   exact JM (B := [_, _, _, _, _]) hB Wj (by intro p hp h; simp only [Qf2, Qf1, or_false] at hp; rcases hp with rfl | rfl | rfl | rfl | rfl <;> first | rfl | (simp only at h; omega))
  ·try rw [h3]
   try simp only [qA] at h3
   refine Q5 fun K hK => ZO Z Z (Qa Z (hK _ _ (QM (kp3 Z Z Z) ?_)))
   refine YL Z (fun h4 => ?_) (fun h4 => ?_)
   ·try rw [h4]
    try simp only [qA] at h4
    refine Q5 fun K hK => QE (cs := [_, _]) Z (Z1 (Qk Wa Z) Z) Z Z (QD (G6 (a := s) (hI.1.2.1.sm Wa) (hI.1.2.2.sm Wa)) Z Z (.inl Z) (Q3 Z (Qk Wa Z) Z Z Z Z Z Z (hK _ _ (QM (kp1 Z) ?_))))
    refine NG (Qo (JS ?_))
    refine ⟨Rf (MP s), (kg, gB L (nxI (nxI I)) eg) :: H, ⟨(MP s), _, ⟨⟨(Bo hI.1.2 Wa).1.up Wa, (Bo hI.1.2 Wa).2.up Wa⟩, by obtain ⟨L, hL, hs⟩ := hI.2; rw [hs]; exact (VsL.fold hvs (hL.trans (List.take_sublist _ _))).2⟩, rfl, rfl⟩, (XM hB hC hkg rfl).1, (XM hB hC hkg rfl).2, ?_⟩
    refine H3 (cs := [ZK (MP s).1, ZK (MP s).2]) Z (Z1 Wj Z) Z Z Z ?_
    exact JM (B := [_, _, _, _, _]) hB Wj (by intro p hp h; simp only [Qf2, Qf1, or_false] at hp; rcases hp with rfl | rfl | rfl | rfl | rfl <;> first | rfl | (simp only at h; omega))
   ·try rw [h4]
    try simp only [qA] at h4
    refine Y5 (Qd (Q1 (kp2 Z Z) (Q5 fun K hK => QE (cs := [_, _]) Z (Z1 (Qk Wa Z) Z) Z Z (Q3 Z (Qk Wa Z) Z Z Z Z Z Z (hK _ _ (QM (kp1 Z) ?_))))))
    refine NG ?_
    refine ⟨Rf s, (kg, gB L (nxI (nxI I)) eg) :: H, ⟨s, _, ⟨⟨hI.1.2.1.up Wa, hI.1.2.2.up Wa⟩, by obtain ⟨L, hL, hs⟩ := hI.2; rw [hs]; exact (VsL.fold hvs (hL.trans (List.take_sublist _ _))).1⟩, rfl, rfl⟩, (XM hB hC hkg rfl).1, (XM hB hC hkg rfl).2, ?_⟩
    refine H3 (cs := [ZK s.1, ZK s.2]) Z (Z1 Wj Z) Z Z Z ?_
    exact JM (B := [_, _, _, _, _]) hB Wj (by intro p hp h; simp only [Qf2, Qf1, or_false] at hp; rcases hp with rfl | rfl | rfl | rfl | rfl <;> first | rfl | (simp only at h; omega))
open Go Go.Abs M3 M25
/-- The call of 'set', over boxes that are lent. -/
theorem Qd8 {H : QfX} {kg kc : Nat} {L : List Int} {I : Int} {eg ec : Nat} {pr : Bool} {zs : List CR} (hg : lk H kg = some (gB L I eg)) (hc : lk H kc = some ⟨zs.map dCR, 8, ec, pr⟩) (hne : kg ≠ kc) (hC : Closed H) (hL : ∀ x ∈ L, I64 x) (hz : ∀ z ∈ zs, Pq z.v) (hn : zs.length <= 16) (hvs : VsOk zs) :
  ∃ s I2, SetMay s /\ ∀ (st : St) (args : List Opd), Zj st args = some [.ref kg 0 0, .osl kc zs.length] -> (∀ j x, lk H j = some x -> lk st.H j = some x) -> Ku Tryz.prog 38 args st H [] [(kg, gB L I2 eg)] (Rf s) := by
 obtain ⟨d, H2, ⟨s, I2, hs, rfl, rfl⟩, hok⟩ := G2 (H := upH H) (kg := upN kg) (kc := upN kc) (L := L) (I := I) (eg := eg) (ec := ec) (pr := pr) (zs := zs.map CR.ren) (by unfold upN; omega) (by rw [JO, hg]; rfl) (by rw [JO, hc, Option.map_some, Box.ren, Cr]) (fun e => hne (Ld e)) Lc (Ns hC) hL
  (fun z hz' => by obtain ⟨z0, h0, rfl⟩ := Qge.1 hz'; exact hz z0 h0) (by simpa using hn) hvs.ren
 refine ⟨s, I2, hs, fun st args ha hF => Lq (b' := gB L I2 eg) (ds' := [.ref (upN kg) 0 0, .osl (upN kc) zs.length]) ha hF hC (fun x hx j hj => ?_) (Zp hg) Z Z Z Z ?_⟩
 ·simp only [Qf2, Qf1, or_false] at hx
  rcases hx with rfl | rfl
  ·simp [D.ids, D.sid] at hj; subst hj; exact Zp hg
  ·simp [D.ids, D.sid] at hj; subst hj; exact Zp hc
 ·rw [List.length_map] at hok; exact hok
theorem GA {H : QfX} {kg ku : Nat} {L : List Int} {I : Int} {eg eu ec : Nat} {us : List UR} (hkg : 1000000 <= kg) (hg : lk H kg = some (gB L I eg)) (hU : Fam H kg ku eu ec us) (hB : Big H) (hC : Closed H) (hL : ∀ x ∈ L, I64 x) (h2n : 2 <= us.length) (hn : us.length <= 48) : ∃ d H2, (∃ x I2, WantMay us.length x /\ d = .agg (NI x) /\ H2 = (kg, gB L I2 eg) :: H) /\ OkH Tryz.prog 18 [.ref kg 0 0, .osl ku us.length] H d H2 := by
 obtain ⟨pu, hu⟩ := hU.u
 have hku := hB _ _ hu
 have hne := hU.ne
 have hx0 := PO (v := Qag L (IntKind.i64.wrap (nxI I - 1))) (n := (us.length : Int) - 1)
 have hx1 := PN (v := Qag L (IntKind.i64.wrap (nxI I - 1))) (n := (us.length : Int) - 1) Wa
 change 0 <= nx L I ((us.length : Int) - 1) at hx0
 change nx L I ((us.length : Int) - 1) < _ at hx1
 obtain ⟨hyk, pr, hy⟩ := hU.c (us[(1 + nx L I ((us.length : Int) - 1)).toNat]'Wa) (Qf5 _)
 obtain ⟨hv1, hv2⟩ := hU.v (us[(1 + nx L I ((us.length : Int) - 1)).toNat]'Wa) (Qf5 _)
 obtain ⟨s, I2, hs, hcall⟩ := Qd8 (H := (kg, gB L (nxI I) eg) :: H) Qv (Qk (Ne.symm hyk) hy) (Ne.symm hyk) (hC.pr rfl) hL hv2 hv1 (hU.vs _ (Qf5 _))
 refine OkH.ofX (R := fun d H2 => ∃ x I2, WantMay us.length x /\ d = .agg (NI x) /\ H2 = (kg, gB L I2 eg) :: H) Z2 Tryz.func18 QeD (Qf0 Z) ?_
 show TX _ _ tf18.body _ _
 refine Q5 fun K hK => ?_
 refine ZL (by repeat (first | exact hB.none Wk | refine Zr Wi ?_)) ?_
 refine hK _ _ (QM (kp3 Z Z Z) ?_)
 refine Q5 fun K hK => mv2 Z Z ?_
 first | refine QN rfl QP ?_ | refine QN rfl rfl ?_
 refine Jf Z Z Wc (Yk (HE (I := I) Z (Qk Wa hg) hL Wa) (QY Z Z Wc (Qa Z (hK _ _ (QM (kp4 Z Z Z Z) ?_)))))
 refine Q5 fun K hK => Qa rfl (Qa rfl (Qa rfl (Qa rfl (Xm rfl rfl (Qk Wa (Qk Wa hu)) Wf Wa Wa rfl (Qe rfl (Zp (Qk Wa (Qk Wa hu))) (Qx rfl (Z1 (Qk Wa (Qk Wa hu)) (Zq Wa Wa)) rfl (Yk (hcall _ _ rfl (JM (B := [_, _]) hB Qv (by intro p hp h; simp only [Qf2, Qf1, or_false] at hp; rcases hp with rfl | rfl <;> first | rfl | (simp only at h; omega)))) (QT rfl rfl (Q3 rfl (Qk Wa (Qk Wa rfl)) rfl rfl rfl rfl rfl rfl (hK _ _ (QM (kp1 rfl) ?_)))))))))))
 refine NG ?_
 refine ⟨.agg (NI ⟨1 + nx L I ((us.length : Int) - 1), s⟩), (kg, gB L I2 eg) :: H, ⟨⟨1 + nx L I ((us.length : Int) - 1), s⟩, _, ⟨⟨by show 1 <= 1 + _; omega, by show 1 + _ < (us.length : Int); omega, hs.1⟩, hs.2⟩, rfl, rfl⟩, (XM hB hC hkg rfl).1, (XM hB hC hkg rfl).2, ?_⟩
 refine H3 (cs := NI ⟨1 + nx L I ((us.length : Int) - 1), s⟩) Z (Z1 Wj Z) Z Z Z ?_
 exact JM (B := [_, _, _, _]) hB Wj (by intro p hp h; simp only [Qf2, Qf1, or_false] at hp; rcases hp with rfl | rfl | rfl | rfl <;> first | rfl | (simp only at h; omega))
/-- The call of 'want'. -/
theorem L9 {H : QfX} {kg ku : Nat} {L : List Int} {I : Int} {eg eu ec : Nat} {us : List UR} (hg : lk H kg = some (gB L I eg)) (hU : Fam H kg ku eu ec us) (hC : Closed H) (hL : ∀ x ∈ L, I64 x) (h2 : 2 <= us.length) (hn : us.length <= 48) :
  ∃ x I2, WantMay us.length x /\ ∀ (st : St) (args : List Opd), Zj st args = some [.ref kg 0 0, .osl ku us.length] -> (∀ j x, lk H j = some x -> lk st.H j = some x) -> Ku Tryz.prog 18 args st H [] [(kg, gB L I2 eg)] (.agg (NI x)) := by
 obtain ⟨d, H2, ⟨x, I2, hx, rfl, rfl⟩, hok⟩ := GA (H := upH H) (kg := upN kg) (ku := upN ku) (L := L) (I := I) (eg := eg) (eu := eu) (ec := ec) (us := us.map UR.ren) (by unfold upN; omega) (by rw [JO, hg]; rfl) hU.up Lc (Ns hC) hL (by simpa using h2) (by simpa using hn)
 obtain ⟨pu, hu⟩ := hU.u
 rw [List.length_map] at hx hok
 refine ⟨x, I2, hx, fun st args ha hF => Lq (b' := gB L I2 eg) (ds' := [.ref (upN kg) 0 0, .osl (upN ku) us.length]) ha hF hC (fun x hx j hj => ?_) (Zp hg) Z Z Z Z hok⟩
 simp only [Qf2, Qf1, or_false] at hx
 rcases hx with rfl | rfl
 ·simp [D.ids, D.sid] at hj; subst hj; exact Zp hg
 ·simp [D.ids, D.sid] at hj; subst hj; exact Zp hu
open Go Go.Abs M3 M25
theorem Gf {H : QfX} {kg ku : Nat} {L : List Int} {I most : Int} {eg eu ec : Nat} {us : List UR} (hkg : 1000000 <= kg) (hg : lk H kg = some (gB L I eg)) (hU : Fam H kg ku eu ec us) (hB : Big H) (hC : Closed H) (hL : ∀ x ∈ L, I64 x) (h2n : 2 <= us.length) (hn : us.length <= 48) (hm0 : 0 <= most) (hm1 : most <= 10) : ∃ d H2, (∃ ns I2, Me us.length most ns /\ d = QV ns /\ H2 = (kg, gB L I2 eg) :: H) /\ OkH Tryz.prog 15 [.ref kg 0 0, .osl ku us.length, .int .i64 most] H d H2 := by
 obtain ⟨pu, hu⟩ := hU.u
 have hku := hB _ _ hu
 have hne := hU.ne
 have hk0 : 0 <= nx L I (most + 1) := PO
 have hk1 : nx L I (most + 1) < most + 1 := PN Wa
 refine OkH.ofX (R := fun d H2 => ∃ ns I2, Me us.length most ns /\ d = QV ns /\ H2 = (kg, gB L I2 eg) :: H) Z2 Tryz.func15 QeA (Qf0 Z) ?_
 show TX _ _ tf15.body _ _
 refine Q5 fun K hK => Qa Z (hK _ _ (QM (kp3 Z Z Z) ?_))
 refine Q5 fun K hK => Qa Z (hK _ _ (QM (kp4 Z Z Z Z) ?_))
 refine Xw ?_ -- 0
 refine Q5 fun K hK => mv2 Z Z (QY Z Z Wc (Yk (HE (I := I) Z hg hL Wa) (Qa Z (hK _ _ (QM (kp4 Z Z Z Z) ?_)))))
 refine Yw ?_
 refine GW (ι := Nat × List (List WantT) × Int) (fun ⟨k, ns, J⟩ => ⟨[(0, .ref kg 0 0), (1, .osl ku us.length), (7, .osl 7 ns.length), (8, .int .i64 k)], [(7, ⟨(ns).map (fun r => [Q8 r]), 1, 51, true⟩), (kg, gB L J eg)] ++ H⟩) (fun ⟨k, ns, J⟩ => (ns.length : Int) + k <= most /\ ∀ r ∈ ns, R5 us.length r) (fun ⟨k, ns, J⟩ => k) ((nx L I (most + 1)).toNat, [], nxI I) ?_ ?_ ?_
 ·exact le_trans (Yh 7 7 1 51 rfl (by repeat (first | exact hB.none Wk | refine Zr Wi ?_))) (MH (l := [0, 1, 7, 8]) (B := [_, _]) (kp4 rfl rfl rfl rfl) (by simp only [Int.toNat_of_nonneg hk0] <;> rfl) (by intro p hp; simp only [Qf2, Qf1, or_false] at hp; rcases hp with rfl | rfl <;> exact ⟨by repeat (first | exact Qv | refine Qk Wi ?_), rfl⟩) rfl (by intro p hp h; simp only [Qf2, Qf1, or_false] at hp; rcases hp with rfl | rfl <;> first | (simp only at h; omega) | (repeat (first | exact QZ | refine QW ?_))) hB hC (by intro p hp k hk; simp only [Qf2, Qf1, or_false] at hp; rcases hp with rfl | rfl | rfl | rfl <;> first | (simp [D.ids, D.sid, Q8, QV, Zo] at hk; done) | (simp [D.ids, D.sid, Q8, QV, Zo] at hk; subst hk; repeat (first | exact QZ | exact Zp hg | exact Zp hu | refine QW ?_))))
 ·exact ⟨by simp only [List.length_nil]; omega, by simp⟩
 intro ⟨k, ns, J⟩ hI
 try dsimp only at hI
 try dsimp only
 refine Xw ?_ -- 1
 refine Q5 fun K hK => Qa Z (RZ Z Z (hK _ _ (QM (kp5 Z Z Z Z Z) ?_)))
 refine YL Z (fun h1 => ?_) (fun h1 => ?_)
 ·try rw [h1]
  try simp only [qA] at h1
  refine Y5 (Q1 (kp4 Z Z Z Z) ?_)
  refine Xw ?_ -- 2
  refine Yw (Q5 fun K hK => mv2 Z Z ?_)
  obtain ⟨x1, J1, hx1, hc1⟩ := L9 (I := J) (H := (kg, gB L (J) eg) :: H) Qv hU.cons (hC.pr rfl) hL h2n hn
  refine Yk (hc1 _ _ rfl (JM (B := [_, _]) hB Wj (by intro p hp h; simp only [Qf2, Qf1, or_false] at hp; rcases hp with rfl | rfl <;> first | rfl | (simp only at h; omega)))) ?_
  refine Qz Z (by repeat (first | exact hB.none Wk | refine Zr Wi ?_)) ?_
  refine Qa Z (hK _ _ (QM (kp5 Z Z Z Z Z) ?_))
  refine Qde (ι := List WantT × Int) (fun ⟨r, J4⟩ => ⟨[(0, .ref kg 0 0), (1, .osl ku us.length), (7, .osl 7 ns.length), (8, .int .i64 k), (9, Q8 r)], [(7, ⟨(ns).map (fun r => [Q8 r]), 1, 51, true⟩), (kg, gB L J4 eg)] ++ H⟩) (fun ⟨r, J4⟩ => R5 us.length r) ?_ ?_
  ·skip
   refine Q5 fun K hK => Qa Z (Yk (HE (I := J1) Z (Qk Wa Qv) hL Wa) (ZO Z Z (hK _ _ (QM (kp6 Z Z Z Z Z Z) ?_))))
   refine YL Z (fun h2 => ?_) (fun h2 => ?_)
   ·try rw [h2]
    try simp only [qA] at h2
    refine ZS fun K hK => mv2 Z Z (Qa Z ?_)
    obtain ⟨x2, J2, hx2, hc2⟩ := L9 (I := nxI J1) (H := (kg, gB L (nxI J1) eg) :: H) Qv hU.cons (hC.pr rfl) hL h2n hn
    refine Yk (hc2 _ _ rfl (JM (B := [_, _, _, _, _]) hB Wj (by intro p hp h; simp only [Qf2, Qf1, or_false] at hp; rcases hp with rfl | rfl | rfl | rfl | rfl <;> first | rfl | (simp only at h; omega)))) ?_
    refine Qz Z (by repeat (first | exact hB.none Wk | refine Zr Wi ?_)) ?_
    refine QbW Z Z Wn ⟨_, rfl, rfl, rfl, rfl, rfl⟩ (by repeat (first | exact hB.none Wk | refine Zr Wi ?_)) (Qk Wk (Qk Wa (Qk Wa Z))) Z Z Z Wf Wf ?_
    refine Qa Z (hK _ ?_)
    refine Z9 ([x1, x2], J2) ?_ ?_
    ·exact le_trans (TK (l := [0, 1, 7, 8]) (B := [_, _, _, _, _, _, _, _, _]) (A := [(7, ⟨(ns).map (fun r => [Q8 r]), 1, 51, true⟩), (kg, gB L J2 eg)]) 30 9 (kp4 rfl rfl rfl rfl) rfl rfl rfl Wm (by intro p hp hk; simp only [Qf2, Qf1, or_false] at hp; rcases hp with rfl | rfl | rfl | rfl <;> first | (simp [D.ids, D.sid, Q8, QV, Zo] at hk; done) | (simp [D.ids, D.sid, Q8, QV, Zo] at hk; omega)) (by intro p hp; simp only [Qf2, Qf1, or_false] at hp; rcases hp with rfl | rfl <;> exact ⟨by first | decide | (simp only; omega), by repeat (first | exact Qv | refine Qk Wi ?_), rfl⟩) (by intro p hp h; simp only [Qf2, Qf1, or_false] at hp; rcases hp with rfl | rfl | rfl | rfl | rfl | rfl | rfl | rfl | rfl <;> first | (simp only at h; omega) | (repeat (first | exact QZ | refine QW ?_))) hB hC (by intro p hp k hk; simp only [Qf2, Qf1, or_false] at hp; rcases hp with rfl | rfl | rfl | rfl <;> first | (simp [D.ids, D.sid, Q8, QV, Zo] at hk; done) | (simp [D.ids, D.sid, Q8, QV, Zo] at hk; subst hk; repeat (first | exact QZ | exact Zp hg | exact Zp hu | refine QW ?_)))) (MH (l := [0, 1, 7, 8, 9]) (B := [_, _]) (kp5 rfl rfl rfl rfl rfl) rfl (by intro p hp; simp only [Qf2, Qf1, or_false] at hp; rcases hp with rfl | rfl <;> exact ⟨by repeat (first | exact Qv | refine Qk Wi ?_), rfl⟩) rfl (by intro p hp h; simp only [Qf2, Qf1, or_false] at hp; rcases hp with rfl | rfl <;> first | (simp only at h; omega) | (repeat (first | exact QZ | refine QW ?_))) hB hC (by intro p hp k hk; simp only [Qf2, Qf1, or_false] at hp; rcases hp with rfl | rfl | rfl | rfl | rfl <;> first | (simp [D.ids, D.sid, Q8, QV, Zo] at hk; done) | (simp [D.ids, D.sid, Q8, QV, Zo] at hk; subst hk; repeat (first | exact QZ | exact Zp hg | exact Zp hu | refine QW ?_))))
    ·exact QcG hx1 hx2
   ·try rw [h2]
    try simp only [qA] at h2
    refine Y5 ?_
    refine Z9 ([x1], nxI J1) ?_ ?_
    ·exact le_trans (TK (l := [0, 1, 7, 8]) (B := [_, _, _, _, _]) (A := [(7, ⟨(ns).map (fun r => [Q8 r]), 1, 51, true⟩), (kg, gB L (nxI J1) eg)]) 21 9 (kp4 rfl rfl rfl rfl) rfl (Qk Wa rfl) rfl Wm (by intro p hp hk; simp only [Qf2, Qf1, or_false] at hp; rcases hp with rfl | rfl | rfl | rfl <;> first | (simp [D.ids, D.sid, Q8, QV, Zo] at hk; done) | (simp [D.ids, D.sid, Q8, QV, Zo] at hk; omega)) (by intro p hp; simp only [Qf2, Qf1, or_false] at hp; rcases hp with rfl | rfl <;> exact ⟨by first | decide | (simp only; omega), by repeat (first | exact Qv | refine Qk Wi ?_), rfl⟩) (by intro p hp h; simp only [Qf2, Qf1, or_false] at hp; rcases hp with rfl | rfl | rfl | rfl | rfl <;> first | (simp only at h; omega) | (repeat (first | exact QZ | refine QW ?_))) hB hC (by intro p hp k hk; simp only [Qf2, Qf1, or_false] at hp; rcases hp with rfl | rfl | rfl | rfl <;> first | (simp [D.ids, D.sid, Q8, QV, Zo] at hk; done) | (simp [D.ids, D.sid, Q8, QV, Zo] at hk; subst hk; repeat (first | exact QZ | exact Zp hg | exact Zp hu | refine QW ?_)))) (MH (l := [0, 1, 7, 8, 9]) (B := [_, _]) (kp5 rfl rfl rfl rfl rfl) rfl (by intro p hp; simp only [Qf2, Qf1, or_false] at hp; rcases hp with rfl | rfl <;> exact ⟨by repeat (first | exact Qv | refine Qk Wi ?_), rfl⟩) rfl (by intro p hp h; simp only [Qf2, Qf1, or_false] at hp; rcases hp with rfl | rfl <;> first | (simp only at h; omega) | (repeat (first | exact QZ | refine QW ?_))) hB hC (by intro p hp k hk; simp only [Qf2, Qf1, or_false] at hp; rcases hp with rfl | rfl | rfl | rfl | rfl <;> first | (simp [D.ids, D.sid, Q8, QV, Zo] at hk; done) | (simp [D.ids, D.sid, Q8, QV, Zo] at hk; subst hk; repeat (first | exact QZ | exact Zp hg | exact Zp hu | refine QW ?_))))
    ·exact QcF hx1
  intro ⟨r, J4⟩ hJ
  try dsimp only at hJ
  try dsimp only
  refine ZS fun K hK => mv2 Z Z ?_
  refine Qz Z (by repeat (first | exact hB.none Wk | refine Zr Wi ?_)) ?_
  refine Xl Z Z (fun _ h => Y8 Z Z Z h) Z Wf Z Z Z Wh Wh (Qa Z (hK _ ?_))
  refine Qd (Q1 (kp4 Z Z Z Z) (ZS fun K hK => Qa Z (Jf Z Z Wc (Qa Z (hK _ ?_)))))
  refine Qf (k - 1, ns ++ [r], J4) ?_ ?_ ?_
  ·exact le_trans (Qdq (B := [_, _, _, _]) 7 hB hC) (MH (l := [0, 1, 7, 8]) (A := [(7, ⟨ns.map (fun r => [Q8 r]) ++ [[Q8 r]], 1, 51, true⟩), (kg, gB L J4 eg)]) (B := [_, _, _, _]) (kp4 rfl rfl rfl rfl) (by simp [D.scrub, show ¬ kg = 7 by omega, show ¬ ku = 7 by omega] <;> omega) (by intro p hp; simp only [Qf2, Qf1, or_false] at hp; rcases hp with rfl | rfl <;> exact ⟨by repeat (first | exact Qv | refine Qk Wi ?_), rfl⟩) Wf (by intro p hp h; simp only [Qf2, Qf1, or_false] at hp; rcases hp with rfl | rfl | rfl | rfl <;> first | (simp only at h; omega) | (repeat (first | exact QZ | refine QW ?_))) hB hC (by intro p hp k hk; simp only [Qf2, Qf1, or_false] at hp; rcases hp with rfl | rfl | rfl | rfl <;> first | (simp [D.ids, D.sid, Q8, QV, Zo] at hk; done) | (simp [D.ids, D.sid, Q8, QV, Zo] at hk; subst hk; repeat (first | exact QZ | exact Zp hg | exact Zp hu | refine QW ?_))))
  ·exact ⟨by simp only [List.length_append, List.length_singleton]; omega, BH hI.2 hJ⟩
  ·show k - 1 < k; omega
 ·try rw [h1]
  try simp only [qA] at h1
  refine KX (YE (Qt (Qy (Q1 (kp1 Z) (Q5 fun K hK => mv2 Z Z (hK _ _ (QM (kp1 Z) ?_)))))))
  refine NG ?_
  refine ⟨QV ns, (kg, gB L J eg) :: H, ⟨ns, _, ⟨Wa, hI.2⟩, rfl, rfl⟩, (XM hB hC hkg rfl).1, (XM hB hC hkg rfl).2, ?_⟩
  refine YC Z (by simp [D6, D.fz, D.fzS, M9, lk, D.can, D.canS, QV]) ?_
  exact JM (B := [_, _]) hB Wj (by intro p hp h; simp only [Qf2, Qf1, or_false] at hp; rcases hp with rfl | rfl <;> first | rfl | (simp only at h; omega))
end Go.Proofs
namespace M25
open Go Go.Abs M3
/-! ### The boxes of a world under way -/
def fbx (ec : Nat) (us : List UR) : QfX := us.map fun u => (u.k, ⟨u.cs.map dCR, 8, ec, true⟩)
def Yc (us : List UR) : Prop := ∀ j, ∀ h : j < us.length, us[j].k = 500001 + j
theorem SD {us : List UR} {u : UR} (h : Yc us) (hu : u.k = 500001 + us.length) : Yc (us ++ [u]) := fun j hj => by
 rw [List.length_append, List.length_singleton] at hj
 by_cases e : j < us.length
 ·rw [List.getElem_append_left e]; exact h j e
 ·have : j = us.length := Wa
  subst this
  rw [List.getElem_append_right (Nat.le_refl _)]; simpa using hu
theorem Ms (ec : Nat) (us : List UR) : Qal (fbx ec us) := fun p hp => by
 obtain ⟨u, _, rfl⟩ := Qge.1 hp; rfl
theorem PG {ec : Nat} : ∀ {us : List UR} {k : Nat} {b : Box}, lk (fbx ec us) k = some b -> ∃ u ∈ us, k = u.k /\ b = ⟨u.cs.map dCR, 8, ec, true⟩
 | [], _, _, h => by cases h
 | u :: us, k, b, h => by
  simp only [fbx, List.map_cons] at h
  rw [Qj] at h
  split at h
  ·rename_i e; cases h; exact ⟨u, by simp, e.symm, rfl⟩
  ·obtain ⟨v, hv, q⟩ := PG (us := us) h
   exact ⟨v, by simp [hv], q⟩
theorem KG {us : List UR} (h : Yc us) {u : UR} (hu : u ∈ us) : 500001 <= u.k /\ u.k < 500001 + us.length := by
 obtain ⟨j, hj, rfl⟩ := Qgm hu
 have := h j hj
 omega
theorem Rg {ec : Nat} {us : List UR} (h : Yc us) : Qem 500001 (fbx ec us) := fun k b hk => by
 obtain ⟨u, hu, rfl, _⟩ := PG hk
 exact (KG h hu).1
theorem YW {ec : Nat} {us : List UR} (h : Yc us) {k : Nat} (hk : k < 500001 \/ 500001 + us.length <= k) : lk (fbx ec us) k = none := by
 cases hh : lk (fbx ec us) k with
 | none => rfl
 | some b =>
  obtain ⟨u, hu, rfl, _⟩ := PG hh
  have := KG h hu
  omega
theorem CC {ec : Nat} : ∀ {us : List UR} {n : Nat}, (∀ j, ∀ h : j < us.length, us[j].k = n + j) -> ∀ j, ∀ h : j < us.length, lk (fbx ec us) (n + j) = some ⟨us[j].cs.map dCR, 8, ec, true⟩
 | [], _, _, j, hj => by simp at hj
 | u :: us, n, hk, 0, _ => by
  have := hk 0 Wf
  simp only [List.getElem_cons_zero, Nat.add_zero] at this
  simp only [fbx, List.map_cons, Nat.add_zero]
  rw [Qj, if_pos this]; rfl
 | u :: us, n, hk, j + 1, hj => by
  have h0 := hk 0 Wf
  simp only [List.getElem_cons_zero, Nat.add_zero] at h0
  simp only [fbx, List.map_cons]
  rw [Qj, if_neg Wa]
  have := CC (ec := ec) (us := us) (n := n + 1) (fun i hi => by
   have := hk (i + 1) (by simpa using hi)
   simp only [List.getElem_cons_succ] at this
   omega) j (by simpa using hj)
  rw [show n + 1 + j = n + (j + 1) by omega] at this
  simp only [List.getElem_cons_succ]
  exact this
theorem CB {ec : Nat} {us : List UR} (h : Yc us) {j : Nat} (hj : j < us.length) : lk (fbx ec us) (500001 + j) = some ⟨us[j].cs.map dCR, 8, ec, true⟩ := CC h j hj
theorem LC (ec : Nat) (us : List UR) (u : UR) : fbx ec (us ++ [u]) = fbx ec us ++ [(u.k, ⟨u.cs.map dCR, 8, ec, true⟩)] := by simp [fbx]
theorem Qax {ec : Nat} {us : List UR} (h : Yc us) {kg : Nat} {x y : Box} {u : UR} (hu : u.k = 500001 + us.length) (hkg : u.k ≠ kg) (k : Nat) :
  lk ((u.k, ⟨u.cs.map dCR, 8, ec, true⟩) :: (500000, x) :: (kg, y) :: fbx ec us) k = lk ((500000, x) :: (kg, y) :: fbx ec (us ++ [u])) k := by
 rw [LC]
 by_cases e : u.k = k
 ·subst e
  rw [Qv, Qj, if_neg Wa, Qj, if_neg (Ne.symm hkg), YX (YW h (.inr Wa)), Qv]
 ·rw [Qj, if_neg e, Qj, Qj, Qj, Qj]
  split
  ·rfl
  ·split
   ·rfl
   ·rw [ZW]
    cases h2 : lk (fbx ec us) k with
    | some v => rfl
    | none => rw [Qj, if_neg e]; rfl
def zr (v : Vr) (sh : Int) : CR := ⟨v, .int .i64 sh, .fsl [], .fsl []⟩
def Qc3 (u : UR) : Prop := u.cs.length <= 4 /\ ∀ z ∈ u.cs, ∃ v sh, z = zr v sh /\ Pq v
theorem QbD {u : UR} : (dUR u).flatMap D.sid = [u.k] := by simp [dUR, D.sid]
theorem KU {us : List UR} {e et : Nat} {k : Nat} (h : k ∈ (Box.ids ⟨us.map dUR, e, et, false⟩)) : ∃ u ∈ us, k = u.k := by
 simp only [Box.ids, Qf8, if_false, Qf7, Qge] at h
 obtain ⟨r, ⟨u, hu, rfl⟩, hk⟩ := h
 have : k ∈ (dUR u).flatMap D.sid := Qf7.2 hk
 rw [QbD] at this
 exact ⟨u, hu, by simpa using this⟩
theorem QcQ {us : List UR} (h : Yc us) : ∀ r ∈ us.map dUR, ∀ d ∈ r, 500000 ∉ d.sid := fun r hr d hd hk => by
 obtain ⟨u, hu, rfl⟩ := Qge.1 hr
 have : 500000 ∈ (dUR u).flatMap D.sid := Qf7.2 ⟨d, hd, hk⟩
 rw [QbD] at this
 have h2 := KG h hu
 simp only [Qf9] at this
 omega
theorem P8 {B F : QfX} {j : Nat} (h : (lk F j).isSome = true) : (lk (B ++ F) j).isSome = true := by
 rw [ZW]; split
 ·rfl
 ·exact h
theorem Fc {ec : Nat} {us : List UR} (h : Yc us) {u : UR} (hu : u ∈ us) : (lk (fbx ec us) u.k).isSome = true := by
 obtain ⟨j, hj, rfl⟩ := Qgm hu
 rw [h j hj, CB h hj]; rfl
theorem Rh {ec : Nat} {us : List UR} {u : UR} (h : Yc us) (hu : u.k = 500001 + us.length) : lk (fbx ec (us ++ [u])) (500001 + us.length) = some ⟨u.cs.map dCR, 8, ec, true⟩ := by
 rw [LC, YX (YW h (.inr (Nat.le_refl _))), <- hu, Qv]
section
variable {l : List Nat} {fr fr1 fr' : QfY} {B : QfX} {kg eg eu ec : Nat} {L : List Int} {J : Int} {us : List UR}
theorem Qep (hf : Za l fr = fr1) (ef : fr1 = fr') (hK : Yc us) (hu : lk B 500000 = some ⟨us.map dUR, 3, eu, false⟩) (hg : lk B kg = some (gB L J eg)) (hB : ∀ p ∈ B, 500001 <= p.1 -> p.1 = kg) (hkg : kg ≠ 500000)
  (hfr : ∀ p ∈ fr', ∀ k ∈ p.2.ids, k = 500000 \/ k = kg \/ ∃ u ∈ us, k = u.k) : St.le ⟨fr, B ++ fbx ec us⟩ ⟨fr', [(500000, ⟨us.map dUR, 3, eu, false⟩), (kg, gB L J eg)] ++ fbx ec us⟩ := by
 have s0 : ∀ k, (k = 500000 \/ k = kg \/ ∃ u ∈ us, k = u.k) -> (lk ([(500000, (⟨us.map dUR, 3, eu, false⟩ : Box)), (kg, gB L J eg)] ++ fbx ec us) k).isSome = true := fun k hk => by
  rcases hk with rfl | rfl | ⟨u, hu, rfl⟩
  ·exact QZ
  ·exact QW QZ
  ·exact P8 (Fc hK hu)
 refine TL (N := 500001) hf ef (fun p hp => ?_) rfl (fun p hp j hj => s0 j ?_) (fun p hp h => ?_) (Rg hK) (Ms ec us) (fun p hp k hk => s0 k (hfr p hp k hk))
 ·simp only [Qf2, Qf1, or_false] at hp
  rcases hp with rfl | rfl
  ·exact hu
  ·exact hg
 ·simp only [Qf2, Qf1, or_false] at hp
  rcases hp with rfl | rfl
  ·exact .inr (.inr (KU hj))
  ·simp [Box.ids, gB] at hj
 ·rw [hB p hp h]; exact QW QZ
theorem Qc1 {cs : List CR} (hf : Za l fr = fr1) (ef : fr1 = fr') (hK : Yc us) (hc : lk B (500001 + us.length) = some ⟨cs.map dCR, 8, ec, true⟩) (hu : lk B 500000 = some ⟨us.map dUR, 3, eu, false⟩) (hg : lk B kg = some (gB L J eg)) (hB : ∀ p ∈ B, 500001 <= p.1 -> p.1 = kg \/ p.1 = 500001 + us.length)
  (hfr : ∀ p ∈ fr', ∀ k ∈ p.2.ids, k = 500000 \/ k = kg \/ k = 500001 + us.length \/ ∃ u ∈ us, k = u.k) : St.le ⟨fr, B ++ fbx ec us⟩ ⟨fr', [(500001 + us.length, ⟨cs.map dCR, 8, ec, true⟩), (500000, ⟨us.map dUR, 3, eu, false⟩), (kg, gB L J eg)] ++ fbx ec us⟩ := by
 have s0 : ∀ k, (k = 500000 \/ k = kg \/ k = 500001 + us.length \/ ∃ u ∈ us, k = u.k) -> (lk ([(500001 + us.length, (⟨cs.map dCR, 8, ec, true⟩ : Box)), (500000, (⟨us.map dUR, 3, eu, false⟩ : Box)), (kg, gB L J eg)] ++ fbx ec us) k).isSome = true := fun k hk => by
  rcases hk with rfl | rfl | rfl | ⟨u, hu, rfl⟩
  ·exact QW QZ
  ·exact QW (QW QZ)
  ·exact QZ
  ·exact P8 (Fc hK hu)
 refine TL (N := 500001) hf ef (fun p hp => ?_) rfl (fun p hp j hj => s0 j ?_) (fun p hp h => ?_) (Rg hK) (Ms ec us) (fun p hp k hk => s0 k (hfr p hp k hk))
 ·simp only [Qf2, Qf1, or_false] at hp
  rcases hp with rfl | rfl | rfl
  ·exact hc
  ·exact hu
  ·exact hg
 ·simp only [Qf2, Qf1, or_false] at hp
  rcases hp with rfl | rfl | rfl
  ·simp [Box.ids] at hj
  ·exact .inr (.inr (.inr (KU hj)))
  ·simp [Box.ids, gB] at hj
 ·rcases hB p hp h with e | e
  ·rw [e]; exact QW (QW QZ)
  ·rw [e]; exact QZ
theorem QdD {u : UR} (hf : Za l fr = fr1) (ef : fr1 = fr') (hK : Yc us) (huk : u.k = 500001 + us.length) (hc : lk B (500001 + us.length) = some ⟨u.cs.map dCR, 8, ec, true⟩) (hu : lk B 500000 = some ⟨(us ++ [u]).map dUR, 3, eu, false⟩) (hg : lk B kg = some (gB L J eg)) (hB : ∀ p ∈ B, 500001 <= p.1 -> p.1 = kg \/ p.1 = 500001 + us.length) (hkg : 1000000 <= kg) (hlen : us.length <= 100)
  (hfr : ∀ p ∈ fr', ∀ k ∈ p.2.ids, k = 500000 \/ k = kg \/ ∃ v ∈ us ++ [u], k = v.k) : St.le ⟨fr, B ++ fbx ec us⟩ ⟨fr', [(500000, ⟨(us ++ [u]).map dUR, 3, eu, false⟩), (kg, gB L J eg)] ++ fbx ec (us ++ [u])⟩ := by
 have hK1 := SD hK huk
 have mv := fun k => Qax (ec := ec) hK (kg := kg) (x := ⟨(us ++ [u]).map dUR, 3, eu, false⟩) (y := gB L J eg) huk Wa k
 have s0 : ∀ k, (k = 500000 \/ k = kg \/ ∃ v ∈ us ++ [u], k = v.k) -> (lk ([(u.k, (⟨u.cs.map dCR, 8, ec, true⟩ : Box)), (500000, (⟨(us ++ [u]).map dUR, 3, eu, false⟩ : Box)), (kg, gB L J eg)] ++ fbx ec us) k).isSome = true := fun k hk => by
  show (lk ((u.k, _) :: (500000, _) :: (kg, _) :: fbx ec us) k).isSome = true
  rw [mv]
  rcases hk with rfl | rfl | ⟨v, hv, rfl⟩
  ·exact QZ
  ·exact QW QZ
  ·exact QW (QW (Fc hK1 hv))
 refine le_trans (TL (N := 500001) (A' := [(u.k, ⟨u.cs.map dCR, 8, ec, true⟩), (500000, ⟨(us ++ [u]).map dUR, 3, eu, false⟩), (kg, gB L J eg)]) hf ef (fun p hp => ?_) rfl (fun p hp j hj => s0 j ?_) (fun p hp h => ?_) (Rg hK) (Ms ec us) (fun p hp k hk => s0 k (hfr p hp k hk))) (Rv ⟨fun _ => rfl, mv⟩)
 ·simp only [Qf2, Qf1, or_false] at hp
  rcases hp with rfl | rfl | rfl
  ·rw [huk]; exact hc
  ·exact hu
  ·exact hg
 ·simp only [Qf2, Qf1, or_false] at hp
  rcases hp with rfl | rfl | rfl
  ·simp [Box.ids] at hj
  ·exact .inr (.inr (KU hj))
  ·simp [Box.ids, gB] at hj
 ·rcases hB p hp h with e | e
  ·rw [e]; exact QW (QW QZ)
  ·rw [e, <- huk]; exact QZ
end
def u0 (v : Vr) : UR := ⟨[], [], 500001, [zr v (-1)]⟩
theorem Qbl {kg a b : Nat} (h : 1000000 <= kg) (ha : a < 1000000) (hb : b < 1000000) : JB a b kg = kg := by
 unfold JB; rw [if_neg Wa, if_neg Wa]
theorem C2 {l : List Nat} {fr fr1 fr' : QfY} {kg eg eu ec : Nat} {L : List Int} {I : Int} (hkg : 1000000 <= kg) (hf : Za l fr = fr1) (ef : fr1.map (fun p => (p.1, (p.2.ren (JB 18 500000)).ren (JB 16 500001))) = fr') :
  St.le ⟨fr, [(18, ⟨[[.str [], .str [], .osl 16 1]], 3, eu, false⟩), (16, ⟨[dCR (zr v0 (-1))], 8, ec, true⟩), (kg, gB L I eg)]⟩ ⟨fr', [(500000, ⟨[u0 v0].map dUR, 3, eu, false⟩), (kg, gB L I eg)] ++ fbx ec [u0 v0]⟩ := by
 subst hf ef
 have k1 := Qbl (a := 18) (b := 500000) hkg Wk Wk
 have k2 := Qbl (a := 16) (b := 500001) hkg Wk Wk
 refine le_trans (Ht l fr _) (le_trans (Rx 18 500000 Wk Wk _) (le_trans (Rx 16 500001 Wk Wk _) ?_))
 have hH : ∀ k, lk ([(500000, (⟨[u0 v0].map dUR, 3, eu, false⟩ : Box)), (kg, gB L I eg)] ++ fbx ec [u0 v0]) k = lk (PX (JB 16 500001) (PX (JB 18 500000) [(18, ⟨[[.str [], .str [], .osl 16 1]], 3, eu, false⟩), (16, ⟨[dCR (zr v0 (-1))], 8, ec, true⟩), (kg, gB L I eg)])) k := fun k => by
  have e : PX (JB 16 500001) (PX (JB 18 500000) [(18, (⟨[[.str [], .str [], .osl 16 1]], 3, eu, false⟩ : Box)), (16, ⟨[dCR (zr v0 (-1))], 8, ec, true⟩), (kg, gB L I eg)]) = [(500000, ⟨[u0 v0].map dUR, 3, eu, false⟩), (500001, ⟨[dCR (zr v0 (-1))], 8, ec, true⟩), (kg, gB L I eg)] := by
   simp only [PX, List.map_cons, List.map_nil, k1, k2]; rfl
  rw [e]
  show lk ((500000, _) :: (kg, _) :: (500001, _) :: []) k = _
  rw [Qj, Qj, Qj, Qj, Qj, Qj]
  by_cases h1 : 500000 = k
  ·rw [if_pos h1, if_pos h1]
  ·rw [if_neg h1, if_neg h1]
   by_cases h2 : kg = k
   ·rw [if_pos h2, if_neg Wa, if_pos h2]
   ·rw [if_neg h2, if_neg h2]; rfl
 refine KH (by simp only [St.ren, List.map_map]; rfl) fun k => (hH k).symm
def names5 : List (List UInt8) := [[97, 110, 116], [98, 101, 101], [99, 111, 119], [100, 111, 103], [101, 108, 107]]
theorem Q7 : names5.length = 5 := rfl
theorem QcR : versions.length = 4 := rfl
theorem QdG {i : Nat} (h : i < versions.length) : Pq versions[i] := by
 have := Le _ (Qf5 h)
 exact ⟨Qgj this.1 Wa, Qgj this.2 Wa⟩
structure UnitsIn (us : List UR) : Prop where
 keys : Yc us
 fresh : ∀ u ∈ us, Qc3 u
 first : ∃ z rest, us = ⟨[], [], 500001, [z]⟩ :: rest
theorem UnitsIn.zero : UnitsIn [u0 v0] := by
 refine ⟨fun j hj => ?_, fun u hu => ?_, ⟨zr v0 (-1), [], rfl⟩⟩
 ·have : j = 0 := by simp at hj; exact hj
  subst this; rfl
 ·simp only [Qf9] at hu; subst hu
  refine ⟨by simp [u0], fun z hz => ?_⟩
  simp only [u0, Qf9] at hz; subst hz
  exact ⟨v0, -1, rfl, ⟨Qgc _, Qgc _⟩⟩
theorem UnitsIn.snoc {us : List UR} (h : UnitsIn us) {n f : List UInt8} {cs : List CR} (hc : cs.length <= 4) (hz : ∀ z ∈ cs, ∃ v sh, z = zr v sh /\ Pq v) : UnitsIn (us ++ [⟨n, f, 500001 + us.length, cs⟩]) := by
 obtain ⟨h1, h2, z, rest, h3⟩ := h
 refine ⟨SD h1 rfl, fun u hu => ?_, z, rest ++ [⟨n, f, 500001 + us.length, cs⟩], by rw [h3]; rfl⟩
 rcases Qgb.1 hu with hu | hu
 ·exact h2 u hu
 ·simp only [Qf9] at hu; subst hu; exact ⟨hc, hz⟩
def CsIn (n : Nat) (cs : List CR) : Prop := cs.length <= n /\ ∀ z ∈ cs, ∃ v sh, z = zr v sh /\ Pq v
theorem CsIn.nil (n : Nat) : CsIn n [] := ⟨Qgc _, by simp⟩
theorem CsIn.keep {n : Nat} {cs : List CR} (h : CsIn n cs) : CsIn (n + 1) cs := ⟨Nat.le_succ_of_le h.1, h.2⟩
theorem CsIn.snoc {n : Nat} {cs : List CR} (h : CsIn n cs) {v : Vr} (hv : Pq v) {sh : Int} : CsIn (n + 1) (cs ++ [zr v sh]) := by
 refine ⟨by simp; exact h.1, fun z hz => ?_⟩
 rcases Qgb.1 hz with hz | hz
 ·exact h.2 z hz
 ·simp only [Qf9] at hz; subst hz; exact ⟨v, sh, rfl, hv⟩
theorem CsIn.at {n : Nat} {cs : List CR} (h : CsIn n cs) {i : Nat} (hi : i < cs.length) : Pq cs[i].v := by
 obtain ⟨v, sh, e, hv⟩ := h.2 _ (Qf5 hi)
 rw [e]; exact hv
/-! ### What units are called, and of which versions they are -/
def nmR (r : Nat) : List UInt8 := names5.getD (r / 2) []
def ftR (r : Nat) : List UInt8 := if r % 2 = 1 then [102] else []
def shp (u : UR) : List UInt8 × List UInt8 × List Vr := (u.n, u.f, u.cs.map CR.v)
inductive UL : Nat -> List (List UInt8 × List UInt8 × List Vr) -> Prop
 | base : UL 0 [([], [], [v0])]
 | snoc {b r : Nat} {l : List (List UInt8 × List UInt8 × List Vr)} {vs : List Vr} (h : UL b l) (hb : b <= r) (hr : r < 10) (hf : r % 2 = 1 -> 2 <= l.length) (hc : vs.Sublist versions) : UL (r + 1) (l ++ [(nmR r, ftR r, vs)])
 | up {b b' : Nat} {l : List (List UInt8 × List UInt8 × List Vr)} (h : UL b l) (hb : b <= b') : UL b' l
theorem Bl {n : Nat} (h : n < names5.length) : nmR (2 * n) = names5[n] /\ ftR (2 * n) = [] /\ nmR (2 * n + 1) = names5[n] /\ ftR (2 * n + 1) = [102] := by
 refine ⟨?_, ?_, ?_, ?_⟩
 ·rw [nmR, show 2 * n / 2 = n by omega, List.getD_eq_getElem?_getD, List.getElem?_eq_getElem h]; rfl
 ·rw [ftR, if_neg Wa]
 ·rw [nmR, show (2 * n + 1) / 2 = n by omega, List.getD_eq_getElem?_getD, List.getElem?_eq_getElem h]; rfl
 ·rw [ftR, if_pos Wa]
theorem Qab {n : Nat} {us : List UR} {k : Nat} {cs : List CR} (h : UL (2 * n) (us.map shp)) (hn : n < names5.length) (hc : (cs.map CR.v).Sublist versions) : UL (2 * n + 1) ((us ++ [UR.mk names5[n] [] k cs]).map shp) := by
 obtain ⟨e1, e2, _, _⟩ := Bl hn
 have := UL.snoc h (Nat.le_refl _) (by have := Q7; omega) (fun e => Wa) hc
 rw [List.map_append]
 show UL _ (_ ++ [(names5[n], [], cs.map CR.v)])
 rw [<- e1, <- e2]; exact this
theorem Qei {n : Nat} {us : List UR} {k : Nat} {cs : List CR} (h : UL (2 * n + 1) (us.map shp)) (hn : n < names5.length) (h2 : 2 <= us.length) (hc : (cs.map CR.v).Sublist versions) : UL (2 * (n + 1)) ((us ++ [UR.mk names5[n] [102] k cs]).map shp) := by
 obtain ⟨_, _, e1, e2⟩ := Bl hn
 have := UL.snoc h (Nat.le_refl _) (by have := Q7; omega) (fun _ => by simpa using h2) hc
 rw [List.map_append]
 show UL (2 * n + 1 + 1) (_ ++ [(names5[n], [102], cs.map CR.v)])
 rw [<- e1, <- e2]; exact this
theorem UL.vs {b : Nat} {l : List (List UInt8 × List UInt8 × List Vr)} (h : UL b l) : ∀ s ∈ l, VsL s.2.2 := by
 induction h with
 | base => intro s hs; simp only [Qf9] at hs; subst hs; exact .inr rfl
 | snoc _ _ _ _ hc ih =>
  intro s hs
  rcases Qgb.1 hs with hs | hs
  ·exact ih s hs
  ·simp only [Qf9] at hs; subst hs; exact .inl hc
 | up _ _ ih => exact ih
theorem UL.feat {b : Nat} {l : List (List UInt8 × List UInt8 × List Vr)} (h : UL b l) : ∀ i (hi : i < l.length), l[i].2.1 ≠ [] -> 2 <= i := by
 induction h with
 | base =>
  intro i hi hf
  have : i = 0 := by simp at hi; exact hi
  subst this; exact absurd rfl hf
 | @snoc b r l vs h _ _ hr _ ih =>
  intro i hi hf
  rw [List.length_append, List.length_singleton] at hi
  by_cases e : i < l.length
  ·rw [List.getElem_append_left e] at hf; exact ih i e hf
  ·have : i = l.length := Wa
   subst this
   rw [List.getElem_append_right (Nat.le_refl _)] at hf
   simp only [Nat.sub_self, List.getElem_cons_zero, ftR] at hf
   split at hf
   ·rename_i q; exact hr q
   ·exact absurd rfl hf
 | up _ _ ih => exact ih
theorem QdI {l : List Vr} {cs : List CR} {i : Nat} {x : Int} (h : i < l.length) (hL : (cs.map CR.v).Sublist (l.take i)) : ((cs ++ [zr l[i] x]).map CR.v).Sublist (l.take (i + 1)) := by
 rw [List.map_append, List.take_succ_eq_append_getElem h]
 exact hL.append (List.Sublist.refl _)
theorem QdH {cs c2 : List CR} {m : Nat} {x : Int} (h : m < cs.length) (hL : (c2.map CR.v).Sublist ((cs.map CR.v).take m)) : ((c2 ++ [zr cs[m].v x]).map CR.v).Sublist ((cs.map CR.v).take (m + 1)) := by
 rw [List.map_append, List.take_succ_eq_append_getElem (by simpa using h)]
 simp only [List.getElem_map]
 exact hL.append (List.Sublist.refl _)
theorem Dp {L : List Vr} {i : Nat} (h : L.Sublist (versions.take i)) : L.Sublist versions := h.trans (List.take_sublist _ _)
theorem LU {α : Type} {k : Nat} {v v' : α} {l : List (Nat × α)} (h : v = v') : lk ((k, v) :: l) k = some v' := by rw [Qv, h]
theorem S8 {us : List UR} {e et : Nat} (h : Yc us) : Box.scrub (500001 + us.length) ⟨us.map dUR, e, et, false⟩ = ⟨us.map dUR, e, et, false⟩ := S7 fun hk => by
 obtain ⟨u, hu, e⟩ := KU hk
 have := KG h hu
 omega
theorem Dn {us : List UR} (h : Yc us) {n f : List UInt8} {k m : Nat} (hk : k ≠ 500000) : ∀ r ∈ us.map dUR ++ [[D.str n, D.str f, D.osl k m]], ∀ d ∈ r, 500000 ∉ d.sid := fun r hr d hd => by
 rcases Qgb.1 hr with hr | hr
 ·exact QcQ h r hr d hd
 ·simp only [Qf9] at hr; subst hr
  simp only [Qf2, Qf1, or_false] at hd
  rcases hd with rfl | rfl | rfl <;> simp [D.sid]
  exact Ne.symm hk
theorem QcP {us : List UR} {u : UR} : (us ++ [u]).map dUR = us.map dUR ++ [dUR u] := by simp
theorem Qci {cs : List CR} {z : CR} : (cs ++ [z]).map dCR = cs.map dCR ++ [dCR z] := by simp
theorem Kp {us : List UR} (h : Yc us) {kg eu ec : Nat} {g1 g2 g3 : Box} (hkg : 1000000 <= kg) (h1 : g1.pr = true) (h2 : g2.pr = true) (hlen : us.length <= 100) :
  (∀ k, 1000000 <= k -> (lk [(kg, g1)] k).isSome = true -> (lk (((500000, (⟨us.map dUR, 3, eu, false⟩ : Box)) :: fbx ec us) ++ [(kg, g2), (kg, g1)]) k).isSome = true) /\
  (∀ k b, lk (((500000, (⟨us.map dUR, 3, eu, false⟩ : Box)) :: fbx ec us) ++ [(kg, g2), (kg, g1)]) k = some b -> 500000 <= k /\ ∀ j ∈ b.ids, (lk (((500000, (⟨us.map dUR, 3, eu, false⟩ : Box)) :: fbx ec us) ++ [(kg, g2), (kg, g1)]) j).isSome = true) /\
  (∀ k b, lk (((500000, (⟨us.map dUR, 3, eu, false⟩ : Box)) :: fbx ec us) ++ [(kg, g2), (kg, g1)]) k = some b -> lk ((kg, g2) :: (500000, ⟨us.map dUR, 3, eu, false⟩) :: (kg, g3) :: fbx ec us) k = some b) := by
 have cs : ∀ k b, lk (((500000, (⟨us.map dUR, 3, eu, false⟩ : Box)) :: fbx ec us) ++ [(kg, g2), (kg, g1)]) k = some b -> (k = 500000 /\ b = ⟨us.map dUR, 3, eu, false⟩) \/ (∃ u ∈ us, k = u.k /\ b = ⟨u.cs.map dCR, 8, ec, true⟩) \/ (k = kg /\ b = g2) := fun k b hk => by
  rw [List.cons_append, Qj] at hk
  split at hk
  ·rename_i e; cases hk; exact .inl ⟨e.symm, rfl⟩
  ·rw [ZW] at hk
   cases hh : lk (fbx ec us) k with
   | some v =>
    rw [hh] at hk; cases hk
    exact .inr (.inl (PG hh))
   | none =>
    rw [hh] at hk
    simp only at hk
    rw [Qj] at hk
    split at hk
    ·rename_i e; cases hk; exact .inr (.inr ⟨e.symm, rfl⟩)
    ·rename_i e
     rw [Qj, if_neg e] at hk; cases hk
 refine ⟨fun k _ hk => ?_, fun k b hk => ?_, fun k b hk => ?_⟩
 ·obtain ⟨b, hb⟩ := Qf6.1 hk
  obtain ⟨rfl, _⟩ := XA hb
  exact P8 QZ
 ·rcases cs k b hk with ⟨rfl, rfl⟩ | ⟨u, hu, rfl, rfl⟩ | ⟨rfl, rfl⟩
  ·refine ⟨Nat.le_refl _, fun j hj => ?_⟩
   obtain ⟨u, hu, rfl⟩ := KU hj
   rw [List.cons_append]
   refine QW ?_
   obtain ⟨b, hb⟩ := Qf6.1 (Fc (ec := ec) h hu)
   rw [Yx hb]; rfl
  ·have := KG h hu
   exact ⟨Wa, fun j hj => by simp [Box.ids] at hj⟩
  ·exact ⟨Wa, fun j hj => by rw [Ja h2] at hj; cases hj⟩
 ·rcases cs k b hk with ⟨rfl, rfl⟩ | ⟨u, hu, rfl, rfl⟩ | ⟨rfl, rfl⟩
  ·exact Qk Wa Qv
  ·have hm := KG h hu
   obtain ⟨j, hj, rfl⟩ := Qgm hu
   refine Qk Wa (Qk Wa (Qk Wa ?_))
   rw [h j hj]; exact CB h hj
  ·exact Qv
end M25
