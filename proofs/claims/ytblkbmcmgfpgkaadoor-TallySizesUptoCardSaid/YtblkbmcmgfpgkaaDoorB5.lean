/- Part 5 of the means of the proof: a verified abstract evaluator, the prepared functions, and contracts of functions. It states nothing of the claim by itself. -/
import Derived.Test.YtblkbmcmgfpgkaaDoorB4
import Derived.KernelRfl
set_option maxRecDepth 4000
set_option linter.unusedSimpArgs false
set_option linter.unusedVariables false
set_option linter.unusedSectionVars false
namespace Go.Proofs
open Go Go.Abs M3 M25
theorem BA {w : Qv} {c : List Int} {hb : Bool} {x : Zx} (hch : ChOk w c) (hx : 0 <= x.u /\ x.u < w.length) : Ok Tryd.prog 57 [.ptr [Zr w, ZT c, .bool hb, .junk], .agg (dWk w x)] (.bool (mtP w c x)) := by
 have hcl := hch.len
 have hc : x.u.toNat < c.length := Wa
 refine Yk hc hx.1 fun h0 => ?_
 rw [FZ Wa]
 exact Co (P2 hch hc).2 h0
theorem Qa6 {k e t : Nat} {p : Bool} {r r' : List (List D)} {X : Qed} (h : r = r') : (k, (⟨r, e, t, p⟩ : Box)) :: X = (k, ⟨r', e, t, p⟩) :: X := by rw [h]
theorem DM {n : Nat} : (List.replicate ((n : Nat) : Int).toNat [D.bool false]).set 0 [.bool true] = ((List.replicate n false).set 0 true).map rB := by rw [QbI, CZ]
theorem QbT {w : Qv} {c : List Int} {u : Nat} (h : ∀ j (h : j < c.length), j < u -> 0 <= c[j] -> nddB w c j = true) (hu : u < c.length) (h1 : 0 <= c[u] -> nddB w c u = true) : ∀ j (h : j < c.length), j < u + 1 -> 0 <= c[j] -> nddB w c j = true := fun j hj hju h0 => by
 by_cases e : j = u
 ·subst e; exact h1 h0
 ·exact h j hj Wa h0
theorem Xx {w : Qv} (hw : WSm w) (hr : WIn w) {c : List Int} (hch : ChOk w c) {hb : Bool} (h0 : 0 < w.length) (hc0 : 0 <= cA c 0) : Ok Tryd.prog 33 [.ptr [Zr w, ZT c, .bool hb, .junk]] (.bool (tidyB w c)) := by
 refine Ok.ofT Z5 Tryd.func33 Qdk (Qeg Z) ?_
 show TW _ _ tf33.body _ _
 have hwl := hw.len
 have hcl := hch.len
 refine Qd fun K hK => Qa Z (kc1 hK Z ?_)
 refine Qd fun K hK => Qa Z (Za Z Z (Q9 Z Z (Qs Z Z Z ?_)))
 first | refine QP rfl QO ?_ | refine QP rfl rfl ?_
 refine CA Z Z Z Wa Wh Wh (Qa Z (kc2 hK Z Z ?_))
 refine Qd fun K hK => Zl Z Z (Qa Z (kc3 hK Z Z Z ?_))
 refine Qd fun K hK => Qa Z (Xt Z Z Z Wd Wa Wa Z (Zn Z Z (QbH Wa Wa) Z Z Z Z Z (kc3 hK Z Z Z ?_)))
 refine QC ?_ -- 0
 refine Qd fun K hK => Qa Z (kc4 hK Z Z Z Z ?_)
 refine Qz ?_
 refine Zh (ι := Nat × List Bool × List Int) (fun i => ⟨[(0, .ptr [Zr w, ZT c, .bool hb, .junk]), (3, .osl 18 (i.2.1).length), (4, .osl 19 (i.2.2).length), (5, .int .i64 i.1)], [(18, ⟨(i.2.1).map rB, 1, 4, true⟩), (19, ⟨(i.2.2).map rI, 1, 3, true⟩)]⟩) (fun i => i.1 <= i.2.2.length /\ BQ w c i.2.1 i.2.2 i.1) (fun i => c.length - i.1) (0, (List.replicate c.length false).set 0 true, [0]) ?_ ?_ ?_
 ·exact QT (l := [0, 3, 4, 5]) (lH := [18, 19]) (kp4 rfl rfl rfl rfl) (Qb rfl (Qb rfl Qj)) Wd (Qa6 DM) rfl
 ·exact ⟨Qer _, BQ.first Wa hc0⟩
 intro i hI
 have hql := hI.2.qlen
 try dsimp only
 refine QC ?_ -- 1
 refine Qd fun K hK => mv2 Z Z ?_
 first | refine QP rfl QO ?_ | refine QP rfl rfl ?_
 refine Z6 Z Z (kc5 hK Z Z Z Z Z ?_)
 refine Qw Z (fun h1 => ?_) (fun h1 => ?_)
 ·try rw [h1]
  try simp only [qA] at h1
  have hi1 : i.1 < i.2.2.length := Wa; obtain ⟨hu0, huc, hun⟩ := hI.2.at hi1; obtain ⟨hucl, hu0c⟩ := BV hw hr hch Wa hun; have hb1 := P2 hch huc; have huw : (i.2.2[i.1]'Wa).toNat < w.length := Wa; have hp := Co hb1.2 hu0c; have er := PA huw huc hp; have hns := (hw.ns _ (Qek huw) _ (Qek hp)).1; have hnl := hw.nl _ (Qek huw) _ (Qek hp); have hnr := hr.nr _ (Qek huw) _ (Qek hp); obtain ⟨y, hy⟩ : ∃ y, (w[(i.2.2[i.1]'Wa).toNat]'huw).cs[(c[(i.2.2[i.1]'Wa).toNat]'huc).toNat]'hp = y := ⟨_, rfl⟩; rw [hy] at er hns hnl hnr
  refine Qt (ks4 Z Z Z Z ?_)
  refine QC ?_ -- 2
  refine Qz (Qd fun K hK => mv2 Z Z (Xt Z Z Z Wd Wa Wa Z (Qs Z (FC Z (Q0 Wa)) Z (Qa Z (kc5 hK Z Z Z Z Z ?_)))))
  refine Qd fun K hK => Qa Z (Za Z Z (Q9 Z Z (QQ (ds0 := [13, 12, 4, 3, 2, 1]) Z Z Z Z Z (Qa Z (QN Z Z Z Wa (Zz Wa Wa) Z (QQ (ds0 := [4, 3, 2, 1]) Z Z Z Z Z (Qa Z (Za Z Z (Q9 Z Z (QQ (ds0 := [6, 5, 4, 3, 2, 1]) Z Z Z Z Z ?_))))))))))
  refine Qa Z (QN Z Z Z Wa (Zz Wa Wa) Z (QQ (ds0 := [4, 3, 2, 1]) Z Z Z Z Z (QN Z Z Z Wa (Zz Wa Wa) Z (Q9 Z Z (QQ (ds0 := [1]) Z Z Z Z Z ?_)))))
  first | refine QP rfl QO ?_ | refine QP rfl rfl ?_
  refine Qa Z (kc7 hK Z Z Z Z Z Z Z ?_)
  refine Qz ?_
  refine Zh (ι := Nat × List Bool × List Int) (fun k => ⟨[(0, .ptr [Zr w, ZT c, .bool hb, .junk]), (3, .osl 18 (k.2.1).length), (4, .osl 19 (k.2.2).length), (5, .int .i64 i.1), (48, .sl (y.ns.map fun r => [Np w r])), (49, .int .i64 y.ns.length), (50, .int .i64 k.1)], [(18, ⟨(k.2.1).map rB, 1, 4, true⟩), (19, ⟨(k.2.2).map rI, 1, 3, true⟩)]⟩) (fun k => k.1 <= y.ns.length /\ BQ1 w c k.2.1 k.2.2 i.1 (i.2.2[i.1]'Wa) y.ns k.1) (fun k => y.ns.length - k.1) (0, i.2) ?_ ?_ ?_
  ·exact QT (l := [0, 3, 4, 5, 48, 49, 50]) (lH := [18, 19]) (kp7 rfl rfl rfl rfl rfl rfl rfl) (Qb rfl (Qb rfl Qj)) (by rw [<- hy] <;> rfl) rfl rfl
  ·exact ⟨Qer _, hI.2.start hi1 _⟩
  intro k hQ
  have hnk := fun (h : k.1 < y.ns.length) => hnl _ (Qek h)
  try dsimp only
  refine Qd fun K hK => Z6 Z Z (kc8 hK Z Z Z Z Z Z Z Z ?_)
  refine QC ?_ -- 3
  refine Qw Z (fun h2 => ?_) (fun h2 => ?_)
  ·try rw [h2]
   try simp only [qA] at h2
   refine Qt (ks7 Z Z Z Z Z Z Z ?_)
   refine QC ?_ -- 4
   refine Qz (Qd fun K hK => QN Z Z Z Wa (Q0 Wa) Z (Qs Z Z Z (Qa Z (kc8 hK Z Z Z Z Z Z Z Z ?_))))
   refine Qd fun K hK => Qa Z ?_
   first | refine QP rfl QO ?_ | refine QP rfl rfl ?_
   refine Qa Z (kc hK (GT Z Z Z Z Z Z Z Z Z Z) ?_)
   refine Qz ?_
   have hnk1 := hnk Wa
   refine Zh (ι := Nat × List Bool × List Int) (fun j => ⟨[(0, .ptr [Zr w, ZT c, .bool hb, .junk]), (3, .osl 18 (j.2.1).length), (4, .osl 19 (j.2.2).length), (5, .int .i64 i.1), (48, .sl (y.ns.map fun r => [Np w r])), (49, .int .i64 y.ns.length), (50, .int .i64 k.1), (54, Np w (y.ns[k.1]'Wa)), (55, .int .i64 (y.ns[k.1]'Wa).length), (56, .int .i64 j.1)], [(18, ⟨(j.2.1).map rB, 1, 4, true⟩), (19, ⟨(j.2.2).map rI, 1, 3, true⟩)]⟩) (fun j => j.1 <= (y.ns[k.1]'Wa).length /\ BQ1 w c j.2.1 j.2.2 i.1 (i.2.2[i.1]'Wa) y.ns k.1 /\ RowTo w c j.2.1 (y.ns[k.1]'Wa) j.1) (fun j => (y.ns[k.1]'Wa).length - j.1) (0, k.2) ?_ ?_ ?_
   ·exact QT (l := [0, 3, 4, 5, 48, 49, 50, 54, 55, 56]) (lH := [18, 19]) (GT rfl rfl rfl rfl rfl rfl rfl rfl rfl rfl) (Qb rfl (Qb rfl Qj)) rfl rfl rfl
   ·exact ⟨Qer _, hQ.2, fun _ _ h => absurd h (Nat.not_lt_zero _)⟩
   intro j hJ
   have hol := hJ.2.1.b.len
   have hqj := hJ.2.1.b.qlen
   try dsimp only
   refine Qd fun K hK => Z6 Z Z (kc hK (Pm Z Z Z Z Z Z Z Z Z Z Z) ?_)
   refine QC ?_ -- 5
   refine Qw Z (fun h3 => ?_) (fun h3 => ?_)
   ·try rw [h3]
    try simp only [qA] at h3
    have hxr := hnr _ (Qek (Wa : k.1 < y.ns.length)) _ (Qek (Wa : j.1 < (y.ns[k.1]'Wa).length))
    refine Qt (QG (GT Z Z Z Z Z Z Z Z Z Z) ?_)
    refine QC ?_ -- 6
    refine Qz (Qd fun K hK => QN Z Z Z Wa (Q0 Wa) Z (QH (cs := [_, _]) Z Z Z Z (Zu Z (Zn Z Z Z Z Z Z Z Z (kc hK (Pm Z Z Z Z Z Z Z Z Z Z Z) ?_)))))
    refine Qd fun K hK => Qa Z (Qe Z Z (Qs Z Z Z (Xt Z Z Z Wd Wa Wa Z (Qs Z (FC Z (Zz Wa Wa)) Z (Zv Z (Qa Z ?_))))))
    refine Qp (g := 66) Z (fun h4 => ?_) (fun h4 => ?_)
    ·try rw [h4]
     try simp only [qA] at h4
     refine Qc Z (Qa Z (Qc Z (QH (cs := [_, _]) Z Z Z Z (Qc Z (QK (BA hch hxr) Z Z (.inr Z) (Qf Z Z (kc hK (NO Z Z Z Z Z Z Z Z Z Z Z Z) ?_)))))))
     refine Qw Z (fun h5 => ?_) (fun h5 => ?_)
     ·try rw [h5]
      try simp only [qA] at h5
      refine Qd fun K hK => Qa Z (Qe Z Z (Qs Z Z Z (Xt Z Z Z Wd Wa Wa Z (Zn Z Z (Zz Wa Wa) Z Z Z Z Z (kc hK (Pm Z Z Z Z Z Z Z Z Z Z Z) ?_)))))
      refine QU fun K hK => Qa Z (Qe Z Z (Qs Z Z Z (Zl Z Z (J5 Z Z (fun _ h => Gn Z Z Z h) Z Wd Z Z Z Wh Wh (Qa Z (hK _ ?_))))))
      refine Qk (QG (GT Z Z Z Z Z Z Z Z Z Z) (QU fun K hK => Zb Z Z Wb (Qa Z (hK _ ?_))))
      refine Ql (j.1 + 1, j.2.1.set ((y.ns[k.1]'Wa)[j.1]'Wa).u.toNat true, j.2.2 ++ [((y.ns[k.1]'Wa)[j.1]'Wa).u]) ?_ ?_ ?_
      ·exact QT (l := [0, 3, 4, 5, 48, 49, 50, 54, 55, 56]) (lH := [18, 19]) (GT rfl rfl rfl rfl rfl rfl rfl rfl rfl rfl) (Qb rfl (Qb rfl Qj)) (by simp only [List.length_append, List.length_set] <;> rfl) (by rw [List.map_append, <- CZ] <;> rfl) rfl
      ·exact ⟨Wa, hJ.2.1.put Wa er hJ.2.2 Wa hxr.1 Wa h4 (by rw [CQ hw hch hxr]; exact h5)⟩
      ·show (y.ns[k.1]'Wa).length - (j.1 + 1) < (y.ns[k.1]'Wa).length - j.1; omega
     ·try rw [h5]
      try simp only [qA] at h5
      refine Qt (Qk (QG (GT Z Z Z Z Z Z Z Z Z Z) (QU fun K hK => Zb Z Z Wb (Qa Z (hK _ ?_)))))
      refine Ql (j.1 + 1, j.2) ?_ ?_ ?_
      ·exact QT (l := [0, 3, 4, 5, 48, 49, 50, 54, 55, 56]) (lH := [18, 19]) (GT rfl rfl rfl rfl rfl rfl rfl rfl rfl rfl) (Qb rfl (Qb rfl Qj)) rfl rfl rfl
      ·exact ⟨Wa, hJ.2.1, hJ.2.2.skip Wa (fun h => by rw [CQ hw hch hxr, h5] at h; cases h)⟩
      ·show (y.ns[k.1]'Wa).length - (j.1 + 1) < (y.ns[k.1]'Wa).length - j.1; omega
    ·try rw [h4]
     try simp only [qA] at h4
     refine gn3 Z Z Z (Qf Z Z (kc hK (NO Z Z Z Z Z Z Z Z Z Z Z Z) ?_))
     refine Ze Z (Qt (Qk (QG (GT Z Z Z Z Z Z Z Z Z Z) (QU fun K hK => Zb Z Z Wb (Qa Z (hK _ ?_))))))
     refine Ql (j.1 + 1, j.2) ?_ ?_ ?_
     ·exact QT (l := [0, 3, 4, 5, 48, 49, 50, 54, 55, 56]) (lH := [18, 19]) (GT rfl rfl rfl rfl rfl rfl rfl rfl rfl rfl) (Qb rfl (Qb rfl Qj)) rfl rfl rfl
     ·exact ⟨Wa, hJ.2.1, hJ.2.2.skip Wa (fun _ => by rw [CV Wa]; exact h4)⟩
     ·show (y.ns[k.1]'Wa).length - (j.1 + 1) < (y.ns[k.1]'Wa).length - j.1; omega
   ·try rw [h3]
    try simp only [qA] at h3
    refine Q4 (QF (Qx (QE (Qk (ks7 Z Z Z Z Z Z Z (QU fun K hK => Zb Z Z Wb (Qa Z (hK _ ?_))))))))
    refine Ql (k.1 + 1, j.2) ?_ ?_ ?_
    ·exact QT (l := [0, 3, 4, 5, 48, 49, 50]) (lH := [18, 19]) (kp7 rfl rfl rfl rfl rfl rfl rfl) (Qb rfl (Qb rfl Qj)) rfl rfl rfl
    ·exact ⟨Wa, hJ.2.1.next Wa hJ.2.2 Wa⟩
    ·show y.ns.length - (k.1 + 1) < y.ns.length - k.1; omega
  ·try rw [h2]
   try simp only [qA] at h2
   refine Q4 (QF (Qx (QE (Qk (ks4 Z Z Z Z (QU fun K hK => Qa Z (Zb Z Z Wb (Qa Z (hK _ ?_)))))))))
   refine Ql (i.1 + 1, k.2) ?_ ?_ ?_
   ·exact QT (l := [0, 3, 4, 5]) (lH := [18, 19]) (kp4 rfl rfl rfl rfl) (Qb rfl (Qb rfl Qj)) rfl rfl rfl
   ·exact ⟨(show i.1 + 1 <= k.2.2.length from hQ.2.hi), hQ.2.stop Wa er⟩
   ·show c.length - (i.1 + 1) < c.length - i.1; omega
 ·try rw [h1]
  try simp only [qA] at h1
  refine Q4 (QF (Qx (QE (ks2 Z Z ?_))))
  refine QC ?_ -- 7
  refine Qd fun K hK => Qa Z (Za Z Z (Q9 Z Z (Qs Z Z Z ?_)))
  first | refine QP rfl QO ?_ | refine QP rfl rfl ?_
  refine Qa Z (kc4 hK Z Z Z Z ?_)
  refine Qz ?_
  have ho := hI.2.stop Wa
  have hol := hI.2.len
  refine Zh (ι := Nat) (fun u => ⟨[(3, .osl 18 (i.2.1).length), (85, ZT c), (86, .int .i64 c.length), (87, .int .i64 u)], [(18, ⟨(i.2.1).map rB, 1, 4, true⟩)]⟩) (fun u => u <= c.length /\ (∀ j (h : j < c.length), j < u -> 0 <= c[j] -> nddB w c j = true)) (fun u => c.length - u) 0 ?_ ?_ ?_
  ·exact QT (l := [3, 85, 86, 87]) (lH := [18]) (kp4 rfl rfl rfl rfl) (Qb rfl Qj) rfl rfl rfl
  ·exact ⟨Qer _, fun j _ h => absurd h (Nat.not_lt_zero _)⟩
  intro u hU
  try dsimp only
  refine Qd fun K hK => Z6 Z Z (kc5 hK Z Z Z Z Z ?_)
  refine QC ?_ -- 8
  refine Qw Z (fun h6 => ?_) (fun h6 => ?_)
  ·try rw [h6]
   try simp only [qA] at h6
   refine Qt (ks4 Z Z Z Z ?_)
   refine QC ?_ -- 9
   refine Qz (Qd fun K hK => Qa Z (QN Z Z Z Wa (Q0 Wa) Z (Qs Z Z Z (mv2 Z Z (kc6 hK Z Z Z Z Z Z ?_)))))
   refine Qd fun K hK => Qa Z (MU Z Z (Qa Z ?_))
   refine Qp (g := 94) Z (fun h7 => ?_) (fun h7 => ?_)
   ·try rw [h7]
    try simp only [qA] at h7
    refine Qc Z (Qa Z (Qc Z (Qa Z (Qc Z (Xt Z Z Z Wd Wa Wa Z (Qc Z (Qs Z (FC Z (Q0 Wa)) Z (Qc Z (Zv Z (Qf Z Z (kc5 hK Z Z Z Z Z ?_)))))))))))
    refine Qw Z (fun h8 => ?_) (fun h8 => ?_)
    ·try rw [h8]
     try simp only [qA] at h8
     refine Qd fun K hK => Qa Z (kc1 hK Z ?_)
     refine Qq (Qi (Qg (QB (Qi (Qg (Qh Z ?_))))))
     exact (Qap (j := u) Wa Wa (by rw [<- CT ho Wa]; exact h8)).symm
    ·try rw [h8]
     try simp only [qA] at h8
     refine Qt (Qk (ks4 Z Z Z Z (QU fun K hK => Zb Z Z Wb (Qa Z (hK _ ?_)))))
     refine Ql (u + 1) ?_ ?_ ?_
     ·exact QT (l := [3, 85, 86, 87]) (lH := [18]) (kp4 rfl rfl rfl rfl) (Qb rfl Qj) rfl rfl rfl
     ·exact ⟨Wa, QbT hU.2 Wa (fun _ => by rw [<- CT ho Wa]; exact h8)⟩
     ·first | omega | (simp only; omega) | (dsimp only; omega)
   ·try rw [h7]
    try simp only [qA] at h7
    refine gn4 Z Z Z Z (Yv Z (Qf Z Z (kc5 hK Z Z Z Z Z ?_)))
    refine Ze Z (Qt (Qk (ks4 Z Z Z Z (QU fun K hK => Zb Z Z Wb (Qa Z (hK _ ?_))))))
    refine Ql (u + 1) ?_ ?_ ?_
    ·exact QT (l := [3, 85, 86, 87]) (lH := [18]) (kp4 rfl rfl rfl rfl) (Qb rfl Qj) rfl rfl rfl
    ·exact ⟨Wa, QbT hU.2 Wa (fun h => Wa)⟩
    ·first | omega | (simp only; omega) | (dsimp only; omega)
  ·try rw [h6]
   try simp only [qA] at h6
   refine Q4 (QF (Qx (QE (QG (QJ) (Qd fun K hK => Qa Z (kc1 hK Z ?_))))))
   refine Qq (Qh Z ?_)
   exact (Cn (fun j h => (P2 hch h).1) (fun j h => hU.2 j h Wa)).symm
end Go.Proofs
namespace Go.Abs
open Go
end Go.Abs
namespace Go.Abs
open Go
section
variable {P : Program} {nt : Nat} {E : Env}
end
section
variable {P : Program} {nt : Nat}
end
end Go.Abs
namespace Go.Abs
open Go
/-! ### A call that is lent all boxes but some, which are given away and come back; these keep their names -/
def Xb (G : List Nat) (j : Nat) : Nat := if G.contains j = true then j else upN j
def J3 (G : List Nat) (H : Qed) : Qed := H.map fun p => (Xb G p.1, p.2.ren (Xb G))
def GZ (G : List Nat) : Bool := G.all fun k => decide (k < 1000000)
theorem Ky {G : List Nat} (h : GZ G = true) {k : Nat} (hk : G.contains k = true) : k < 1000000 := by
 simpa using Qep.1 h k (by simpa using hk)
theorem Sj {G : List Nat} (hG : GZ G = true) {i j : Nat} (h : Xb G i = Xb G j) : i = j := by
 unfold Xb at h
 split at h <;> split at h
 ·exact h
 ·rename_i h1 h2; have := Ky hG h1; unfold upN at h; omega
 ·rename_i h1 h2; have := Ky hG h2; unfold upN at h; omega
 ·exact Qar h
theorem Jv {G : List Nat} (hG : GZ G = true) : ∀ (H : Qed) (j : Nat), lk (J3 G H) (Xb G j) = (lk H j).map (Box.ren (Xb G))
 | [], _ => rfl
 | (i, b) :: H, j => by
  have := Jv hG H j
  simp only [J3, List.map_cons, Qr] at this ⊢
  rw [this]
  by_cases h : i = j
  ·subst h; simp
  ·rw [if_neg h, if_neg (fun e => h (Sj hG e))]
theorem Yn {G : List Nat} : ∀ {H : Qed} {i : Nat} {b : Box}, lk (J3 G H) i = some b -> ∃ j b0, i = Xb G j /\ lk H j = some b0 /\ b = b0.ren (Xb G)
 | [], _, _, h => by cases h
 | (j, x) :: H, i, b, h => by
  have h0 := h
  simp only [J3, List.map_cons, Qr] at h
  split at h
  ·rename_i e; cases h; exact ⟨j, x, e.symm, by rw [Qr, if_pos rfl], rfl⟩
  ·rename_i e
   obtain ⟨j1, b0, h1, h2, h3⟩ := Yn (H := H) h
   refine ⟨j1, b0, h1, ?_, h3⟩
   rw [Qr, if_neg (fun e2 => e (by rw [e2, h1]))]; exact h2
def BC (P : Program) (f : Nat) (args : List Opd) (s : St) (G : List Nat) (Hr : Qed) (d : D) : Prop :=
 ∃ ds, Q8 s args = some ds /\ GZ G = true /\ (∀ t x, lk s.fr t = some x -> ∀ k ∈ x.ids, G.contains k = false) /\ (∀ k ∈ d.ids, G.contains k = true /\ (lk Hr k).isSome = true) /\ (∀ j, (lk s.H j).isSome = true -> (lk Hr j).isSome = true) /\ (∀ j, (lk Hr j).isSome = true -> G.contains j = true \/ (lk s.H j).isSome = true) /\
  OkH P f (ds.map fun d => (d.ren (Xb G)).can) (J3 G s.H) d (J3 G Hr)
section
variable {P : Program} {E : Env} {g : Gh} {s : St} {a : Act} {w : World}
theorem FJ {o : Oper} {ao : AOp} {f : Nat} {args : List Opd} {d : D} {G : List Nat} {Hr : Qed} {K' : Act -> World -> Prop} {Q : Exit -> Act -> World -> Prop} (r : Rel E g s a w) (hp : ZV P o.op = some ao) (hcal : JC s ao f args) (hc : BC P f args s G Hr d)
  (ht : ∀ t, o.dst = some t -> t < E.nt) (hK : ∀ g' a' w', Rel E g' (St.apply ⟨s.fr, Hr⟩ o.dst d none) a' w' -> K' a' w') : o.wp P a w K' Q := by
 obtain ⟨ds, hds, hG, hfr0, hd0, hdom, hdom2, hen, hok⟩ := hc
 obtain ⟨vs, hxs, hhas, hrun⟩ := KF r hp hcal hds hen
 unfold Oper.wp
 rw [hrun, Oper.upon_enter]
 obtain ⟨gu, guK, hB0, hS0⟩ : ∃ gu : Gh, gu.K = g.K /\ (∀ j, gu.β j = if G.contains j = true then g.β j else g.β (j - 1000000)) /\ ∀ j, gu.σ j = if G.contains j = true then g.σ j else g.σ (j - 1000000) :=
  ⟨⟨g.K, fun j => if G.contains j = true then g.β j else g.β (j - 1000000), fun j => if G.contains j = true then g.σ j else g.σ (j - 1000000)⟩, rfl, fun _ => rfl, fun _ => rfl⟩
 have hup : ∀ j, gu.β (Xb G j) = g.β j /\ gu.σ (Xb G j) = g.σ j := fun j => by
  by_cases e : G.contains j = true
  ·have hr : Xb G j = j := if_pos e
   rw [hB0, hS0, hr, if_pos e, if_pos e]; exact ⟨rfl, rfl⟩
  ·have hr : Xb G j = upN j := if_neg e
   have h1 : ¬ G.contains (upN j) = true := fun h => by have := Ky hG h; unfold upN at this; omega
   have h2 : upN j - 1000000 = j := by unfold upN; omega
   rw [hB0, hS0, hr, if_neg h1, if_neg h1, h2]; exact ⟨rfl, rfl⟩
 have hgu : gu.pull (Xb G) = g := by
  have h1 : (fun j => gu.β (Xb G j)) = g.β := funext fun j => (hup j).1
  have h2 : (fun j => gu.σ (Xb G j)) = g.σ := funext fun j => (hup j).2
  unfold Gh.pull
  rw [h1, h2, guK]
 have hrel : HRel gu (J3 G s.H) w := by
  refine ⟨fun i b hi j hj => ?_, fun i b hi => ?_, fun i i' b b' B e e' h1 h2 h3 h4 => ?_, by rw [guK]; exact r.kr⟩
  ·obtain ⟨j1, b0, rfl, h1, rfl⟩ := Yn hi
   rw [Box.ren_ids] at hj
   obtain ⟨j0, hj0, rfl⟩ := Qet.1 hj
   rw [Jv hG, Qex]; exact r.wfH j1 b0 h1 j0 hj0
  ·obtain ⟨j1, b0, rfl, h1, rfl⟩ := Yn hi
   refine BoxRel.ren.2 ?_
   rw [hgu]
   exact (r.bx j1 b0 h1).move ⟨rfl, rfl⟩ (fun _ _ _ _ _ _ => ⟨rfl, rfl⟩) (Kn.le_refl _) fun B e _ => ⟨rfl, fun _ h => h, fun _ => .inl (Qer _)⟩
  ·obtain ⟨j1, b0, rfl, q1, rfl⟩ := Yn h1
   obtain ⟨j2, b1, rfl, q2, rfl⟩ := Yn h2
   rw [(hup _).1] at h3 h4
   rw [r.inj j1 j2 b0 b1 B e e' q1 q2 h3 h4]
 refine (hok gu w vs hrel (KE hgu hxs) ?_).mono fun e w' ⟨v, g', he, hv, hr', hsz, hfr, hfx, hkeep, hnew⟩ => ?_
 ·intro x hx j hj
  obtain ⟨x0, hx0, rfl⟩ := Qet.1 hx
  rw [P0, ren_ids] at hj
  obtain ⟨j0, hj0, rfl⟩ := Qet.1 hj
  rw [Jv hG, Qex]; exact hhas x0 hx0 j0 hj0
 subst he
 rw [guK] at hfr
 have own_of : ∀ B, Fk gu (J3 G s.H) B -> ∃ j b0 e, lk s.H j = some b0 /\ g.β j = some (B, e) := fun B ⟨i, e, h1, h2⟩ => by
  obtain ⟨b1, hb1⟩ := Qel.1 h1
  obtain ⟨j, b0, rfl, q1, _⟩ := Yn hb1
  rw [(hup j).1] at h2
  exact ⟨j, b0, e, q1, h2⟩
 have own_blk : ∀ B, Fk gu (J3 G s.H) B -> (∀ o, g.K B o = none) /\ (E.B0 <= B \/ E.fo B) /\ ¬ XM w B := fun B hB => by
  obtain ⟨j, b0, e, h1, h2⟩ := own_of B hB
  exact ⟨((r.bx j b0 h1).blk h2).2.1, ((r.bx j b0 h1).blk h2).2.2, (r.bx j b0 h1).nodf h2⟩
 have hKle : g.K.le g'.K := fun b q x hx => by
  have hb := r.kr.lt hx
  have hno : ¬ Fk gu (J3 G s.H) b := fun h => by rw [(own_blk b h).1 q] at hx; cases hx
  rw [(hfr b hb hno).2]; exact hx
 have kU : ∀ j, (lk s.H j).isSome = true -> G.contains j = false -> g'.β (Xb G j) = g.β j /\ g'.σ (Xb G j) = g.σ j := fun j hj hjk => by
  have hbig : 1000000 <= Xb G j := by unfold Xb; rw [if_neg (by rw [hjk]; simp)]; unfold upN; omega
  have := hkeep (Xb G j) hbig (by rw [Jv hG, Qex]; exact hj)
  rw [this.2.1, this.2.2]
  exact hup j
 have kK : ∀ k, G.contains k = true -> ∀ B e, (lk Hr k).isSome = true -> g'.β (Xb G k) = some (B, e) -> w.heap.size <= B \/ (∃ j b0 e2, lk s.H j = some b0 /\ g.β j = some (B, e2)) := fun k hk B e hs hβ => by
  have e5 : Xb G k = k := if_pos hk
  have hs2 : (lk (J3 G Hr) (Xb G k)).isSome = true := by rw [Jv hG, Qex]; exact hs
  rcases hnew (Xb G k) B e (by rw [e5]; exact Ky hG hk) hs2 hβ with h | ⟨k2, e2, h1, h2, h3⟩
  ·exact .inl h
  ·obtain ⟨b2, hb2⟩ := Qel.1 h2
   obtain ⟨j, b0, rfl, q1, _⟩ := Yn hb2
   rw [(hup j).1] at h3
   exact .inr ⟨j, b0, e2, q1, h3⟩
 have r2 : Rel E (g'.pull (Xb G)) ⟨s.fr, Hr⟩ a w' := by
  refine ⟨r.nt, r.df.of rfl (fun D hD => ((hfr D (Array.getElem?_eq_some_iff.1 hD).1 (fun ho => (own_blk D ho).2.2 hD)).1).trans hD), fun t x h => (r.fr t x h).congr hKle fun j hj => kU j (r.wfF t x h j hj) (hfr0 t x h j hj), fun t x h j hj => hdom j (r.wfF t x h j hj), fun j b h i hi => ?_, fun j b h => ?_, fun j j' b b' B e e' h1 h2 h3 h4 => ?_, hr'.kr,
   ⟨Qey r.ext.1 hsz, fun b hb hf => ?_, r.ext.2.2.trans hfx⟩, fun b hb hf => ?_, fun j hj => ?_⟩
  ·have h1 : lk (J3 G Hr) (Xb G j) = some (b.ren (Xb G)) := by rw [Jv hG, h]; rfl
   have := hr'.wfH _ _ h1 (Xb G i) (by rw [Box.ren_ids]; exact List.mem_map_of_mem hi)
   rwa [Jv hG, Qex] at this
  ·have h1 : lk (J3 G Hr) (Xb G j) = some (b.ren (Xb G)) := by rw [Jv hG, h]; rfl
   have hb := BoxRel.ren.1 (hr'.bx _ _ h1)
   have hsr : (lk Hr j).isSome = true := by rw [h]; rfl
   refine hb.move ⟨rfl, rfl⟩ (fun _ _ _ _ _ _ => ⟨rfl, rfl⟩) (Kn.le_refl _) fun B e hβ => ⟨rfl, fun _ h => h, fun _ => ?_⟩
   cases hjk : G.contains j
   ·have hs : (lk s.H j).isSome = true := (hdom2 j hsr).resolve_left (by rw [hjk]; simp)
    have hβ' : g'.β (Xb G j) = some (B, e) := hβ
    rw [(kU j hs hjk).1] at hβ'
    obtain ⟨b0, hb0⟩ := Qel.1 hs
    exact ((r.bx j b0 hb0).blk hβ').2.2
   ·rcases kK j hjk B e hsr hβ with h2 | ⟨j2, b0, e2, h2, h3⟩
    ·exact .inl (Qey r.ext.1 h2)
    ·exact ((r.bx j2 b0 h2).blk h3).2.2
  ·have q1 : lk (J3 G Hr) (Xb G j) = some (b.ren (Xb G)) := by rw [Jv hG, h1]; rfl
   have q2 : lk (J3 G Hr) (Xb G j') = some (b'.ren (Xb G)) := by rw [Jv hG, h2]; rfl
   exact Sj hG (hr'.inj _ _ _ _ B e e' q1 q2 h3 h4)
  ·have hno : ¬ Fk gu (J3 G s.H) b := fun ho => by
    rcases (own_blk b ho).2.1 with h | h
    ·omega
    ·exact hf h
   exact (hfr b (Nat.lt_of_lt_of_le hb r.ext.1) hno).1.trans (r.ext.2.1 b hb hf)
  ·have hno : ¬ Fk gu (J3 G s.H) b := fun ho => by
    rcases (own_blk b ho).2.1 with h | h
    ·omega
    ·exact hf h
   exact (hfr b (Nat.lt_of_lt_of_le hb r.ext.1) hno).2.trans (r.kx b hb hf)
  ·obtain ⟨h1, h2, h3, h4⟩ := r.kp j hj
   have hjG : G.contains j = false := by
    cases hc : G.contains j
    ·rfl
    ·have := Ky hG hc; omega
   have := kU j h4 hjG
   exact ⟨h1, this.1.trans h2, this.2.trans h3, hdom j h4⟩
 have r3 : Rel E (g'.pull (Xb G)) (St.withBox ⟨s.fr, Hr⟩ o.dst none) a w' := by cases o.dst <;> exact r2
 refine hK _ _ w' (r3.apply (hv.congr (Kn.le_refl _) fun j hj => ?_) ?_ ht)
 ·have e5 : Xb G j = j := if_pos (hd0 j hj).1
  show g'.β (Xb G j) = g'.β j /\ g'.σ (Xb G j) = g'.σ j
  rw [e5]; exact ⟨rfl, rfl⟩
 ·intro j hj
  have h1 := (hd0 j hj).2
  cases hdst : o.dst <;> exact h1
end
section
variable {P : Program} {nt : Nat} {E : Env}
def opZ (P : Program) (o : AOper) (K : St -> Prop) (s : St) : Prop :=
 o.guard = none /\ ∃ t f args G Hr d, o.dst = some t /\ JC s o.op f args /\ BC P f args s G Hr d /\ K ⟨(t, d) :: s.fr, Hr⟩
theorem BW {fr : Qee} {G : List Nat} (h : (fr.all fun p => p.2.ids.all fun k => !G.contains k) = true) : ∀ t x, lk fr t = some x -> ∀ k ∈ x.ids, G.contains k = false := fun t x hx k hk => by
 simpa using Qep.1 (Qep.1 h (t, x) (ZR hx)) k hk
theorem D7 {o : AOper} {t f : Nat} {G : List Nat} {az : List Opd} {ds ds' : List D} {d : D} {fr : Qee} {H Hr H1 H2 : Qed} {K : St -> Prop} (ho : o = ⟨some t, .call f az, none⟩) (hds : Q8 ⟨fr, H⟩ az = some ds) (hk : GZ G = true)
  (hfr : (fr.all fun p => p.2.ids.all fun k => !G.contains k) = true) (hd : d.ids = []) (hdom : Hr.map Prod.fst = H.map Prod.fst) (hds' : (ds.map fun d => (d.ren (Xb G)).can) = ds') (h1 : J3 G H = H1) (h2 : J3 G Hr = H2) (hok : OkH P f ds' H1 d H2) (hK : K ⟨(t, d) :: fr, Hr⟩) : opZ P o K ⟨fr, H⟩ := by
 subst ho hds' h1 h2
 exact ⟨rfl, t, f, _, G, Hr, d, rfl, .inl rfl, ⟨ds, hds, hk, BW hfr, fun k hkd => by rw [hd] at hkd; (cases hkd), fun j h => by rw [Mn hdom]; exact h, fun j h => .inr (by rw [<- Mn hdom]; exact h), hok⟩, hK⟩
end
section
variable {P : Program} {nt : Nat}
end
end Go.Abs
namespace Go.Abs
open Go
/-! ### A contract with the names of the lent boxes moved up -/
structure Rn (ρ ρ' : Nat -> Nat) : Prop where
 inv : ∀ k, ρ' (ρ k) = k
 small : ∀ k, ρ k < 1000000 ↔ k < 1000000
def NS (ρ : Nat -> Nat) (H : Qed) : Qed := H.map fun p => (ρ p.1, p.2.ren ρ)
section
variable {ρ ρ' : Nat -> Nat} (hρ : Rn ρ ρ')
include hρ
theorem Rn.inj {i j : Nat} (h : ρ i = ρ j) : i = j := by rw [<- hρ.inv i, h, hρ.inv]
theorem Xp : ∀ (H : Qed) (j : Nat), lk (NS ρ H) (ρ j) = (lk H j).map (Box.ren ρ)
 | [], _ => rfl
 | (i, b) :: H, j => by
  have := Xp H j
  simp only [NS, List.map_cons, Qr] at this ⊢
  rw [this]
  by_cases h : i = j
  ·subst h; simp
  ·rw [if_neg h, if_neg (fun e => h (hρ.inj e))]
omit hρ in
theorem GU : ∀ {H : Qed} {i : Nat} {b : Box}, lk (NS ρ H) i = some b -> ∃ j, i = ρ j
 | [], _, _, h => by cases h
 | (j, x) :: H, i, b, h => by
  simp only [NS, List.map_cons, Qr] at h
  split at h
  ·rename_i e; exact ⟨j, e.symm⟩
  ·exact GU (H := H) h
theorem Y5 {H : Qed} {i : Nat} {b : Box} (h : lk (NS ρ H) i = some b) : ∃ j b0, i = ρ j /\ lk H j = some b0 /\ b = b0.ren ρ := by
 obtain ⟨j, rfl⟩ := GU h
 rw [Xp hρ] at h
 obtain ⟨b0, h1, h2⟩ := Qef.1 h
 exact ⟨j, b0, rfl, h1, h2.symm⟩
end
theorem RepA.ren {g : Gh} {ρ : Nat -> Nat} : ∀ {ds : List D} {vs : List Value}, RepA g (ds.map (D.ren ρ)) vs ↔ RepA (g.pull ρ) ds vs
 | [], [] => Iff.rfl
 | d :: ds, v :: vs => by simp only [List.map_cons, RepA]; rw [Rep.ren, RepA.ren]
 | [], _ :: _ => Iff.rfl
 | _ :: _, [] => Iff.rfl
theorem OkH.rnm {P : Program} {f : Nat} {ds : List D} {H H' : Qed} {d : D} {ρ ρ' : Nat -> Nat} (hρ : Rn ρ ρ') (h : OkH P f ds H d H') : OkH P f (ds.map (D.ren ρ)) (NS ρ H) (d.ren ρ) (NS ρ H') := by
 refine ⟨h.1, fun g w vs hrel hargs hids => ?_⟩
 have hr0 : HRel (g.pull ρ) H w := by
  refine ⟨fun k b hk j hj => ?_, fun k b hk => ?_, fun i i' b b' B e e' h1 h2 h3 h4 => ?_, hrel.kr⟩
  ·have h1 : lk (NS ρ H) (ρ k) = some (b.ren ρ) := by rw [Xp hρ, hk]; rfl
   have := hrel.wfH _ _ h1 (ρ j) (by rw [Box.ren_ids]; exact List.mem_map_of_mem hj)
   rwa [Xp hρ, Qex] at this
  ·have h1 : lk (NS ρ H) (ρ k) = some (b.ren ρ) := by rw [Xp hρ, hk]; rfl
   exact BoxRel.ren.1 (hrel.bx _ _ h1)
  ·have q1 : lk (NS ρ H) (ρ i) = some (b.ren ρ) := by rw [Xp hρ, h1]; rfl
   have q2 : lk (NS ρ H) (ρ i') = some (b'.ren ρ) := by rw [Xp hρ, h2]; rfl
   exact hρ.inj (hrel.inj _ _ _ _ B e e' q1 q2 h3 h4)
 refine (h.2 (g.pull ρ) w vs hr0 (RepA.ren.1 hargs) (fun x hx k hk => ?_)).mono fun e w' ⟨v, g', he, hv, hr', hsz, hfr, hfx, hkeep, hnew⟩ => ?_
 ·have := hids (x.ren ρ) (List.mem_map_of_mem hx) (ρ k) (by rw [ren_ids]; exact List.mem_map_of_mem hk)
  rwa [Xp hρ, Qex] at this
 obtain ⟨gu, guK, hB0, hS0⟩ : ∃ gu : Gh, gu.K = g'.K /\ (∀ j, gu.β j = g'.β (ρ' j)) /\ ∀ j, gu.σ j = g'.σ (ρ' j) :=
  ⟨⟨g'.K, fun j => g'.β (ρ' j), fun j => g'.σ (ρ' j)⟩, rfl, fun _ => rfl, fun _ => rfl⟩
 have hup : ∀ j, gu.β (ρ j) = g'.β j /\ gu.σ (ρ j) = g'.σ j := fun j => by
  rw [hB0, hS0, hρ.inv]; exact ⟨rfl, rfl⟩
 have hgu : gu.pull ρ = g' := by
  have h1 : (fun j => gu.β (ρ j)) = g'.β := funext fun j => (hup j).1
  have h2 : (fun j => gu.σ (ρ j)) = g'.σ := funext fun j => (hup j).2
  unfold Gh.pull
  rw [h1, h2, guK]
 have hown : ∀ b, Fk (g.pull ρ) H b -> Fk g (NS ρ H) b := fun b ⟨k, e, h1, h2⟩ => ⟨ρ k, e, by rw [Xp hρ, Qex]; exact h1, h2⟩
 refine ⟨v, gu, he, Rep.ren.2 (by rw [hgu]; exact hv), ⟨fun i b hi j hj => ?_, fun i b hi => ?_, fun i i' b b' B e e' h1 h2 h3 h4 => ?_, by rw [guK]; exact hr'.kr⟩, hsz, fun b hb hn => ?_, hfx, fun k hk hs => ?_, fun k B e hk hs hβ => ?_⟩
 ·obtain ⟨j1, b0, rfl, h1, rfl⟩ := Y5 hρ hi
  rw [Box.ren_ids] at hj
  obtain ⟨j0, hj0, rfl⟩ := Qet.1 hj
  rw [Xp hρ, Qex]; exact hr'.wfH j1 b0 h1 j0 hj0
 ·obtain ⟨j1, b0, rfl, h1, rfl⟩ := Y5 hρ hi
  refine BoxRel.ren.2 ?_
  rw [hgu]
  exact hr'.bx j1 b0 h1
 ·obtain ⟨j1, b0, rfl, q1, rfl⟩ := Y5 hρ h1
  obtain ⟨j2, b1, rfl, q2, rfl⟩ := Y5 hρ h2
  rw [(hup _).1] at h3 h4
  rw [hr'.inj j1 j2 b0 b1 B e e' q1 q2 h3 h4]
 ·rw [guK]; exact hfr b hb fun ho => hn (hown b ho)
 ·obtain ⟨b, hb⟩ := Qel.1 hs
  obtain ⟨j, b0, rfl, q1, rfl⟩ := Y5 hρ hb
  have hj : 1000000 <= j := by
   have := hρ.small j
   omega
  obtain ⟨h1, h2, h3⟩ := hkeep j hj (by rw [q1]; rfl)
  exact ⟨by rw [Xp hρ, Qex]; exact h1, by rw [(hup j).1]; exact h2, by rw [(hup j).2]; exact h3⟩
 ·obtain ⟨b, hb⟩ := Qel.1 hs
  obtain ⟨j, b0, rfl, q1, rfl⟩ := Y5 hρ hb
  have hj : j < 1000000 := (hρ.small j).1 hk
  rw [(hup j).1] at hβ
  rcases hnew j B e hj (by rw [q1]; rfl) hβ with h | ⟨k2, e2, h1, h2, h3⟩
  ·exact .inl h
  ·exact .inr ⟨ρ k2, e2, (hρ.small k2).2 h1, by rw [Xp hρ, Qex]; exact h2, h3⟩
def CX (k : Nat) : Nat := if k < 1000000 then k else k + 1000000
theorem rnU : Rn CX (fun k => if k < 1000000 then k else k - 1000000) where
 inv k := by
  unfold CX
  by_cases e : k < 1000000
  ·simp [e]
  ·have h1 : ¬ k + 1000000 < 1000000 := Wa
   simp [e, h1]
 small k := by
  unfold CX
  by_cases e : k < 1000000
  ·simp [e]
  ·have h1 : ¬ k + 1000000 < 1000000 := Wa
   simp [e]
def CW (a b : Nat) (k : Nat) : Nat := if k = a then b else if k = b then a else k
theorem rnS {a b : Nat} (ha : 1000000 <= a) (hb : 1000000 <= b) : Rn (CW a b) (CW a b) where
 inv k := by unfold CW; (repeat' split) <;> omega
 small k := by unfold CW; (repeat' split) <;> omega
theorem OkH.rnm' {P : Program} {f : Nat} {ds ds2 : List D} {H H' H2 H2' : Qed} {d d2 : D} {ρ ρ' : Nat -> Nat} (hρ : Rn ρ ρ') (h : OkH P f ds H d H') (e1 : ds.map (D.ren ρ) = ds2) (e2 : NS ρ H = H2) (e3 : d.ren ρ = d2) (e4 : NS ρ H' = H2') : OkH P f ds2 H2 d2 H2' := by
 subst e1 e2 e3 e4; exact h.rnm hρ
end Go.Abs
namespace Go.Abs
open Go
/-! ### A region that draws its order, with a call to which boxes are given: all else comes ahead of it, or behind it -/
section
variable {P : Program} {nt m : Nat} {ops : Array Oper}
theorem Anc.trans {i j k : Nat} (h : Anc ops k j) (h2 : Anc ops j i) : Anc ops k i := by
 induction h with
 | one h => exact .more h h2
 | more h _ ih => exact .more h (ih h2)
def Ke (ops : Array Oper) (m : Nat) : Array Oper := (ops.toList.take m).toArray
theorem RS (i : Nat) : (Ke ops m)[i]? = if i < m then ops[i]? else none := by
 simp [Ke, List.getElem?_take]
theorem Y4 {i : Nat} (h : i < m) : (Ke ops m)[i]? = ops[i]? := by rw [RS, if_pos h]
theorem FN {i : Nat} {o : Oper} (h : (Ke ops m)[i]? = some o) : i < m /\ ops[i]? = some o := by
 rw [RS] at h
 split at h
 ·rename_i e; exact ⟨e, h⟩
 ·cases h
theorem JG (hm : m <= ops.size) : (Ke ops m).size = m := by simp [Ke]; omega
theorem Mb (h : gdB ops = true) {k j : Nat} {o : Oper} {b : Bool} (ho : ops[k]? = some o) (hg : o.guard = some (j, b)) : j < k := by
 have hk := (Array.getElem?_eq_some_iff.1 ho).1
 have := Qep.1 h k (QeB.2 hk)
 simp only [ho, hg] at this
 simpa using this
theorem M6 (h : gdB ops = true) {k : Nat} {o : Oper} (hk : k < m) (ho : ops[k]? = some o) : o.looksAt (Ke ops m) = o.looksAt ops := by
 unfold Oper.looksAt
 cases hg : o.guard with
 | none => rfl
 | some p =>
  obtain ⟨j, b⟩ := p
  have := Mb h ho hg
  simp only
  rw [Y4 Wa]
theorem TE (h : gdB ops = true) {k j : Nat} {o p : Oper} (hk : k < m) (ho : ops[k]? = some o) (hj : j < m) (hp : ops[j]? = some p) : o.apart (Ke ops m) p = o.apart ops p := by
 unfold Oper.apart
 rw [M6 h hk ho, M6 h hj hp]
theorem TF (h : gdB ops = true) {k : Nat} {o : Oper} (hk : k < m) (ho : ops[k]? = some o) : ZF (Ke ops m) o.guard = ZF ops o.guard := by
 cases hg : o.guard with
 | none => rfl
 | some p =>
  obtain ⟨j, b⟩ := p
  have := Mb h ho hg
  simp only [ZF]
  rw [Y4 Wa]
theorem RT : ∀ {l : List Oper} {l' : List AOper}, (∀ o ∈ l, ZF (Ke ops m) o.guard = ZF ops o.guard) -> QM P nt ops l = some l' -> QM P nt (Ke ops m) l = some l'
 | [], _, _, h => h
 | o :: l, l', hg, h => by
  simp only [QM] at h ⊢
  have e : Zq P nt (Ke ops m) o = Zq P nt ops o := by
   unfold Zq; rw [hg o Wd]
  rw [e]
  split at h
  ·rename_i o' r' e1 e2
   rw [e1, RT (fun x hx => hg x (by simp [hx])) e2]; exact h
  ·cases h
theorem X1 : ∀ {l : List Oper} {a b : List AOper}, QM P nt ops l = some (a ++ b) -> QM P nt ops (l.take a.length) = some a /\ QM P nt ops (l.drop a.length) = some b
 | l, [], b, h => ⟨by simp [QM], by simpa using h⟩
 | [], x :: a, b, h => by simp [QM] at h
 | o :: l, x :: a, b, h => by
  simp only [QM] at h
  split at h
  ·rename_i o' r' e1 e2
   simp only [List.cons_append, Qei, List.cons.injEq] at h
   obtain ⟨rfl, rfl⟩ := h
   obtain ⟨h1, h2⟩ := X1 e2
   refine ⟨?_, by simpa using h2⟩
   simp only [List.length_cons, List.take_succ_cons, QM]
   rw [e1, h1]
  ·cases h
def Qb3 (l1 l2 : List AOper) : Bool := (l2.all fun o => o.guard.isNone) || match l1.getLast? with
 | some o => o.guard.isSome
 | none => true
theorem Hf {o : Oper} {x : Option (Nat × Bool)} (h : ZF ops o.guard = some x) : x.isNone = o.guard.isNone := by
 cases hg : o.guard with
 | none => rw [hg] at h; simp only [ZF, Qei] at h; subst h; rfl
 | some p =>
  rw [hg] at h
  simp only [ZF] at h
  split at h
  ·cases h; rfl
  ·cases h
theorem DG (hg : gdB ops = true) (hm : m <= ops.size) (h : N9 ops = true) : N9 (Ke ops m) = true := by
 simp only [N9, Qej, Qep, QeB] at h ⊢
 refine ⟨?_, fun k hk => ?_⟩
 ·unfold Region.noSelect at h ⊢
  rw [Array.all_eq_true_iff_forall_mem] at h ⊢
  intro o ho
  obtain ⟨i, hi, e⟩ := Array.mem_iff_getElem.1 ho
  exact h.1 o (Array.mem_of_getElem? (FN (by rw [<- e]; exact Array.getElem?_eq_getElem hi)).2)
 ·rw [JG hm] at hk
  have hf := h.2 k Wa
  unfold M9 at hf ⊢
  rw [Y4 hk]
  cases ho : ops[k]? with
  | none => rw [ho] at hf; cases hf
  | some o =>
   rw [ho] at hf
   simp only [Qej, Qep, QeB] at hf ⊢
   refine ⟨hf.1, fun j hj => ?_⟩
   rw [JG hm] at hj
   have := hf.2 j Wa
   rw [Y4 hj]
   cases hp : ops[j]? with
   | none => simp
   | some p =>
    rw [hp] at this
    simp only at this ⊢
    rw [TE hg hk ho hj hp]
    exact this
theorem Qbf (hm : m <= ops.size) (h : lsB ops = true) : lsB (Ke ops m) = true := by
 simp only [lsB, Bool.or_eq_true] at h ⊢
 rcases h with h | h
 ·left
  have h1 := Qeg h
  refine Nat.ble_eq_true_of_le (Qey ?_ h1)
  simp only [Ke]
  exact List.Sublist.countP_le (List.take_sublist _ _)
 ·right
  simp only [Qep, QeB] at h ⊢
  intro j hj k hk
  rw [JG hm] at hj
  rw [Y4 hj, Y4 (Wa : k < m)]
  exact h j Wa k hk
theorem Qbe {l1 l2 : List AOper} (hp : QM P nt ops ops.toList = some (l1 ++ l2)) (hc : Qb3 l1 l2 = true) (h : lcB ops = true) : lcB (Ke ops l1.length) = true := by
 obtain ⟨hp1, hp2⟩ := X1 hp
 have hlen := XG hp
 have hm : l1.length <= ops.size := by simp at hlen; omega
 simp only [lcB, Qep, QeB] at h ⊢
 intro j hj k hk
 rw [JG hm] at hj
 have := h j Wa k hk
 rw [Y4 hj, Y4 (Wa : k < l1.length)]
 cases hoj : ops[j]? with
 | none => simp
 | some oj =>
  cases hok : ops[k]? with
  | none => simp
  | some ok =>
   rw [hoj, hok] at this
   simp only [Bool.or_eq_true, Bool.not_eq_true', Qes] at this ⊢
   have hdrop : (Ke ops l1.length).toList = ops.toList.take l1.length := by simp [Ke]
   have e1 : KJ (Ke ops l1.length) k = true -> KJ ops k = true := fun hf => by
    simp only [KJ, hdrop] at hf ⊢
    simp only [Qb3, Bool.or_eq_true] at hc
    have hsp : ops.toList.drop k = (ops.toList.take l1.length).drop k ++ ops.toList.drop l1.length := by
     rw [<- List.drop_append_of_le_length Wh, List.take_append_drop]
    rcases hc with hc | hc
    ·rw [hsp, List.all_append, hf, Bool.true_and]
     rw [Qep] at hc ⊢
     intro x hx
     obtain ⟨i, hi⟩ := List.mem_iff_getElem?.1 hx
     obtain ⟨x', h1, h2⟩ := Zg hp2 i x hi
     rw [<- Hf (QR h2).2.1]
     exact hc x' (List.mem_of_getElem? h1)
    ·exfalso
     have hne : l1 ≠ [] := by intro e; subst e; simp at hj
     rw [List.getLast?_eq_some_getLast hne] at hc
     have hlast : ∃ o, ops[l1.length - 1]? = some o := ⟨_, Array.getElem?_eq_getElem (Wa : l1.length - 1 < ops.size)⟩
     obtain ⟨o, ho⟩ := hlast
     obtain ⟨o', h1, h2⟩ := Zg hp (l1.length - 1) o (by rw [Array.getElem?_toList]; exact ho)
     rw [List.getElem?_append_left Wa, <- List.getLast?_eq_getElem?, List.getLast?_eq_some_getLast hne] at h1
     cases h1
     have hn := Hf (QR h2).2.1
     have hmem : o ∈ (ops.toList.take l1.length).drop k := by
      refine List.mem_iff_getElem?.2 ⟨l1.length - 1 - k, ?_⟩
      rw [List.getElem?_drop, List.getElem?_take, if_pos Wa, show k + (l1.length - 1 - k) = l1.length - 1 by omega, Array.getElem?_toList]; exact ho
     have := Qep.1 hf o hmem
     simp only at hc
     rw [<- hn] at this
     cases hx : (l1.getLast hne).guard with
     | none => rw [hx] at hc; cases hc
     | some _ => rw [hx] at this; cases this
   have e2 : Ps (Ke ops l1.length) k j = Ps ops k j := by
    simp only [Ps, hdrop]
    congr 1
    rw [List.drop_take, List.take_take, Nat.min_eq_left Wa]
   rcases this with ⟨h1 | h1 | h1⟩ | h1
   ·exact .inl (.inl h1)
   ·exact .inl (.inr (.inl h1))
   ·refine .inl (.inr (.inr ?_))
    rw [e2]
    rcases h1 with h1 | h1
    ·left
     cases hx : KJ (Ke ops l1.length) k with
     | false => rfl
     | true => rw [e1 hx] at h1; cases h1
    ·exact .inr h1
   ·exact .inr h1
theorem Qbd (hm : m <= ops.size) (h : gdB ops = true) : gdB (Ke ops m) = true := by
 simp only [gdB, Qep, QeB] at h ⊢
 intro k hk
 rw [JG hm] at hk
 rw [Y4 hk]
 exact h k Wa
/-! ### From the orders of the first operations to those of all -/
theorem NW {Q : Exit -> Act -> World -> Prop} : ∀ (fuel : Nat) (listed : Array Bool) (a : Act) (w : World), wpAny P .any ops Q fuel listed a w -> wpAny P .any ops Q (fuel + 1) listed a w
 | 0, listed, a, w, h => ⟨fun _ => h.2, fun i hi => by rw [h.1] at hi; cases hi⟩
 | fuel + 1, listed, a, w, h => ⟨h.1, fun i hi => wpOp_mono (fun a w h => NW fuel _ a w h) (h.2 i hi)⟩
theorem Nm {Q : Exit -> Act -> World -> Prop} (n : Nat) : ∀ (k : Nat) (listed : Array Bool) (a : Act) (w : World), wpAny P .any ops Q n listed a w -> wpAny P .any ops Q (k + n) listed a w
 | 0, _, _, _, h => by rw [Nat.zero_add]; exact h
 | k + 1, listed, a, w, h => by
  rw [show k + 1 + n = k + n + 1 by omega]
  exact NW _ _ _ _ (Nm n k listed a w h)
theorem Qbg {o : Oper} {a : Act} {w : World} {K K' : Act -> World -> Prop} {Q Q1 : Exit -> Act -> World -> Prop} (hQ : ∀ e a w, e ≠ .normal -> Q1 e a w -> Q e a w) (hK : ∀ a w, K a w -> K' a w) (h : o.wp P a w K Q1) : o.wp P a w K' Q := by
 unfold Oper.wp at *
 generalize (execOp a.eval o).run P w = r at *
 have hL : LetsOut Q1 -> LetsOut Q := fun ⟨a, w, h⟩ => ⟨a, w, hQ _ _ _ (by intro e; cases e) h⟩
 cases r with
 | ok n w' =>
  cases n <;> simp only [Oper.upon] at h ⊢ <;>
   first
    | exact hK _ _ h
    | exact Calls.mono h (fun e w'' he => by cases e <;> first | exact hK _ _ he | exact hQ _ _ _ (by intro e; cases e) he | exact hL he)
    | exact Rows.mono h (fun _ _ he => hK _ _ he)
    | exact h
 | halt x w' => cases x <;> simp only [Oper.upon] at h ⊢ <;> first | exact hQ _ _ _ (by intro e; cases e) h | exact h
theorem SG (hg : gdB ops = true) {k : Nat} {o : Oper} (hk : k < m) (ho : ops[k]? = some o) (tmps : Array Value) : Region.wanted o (yielded (Ke ops m) tmps) = Region.wanted o (yielded ops tmps) := by
 unfold Region.wanted
 cases hgd : o.guard with
 | none => rfl
 | some p =>
  obtain ⟨j, b⟩ := p
  have := Mb hg ho hgd
  simp only [yielded]
  rw [Y4 Wa]
theorem Ju {listed : Array Bool} : ∀ (k : Nat), (∃ i, i < k /\ listed.getD i true = false) -> ∃ i, i < k /\ listed.getD i true = false /\ ∀ j, j < i -> listed.getD j true = true
 | 0, ⟨_, h, _⟩ => Wa
 | k + 1, ⟨i, h1, h2⟩ => by
  by_cases h : ∃ i, i < k /\ listed.getD i true = false
  ·obtain ⟨i, q1, q2, q3⟩ := Ju k h
   exact ⟨i, Wa, q2, q3⟩
  ·refine ⟨i, h1, h2, fun j hj => ?_⟩
   cases hx : listed.getD j true with
   | true => rfl
   | false => exact absurd ⟨j, Wa, hx⟩ h
theorem XR {listed : Array Bool} {i : Nat} (hi : i < listed.size) : listed.getD i true = listed.getD i false := by
 simp [Array.getD_eq_getD_getElem?, Array.getElem?_eq_getElem hi]
theorem Db {Q Q1 : Exit -> Act -> World -> Prop} {rest : Nat} (hg : gdB ops = true) (hf : N9 ops = true) (hm : m <= ops.size) (hQ : ∀ e a w, e ≠ .normal -> Q1 e a w -> Q e a w) (hbar : ∀ i j, i < m -> m <= j -> j < ops.size -> Anc ops j i)
  (hN : ∀ a w (listed : Array Bool), listed.size = ops.size -> (∀ i, i < ops.size -> listed.getD i true = decide (i < m)) -> Di ops listed -> Q1 .normal a w -> wpAny P .any ops Q rest listed a w) :
  ∀ (fuel : Nat) (listed1 listed : Array Bool) (a : Act) (w : World), listed.size = ops.size -> listed1.size = m -> (∀ i, i < m -> listed.getD i true = listed1.getD i true) -> (∀ i, m <= i -> i < ops.size -> listed.getD i true = false) -> Di ops listed ->
   wpAny P .any (Ke ops m) Q1 fuel listed1 a w -> wpAny P .any ops Q (fuel + rest) listed a w := by
 have hfs : ∀ k, k < ops.size -> M9 ops k = true := by
  simp only [N9, Qej, Qep, QeB] at hf
  exact hf.2
 have hedge : ∀ {k : Nat} {o : Oper}, ops[k]? = some o -> ∀ e ∈ o.after, Region.binds .any e = true -> e.on < k := fun {k o} ho e he hb => by
  have h1 := hfs k (Array.getElem?_eq_some_iff.1 ho).1
  unfold M9 at h1
  rw [ho] at h1
  simp only [Qej, Array.all_eq_true_iff_forall_mem] at h1
  have := h1.1 e he
  simpa [hb] using this
 intro fuel
 induction fuel with
 | zero =>
  intro listed1 listed a w h1 h2 h3 h4 hd h
  rw [Nat.zero_add]
  refine hN a w listed h1 (fun i hi => ?_) hd h.2
  by_cases him : i < m
  ·rw [decide_eq_true him]
   cases hx : listed.getD i true with
   | true => rfl
   | false =>
    obtain ⟨i0, q1, q2, q3⟩ := Ju m ⟨i, him, by rw [<- h3 i him]; exact hx⟩
    have ho : ops[i0]? = some ops[i0] := Array.getElem?_eq_getElem Wa
    have : i0 ∈ Region.ready .any (Ke ops m) listed1 := mem_ready.2 ⟨q2, _, by rw [Y4 q1]; exact ho, fun e he hb => by
     have he1 := hedge ho e he hb
     rw [<- XR Wa]; exact q3 e.on he1⟩
    rw [h.1] at this; cases this
  ·rw [decide_eq_false him]; exact h4 i Wa hi
 | succ fuel ih =>
  intro listed1 listed a w h1 h2 h3 h4 hd h
  by_cases hall : ∃ i, i < m /\ listed1.getD i true = false
  ·obtain ⟨i0, q1, q2, q3⟩ := Ju m hall
   have ho : ops[i0]? = some ops[i0] := Array.getElem?_eq_getElem Wa
   have hr0 : i0 ∈ Region.ready .any ops listed := mem_ready.2 ⟨by rw [h3 i0 q1]; exact q2, _, ho, fun e he hb => by
     have he1 := hedge ho e he hb
     rw [<- XR Wa, h3 _ Wa]; exact q3 e.on he1⟩
   rw [show fuel + 1 + rest = (fuel + rest) + 1 by omega]
   refine ⟨fun hx => (by rw [hx] at hr0; cases hr0), fun i hi => ?_⟩
   obtain ⟨hu, o, hoi, hal⟩ := mem_ready.1 hi
   have him : i < m := Classical.byContradiction fun hn => by
    have := Gc hd hi (hbar i0 i q1 Wa (Array.getElem?_eq_some_iff.1 hoi).1)
    rw [<- XR Wa, h3 i0 q1, q2] at this; cases this
   have hi1 : i ∈ Region.ready .any (Ke ops m) listed1 := mem_ready.2 ⟨by rw [<- h3 i him]; exact hu, o, by rw [Y4 him]; exact hoi, fun e he hb => by
    have he1 := hedge hoi e he hb
    have := hal e he hb
    rw [<- XR Wa, <- h3 _ Wa, XR Wa]; exact this⟩
   have hw := h.2 i hi1
   unfold wpOp at hw ⊢
   rw [Y4 him, hoi] at hw
   rw [hoi]
   simp only at hw ⊢
   rw [SG hg him hoi] at hw
   have step : ∀ a w, wpAny P .any (Ke ops m) Q1 fuel (listed1.setIfInBounds i true) a w -> wpAny P .any ops Q (fuel + rest) (listed.setIfInBounds i true) a w := fun a w hh => by
    refine ih _ _ a w (by simp [h1]) (by simp [h2]) (fun k hk => ?_) (fun k hk hk2 => ?_) (Fb hd hi) hh
    ·by_cases e : i = k
     ·subst e
      rw [Array.getD_eq_getD_getElem?, Array.getElem?_setIfInBounds_self_of_lt Wa, Array.getD_eq_getD_getElem?, Array.getElem?_setIfInBounds_self_of_lt Wa]
     ·rw [getD_set_ne true e, getD_set_ne true e]; exact h3 k hk
    ·rw [getD_set_ne true Wa]; exact h4 k hk hk2
   split
   ·rename_i hwt
    rw [if_pos hwt] at hw
    rcases hw with hw | ⟨hw, a', w', hL⟩
    ·exact .inl (Qbg hQ step hw)
    ·exact .inr ⟨hw, a', w', hQ _ _ _ (by intro e; cases e) hL⟩
   ·rename_i hwt
    rw [if_neg hwt] at hw
    exact step _ _ hw
  ·have hno : Region.ready .any (Ke ops m) listed1 = [] := by
    rw [List.eq_nil_iff_forall_not_mem]
    intro i hi
    obtain ⟨hu, o, ho, _⟩ := mem_ready.1 hi
    exact hall ⟨i, (FN ho).1, hu⟩
   rw [show fuel + 1 + rest = (fuel + 1) + rest by omega]
   refine Nm rest (fuel + 1) listed a w (hN a w listed h1 (fun i hi => ?_) hd (h.1 hno))
   by_cases him : i < m
   ·rw [decide_eq_true him, h3 i him]
    cases hx : listed1.getD i true with
    | true => rfl
    | false => exact absurd ⟨i, him, hx⟩ hall
   ·rw [decide_eq_false him]; exact h4 i Wa hi
end
/-! ### The rule -/
section
variable {P : Program} {nt : Nat} {ops : Array Oper}
def Br : List AOper -> AOper -> List AOper -> Bool
 | [], o, l2 => (List.range l2.length).all fun n => (X8 o.dst.toList l2).contains n
 | x :: b, o, l2 => (X8 x.dst.toList (b ++ o :: l2)).contains l2.length && Br b o l2
theorem Tp : ∀ {l1 : List AOper} {o : AOper} {l2 : List AOper}, Br l1 o l2 = true -> (∀ i (h : i < l1.length), (X8 l1[i].dst.toList (l1.drop (i + 1) ++ o :: l2)).contains l2.length = true) /\ ∀ n, n < l2.length -> (X8 o.dst.toList l2).contains n = true
 | [], o, l2, h => ⟨fun i hi => by simp at hi, fun n hn => by simp only [Br, Qep, QeB] at h; exact h n hn⟩
 | x :: b, o, l2, h => by
  simp only [Br, Qej] at h
  obtain ⟨h1, h2⟩ := Tp h.2
  refine ⟨fun i hi => ?_, h2⟩
  cases i with
  | zero => simpa using h.1
  | succ i => simpa using h1 i (by simpa using hi)
theorem SE {l1 l2 : List AOper} {o : AOper} (hlex : MS ops) (hp : QM P nt ops ops.toList = some (l1 ++ o :: l2)) (hb : Br l1 o l2 = true) : (∀ i, i < l1.length -> Anc ops l1.length i) /\ ∀ j, l1.length < j -> j < ops.size -> Anc ops j l1.length := by
 obtain ⟨h1, h2⟩ := Tp hb
 have hlen := XG hp
 simp only [List.length_append, List.length_cons, Array.length_toList] at hlen
 have key : ∀ i (hi : i < (l1 ++ o :: l2).length), ∀ n ∈ X8 ((l1 ++ o :: l2)[i]).dst.toList ((l1 ++ o :: l2).drop (i + 1)), Anc ops ((l1 ++ o :: l2).length - 1 - n) i := fun i hi => by
  refine JR hlex hp (i := i) _ (i + 1) _ rfl (by simp at hi ⊢; omega) fun t ht => ?_
  have his : i < ops.size := by rw [<- hlen]; simpa using hi
  have hoi : ops[i]? = some ops[i] := Array.getElem?_eq_getElem his
  obtain ⟨o2, q1, q2⟩ := Zg hp i ops[i] (by rw [Array.getElem?_toList]; exact hoi)
  rw [List.getElem?_eq_getElem hi] at q1
  cases q1
  refine ⟨i, ops[i], Nat.lt_succ_self i, hoi, ?_, .inl rfl⟩
  rw [<- (QR q2).2.2.1]
  simpa using ht
 refine ⟨fun i hi => ?_, fun j hj hjs => ?_⟩
 ·have h3 := h1 i hi
  have h4 := key i Wh l2.length (by
   rw [List.getElem_append_left hi, List.drop_append_of_le_length Wa]
   simpa using h3)
  simp only [List.length_append, List.length_cons] at h4
  rwa [show l1.length + (l2.length + 1) - 1 - l2.length = l1.length by omega] at h4
 ·have h3 := h2 (l1.length + l2.length - j) Wa
  have h4 := key l1.length Wd (l1.length + l2.length - j) (by
   rw [List.getElem_append_right (Nat.le_refl _)]
   simp only [Nat.sub_self, List.getElem_cons_zero]
   rw [show l1.length + 1 = (l1 ++ [o]).length by simp, show l1 ++ o :: l2 = (l1 ++ [o]) ++ l2 by simp, List.drop_left]
   simpa using h3)
  simp only [List.length_append, List.length_cons] at h4
  rwa [show l1.length + (l2.length + 1) - 1 - (l1.length + l2.length - j) = j by omega] at h4
def Df (P : Program) (o : AOper) (K : St -> Prop) (s : St) : Prop :=
 gw s o.guard = some true /\ ∃ t f args G Hr d, o.dst = some t /\ JC s o.op f args /\ BC P f args s G Hr d /\ K ⟨(t, d) :: s.fr, Hr⟩
def D6 (P : Program) (o : AOper) (K : St -> Prop) (s : St) : Prop := ∃ s', s.le s' /\ Df P o K s'
theorem PR {Q : ZX -> St -> Prop} {s : St} {l1 l2 : List AOper} {o : AOper} (hb : Br l1 o l2 = true) (hc : Qb3 l1 (o :: l2) = true)
  (h : run P (.drawn s.H [] []) l1 (D6 P o (fun s' => run P (.drawn s'.H [] []) l2 (Q .normal) s')) s) : AW P nt (.region true (l1 ++ o :: l2)) Q s := fun code E g a w hm hp hn hfl r => by
 obtain ⟨id, ops, rfl, hB, h1⟩ := KP hp
 refine wpIn_region_any hm (Gu (fun ⟨_, _, h⟩ => h) (Jm h1) _ _ _ _ ?_)
 have hB' := hB rfl
 simp only [FP, Qej] at hB'
 obtain ⟨⟨hf, hls⟩, hlc, hg⟩ := hB'
 have hlex : MS ops := R9 (H5 hf)
 have hlen := XG h1
 simp only [List.length_append, List.length_cons, Array.length_toList] at hlen
 have hmz : l1.length <= ops.size := Wa
 obtain ⟨hb1, hb2⟩ := SE hlex h1 hb
 have hdst : ∀ (j : Nat) (o' : Oper), ops[j]? = some o' -> ∀ t, o'.dst = some t -> t < E.nt := fun j o' ho t ht => by rw [hn]; exact XF h1 j o' ho t ht
 have hfs : ∀ k, k < ops.size -> M9 ops k = true := by
  have hf' := hf
  simp only [N9, Qej, Qep, QeB] at hf'
  exact hf'.2
 obtain ⟨hp1, _⟩ := X1 h1
 have hp1' : QM P nt (Ke ops l1.length) (Ke ops l1.length).toList = some l1 := by
  rw [show (Ke ops l1.length).toList = ops.toList.take l1.length by simp [Ke]]
  refine RT (fun x hx => ?_) hp1
  obtain ⟨i, hi⟩ := List.mem_iff_getElem?.1 hx
  rw [List.getElem?_take] at hi
  split at hi
  ·rename_i e
   exact TF hg e (by rw [<- Array.getElem?_toList]; exact hi)
  ·cases hi
 have hdr : FP (Ke ops l1.length) = true := by
  simp only [FP, Qej]
  exact ⟨⟨DG hg hmz hf, Qbf hmz hls⟩, Qbe h1 hc hlc, Qbd hmz hg⟩
 have hdr' := hdr
 simp only [FP, Qej] at hdr'
 obtain ⟨Q1, hQ1n, hQ1⟩ : ∃ Q1 : Exit -> Act -> World -> Prop, (∀ a w, Q1 .normal a w ↔ ∃ s' g', Rel E g' s' a w /\ D6 P o (fun s' => run P (.drawn s'.H [] []) l2 (Q .normal) s') s') /\ ∀ e a w, e ≠ .normal -> (Q1 e a w ↔ AQ E Q e a w) :=
  ⟨fun e a w => (e = .normal /\ ∃ s' g', Rel E g' s' a w /\ D6 P o (fun s' => run P (.drawn s'.H [] []) l2 (Q .normal) s') s') \/ (e ≠ .normal /\ AQ E Q e a w), fun a w => ⟨fun h => h.elim (fun h => h.2) (fun h => absurd rfl h.1), fun h => .inl ⟨rfl, h⟩⟩, fun e a w he => ⟨fun h => h.elim (fun h => absurd h.1 he) (fun h => h.2), fun h => .inr ⟨he, h⟩⟩⟩
 have hcz : (Ke ops l1.length).size = l1.length := JG hmz
 have inner : wpAny P .any (Ke ops l1.length) Q1 l1.length (Array.replicate l1.length false) a { w with drawn := w.drawn + 1 } := by
  have := Gd (Q := Q1) (H5 hdr'.1.1) hn hp1' (fun j o' ho t ht => hdst j o' (FN ho).2 t ht) r (fun _ h => h) (Ru h _ hp1' hdr) fun s' g' a' w' r' h' => (hQ1n a' w').2 ⟨s', g', r', h'⟩
  rwa [hcz] at this
 have hsz : ops.size = l1.length + (l2.length + 1) := Wa
 have main := Db (P := P) (Q := AQ E Q) (rest := l2.length + 1) hg hf hmz (fun e a w he hq => (hQ1 e a w he).1 hq) (fun i j hi hj hjs => ?_) (fun a w listed hls1 hls2 hdn hq => ?_) l1.length (Array.replicate l1.length false) (Array.replicate ops.size false) a _ Wd Wd (fun i hi => by simp [hi, show i < ops.size by omega]) (fun i h1 h2 => by simp [h2]) (fun j i hj _ => ?_) inner
 ·rw [hsz]; rw [hsz] at main; exact main
 ·rcases Nat.eq_or_lt_of_le hj with e | e
  ·subst e; exact hb1 i hi
  ·exact (hb2 j e hjs).trans (hb1 i hi)
 ·obtain ⟨s0, g0, r0, s1, hle, hgo, t, f, args, G, Hr, d, hdt, hcal, hcz2, hk⟩ := (hQ1n a w).1 hq
  obtain ⟨g1, r1⟩ := hle _ _ _ _ r0
  have hms : l1.length < ops.size := Wa
  have hom : ops[l1.length]? = some ops[l1.length] := Array.getElem?_eq_getElem hms
  have hpo : Zq P nt ops ops[l1.length] = some o := by
   obtain ⟨o2, q1, q2⟩ := Zg h1 l1.length ops[l1.length] (by rw [Array.getElem?_toList]; exact hom)
   rw [List.getElem?_append_right (Nat.le_refl _), Nat.sub_self] at q1
   simp only [List.getElem?_cons_zero, Qei] at q1
   rw [q1]; exact q2
  have hready : l1.length ∈ Region.ready .any ops listed := mem_ready.2 ⟨by rw [hls2 _ hms, decide_eq_false Wa], _, hom, fun e he hb => by
   have h2 := hfs l1.length hms
   unfold M9 at h2
   rw [hom] at h2
   simp only [Qej, Array.all_eq_true_iff_forall_mem] at h2
   have h3 := h2.1 e he
   have h4 : e.on < l1.length := by simpa [hb] using h3
   rw [<- XR Wa, hls2 _ Wa, decide_eq_true h4]⟩
  refine ⟨fun hx => (by rw [hx] at hready; cases hready), fun i hi => ?_⟩
  obtain ⟨hu, oi, hoi, _⟩ := mem_ready.1 hi
  have his : i < ops.size := (Array.getElem?_eq_some_iff.1 hoi).1
  have him : i = l1.length := by
   rw [hls2 i his] at hu
   have h2 : ¬ i < l1.length := of_decide_eq_false hu
   refine Classical.byContradiction fun hne => ?_
   have h3 := Gc hdn hi (hb2 i Wa his)
   rw [<- XR Wa, hls2 _ hms, decide_eq_false Wa] at h3
   cases h3
  subst him
  unfold wpOp
  rw [hom]
  simp only
  obtain ⟨p1, p2, p3, p4⟩ := QR hpo
  rw [Y8 r1 p2 hdst true hgo]
  simp only [if_true]
  refine .inl (FJ r1 p1 hcal hcz2 (fun t ht => by rw [hn]; exact p4 t ht) fun g' a' w' r' => ?_)
  have e : St.apply ⟨s1.fr, Hr⟩ (ops[l1.length]).dst d none = ⟨(t, d) :: s1.fr, Hr⟩ := by rw [<- p3, hdt]; rfl
  rw [e] at r'
  have hdrop : l2 = (l1 ++ o :: l2).drop (l1.length + 1) := by
   rw [show l1.length + 1 = (l1 ++ [o]).length by simp, show l1 ++ o :: l2 = (l1 ++ [o]) ++ l2 by simp, List.drop_left]
  have hD : JY P (fun k => (lk Hr k).isSome = true) (Anc ops) l2 (l1.length + 1) [] [] (Q .normal) ⟨(t, d) :: s1.fr, Hr⟩ := KQ (H0 := Hr) hlex hls hlc h1 l2 (l1.length + 1) [] [] [] [] ⟨(t, d) :: s1.fr, Hr⟩ hdrop Wh (fun _ _ h => by cases h) (fun _ _ h => by cases h) hk
  have hpre : Ft P nt ops (l1 ++ o :: l2) := fun i o ho => Zg h1 i o (by rw [Array.getElem?_toList]; exact ho)
  have hlx : Region.lexFrom .any ops l2.length (l1.length + 1) (listed.setIfInBounds l1.length true) = true := by
   refine Km hfs l2.length (l1.length + 1) _ Wa (by simp [hls1]) fun i d hi => ?_
   by_cases e : l1.length = i
   ·subst e
    rw [decide_eq_true Wa, Array.getD_eq_getD_getElem?, Array.getElem?_setIfInBounds_self_of_lt Wa]; rfl
   ·rw [getD_set_ne d e]
    have : listed.getD i d = listed.getD i true := by simp [Array.getD_eq_getD_getElem?, Array.getElem?_eq_getElem (Wa : i < listed.size)]
    rw [this, hls2 i hi]
    exact decide_eq_decide.2 Wa
  refine X9 (KK := fun s => ∃ s', s.same s' /\ Q .normal s') (B := fun k => (lk Hr k).isSome = true) hn hpre hdst (fun s g a w ⟨s', q1, q2⟩ r => ⟨s', g, q2, r.same q1⟩) l2.length _ [] [] _ g' a' w' r' ?_
  exact Gx hn (fun s s' hs ⟨s2, q1, q2⟩ => ⟨s2, ⟨fun t => (hs.1 t).symm.trans (q1.1 t), fun k => (hs.2 k).symm.trans (q1.2 k)⟩, q2⟩) hpre l2 (l1.length + 1) _ [] [] _ (fun j => by
   exact (congrArg (·[j]?) hdrop).trans List.getElem?_drop) ⟨g', a', w', r'⟩ (fun _ h => h) (Fb hdn hi) hlx (FD (K := Q .normal) (K' := fun s => ∃ s', s.same s' /\ Q .normal s') (fun s h => ⟨s, ⟨fun _ => rfl, fun _ => rfl⟩, h⟩) hD)
 ·rcases QeC j ops.size with h' | h'
  ·simp [h'] at hj
  ·simp [h'] at hj
end
section
variable {P : Program} {nt : Nat}
theorem Bd {Q : ZX -> St -> Prop} {s : St} {l1 l2 ol : List AOper} {o : AOper} {live : List Nat} {b : TCode} (h : ∀ K : St -> Prop, (∀ fr H, TW P nt b Q ⟨Q6 live fr, H⟩ -> K ⟨fr, H⟩) -> run P (.drawn s.H [] []) l1 (D6 P o (fun s' => run P (.drawn s'.H [] []) l2 K s')) s) (hl : ol = l1 ++ o :: l2 := by rfl) (hb : Br l1 o l2 = true := by rfl) (hc : Qb3 l1 (o :: l2) = true := by rfl) : TW P nt (.seq (.region true ol) live b) Q s := by
 subst hl
 exact Nz (PR hb hc (h (fun s' => AW P nt b.erase Q s') fun fr H hb => PQ (GD live fr H) hb))
end
end Go.Abs
namespace Go.Abs
open Go
/-! ### What a function only looks at: own boxes az they are, whatever names each other -/
def D.dfz (H : Qed) : Nat -> D -> D
 | 0, d => if d.own = true then .junk else d
 | n + 1, d => match d with
  | .osl k m => (match lk H k with
   | some b => if m = b.rows.length then .sl (b.rows.map fun r => r.map (D.dfz H n)) else .junk
   | none => .junk)
  | .ref k i off => (match lk H k with
   | some b => .ptr (((b.rows.getD i []).drop off).map (D.dfz H n))
   | none => .junk)
  | d => if d.own = true then .junk else d
def D.dfzT (H : Qed) (n : Nat) : D -> D
 | .agg cs => .agg (cs.map (D.dfz H n))
 | d => d.dfz H n
section
variable {g : Gh} {H : Qed} {w : World}
theorem Nj {B : Nat} {c : Array Value} {e : TypeId} {f : Nat × Nat} (h : w.heap[B]? = some (.cells c e f)) (p : Nat) : KS w B p = c[p]? := by unfold KS; rw [h]
theorem Rj {K : Kn} (h : KRel K w) : K.le (KS w) := fun b o x hx => by
 obtain ⟨c, e, f, h1, h2⟩ := h b o x hx
 rw [Nj h1]; exact h2
theorem Mu {d : D} {v : Value} (h : RepS g d v) (ho : d.own = true) : v.oneCell' = true := by
 cases d <;> simp only [D.own, Qen] at ho
 case osl => obtain ⟨a, cap, rfl, _⟩ := h; rfl
 case osv => obtain ⟨a, cap, rfl, _⟩ := h; rfl
 case ref => obtain ⟨B, esz, o, _, rfl⟩ := h; rfl
 case clr => obtain ⟨B, esz, o, cs, _, rfl, _⟩ := h; rfl
theorem Sg (hK : KRel g.K w) {d : D} {v : Value} (h : RepS g d v) : RepP (KS w) (if d.own = true then .junk else d) v := by
 split
 ·rename_i ho; simp only [RepP]; exact Mu h ho
 ·rename_i ho; exact RepP.mono (Rj hK) _ _ (h.toP (by simpa using ho))
theorem Pw {d : D} (h : d.isCell = true) : (if d.own = true then D.junk else d).isCell = true := by
 split
 ·rfl
 ·exact h
theorem RX {d : D} (h : d.isCell = true) : ∀ n, (d.dfz H n).isCell = true
 | 0 => Pw h
 | n + 1 => by
  unfold D.dfz
  split
  ·split
   ·split <;> rfl
   ·rfl
  ·split <;> rfl
  ·exact Pw h
theorem HRel.sid (hr : HRel g H w) {k : Nat} {b : Box} (hb : lk H k = some b) : ∀ r ∈ b.rows, ∀ d ∈ r, ∀ j ∈ d.sid, (lk H j).isSome = true := fun r hrr d hd j hj => by
 by_cases hp : b.pr = true
 ·rw [(hr.bx k b hb).2.1 hp r hrr d hd] at hj; cases hj
 ·refine hr.wfH k b hb j ?_
  unfold Box.ids
  rw [if_neg hp]
  exact Qem.2 ⟨r, hrr, Qem.2 ⟨d, hd, hj⟩⟩
theorem P5 (hr : HRel g H w) : ∀ (n : Nat) {d : D} {v : Value}, RepS g d v -> RepP (KS w) (d.dfz H n) v
 | 0, d, v, h => Sg hr.kr h
 | n + 1, d, v, h => by
  have cellsR : ∀ {B : Nat} {c : Array Value}, (∀ p, KS w B p = c[p]?) -> ∀ {off : Nat} {ds : List D}, CellsC g c off ds -> RepCells (KS w) B off (ds.map (D.dfz H n)) := by
   intro B c hc off ds
   induction ds generalizing off with
   | nil => intro _; simp only [List.map_nil, RepCells]
   | cons d ds ih =>
    intro hh
    simp only [CellsC] at hh
    simp only [List.map_cons, RepCells]
    obtain ⟨⟨h1, x, h2, h3⟩, h4⟩ := hh
    exact ⟨⟨RX h1 n, x, by rw [hc]; exact h2, P5 hr n h3⟩, ih h4⟩
  have rowsR : ∀ {B : Nat} {c : Array Value}, (∀ p, KS w B p = c[p]?) -> ∀ {off : Nat} {rs : List (List D)}, RowsC g c off rs -> RepRows (KS w) B off (rs.map fun r => r.map (D.dfz H n)) := by
   intro B c hc off rs
   induction rs generalizing off with
   | nil => intro _; simp only [List.map_nil, RepRows]
   | cons r rs ih =>
    intro hh
    simp only [RowsC] at hh
    simp only [List.map_cons, RepRows, List.length_map]
    exact ⟨cellsR hc hh.1, ih hh.2⟩
  unfold D.dfz
  split
  ·rename_i k m
   cases hb : lk H k with
   | none => simp only [RepP]; exact Mu h rfl
   | some b =>
    simp only
    split
    ·rename_i hm
     obtain ⟨a, cap, h1, h2, h3⟩ := h
     subst hm
     simp only [RepP, List.length_map]
     refine ⟨a, cap, h1, h2, ?_⟩
     by_cases h0 : b.rows = []
     ·left; rw [h0]; rfl
     ·right
      obtain ⟨b1, b2, b3⟩ := hr.bx k b hb
      rcases b3 with ⟨b3, _⟩ | ⟨_, B, c, b4, b5, b6, b7, _⟩
      ·exact absurd b3 h0
      ·rcases h3 with ⟨h3, _⟩ | ⟨B', esz, h3, h4, _⟩ | h3
       ·exact absurd (List.length_eq_zero_iff.1 h3) h0
       ·rw [b4] at h3; cases h3
        exact ⟨B, (g.σ k).2, b.esz, h4, fun r hrr => by obtain ⟨r', hr', rfl⟩ := Qet.1 hrr; rw [List.length_map]; exact b1 r' hr', rowsR (Nj b5) b7⟩
       ·exact (h3.no b4).elim
    ·simp only [RepP]; exact Mu h rfl
  ·rename_i k i off
   cases hb : lk H k with
   | none => simp only [RepP]; exact Mu h rfl
   | some b =>
    simp only
    obtain ⟨B', esz, o, h1, h2⟩ := h
    simp only [RepP]
    by_cases hi : i < b.rows.length
    ·obtain ⟨b1, b2, b3⟩ := hr.bx k b hb
     rcases b3 with ⟨b3, _⟩ | ⟨_, B, c, b4, b5, b6, b7, _⟩
     ·rw [b3] at hi; cases hi
     ·rcases h1 with ⟨h1, rfl⟩ | h1
      ·rw [b4] at h1; cases h1
       refine ⟨_, _, h2, ?_⟩
       have hrow : b.rows[i]? = some (b.rows.getD i []) := by rw [List.getD_eq_getElem?_getD, List.getElem?_eq_getElem hi]; rfl
       have hc := X3 i b1 b7 hrow
       rw [show (g.σ k).2 + (i * b.esz + off) = (g.σ k).2 + i * b.esz + off by omega]
       refine cellsR (Nj b5) (HO fun j d hj => ?_)
       rw [List.getElem?_drop] at hj
       have := Kd hc (off + j) d hj
       rw [show (g.σ k).2 + i * b.esz + off + j = (g.σ k).2 + i * b.esz + (off + j) by omega]; exact this
      ·exact (h1.no b4).elim
    ·refine ⟨B', _, h2, ?_⟩
     rw [List.getD_eq_getElem?_getD, List.getElem?_eq_none Wa]
     simp only [Option.getD_none, List.drop_nil, List.map_nil, RepCells]
  ·exact Sg hr.kr h
theorem RW (hr : HRel g H w) (n : Nat) : ∀ {ds : List D} {vs : List Value}, RepL g ds vs -> (∀ d ∈ ds, d.isCell = true) -> RepCs (KS w) (ds.map (D.dfz H n)) vs
 | [], [], _, _ => by simp only [List.map_nil, RepCs]
 | d :: ds, v :: vs, h, hc => by
  simp only [List.map_cons, RepCs]
  exact ⟨⟨RX (hc d Wd) n, P5 hr n h.1⟩, RW hr n h.2 fun x hx => hc x (by simp [hx])⟩
 | [], _ :: _, h, _ => h.elim
 | _ :: _, [], h, _ => h.elim
def D.dfzOk : D -> Bool
 | .clo _ cs => cs.all fun d => !d.own
 | .tpo cs _ => cs.all fun d => !d.own
 | _ => true
theorem DH (hr : HRel g H w) (n : Nat) {d : D} {v : Value} (h : Rep g d v) (hp : d.dfzOk = true) : RepP (KS w) (d.dfzT H n) v := by
 cases d
 case agg cs =>
  obtain ⟨vs, h1, h2, h3⟩ := h
  simp only [D.dfzT, RepP]
  exact ⟨vs, h1, RW hr n h2 h3⟩
 case clo f cs =>
  have h1 := RepP.mono (Rj hr.kr) _ _ (h.toP hp)
  cases n <;> exact h1
 case tpo cs x =>
  have h1 := RepP.mono (Rj hr.kr) _ _ (h.toP hp)
  cases n <;> exact h1
 all_goals exact P5 hr n h
theorem Fa (hr : HRel g H w) (n : Nat) : ∀ {ds : List D} {vs : List Value}, RepA g ds vs -> (ds.all D.dfzOk) = true -> RepVs (KS w) (ds.map (D.dfzT H n)) vs
 | [], [], _, _ => by simp only [List.map_nil, RepVs]
 | d :: ds, v :: vs, h, hp => by
  simp only [List.all_cons, Qej] at hp
  simp only [List.map_cons, RepVs]
  exact ⟨DH hr n h.1 hp.1, Fa hr n h.2 hp.2⟩
 | [], _ :: _, h, _ => h.elim
 | _ :: _, [], h, _ => h.elim
theorem TP {K K' : Kn} {d : D} {v : Value} (h : d.flat = true) (hv : RepP K d v) : RepP K' d v := by
 have one : ∀ {d : D} {v : Value}, d.flat1 = true -> RepP K d v -> RepP K' d v := fun {d v} h hv => by
  cases d <;> simp only [D.flat1, Qen] at h <;> simp only [RepP] at hv ⊢ <;> exact hv
 cases d
 case tup ds =>
  simp only [D.flat] at h
  simp only [RepP] at hv ⊢
  obtain ⟨vs, h1, h2⟩ := hv
  refine ⟨vs, h1, ?_⟩
  have : ∀ {ds : List D} {vs : List Value}, (ds.all D.flat1) = true -> RepVs K ds vs -> RepVs K' ds vs := by
   intro ds
   induction ds with
   | nil => intro vs _ h; cases vs <;> simp only [RepVs] at h ⊢
   | cons d ds ih =>
    intro vs hf h
    cases vs with
    | nil => simp only [RepVs] at h
    | cons v vs =>
     simp only [List.all_cons, Qej] at hf
     simp only [RepVs] at h ⊢
     exact ⟨one hf.1 h.1, ih hf.2 h.2⟩
  exact this h h2
 all_goals exact one h hv
end
theorem OkH.ofOk {P : Program} {f : Nat} {ds ds' : List D} {H : Qed} {d : D} (n : Nat) (h : Ok P f ds' d) (hds : ds.map (D.dfzT H n) = ds') (hp : ds.all D.dfzOk = true) (hd : d.flat = true) (hi : d.ids = []) : OkH P f ds H d H := by
 refine ⟨h.1, fun g w vs hrel hargs hids => ?_⟩
 subst hds
 refine (h.2 (KS w) w vs (MB w) (Fa hrel n hargs hp)).mono fun e w' ⟨v, K', he, hv, hr', hsz, hfr, hKK, hfx⟩ => ?_
 refine ⟨v, g, he, Rep.of (TP hd hv), ⟨hrel.wfH, fun k b hb => ?_, hrel.inj, fun b o x hx => ?_⟩, hsz, fun b hb _ => ⟨hfr b hb, rfl⟩, hfx, fun k _ hs => ⟨hs, rfl, rfl⟩, fun k B e hk hs hβ => .inr ⟨k, e, hk, hs, hβ⟩⟩
 ·refine (hrel.bx k b hb).move ⟨rfl, rfl⟩ (fun _ _ _ _ _ _ => ⟨rfl, rfl⟩) (Kn.le_refl _) fun B e hβ => ⟨hfr B ((hrel.bx k b hb).blk hβ).1, fun _ h => h, fun _ => .inl (Qer _)⟩
 ·obtain ⟨c, e, f, h1, h2⟩ := hrel.kr b o x hx
  exact ⟨c, e, f, by rw [hfr b (Array.getElem?_eq_some_iff.1 h1).1]; exact h1, h2⟩
theorem Lv {P : Program} {o : AOper} {t f : Nat} {G : List Nat} {az : List Opd} {ds ds' : List D} {d : D} {fr : Qee} {H Hr H1 H2 : Qed} {K : St -> Prop} (ho : o = ⟨some t, .call f az, none⟩) (hds : Q8 ⟨fr, H⟩ az = some ds) (hk : GZ G = true)
  (hfr : (fr.all fun p => p.2.ids.all fun k => !G.contains k) = true) (hd : (d.ids.all fun k => G.contains k && (lk Hr k).isSome) = true) (hdom : (H.all fun p => (lk Hr p.1).isSome) = true) (hdom2 : (Hr.all fun p => G.contains p.1 || (lk H p.1).isSome) = true) (hds' : (ds.map fun d => (d.ren (Xb G)).can) = ds') (h1 : J3 G H = H1) (h2 : J3 G Hr = H2) (hok : OkH P f ds' H1 d H2) (hK : K ⟨(t, d) :: fr, Hr⟩) : opZ P o K ⟨fr, H⟩ := by
 subst ho hds' h1 h2
 refine ⟨rfl, t, f, _, G, Hr, d, rfl, .inl rfl, ⟨ds, hds, hk, BW hfr, fun k hkd => ?_, fun j h => ?_, fun j h => ?_, hok⟩, hK⟩
 ·have := Qep.1 hd k hkd
  simpa using this
 ·obtain ⟨b, hb⟩ := Qel.1 h
  exact Qep.1 hdom (j, b) (ZR hb)
 ·obtain ⟨b, hb⟩ := Qel.1 h
  have := Qep.1 hdom2 (j, b) (ZR hb)
  simpa using this
end Go.Abs
namespace Go.Abs
open Go
/-! ### A region in its order with several calls to which boxes are given -/
section
variable {P : Program} {nt : Nat} {E : Env}
theorem B4 {o : AOper} {K : St -> Prop} {s : St} (h : opZ P o K s) : Df P o K s := by
 obtain ⟨h1, h2⟩ := h
 exact ⟨by rw [h1]; rfl, h2⟩
theorem Lx {o : AOper} {K K' : St -> Prop} (hK : ∀ s, K s -> K' s) {s : St} (h : Df P o K s) : Df P o K' s := by
 obtain ⟨h1, t, f, args, G, Hr, d, h2, h3, h4, h5⟩ := h
 exact ⟨h1, t, f, args, G, Hr, d, h2, h3, h4, hK _ h5⟩
def J8 (P : Program) : List AOper -> (St -> Prop) -> St -> Prop
 | [], K, s => K s
 | o :: r, K, s => De P o (J8 P r K) s \/ D6 P o (J8 P r K) s
theorem Hx {ops : Array Oper} {K : St -> Prop} {Q : Exit -> Act -> World -> Prop} (hnt : E.nt = nt) (hdst : ∀ (j : Nat) (o' : Oper), ops[j]? = some o' -> ∀ t, o'.dst = some t -> t < E.nt) : ∀ (l : List Oper) (k : Nat) (l' : List AOper) (s : St) (g : Gh) (a : Act) (w : World), (∀ j, l[j]? = ops[k + j]?) ->
  QM P nt ops l = some l' -> Rel E g s a w -> J8 P l' K s -> (∀ s' g' a' w', Rel E g' s' a' w' -> K s' -> Q .normal a' w') -> wpOps P ops Q (List.range' k l.length) a w
 | [], k, l', s, g, a, w, _, hp, r, h, hK => by
  simp only [QM, Qei] at hp
  subst hp
  exact hK s g a w r h
 | o :: l, k, l', s, g, a, w, hl, hp, r, h, hK => by
  simp only [QM] at hp
  split at hp
  ·rename_i o' r' e1 e2
   cases hp
   have h0 : ops[k]? = some o := by simpa using (hl 0).symm
   rw [List.length_cons, List.range'_succ, wpOps_cons]
   unfold wpOp
   rw [h0]
   simp only
   rcases h with h | ⟨s1, hle, hgo, t, f, args, G, Hr, d, hdt, hcal, hc, hk⟩
   ·have := Sf (Q := Q) hnt r e1 hdst h (K' := wpOps P ops Q (List.range' (k + 1) l.length)) fun s' g' a' w' r2 h2 =>
     Hx hnt hdst l (k + 1) r' s' g' a' w' (fun j => by have := hl (j + 1); simpa [Nat.add_assoc, Nat.add_comm 1 j] using this) e2 r2 h2 hK
    split
    ·rename_i hw; rw [if_pos hw] at this; exact .inl this
    ·rename_i hw; rw [if_neg hw] at this; exact this
   ·obtain ⟨g1, r1⟩ := hle E g a w r
    obtain ⟨p1, p2, p3, p4⟩ := QR e1
    have hw : Region.wanted o (yielded ops a.tmps) = true := Y8 r1 p2 hdst true hgo
    rw [if_pos hw]
    refine .inl (FJ r1 p1 hcal hc (fun t ht => by rw [hnt]; exact p4 t ht) fun g' a' w' r' => ?_)
    have e : St.apply ⟨s1.fr, Hr⟩ o.dst d none = ⟨(t, d) :: s1.fr, Hr⟩ := by rw [<- p3, hdt]; rfl
    rw [e] at r'
    exact Hx hnt hdst l (k + 1) _ _ g' a' w' (fun j => by have := hl (j + 1); simpa [Nat.add_assoc, Nat.add_comm 1 j] using this) e2 r' hk hK
  ·cases hp
theorem PS {Q : ZX -> St -> Prop} {s : St} {l : List AOper} (h : J8 P l (Q .normal) s) : AW P nt (.region false l) Q s := fun code E g a w hm hp hn hfl r => by
 obtain ⟨id, ops, rfl, _, h1⟩ := KP hp
 refine wpIn_region (Gv (fun ⟨_, _, h⟩ => h) (Jm h1) _ _ _ ?_)
 rw [List.range_eq_range', <- Array.length_toList]
 exact Hx hn (fun j o' ho t ht => by rw [hn]; exact XF h1 j o' ho t ht) ops.toList 0 l s g a w Wd h1 r h fun s' g' a' w' r' h' => ⟨s', g', h', r'⟩
theorem NA {o : AOper} {K K' : St -> Prop} (hK : ∀ s, K s -> K' s) {s : St} (h : De P o K s) : De P o K' s := by
 unfold De at h ⊢
 split at h
 ·exact h
 ·exact hK _ h
 ·rcases h with ⟨d, bx, h1, h2⟩ | ⟨s', d, h1, h2⟩ | ⟨p, q, d, ef, h1, h2⟩ | ⟨f, args, HF, Hn, Hu, d, h1, h2, h3⟩ | ⟨s', d, bx, h1, h2, h3⟩
  ·exact .inl ⟨d, bx, h1, hK _ h2⟩
  ·exact .inr (.inl ⟨s', d, h1, hK _ h2⟩)
  ·exact .inr (.inr (.inl ⟨p, q, d, ef, h1, hK _ h2⟩))
  ·exact .inr (.inr (.inr (.inl ⟨f, args, HF, Hn, Hu, d, h1, h2, hK _ h3⟩)))
  ·exact .inr (.inr (.inr (.inr ⟨s', d, bx, h1, h2, hK _ h3⟩)))
theorem Gy {r : List AOper} {K : St -> Prop} : ∀ {l : List AOper} {s : St}, G1 P l (J8 P r K) s -> J8 P (l ++ r) K s
 | [], _, h => h
 | _ :: _, _, h => .inl (NA (fun _ h => Gy h) h)
theorem Gk {l lr ol : List AOper} {o : AOper} {K : St -> Prop} {s : St} (h : run P .fixed l (D6 P o (J8 P lr K)) s) (hl : ol = l ++ o :: lr := by rfl) : J8 P ol K s := by
 subst hl
 exact Gy (Y1 (fun _ h => .inr h) (Ye h))
theorem So {l : List AOper} {K : St -> Prop} {s : St} (h : run P .fixed l K s) : J8 P l K s := by
 have := Gy (P := P) (r := []) (K := K) (Ye h)
 rwa [List.append_nil] at this
theorem PV {Q : ZX -> St -> Prop} {s : St} {ol : List AOper} {live : List Nat} {b : TCode} (h : ∀ K : St -> Prop, (∀ fr H, TW P nt b Q ⟨Q6 live fr, H⟩ -> K ⟨fr, H⟩) -> J8 P ol K s) : TW P nt (.seq (.region false ol) live b) Q s := by
 refine Nz (PS ?_)
 exact h (fun s' => AW P nt b.erase Q s') fun fr H hb => PQ (GD live fr H) hb
theorem GH {o : AOper} {K : St -> Prop} {s s' : St} (hle : s.le s') (h : Df P o K s') : D6 P o K s := ⟨s', hle, h⟩
end
end Go.Abs
namespace Go.Abs
open Go
theorem OkH.lkc {P : Program} {f : Nat} {ds : List D} {H H1 H' H1' : Qed} {d : D} (e : ∀ k, lk H1 k = lk H k) (e' : ∀ k, lk H1' k = lk H' k) (h : OkH P f ds H d H') : OkH P f ds H1 d H1' := by
 have eq : lk H1 = lk H := funext e
 have eq' : lk H1' = lk H' := funext e'
 refine ⟨h.1, fun g w vs hrel hargs hids => ?_⟩
 have hr : HRel g H w := ⟨fun k b hk => by rw [<- eq] at hk ⊢; exact hrel.wfH k b hk, fun k b hk => by rw [<- eq] at hk; exact hrel.bx k b hk, fun k k' b b' B e e' h1 h2 => by rw [<- eq] at h1 h2; exact hrel.inj k k' b b' B e e' h1 h2, hrel.kr⟩
 refine (h.2 g w vs hr hargs (by rw [eq] at hids; exact hids)).mono fun e w' ⟨v, g', he, hv, hr', hsz, hfr, hfx, hkeep, hnew⟩ => ?_
 refine ⟨v, g', he, hv, ⟨fun k b hk => by rw [eq'] at hk ⊢; exact hr'.wfH k b hk, fun k b hk => by rw [eq'] at hk; exact hr'.bx k b hk, fun k k' b b' B e e' h1 h2 => by rw [eq'] at h1 h2; exact hr'.inj k k' b b' B e e' h1 h2, hr'.kr⟩, hsz, fun b hb hn => hfr b hb fun ⟨k, e, h1, h2⟩ => hn ⟨k, e, by rw [eq]; exact h1, h2⟩, hfx, ?_, ?_⟩
 ·rw [eq, eq']; exact hkeep
 ·rw [eq, eq']; exact hnew
theorem RP {P : Program} {f : Nat} {args : List Opd} {s : St} {ds ds' : List D} {HF : Qed} {d : D} (n : Nat) (hok : Ok P f ds' d) (ha : Q8 s args = some ds) (hF : ∀ p ∈ HF, lk s.H p.1 = some p.2) (hcl : ∀ p ∈ HF, ∀ j ∈ p.2.ids, (lk HF j).isSome = true) (hds : (ds.all fun x => x.ids.all fun j => (lk HF j).isSome) = true)
  (hu : (ds.map Dt).map (D.dfzT (upH HF) n) = ds') (hz : (ds.map Dt).all D.dfzOk = true) (hfl : d.flat = true) (hd : d.ids = []) : JF P f args s HF [] [] d := by
 refine ⟨ds, ha, fun j x hj => hF (j, x) (ZR hj), fun j x hj => hcl (j, x) (ZR hj), fun x hx j hj => ?_, (fun j x hj => by cases hj), (fun j x hj => by cases hj), (fun j hj => by rw [hd] at hj; cases hj), .inl ?_⟩
 ·exact Qep.1 (Qep.1 hds x hx) j hj
 ·exact OkH.ofOk n hok hu hz hfl hd
theorem Tw {P : Program} {f : Nat} {args : List Opd} {s : St} {ds ds' : List D} {HF : Qed} {d : D} {k : Nat} {b : Box} (n : Nat) (hok : Ok P f ds' d) (ha : Q8 s args = some ds) (hF : ∀ p ∈ HF, lk s.H p.1 = some p.2) (hcl : ∀ p ∈ HF, ∀ j ∈ p.2.ids, (lk HF j).isSome = true) (hds : (ds.all fun x => x.ids.all fun j => (lk HF j).isSome) = true)
  (hu : (ds.map Dt).map (D.dfzT (upH HF) n) = ds') (hz : (ds.map Dt).all D.dfzOk = true) (hfl : d.flat = true) (hd : d.ids = []) (hk : lk HF k = some b) : JF P f args s HF [] [(k, b)] d := by
 refine ⟨ds, ha, fun j x hj => hF (j, x) (ZR hj), fun j x hj => hcl (j, x) (ZR hj), fun x hx j hj => ?_, fun j x hj => ?_, (fun j x hj => by cases hj), (fun j hj => by rw [hd] at hj; cases hj), .inl ?_⟩
 ·exact Qep.1 (Qep.1 hds x hx) j hj
 ·rw [Qr] at hj
  split at hj
  ·rename_i e; cases hj; subst e; exact ⟨by rw [hk]; rfl, hcl (k, b) (ZR hk)⟩
  ·cases hj
 ·refine OkH.lkc (fun _ => rfl) (fun j => ?_) (OkH.ofOk n hok hu hz hfl hd)
  by_cases hj : j < 1000000
  ·show lk (upH ((k, b) :: HF)) j = _
   rw [Ko _ hj, Ko _ hj]
  ·have e : j = upN (j - 1000000) := by unfold upN; omega
   show lk (upH ((k, b) :: HF)) j = _
   rw [e, Hc, Hc, Qr]
   split
   ·rename_i e2; rw [<- e2, hk]
   ·rfl
theorem Lw {P : Program} {o : AOper} {t f k : Nat} {gd : Option (Nat × Bool)} {G : List Nat} {x : Opd} {az : List Opd} {ps ds ds' : List D} {d : D} {fr : Qee} {H Hr H1 H2 : Qed} {K : St -> Prop} (ho : o = ⟨some t, .callV x az, gd⟩) (hgd : gw ⟨fr, H⟩ gd = some true) (hx : St.ev ⟨fr, H⟩ x = some (.clr f k ps)) (hcap : (D.ref k 0 0 :: ps).all D.capOk = true) (hds : Q8 ⟨fr, H⟩ (az ++ (D.ref k 0 0 :: ps).map .c) = some ds) (hk : GZ G = true)
  (hfr : (fr.all fun p => p.2.ids.all fun k => !G.contains k) = true) (hd : d.ids = []) (hdom : (H.all fun p => (lk Hr p.1).isSome) = true) (hdom2 : (Hr.all fun p => (lk H p.1).isSome) = true) (hds' : (ds.map fun d => (d.ren (Xb G)).can) = ds') (hok : OkH P f ds' H1 d H2) (h1 : ∀ j, lk (J3 G H) j = lk H1 j) (h2 : ∀ j, lk (J3 G Hr) j = lk H2 j) (hK : K ⟨(t, d) :: fr, Hr⟩) : Df P o K ⟨fr, H⟩ := by
 subst ho hds'
 refine ⟨hgd, t, f, _, G, Hr, d, rfl, .inr (.inl ⟨x, az, _, rfl, .inr ⟨k, ps, hx, rfl⟩, hcap, rfl⟩), ⟨ds, hds, hk, BW hfr, fun k hkd => by rw [hd] at hkd; (cases hkd), fun j h => ?_, fun j h => ?_, hok.lkc h1 h2⟩, hK⟩
 ·obtain ⟨b, hb⟩ := Qel.1 h
  exact Qep.1 hdom (j, b) (ZR hb)
 ·obtain ⟨b, hb⟩ := Qel.1 h
  exact .inr (Qep.1 hdom2 (j, b) (ZR hb))
theorem F8 {P : Program} {o : AOper} {t f : Nat} {G : List Nat} {az : List Opd} {ds ds' : List D} {d : D} {fr : Qee} {H Hr H1 H2 : Qed} {K : St -> Prop} (ho : o = ⟨some t, .call f az, none⟩) (hds : Q8 ⟨fr, H⟩ az = some ds) (hk : GZ G = true)
  (hfr : (fr.all fun p => p.2.ids.all fun k => !G.contains k) = true) (hd : d.ids = []) (hdom : Hr.map Prod.fst = H.map Prod.fst) (hds' : (ds.map fun d => (d.ren (Xb G)).can) = ds') (hok : OkH P f ds' H1 d H2) (h1 : J3 G H = H1) (h2 : J3 G Hr = H2) (hK : K ⟨(t, d) :: fr, Hr⟩) : Df P o K ⟨fr, H⟩ :=
 B4 (D7 ho hds hk hfr hd hdom hds' h1 h2 hok hK)
end Go.Abs
namespace Go.Proofs
open Go Go.Abs M3 M25
def rL (c : List Int) : List D := [ZT c]
abbrev HW (h cu wk : Nat) (w : Qv) (c : List Int) (hb : Bool) (f : Nat) (ps : List D) (b1 b2 : Box) : Qed :=
 [(500001, b1), (h, b2), (cu, ⟨c.map rI, 1, 3, true⟩), (wk, ⟨[[Zr w, .osl cu c.length, .bool hb, .clr f h ps]], 4, 73, false⟩)]
abbrev bA1 (rows : List (List Int)) : Box := ⟨rows.map rL, 1, 32, true⟩
abbrev bA2 (rows : List (List Int)) : Box := ⟨[[.osl 500001 rows.length]], 1, 29, false⟩
theorem Tu {w : Qv} {cur c : List Int} {hb : Bool} {most : Int} {rows : List (List Int)} (h : most <= rows.length) :
  OkH Tryd.prog 19 [ZT c, .ref 2000006 0 0, .ptr [.int .i64 most]] (HW 2000006 2500003 2500000 w cur hb 19 [.ptr [.int .i64 most]] (bA1 rows) (bA2 rows)) (.bool false) (HW 2000006 2500003 2500000 w cur hb 19 [.ptr [.int .i64 most]] (bA1 rows) (bA2 rows)) := by
 refine OkH.ofT Z5 Tryd.func19 QcR (Qeg rfl) (fun k _ h => h) (fun k b h => ?_) ?_
 ·simp only [Qr] at h
  (repeat' split at h) <;> first | (cases h; subst_vars; refine ⟨Wa, fun j hj => ?_⟩; simp [Box.ids, D.sid] at hj; done) | (cases h; subst_vars; refine ⟨Wa, fun j hj => ?_⟩; simp [Box.ids, D.sid, Zr] at hj; first | (subst hj; rfl) | (rcases hj with rfl | rfl <;> rfl)) | cases h
 show TW _ _ tf19.body _ _
 refine Qd fun K hK => ?_
 refine Qa rfl ?_
 refine hK _ _ (Zw (Qo rfl (Qo rfl (Qo rfl QJ))) ?_)
 clear hK K
 refine QC ?_
 refine Qd fun K hK => ?_
 refine Qs rfl rfl rfl ?_
 refine QP rfl rfl ?_
 refine Qs rfl rfl rfl ?_
 refine MU rfl rfl ?_
 refine hK _ _ (Zw (Qo rfl (Qo rfl (Qo rfl QJ))) ?_)
 clear hK K
 refine Qw rfl (fun _ => ?_) (fun h2 => absurd h (by simpa using h2))
 refine Qd fun K hK => ?_
 refine Qa rfl ?_
 refine hK _ _ (Zw (Qo rfl QJ) ?_)
 clear hK K
 refine Qq ?_
 refine Qg ?_
 exact Xj rfl rfl fun k b h => h
theorem SF {w : Qv} {cur c : List Int} {hb : Bool} {most : Int} {rows : List (List Int)} (h : ¬ most <= rows.length) (hl : rows.length <= 1048576) :
  OkH Tryd.prog 19 [ZT c, .ref 2000006 0 0, .ptr [.int .i64 most]] (HW 2000006 2500003 2500000 w cur hb 19 [.ptr [.int .i64 most]] (bA1 rows) (bA2 rows)) (.bool true) (HW 2000006 2500003 2500000 w cur hb 19 [.ptr [.int .i64 most]] (bA1 (rows ++ [c])) (bA2 (rows ++ [c]))) := by
 refine OkH.ofT Z5 Tryd.func19 QcR (Qeg rfl) (fun k hk h => ?_) (fun k b h => ?_) ?_
 ·simp only [Qr] at h ⊢
  (repeat' split) <;> simp_all [lk]
 ·simp only [Qr] at h
  (repeat' split at h) <;> first | (cases h; subst_vars; refine ⟨Wa, fun j hj => ?_⟩; simp [Box.ids, D.sid] at hj; done) | (cases h; subst_vars; refine ⟨Wa, fun j hj => ?_⟩; simp [Box.ids, D.sid, Zr] at hj; first | (subst hj; rfl) | (rcases hj with rfl | rfl <;> rfl)) | cases h
 show TW _ _ tf19.body _ _
 refine Qd fun K hK => ?_
 refine Qa rfl ?_
 refine hK _ _ (Zw (Qo rfl (Qo rfl (Qo rfl QJ))) ?_)
 clear hK K
 refine QC ?_
 refine Qd fun K hK => ?_
 refine Qs rfl rfl rfl ?_
 refine QP rfl rfl ?_
 refine Qs rfl rfl rfl ?_
 refine MU rfl rfl ?_
 refine hK _ _ (Zw (Qo rfl (Qo rfl (Qo rfl QJ))) ?_)
 clear hK K
 refine Qw rfl (fun h2 => absurd (by simpa using h2) h) (fun _ => ?_)
 refine Qt ?_
 refine QG (Qo rfl (Qo rfl QJ)) ?_
 refine Qd fun K hK => ?_
 refine Qs rfl rfl rfl ?_
 refine Qa rfl ?_
 refine Yt rfl rfl ?_
 refine J5 rfl rfl (fun _ h => QbM Wd h) rfl Wd rfl rfl rfl Wh Wh ?_
 refine Zn rfl rfl rfl rfl rfl rfl rfl rfl ?_
 refine hK _ _ (Zw QJ ?_)
 clear hK K
 refine Dd (QT (l := []) (lH := [500001, 2000006, 2500003, 2500000]) QJ (Qb rfl (Qb rfl (Qb rfl (Qb rfl Qj)))) rfl (H' := HW 2000006 2500003 2500000 w cur hb 19 [.ptr [.int .i64 most]] (bA1 (rows ++ [c])) (bA2 (rows ++ [c]))) (by simp only [HW, bA1, bA2, List.map_append, List.length_append] <;> rfl) rfl) ?_
 refine Qd fun K hK => ?_
 refine Qa rfl ?_
 refine hK _ _ (Zw (Qo rfl QJ) ?_)
 clear hK K
 refine Qq ?_
 exact Xj rfl rfl fun k b h => h
abbrev xF : Option (List Int) -> D
 | none => .fsl []
 | some c => ZT c
abbrev bF1 : Box := ⟨[], 1, 32, true⟩
abbrev bF2 (s : Option (List Int)) : Box := ⟨[[xF s]], 1, 32, true⟩
theorem Qa9 {w : Qv} {cur c : List Int} {hb : Bool} {s : Option (List Int)} :
  OkH Tryd.prog 25 [ZT c, .ref 2000006 0 0] (HW 2000006 2500003 2500000 w cur hb 25 [] bF1 (bF2 s)) (.bool false) (HW 2000006 2500003 2500000 w cur hb 25 [] bF1 (bF2 (some c))) := by
 refine OkH.ofT Z5 Tryd.func25 Qdc (Qeg rfl) (fun k hk h => ?_) (fun k b h => ?_) ?_
 ·simp only [Qr] at h ⊢
  (repeat' split) <;> simp_all [lk]
 ·simp only [Qr] at h
  (repeat' split at h) <;> first | (cases h; subst_vars; refine ⟨Wa, fun j hj => ?_⟩; simp [Box.ids, D.sid] at hj; done) | (cases h; subst_vars; refine ⟨Wa, fun j hj => ?_⟩; simp [Box.ids, D.sid, Zr] at hj; first | (subst hj; rfl) | (rcases hj with rfl | rfl <;> rfl)) | cases h
 show TW _ _ tf25.body _ _
 refine Qd fun K hK => ?_
 refine Qa rfl ?_
 refine hK _ _ (Zw (Qo rfl (Qo rfl QJ)) ?_)
 clear hK K
 refine Qd fun K hK => ?_
 refine Qa rfl ?_
 refine Zn rfl rfl rfl rfl rfl rfl rfl rfl ?_
 refine hK _ _ (Zw QJ ?_)
 clear hK K
 refine Dd (QT (l := []) (lH := [500001, 2000006, 2500003, 2500000]) QJ (Qb rfl (Qb rfl (Qb rfl (Qb rfl Qj)))) rfl (H' := HW 2000006 2500003 2500000 w cur hb 25 [] bF1 (bF2 (some c))) rfl rfl) ?_
 refine Qd fun K hK => ?_
 refine Qa rfl ?_
 refine hK _ _ (Zw (Qo rfl QJ) ?_)
 clear hK K
 refine Qq ?_
 exact Xj rfl rfl fun k b h => h
end Go.Proofs
namespace Go.Abs
open Go
/-! ### The same where the walk picks its state -/
section
variable {P : Program} {nt : Nat}
def ZZ (P : Program) : List AOper -> (St -> Prop) -> St -> Prop
 | [], K, s => K s
 | o :: r, K, s => run P .fixed [o] (ZZ P r K) s \/ D6 P o (ZZ P r K) s
theorem Qah {o : AOper} {r : List AOper} {K : St -> Prop} {s : St} (h : run P .fixed (o :: r) K s) : run P .fixed [o] (run P .fixed r K) s := by
 obtain ⟨dst, op, gd⟩ := o
 cases gd with
 | none => exact h
 | some p => exact h
theorem PD {K K' : St -> Prop} (hK : ∀ s, K s -> K' s) {l : List AOper} {dr : Dr} {s : St} (h : run P dr l K s) : run P dr l K' s := by
 obtain ⟨s', h1, h2⟩ := JL h
 exact h2 _ (hK _ h1)
theorem Tk {r : List AOper} {K : St -> Prop} : ∀ {l : List AOper} {s : St}, run P .fixed l (ZZ P r K) s -> ZZ P (l ++ r) K s
 | [], _, h => h
 | _ :: _, _, h => .inl (PD (fun _ h => Tk h) (Qah h))
theorem B5 {o : AOper} {K : St -> Prop} {s : St} (h : Df P o K s) : ∃ s', K s' /\ ∀ k2 : St -> Prop, k2 s' -> Df P o k2 s := by
 obtain ⟨h1, t, f, args, G, Hr, d, h2, h3, h4, h5⟩ := h
 exact ⟨_, h5, fun k2 hk => ⟨h1, t, f, args, G, Hr, d, h2, h3, h4, hk⟩⟩
theorem Bm {K : St -> Prop} : ∀ {l : List AOper} {s : St}, ZZ P l K s -> ∃ s', K s' /\ ∀ k2 : St -> Prop, k2 s' -> ZZ P l k2 s
 | [], s, h => ⟨s, h, fun _ hk => hk⟩
 | o :: r, s, h => by
  rcases h with h | ⟨s1, hle, h⟩
  ·obtain ⟨s2, h1, h2⟩ := JL h
   obtain ⟨s3, h3, h4⟩ := Bm h1
   exact ⟨s3, h3, fun k2 hk => .inl (h2 _ (h4 _ hk))⟩
  ·obtain ⟨s2, h1, h2⟩ := B5 h
   obtain ⟨s3, h3, h4⟩ := Bm h1
   exact ⟨s3, h3, fun k2 hk => .inr ⟨s1, hle, h2 _ (h4 _ hk)⟩⟩
theorem Bk {K : St -> Prop} : ∀ {l : List AOper} {s : St}, ZZ P l K s -> J8 P l K s
 | [], _, h => h
 | _ :: _, _, h => by
  rcases h with h | ⟨s1, hle, h⟩
  ·exact .inl (NA (fun _ h => Bk h) (Ye h))
  ·exact .inr ⟨s1, hle, Lx (fun _ h => Bk h) h⟩
theorem Bl {l lr ol : List AOper} {o : AOper} {K : St -> Prop} {s : St} (h : run P .fixed l (D6 P o (ZZ P lr K)) s) (hl : ol = l ++ o :: lr := by rfl) : ZZ P ol K s := by
 subst hl
 exact Tk (PD (fun _ h => .inr h) h)
theorem Qa2 {l : List AOper} {K : St -> Prop} {s : St} (h : run P .fixed l K s) : ZZ P l K s := by
 have := Tk (P := P) (r := []) (K := K) h
 rwa [List.append_nil] at this
theorem Be {Q : ZX -> St -> Prop} {s : St} {ol : List AOper} {live : List Nat} {b : TCode} (h : ∀ K : St -> Prop, (∀ fr H, TX P nt b Q ⟨Q6 live fr, H⟩ -> K ⟨fr, H⟩) -> ZZ P ol K s) : TX P nt (.seq (.region false ol) live b) Q s := by
 obtain ⟨s1, ⟨e, s2, h1, h2⟩, h3⟩ := Bm (h (fun st => TX P nt b Q ⟨Q6 live st.fr, st.H⟩) fun fr H h => h)
 exact ⟨e, s2, h1, PV fun K hK => Bk (h3 K (hK s1.fr s1.H h2))⟩
end
end Go.Abs
namespace Go.Abs
open Go
/-! ### What holds of a function that hands back a new slice of plain cells, on data, holds of it over own boxes -/
theorem TN {g g' : Gh} {d : D} {v : Value} (h : d.flat1 = true) (hv : RepS g d v) : RepS g' d v := by
 cases d <;> simp only [D.flat1, Qen] at h <;> exact hv
theorem TO {d : D} (h : d.flat1 = true) : d.sid = [] := by
 cases d <;> simp only [D.flat1, Qen] at h <;> rfl
theorem NF {g g' : Gh} {c : Array Value} : ∀ {off : Nat} {ds : List D}, (∀ d ∈ ds, d.flat1 = true) -> CellsC g c off ds -> CellsC g' c off ds
 | _, [], _, _ => by simp only [CellsC]
 | off, d :: ds, hf, h => by
  simp only [CellsC] at h ⊢
  obtain ⟨⟨h1, x, h2, h3⟩, h4⟩ := h
  exact ⟨⟨h1, x, h2, TN (hf d Wd) h3⟩, NF (fun y hy => hf y (by simp [hy])) h4⟩
theorem PC {g g' : Gh} {c : Array Value} : ∀ {off : Nat} {rs : List (List D)}, (∀ r ∈ rs, ∀ d ∈ r, d.flat1 = true) -> RowsC g c off rs -> RowsC g' c off rs
 | _, [], _, _ => by simp only [RowsC]
 | off, r :: rs, hf, h => by
  simp only [RowsC] at h ⊢
  exact ⟨NF (hf r Wd) h.1, PC (fun y hy => hf y (by simp [hy])) h.2⟩
theorem OkH.ofNew {P : Program} {f : Nat} {ds ds' : List D} {H : Qed} {k m : Nat} {b : Box} (n : Nat) (h : OkH P f ds' [] (.osl k m) [(k, b)]) (hds : ds.map (D.dfzT H n) = ds') (hp : ds.all D.dfzOk = true) (hf : ∀ r ∈ b.rows, ∀ d ∈ r, d.flat1 = true) (hk : k < 1000000) (hn : lk H k = none) : OkH P f ds H (.osl k m) ((k, b) :: H) := by
 refine ⟨h.1, fun g w vs hrel hargs hids => ?_⟩
 subst hds
 have hA : ∀ {ds : List D} {vs : List Value}, RepVs (KS w) ds vs -> RepA (⟨KS w, g.β, g.σ⟩ : Gh) ds vs := by
  intro ds
  induction ds with
  | nil => intro vs hh; cases vs with
   | nil => trivial
   | cons v vs => simp only [RepVs] at hh
  | cons d ds ih => intro vs hh; cases vs with
   | nil => simp only [RepVs] at hh
   | cons v vs =>
    simp only [RepVs] at hh
    exact ⟨Rep.of hh.1, ih hh.2⟩
 have hids' : ∀ x ∈ ds.map (D.dfzT H n), ∀ j ∈ x.ids, (lk ([] : Qed) j).isSome = true := by
  intro x hx j hj
  exfalso
  have key : ∀ {ds : List D} {vs : List Value}, RepVs (KS w) ds vs -> ∀ x ∈ ds, x.ids = [] := by
   intro ds
   induction ds with
   | nil => intro vs _ x hx; cases hx
   | cons d ds ih =>
    intro vs hh x hx
    cases vs with
    | nil => simp only [RepVs] at hh
    | cons v vs =>
     simp only [RepVs] at hh
     rcases Qeh.1 hx with rfl | hx
     ·exact Y7 hh.1
     ·exact ih hh.2 x hx
  rw [key (Fa hrel n hargs hp) x hx] at hj
  cases hj
 refine (h.2 ⟨KS w, g.β, g.σ⟩ w vs ⟨(fun _ _ h => by cases h), (fun _ _ h => by cases h), (fun _ _ _ _ _ _ _ h => by cases h), MB w⟩ (hA (Fa hrel n hargs hp)) hids').mono fun e w' ⟨v, g', he, hv, hr', hsz, hfr, hfx, hkeep, hnew⟩ => ?_
 have hno : ∀ B, ¬ Fk (⟨KS w, g.β, g.σ⟩ : Gh) [] B := fun B ⟨_, _, h, _⟩ => by cases h
 have hold : ∀ B, B < w.heap.size -> w'.heap[B]? = w.heap[B]? := fun B hB => (hfr B hB (hno B)).1
 have hbig : ∀ B e, g'.β k = some (B, e) -> w.heap.size <= B := fun B e hβ => by
  rcases hnew k B e hk (by rw [Qr, if_pos rfl]; rfl) hβ with h | ⟨_, _, _, h, _⟩
  ·exact h
  ·cases h
 obtain ⟨gu, guK, guβ, guσ⟩ : ∃ gu : Gh, (∀ B, gu.K B = if B < w.heap.size then g.K B else g'.K B) /\ (∀ j, gu.β j = if j = k then g'.β k else g.β j) /\ ∀ j, gu.σ j = if j = k then g'.σ k else g.σ j :=
  ⟨⟨fun B => if B < w.heap.size then g.K B else g'.K B, fun j => if j = k then g'.β k else g.β j, fun j => if j = k then g'.σ k else g.σ j⟩, fun _ => rfl, fun _ => rfl, fun _ => rfl⟩
 have hkk : gu.β k = g'.β k /\ gu.σ k = g'.σ k := by rw [guβ, guσ, if_pos rfl, if_pos rfl]; exact ⟨rfl, rfl⟩
 have hko : ∀ j, j ≠ k -> gu.β j = g.β j /\ gu.σ j = g.σ j := fun j hj => by rw [guβ, guσ, if_neg hj, if_neg hj]; exact ⟨rfl, rfl⟩
 have hne : ∀ j x, lk H j = some x -> j ≠ k := fun j x h e => by rw [e, hn] at h; cases h
 have hb0 := hr'.bx k b (by rw [Qr, if_pos rfl])
 refine ⟨v, gu, he, ?_, ⟨fun j x hj i hi => ?_, fun j x hj => ?_, fun j j' x x' B e e' h1 h2 h3 h4 => ?_, fun B o y hy => ?_⟩, hsz, fun B hB _ => ⟨hold B hB, by rw [guK, if_pos hB]⟩, hfx, fun j hj hs => ?_, fun j B e hj hs hβ => ?_⟩
 ·have hv' : RepS g' (.osl k m) v := hv
  show RepS gu (.osl k m) v
  simp only [RepS, Gh.gone] at hv' ⊢
  rw [hkk.1, hkk.2]; exact hv'
 ·rw [Qr] at hj
  split at hj
  ·cases hj
   unfold Box.ids at hi
   split at hi
   ·cases hi
   ·obtain ⟨r, hr, hi⟩ := Qem.1 hi
    obtain ⟨d, hd, hi⟩ := Qem.1 hi
    rw [TO (hf r hr d hd)] at hi; cases hi
  ·rw [Qr]; split
   ·rfl
   ·exact hrel.wfH j x hj i hi
 ·rw [Qr] at hj
  split at hj
  ·rename_i e0; cases hj; subst e0
   obtain ⟨b1, b2, b3⟩ := hb0
   rcases b3 with ⟨x1, ⟨y1, y2⟩ | ⟨i1, i2, i3, sv, p, B, i4, i5, i6, i7, i8, i9⟩⟩ | ⟨h4, B, c, h5, h6, h7, h8, h9, h10⟩
   ·exact ⟨b1, b2, .inl ⟨x1, .inl ⟨by rw [hkk.1]; exact y1, by rw [hkk.2]; exact y2⟩⟩⟩
   ·have := hbig B _ i5
    exact ⟨b1, b2, .inl ⟨x1, .inr ⟨i1, i2, i3, sv, p, B, i4, by rw [hkk.1]; exact i5, i6, fun o => by rw [guK, if_neg Wa]; exact i7 o, i8, by rw [hkk.2]; exact i9⟩⟩⟩
   ·have := hbig B _ h5
    exact ⟨b1, b2, .inr ⟨h4, B, c, by rw [hkk.1]; exact h5, h6, by rw [hkk.2]; exact h7, by rw [hkk.2]; exact PC hf h8, fun o => by rw [guK, if_neg Wa]; exact h9 o, h10⟩⟩
  ·have hjk := hne j x hj
   refine (hrel.bx j x hj).move (hko j hjk) (fun r hr d hd i hi => ?_) (fun B o y hy => ?_) fun B e hβ => ⟨hold B ((hrel.bx j x hj).blk hβ).1, fun o ho => by rw [guK, if_pos ((hrel.bx j x hj).blk hβ).1]; exact ho, fun _ => .inl (Qer _)⟩
   ·have := hrel.sid hj r hr d hd i hi
    obtain ⟨z, hz⟩ := Qel.1 this
    exact hko i (hne i z hz)
   ·rw [guK, if_pos (hrel.kr.lt hy)]; exact hy
 ·have sep : ∀ j x B e e', lk H j = some x -> g'.β k = some (B, e) -> g.β j = some (B, e') -> False := fun j x B e e' h1 h2 h3 => by
   have := hbig B e h2
   have := ((hrel.bx j x h1).blk h3).1
   omega
  rw [Qr] at h1 h2
  split at h1
  ·rename_i e1
   split at h2
   ·rename_i e2; exact e1.symm.trans e2
   ·have := hne j' x' h2
    rw [(hko j' this).1] at h4
    subst e1
    rw [hkk.1] at h3
    exact (sep j' x' B e e' h2 h3 h4).elim
  ·have hj := hne j x h1
   rw [(hko j hj).1] at h3
   split at h2
   ·rename_i e2
    subst e2
    rw [hkk.1] at h4
    exact (sep j x B e' e h1 h4 h3).elim
   ·have := hne j' x' h2
    rw [(hko j' this).1] at h4
    exact hrel.inj j j' x x' B e e' h1 h2 h3 h4
 ·rw [guK] at hy
  split at hy
  ·rename_i hB
   obtain ⟨c, e, f, q1, q2⟩ := hrel.kr B o y hy
   exact ⟨c, e, f, by rw [hold B hB]; exact q1, q2⟩
  ·exact hr'.kr B o y hy
 ·have hjk : j ≠ k := Wa
  exact ⟨by rw [Qr, if_neg (Ne.symm hjk)]; exact hs, (hko j hjk).1, (hko j hjk).2⟩
 ·by_cases hjk : j = k
  ·subst hjk
   rw [hkk.1] at hβ
   exact .inl (hbig B e hβ)
  ·rw [Qr, if_neg (Ne.symm hjk)] at hs
   rw [(hko j hjk).1] at hβ
   exact .inr ⟨j, e, hj, hs, hβ⟩
theorem Qc2 {a b : Nat} (ha : a < 1000000) (hb : b < 1000000) : Rn (CW a b) (CW a b) where
 inv k := by unfold CW; (repeat' split) <;> omega
 small k := by unfold CW; (repeat' split) <;> omega
theorem Ri {fr fr1 : Qee} {H H1 : Qed} {l lH : List Nat} (k k0 j : Nat) {n : Nat} {b : Box} {row row' : List D} {e0 t0 : Nat} (hf : Q6 l fr = fr1) (hH : Hq lH H = H1) (hb : lk H k = some b) (hp : b.pr = true) (hn : n = b.rows.length) (h0 : lk H k0 = some ⟨[row], e0, t0, false⟩) (hj : row[j]? = some (.osl k n)) (hr : row.set j (.sl b.rows) = row') (hr2 : (row'.all fun d => !d.sid.contains k) = true)
  (c1 : (fr1.all fun p => !p.2.ids.contains k) = true) (c2 : (H1.all fun p => p.1 != k && (p.2.pr || !p.2.ids.contains k)) = true) (hw : wfB ((k0, ⟨[row'], e0, t0, false⟩) :: H1) fr1 = true) (hbk : Bt H ((k0, ⟨[row'], e0, t0, false⟩) :: H1) = true) (hk : k < 1000000 := by decide) (hkk : k0 ≠ k := by decide) : St.le ⟨fr, H⟩ ⟨fr1, (k0, ⟨[row'], e0, t0, false⟩) :: H1⟩ := by
 intro E g a w r
 obtain ⟨g', _, r'⟩ := r.freeze k hk
 subst hf hH hr
 simp only [wfB, Qej, Qep] at hw
 simp only [Qep, Bool.not_eq_true', List.contains_eq_mem, decide_eq_false_iff_not] at c1 hr2
 simp only [Qep, Qej, Bool.or_eq_true, Bool.not_eq_true', List.contains_eq_mem, decide_eq_false_iff_not, bne_iff_ne, ne_eq] at c2
 have hS : ∀ (x : D), k ∉ x.ids -> x.fz H (· == k) = x := fun x hx => CH fun i hi => by
  simp only [beq_eq_false_iff_ne, ne_eq]; rintro rfl; exact hx hi
 have hrow : row.map (D.fzS H (· == k)) = row.set j (.sl b.rows) := by
  have hjl : j < row.length := (List.getElem?_eq_some_iff.1 hj).1
  apply List.ext_getElem
  ·simp
  ·intro i h1 h2
   rw [List.getElem_map, List.getElem_set]
   split
   ·rename_i e; subst e
    have : row[j] = .osl k n := (List.getElem?_eq_some_iff.1 hj).2
    rw [this]
    simp only [D.fzS, beq_self_eq_true, if_true, hb, hp, hn, and_self]
   ·rename_i e
    have hil : i < row.length := by simpa using h1
    have hm : row[i] ∈ row.set j (.sl b.rows) := by
     refine List.mem_iff_getElem.2 ⟨i, by simpa using hil, ?_⟩
     rw [List.getElem_set_ne e]
    have := hr2 _ hm
    generalize row[i] = d at this ⊢
    cases d <;> try rfl
    all_goals
     simp only [D.sid, Qeo] at this
     simp only [D.fzS]
     rw [if_neg (by simp only [beq_iff_eq]; exact fun e => this e.symm)]
 refine ⟨g', r'.less (fun u d h => ?_) (fun j2 x h => ?_) (fun u d h j hj => hw.1 (u, d) (ZR h) j hj) (fun j x h i hi => hw.2 (j, x) (ZR h) i hi) fun j2 hj2 hs => ?_⟩
 ·simp only [St.freeze, Z8]
  have h1 := YL l fr u d h
  rw [h1, Option.map_some, hS d (c1 (u, d) (ZR h))]
 ·rw [Qr] at h
  simp only [St.freeze, H6]
  split at h
  ·rename_i e; cases h; subst e
   rw [if_neg hkk, Z8 (Box.fz H (· == k)), h0, Option.map_some]
   simp only [Box.fz, Qen, if_false, List.map_cons, List.map_nil, hrow]
  ·have h1 := JU lH H j2 x h
   have h2 := c2 (j2, x) (ZR h)
   rw [if_neg h2.1, Z8 (Box.fz H (· == k)), h1, Option.map_some]
   congr 1
   refine MZ (h2.2.imp id fun h3 i hi => ?_)
   simp only [beq_eq_false_iff_ne, ne_eq]; rintro rfl; exact h3 hi
 ·have : (lk H j2).isSome = true := by
   simp only [St.freeze, H6] at hs
   rw [if_neg Wa, Z8 (Box.fz H (· == k)), Qex] at hs
   exact hs
  exact FE hbk j2 hj2 this
end Go.Abs
namespace Go.Proofs
open Go Go.Abs M3 M25
theorem X2 {ρ : Nat -> Nat} {c : List Int} : (c.map rI).map (fun r => r.map (D.renS ρ)) = c.map rI := by simp [rI, D.renS, Function.comp]
theorem Dy {c : List Int} (hc : c ≠ []) (hl : c.length <= 1048576) : OkH Tryd.prog 34 [ZT c] [] (.osl 500000 c.length) [(500000, ⟨c.map rI, 1, 3, true⟩)] := by
 refine OkH.new Z5 Tryd.func34 Qdl (Qeg rfl) rfl ?_
 show TW _ _ tf34.body _ _
 refine Qd fun K hK => ?_
 refine Qa rfl ?_
 refine hK _ _ (Zw (Qo rfl (QJ)) ?_)
 clear hK K
 refine QC ?_ -- 0
 refine Qd fun K hK => ?_
 refine Qa rfl ?_
 refine Dk rfl (by simpa using hc) ?_
 refine hK _ _ (Zw (Qo rfl (Qo rfl (QJ))) ?_)
 clear hK K
 refine Ze rfl ?_
 refine Qt ?_
 refine QG (Qo rfl (QJ)) ?_
 refine Qd fun K hK => ?_
 refine Zl rfl rfl ?_
 refine Qa rfl ?_
 refine J5 rfl rfl (fun _ h => QbN (QbG c) h) rfl Wd rfl rfl rfl Wh Wh ?_
 refine Qa rfl ?_
 refine hK _ _ (Zw (Qo rfl (QJ)) ?_)
 clear hK K
 refine Dd (BO (l := []) (lH := []) 5 500000 2 QJ Qj rfl rfl rfl rfl rfl rfl rfl) ?_
 refine Qq ?_
 exact Xj rfl (by simp [Qay, D.fz, D.fzS, small, D.can, D.canS, ZT]) fun k b h => h
theorem Dx {s : St} {c : List Int} (hc : c ≠ []) (hl : c.length <= 1048576) (h1 : s.ev (.s 25) = some (.osl 1500003 c.length)) (h2 : lk s.H 1500003 = some ⟨c.map rI, 1, 3, true⟩) (h3 : lk s.H 26 = none) :
  JF Tryd.prog 34 [.s 25] s [(1500003, ⟨c.map rI, 1, 3, true⟩)] [(26, ⟨c.map rI, 1, 3, true⟩)] [] (.osl 26 c.length) := by
 refine ⟨[.osl 1500003 c.length], by simp [Q8, h1], fun k b hk => ?_, fun k b hk j hj => ?_, fun x hx j hj => ?_, (fun k b hk => by cases hk), fun k b hk => ?_, fun k hk => ?_, .inl ?_⟩
 ·obtain ⟨rfl, rfl⟩ := Sb hk; exact h2
 ·obtain ⟨rfl, rfl⟩ := Sb hk; simp [Box.ids] at hj
 ·simp at hx; subst hx; simp [D.ids, D.sid] at hj; subst hj; rfl
 ·obtain ⟨rfl, rfl⟩ := Sb hk; exact ⟨by decide, h3, fun j hj => by simp [Box.ids] at hj⟩
 ·simp [D.ids, D.sid] at hk; subst hk; rfl
 ·have h4 := OkH.rnm' (Qc2 (a := 500000) (b := 26) Wf Wf) (Dy hc hl) (ds2 := [ZT c]) (H2 := []) (d2 := .osl 26 c.length) (H2' := [(26, ⟨c.map rI, 1, 3, true⟩)]) rfl rfl rfl (by simp only [NS, List.map_cons, List.map_nil, Box.ren, X2]; rfl)
  have h5 := OkH.ofNew (H := upH [(1500003, ⟨c.map rI, 1, 3, true⟩)]) (ds := [D.osl 2500003 c.length]) 3 h4 (by
   simp only [upH, List.map_cons, List.map_nil, Box.ren, X2, D.dfzT, D.dfz, Qr]
   simp [upN, rI, D.dfz, D.own, ZT]) rfl (fun r hr d hd => by obtain ⟨v, _, rfl⟩ := Qet.1 hr; simp [rI] at hd; subst hd; rfl) Wf rfl
  exact h5
structure PutOk {σ : Type} (w : Qv) (hb : Bool) (p : N0 σ) (B1 B2 : σ -> Box) (f : Nat) (ps : List D) : Prop where
 p1 : ∀ s, (B1 s).pr = true
 s1 : ∀ s, ∀ r ∈ (B1 s).rows, ∀ d ∈ r, d.sid = []
 s2 : ∀ s, ∀ r ∈ (B2 s).rows, ∀ d ∈ r, ∀ j ∈ d.sid, j = 500001
 cap : ps.all D.capOk = true
 ren : ∀ ρ : Nat -> Nat, (ps.map fun d => (d.ren ρ).can) = ps
 ids : ∀ d ∈ ps, d.ids = []
 ok : ∀ s cur c, p.ok s 1 -> OkH Tryd.prog f (ZT c :: .ref 2000006 0 0 :: ps) (HW 2000006 2500003 2500000 w cur hb f ps (B1 s) (B2 s)) (.bool (p.st s c).2) (HW 2000006 2500003 2500000 w cur hb f ps (B1 (p.st s c).1) (B2 (p.st s c).1))
section
variable {σ : Type} {w : Qv} {hb : Bool} {p : N0 σ} {B1 B2 : σ -> Box} {f : Nat} {ps : List D} (hp : PutOk w hb p B1 B2 f ps)
include hp
theorem PutOk.i1 (s : σ) : (B1 s).ids = [] := by unfold Box.ids; rw [hp.p1 s]; rfl
theorem PutOk.i2 (s : σ) : ∀ j ∈ (B2 s).ids, j = 500001 := fun j hj => by
 unfold Box.ids at hj
 split at hj
 ·cases hj
 ·obtain ⟨r, hr, hj⟩ := Qem.1 hj
  obtain ⟨d, hd, hj⟩ := Qem.1 hj
  exact hp.s2 s r hr d hd j hj
omit hp in
theorem M0 {ρ : Nat -> Nat} {b : Box} (h : ∀ r ∈ b.rows, ∀ d ∈ r, ∀ j ∈ d.sid, ρ j = j) : b.ren ρ = b := by
 obtain ⟨rows, esz, et, pr⟩ := b
 simp only [Box.ren, Box.mk.injEq, and_true]
 have : ∀ l : List (List D), (∀ r ∈ l, ∀ d ∈ r, ∀ j ∈ d.sid, ρ j = j) -> (l.map fun r => r.map (D.renS ρ)) = l := by
  intro l
  induction l with
  | nil => intro _; rfl
  | cons r l ih =>
   intro hl
   rw [List.map_cons, ih fun r' hr' => hl r' (by simp [hr'])]
   congr 1
   have h2 := hl r Wd
   clear hl ih
   induction r with
   | nil => rfl
   | cons d r ih =>
    rw [List.map_cons, ih fun d' hd' => h2 d' (by simp [hd'])]
    congr 1
    have h3 := h2 d Wd
    cases d <;> first | rfl | (simp only [D.renS]; rw [h3 _ Wo])
 exact this rows h
theorem PutOk.r1 {ρ : Nat -> Nat} (s : σ) : (B1 s).ren ρ = B1 s := M0 fun r hr d hd j hj => by rw [hp.s1 s r hr d hd] at hj; cases hj
theorem PutOk.r2 {ρ : Nat -> Nat} (h : ρ 500001 = 500001) (s : σ) : (B2 s).ren ρ = B2 s := M0 fun r hr d hd j hj => by rw [hp.s2 s r hr d hd j hj]; exact h
theorem DW (c : List Int) (s : σ) : ∀ k b, lk (HW 1000006 1500003 1500000 w c hb f ps (B1 s) (B2 s)) k = some b -> 500000 <= k /\ ∀ j ∈ b.ids, (lk (HW 1000006 1500003 1500000 w c hb f ps (B1 s) (B2 s)) j).isSome = true := fun k b h => by
 simp only [Qr] at h
 split at h
 ·cases h; subst_vars
  exact ⟨Wa, fun j hj => by rw [hp.i1 s] at hj; cases hj⟩
 ·split at h
  ·cases h; subst_vars
   exact ⟨Wa, fun j hj => by rw [hp.i2 s j hj]; rfl⟩
  ·split at h
   ·cases h; subst_vars
    exact ⟨Wa, fun j hj => by simp [Box.ids] at hj⟩
   ·split at h
    ·cases h; subst_vars
     refine ⟨Wa, fun j hj => ?_⟩
     simp [Box.ids, D.sid, Zr] at hj
     rcases hj with rfl | rfl <;> rfl
    ·cases h
omit hp in
theorem Rg {c c' : List Int} {b1 b2 b1' b2' : Box} : ∀ k, 1000000 <= k -> (lk (HW 1000006 1500003 1500000 w c hb f ps b1 b2) k).isSome = true -> (lk (HW 1000006 1500003 1500000 w c' hb f ps b1' b2') k).isSome = true := fun k _ h => by
 simp only [Qr] at h ⊢
 (repeat' split) <;> simp_all [lk]
theorem HY {c : List Int} {s : σ} {fr : Qee} (h : (fr.all fun q => q.2.ids.all fun k => (lk (HW 1000006 1500003 1500000 w c hb f ps (B1 s) (B2 s)) k).isSome) = true) : wfB (HW 1000006 1500003 1500000 w c hb f ps (B1 s) (B2 s)) fr = true := by
 simp only [wfB, Qej]
 refine ⟨h, ?_⟩
 simp only [List.all_cons, List.all_nil, Bool.and_true, Qej, Qep]
 refine ⟨fun j hj => ?_, fun j hj => ?_, fun j hj => ?_, fun j hj => ?_⟩
 ·rw [hp.i1 s] at hj; cases hj
 ·rw [hp.i2 s j hj]; rfl
 ·simp [Box.ids] at hj
 ·simp [Box.ids, D.sid, Zr] at hj
  rcases hj with rfl | rfl <;> rfl
end
end Go.Proofs
namespace Go.Proofs
open Go Go.Abs M3 M25
abbrev WB (w : Qv) (c : List Int) (hb : Bool) (f : Nat) (ps : List D) : Box := ⟨[[Zr w, .osl 1500003 c.length, .bool hb, .clr f 1000006 ps]], 4, 73, false⟩
theorem up1 : upN 500001 = 1500001 := by unfold upN; rfl
theorem up2 : upN 1000006 = 2000006 := by unfold upN; rfl
theorem up3 : upN 1500003 = 2500003 := by unfold upN; rfl
theorem up4 : upN 1500000 = 2500000 := by unfold upN; rfl
theorem SZ {ρ : Nat -> Nat} {w : Qv} : D.renS ρ (Zr w) = Zr w := rfl
theorem BS {w : Qv} {c : List Int} {hb : Bool} {f : Nat} {ps : List D} {b1 b2 : Box} : D.dfzT (upH (HW 1000006 1500003 1500000 w c hb f ps b1 b2)) 3 (Dt (.ref 1500000 0 0)) = .ptr [Zr w, ZT c, .bool hb, .junk] := by
 have n1 : Dt (.ref 1500000 0 0) = .ref 2500000 0 0 := by simp [Dt, D.ren, D.renS, upN, D.can, D.canS]
 have e0 : upH (HW 1000006 1500003 1500000 w c hb f ps b1 b2) = [(1500001, b1.ren upN), (2000006, b2.ren upN), (2500003, ⟨(c.map rI).map (fun r => r.map (D.renS upN)), 1, 3, true⟩), (2500000, ⟨[[Zr w, .osl 2500003 c.length, .bool hb, .clr f 2000006 ps]], 4, 73, false⟩)] := by
  simp only [upH, List.map_cons, List.map_nil, up1, up2, up3, up4]
  simp only [Box.ren, List.map_cons, List.map_nil, SZ]
  simp only [D.renS, up2, up3]
 have e1 : lk (upH (HW 1000006 1500003 1500000 w c hb f ps b1 b2)) 2500000 = some ⟨[[Zr w, .osl 2500003 c.length, .bool hb, .clr f 2000006 ps]], 4, 73, false⟩ := by rw [e0]; simp [Qr]
 have e2 : lk (upH (HW 1000006 1500003 1500000 w c hb f ps b1 b2)) 2500003 = some ⟨(c.map rI).map (fun r => r.map (D.renS upN)), 1, 3, true⟩ := by rw [e0]; simp [Qr]
 rw [X2] at e2
 rw [n1]
 generalize upH (HW 1000006 1500003 1500000 w c hb f ps b1 b2) = H at e1 e2 ⊢
 show D.dfz H 3 (.ref 2500000 0 0) = _
 have e3 : D.dfz H 2 (.osl 2500003 c.length) = ZT c := by
  unfold D.dfz
  simp only [e2, List.length_map, if_true]
  simp [rI, D.dfz, D.own, ZT]
 unfold D.dfz
 simp only [e1, List.getD_cons_zero, List.drop_zero, List.map_cons, List.map_nil, e3]
 rfl
theorem evC {s : St} : ∀ {ps : List D}, Q8 s (ps.map .c) = some ps
 | [] => rfl
 | d :: ps => by simp only [List.map_cons, Q8, St.ev, evC]
section
variable {σ : Type} {w : Qv} {hb : Bool} {p : N0 σ} {B1 B2 : σ -> Box} {f : Nat} {ps : List D} (hp : PutOk w hb p B1 B2 f ps)
include hp
theorem T6 {c : List Int} {b1 b2 : Box} : ∀ q ∈ HW 1000006 1500003 1500000 w c hb f ps b1 b2, lk (HW 1000006 1500003 1500000 w c hb f ps b1 b2) q.1 = some q.2 := fun q hq => by
 simp only [HW, Qeh, List.not_mem_nil, or_false] at hq
 rcases hq with rfl | rfl | rfl | rfl <;> rfl
theorem R6 {c c' : List Int} {b1 b2 b1' b2' : Box} : ∀ j ∈ (HW 1000006 1500003 1500000 w c hb f ps b1 b2).map Prod.fst, (lk (HW 1000006 1500003 1500000 w c' hb f ps b1' b2') j).isSome = true := fun j hj => by
 simp only [HW, List.map_cons, List.map_nil, Qeh, List.not_mem_nil, or_false] at hj
 rcases hj with rfl | rfl | rfl | rfl <;> rfl
theorem T5 (c : List Int) (s : σ) : ∀ q ∈ HW 1000006 1500003 1500000 w c hb f ps (B1 s) (B2 s), ∀ j ∈ q.2.ids, (lk (HW 1000006 1500003 1500000 w c hb f ps (B1 s) (B2 s)) j).isSome = true := fun q hq => (DW hp c s q.1 q.2 (T6 hp q hq)).2
variable (hw : WSm w) (hr : WIn w) (h0 : 0 < w.length)
include hw hr h0
theorem QbU {s : St} {c : List Int} {x : σ} {t : Bool} (hch : ChOk w c) (hc0 : 0 <= cA c 0) (ht : tidyB w c = t) (h1 : Q8 s [.s 14] = some [.ref 1500000 0 0]) (hH : s.H = HW 1000006 1500003 1500000 w c hb f ps (B1 x) (B2 x)) :
  JF Tryd.prog 33 [.s 14] s (HW 1000006 1500003 1500000 w c hb f ps (B1 x) (B2 x)) [] [(1500000, WB w c hb f ps)] (.bool t) :=
 Tw 3 (ht ▸ Xx hw hr hch (hb := hb) h0 hc0) h1 (by rw [hH]; exact T6 hp) (T5 hp c x) rfl (by rw [List.map_cons, List.map_nil, List.map_cons, List.map_nil, BS]) rfl rfl rfl rfl
theorem Qat {c : List Int} {x : σ} (hch : ChOk w c) (hc0 : 0 <= cA c 0) (ht : tidyB w c = false) :
  OkH Tryd.prog 20 [.ref 1500000 0 0, .int .i64 w.length] (HW 1000006 1500003 1500000 w c hb f ps (B1 x) (B2 x)) (.bool true) (HW 1000006 1500003 1500000 w c hb f ps (B1 x) (B2 x)) := by
 have hcl := hch.len
 refine OkH.ofT Z5 Tryd.func20 QcE (Qeg rfl) (Rg) (DW hp c x) ?_
 show TW _ _ tf20.body _ _
 refine Qd fun K hK => ?_
 refine Qa rfl ?_
 refine hK _ _ (Zw (Qo rfl (Qo rfl (QJ))) ?_)
 clear hK K
 refine QC ?_
 refine Qd fun K hK => ?_
 refine Qa rfl ?_
 refine Qa rfl ?_
 refine Za rfl rfl ?_
 refine Qe rfl rfl ?_
 refine Qs rfl rfl rfl ?_
 refine QP rfl rfl ?_
 refine Xd rfl rfl ?_
 refine hK _ _ (Zw (Qo rfl (Qo rfl (Qo rfl (QJ)))) ?_)
 clear hK K
 refine Qw rfl (fun _ => ?_) (fun h => absurd h (by simp [hcl]))
 refine Qd fun K hK => ?_
 refine Qa rfl ?_
 refine Tb (QbU hp hw hr h0 hch hc0 ht rfl rfl) (R6 hp) rfl rfl ?_
 refine Zv rfl ?_
 refine Qa rfl ?_
 refine Yv rfl ?_
 refine Yv rfl ?_
 refine Yv rfl ?_
 refine Yv rfl ?_
 refine Yv rfl ?_
 refine Yv rfl ?_
 refine Yv rfl ?_
 refine Yv rfl ?_
 refine Yv rfl ?_
 refine Yv rfl ?_
 refine Qf rfl rfl ?_
 refine Qa rfl ?_
 refine hK _ _ (Zw (Qo rfl (QJ)) ?_)
 clear hK K
 refine Qq ?_
 refine Qg ?_
 refine Xj rfl rfl fun k b h => ?_
 rw [Qr]
 by_cases e : 1500000 = k
 ·subst e; rw [if_pos rfl]; exact h
 ·rw [if_neg e]; exact h
theorem BK {c : List Int} {x : σ} : ((HW 1000006 1500003 1500000 w c hb f ps (B1 x) (B2 x)).all fun q => q.1 != 26 && (q.2.pr || !q.2.ids.contains 26)) = true := by
 simp only [HW, List.all_cons, List.all_nil, Bool.and_true, Qej]
 refine ⟨⟨rfl, by rw [hp.p1 x]; rfl⟩, ⟨rfl, ?_⟩, ⟨rfl, rfl⟩, ⟨rfl, ?_⟩⟩
 ·rw [Bool.or_eq_true]
  right
  rw [Bool.not_eq_true', List.contains_eq_mem, decide_eq_false_iff_not]
  intro h
  have := hp.i2 x 26 h
  omega
 ·rfl
theorem CK {c : List Int} {x : σ} : ∀ j, lk (J3 [500001] (HW 1000006 1500003 1500000 w c hb f ps (B1 x) (B2 x))) j = lk (HW 2000006 2500003 2500000 w c hb f ps (B1 x) (B2 x)) j := fun j => by
 have e : J3 [500001] (HW 1000006 1500003 1500000 w c hb f ps (B1 x) (B2 x)) = HW 2000006 2500003 2500000 w c hb f ps (B1 x) (B2 x) := by
  have e1 : Xb [500001] 500001 = 500001 := rfl
  have e2 : Xb [500001] 1000006 = 2000006 := rfl
  have e3 : Xb [500001] 1500003 = 2500003 := rfl
  have e4 : Xb [500001] 1500000 = 2500000 := rfl
  simp only [J3, HW, List.map_cons, List.map_nil, e1, e2, e3, e4, hp.r1, hp.r2 e1]
  simp only [Box.ren, X2, List.map_cons, List.map_nil, D.renS, e2, e3]
  rfl
 rw [e]
theorem Cq {c : List Int} {x : σ} (hch : ChOk w c) (hc0 : 0 <= cA c 0) (ht : tidyB w c = true) (hok : p.ok x 1) :
  OkH Tryd.prog 20 [.ref 1500000 0 0, .int .i64 w.length] (HW 1000006 1500003 1500000 w c hb f ps (B1 x) (B2 x)) (.bool (p.st x c).2) (HW 1000006 1500003 1500000 w c hb f ps (B1 (p.st x c).1) (B2 (p.st x c).1)) := by
 have hcl := hch.len
 have hwl := hw.len
 have hne : c ≠ [] := by intro e; subst e; simp at hcl; omega
 refine OkH.ofT Z5 Tryd.func20 QcE (Qeg rfl) (Rg) (DW hp c (p.st x c).1) ?_
 show TW _ _ tf20.body _ _
 refine Qd fun K hK => ?_
 refine Qa rfl ?_
 refine hK _ _ (Zw (Qo rfl (Qo rfl (QJ))) ?_)
 clear hK K
 refine QC ?_
 refine Qd fun K hK => ?_
 refine Qa rfl ?_
 refine Qa rfl ?_
 refine Za rfl rfl ?_
 refine Qe rfl rfl ?_
 refine Qs rfl rfl rfl ?_
 refine QP rfl rfl ?_
 refine Xd rfl rfl ?_
 refine hK _ _ (Zw (Qo rfl (Qo rfl (Qo rfl (QJ)))) ?_)
 clear hK K
 refine Qw rfl (fun _ => ?_) (fun h => absurd h (by simp [hcl]))
 (refine Bd (l1 := (match tf20.body with | .seq _ _ (.seq (.seq _ _ (.cond _ (.seq (.region _ l) _ _) _)) _ _) => l.take 13 | _ => [])) (l2 := (match tf20.body with | .seq _ _ (.seq (.seq _ _ (.cond _ (.seq (.region _ l) _ _) _)) _ _) => l.drop 14 | _ => [])) (fun K hK => ?_))
 refine Qa rfl ?_
 refine Tb (QbU hp hw hr h0 hch hc0 ht rfl rfl) (R6 hp) rfl rfl ?_
 refine Zv rfl ?_
 refine Qa rfl ?_
 refine Qc rfl ?_
 refine Qa rfl ?_
 refine Qc rfl ?_
 refine Za rfl rfl ?_
 refine Qc rfl ?_
 refine Qe rfl rfl ?_
 refine Qc rfl ?_
 refine QQ rfl rfl rfl rfl rfl ?_
 refine Qc rfl ?_
 refine Qa rfl ?_
 refine Qc rfl ?_
 refine Za rfl rfl ?_
 refine Qc rfl ?_
 refine Qe rfl rfl ?_
 refine Qc rfl ?_
 refine QQ rfl rfl rfl rfl rfl ?_
 refine Qc rfl ?_
 refine Dj (Dx hne Wa rfl rfl rfl) rfl (fun j hj => by simp at hj; subst hj; rfl) rfl rfl ?_
 refine SC ?_
 (refine GH (le_trans (Li (l := [17, 21]) (lH := [500001, 1000006, 1500003, 1500000]) 26 26 (Qo rfl (Qo rfl QJ)) (Qb rfl (Qb rfl (Qb rfl (Qb rfl Qj)))) rfl rfl rfl Wd rfl (BK hp hw hr h0) (HY hp rfl) rfl) (QT (l := [17, 21, 26]) (lH := [500001, 1000006, 1500003, 1500000]) (Qo rfl (Qo rfl (Qo rfl QJ))) (Qb rfl (Qb rfl (Qb rfl (Qb rfl Qj)))) rfl rfl (HY hp (fr := [(17, .bool false), (21, .clr f 1000006 ps), (26, ZT c)]) rfl) rfl)) ?_)
 (refine Lw (Hr := HW 1000006 1500003 1500000 w c hb f ps (B1 (p.st x c).1) (B2 (p.st x c).1)) (G := [500001]) (ds := ZT c :: .ref 1000006 0 0 :: ps) rfl rfl rfl (by simp [D.capOk, hp.cap]) ?_ rfl rfl rfl rfl rfl ?_ (hp.ok x c c hok) (CK hp hw hr h0) (CK hp hw hr h0) ?_)
 ·simp only [List.map_cons, List.cons_append, List.nil_append, Q8, St.ev, evC]
  rfl
 ·rw [List.map_cons, List.map_cons, hp.ren]; rfl
 refine Qf rfl rfl ?_
 refine Qa rfl ?_
 refine hK _ _ (Zw (Qo rfl (QJ)) ?_)
 clear hK K
 refine Qq ?_
 refine Qg ?_
 exact Xj rfl rfl fun k b h => h
end
end Go.Proofs
namespace M25
open Go Go.Abs M3
/-! ### One unit's round -/
section
variable {σ : Type} {p : N0 σ} {F : Nat -> List (List Int)} {s s' : σ} {j n : Nat}
theorem MA (h : X7 p s ((List.range j).flatMap F) = (s', true)) : X7 p s ((List.range (j + 1)).flatMap F) = X7 p s' (F j) := by
 rw [List.range_succ, List.flatMap_append, Mz, h, if_pos rfl]
 simp
theorem Nc (h : j < n) : List.range n = List.range (j + 1) ++ (List.range' (j + 1) (n - (j + 1))) := by
 rw [List.range_eq_range', List.range_eq_range']
 have := List.range'_append_1 (s := 0) (m := j + 1) (n := n - (j + 1))
 rw [Nat.zero_add] at this
 rw [this, show j + 1 + (n - (j + 1)) = n by omega]
theorem Ce (hj : j < n) (h : X7 p s ((List.range j).flatMap F) = (s', true)) (h2 : (X7 p s' (F j)).2 = false) : X7 p s ((List.range n).flatMap F) = X7 p s' (F j) := by
 rw [Nc hj, List.flatMap_append, Mz, MA h, if_neg (by rw [h2]; simp)]
theorem QbJ (hj : j < n) (h : X7 p s ((List.range j).flatMap F) = (s', true)) (hok : p.ok s ((List.range n).flatMap F).length) : p.ok s' (F j).length := by
 have := LP (p := p) (s := s) (a := (List.range j).flatMap F) (k := (F j).length) (p.mono hok (by
  rw [Nc hj, List.flatMap_append, List.length_append, List.range_succ, List.flatMap_append, List.length_append]
  simp))
 rwa [h] at this
end
section
variable {w : Qv} {c q : List Int} {l : Nat} {x : Int}
theorem KR (hq : c.take l = q) (hl : l < c.length) : (c.set l x).take (l + 1) = q ++ [x] := by
 rw [List.take_succ_eq_append_getElem (by simpa using hl), List.take_set_of_le (Nat.le_refl _), hq]
 simp
theorem Fp (hq : c.take l = q) (hl : l < c.length) : Yp w (c.set l x) l = Yp w (q ++ [x]) l := by
 have h : AgL (c.set l x) (q ++ [x]) l := by
  have := Do (c := c.set l x) (l := l)
  rwa [KR hq hl] at this
 exact Rp h
theorem LV (hp : PreW w q) (hq : c.take l = q) (hcl : c.length = w.length) (hl : l < w.length) (hx : x < w[l].cs.length) : ∀ u (h : u < w.length) (h2 : u < (c.set l x).length), u <= l -> (c.set l x)[u] < w[u].cs.length := fun u h h2 hul => by
 rw [List.getElem_set]
 split
 ·rename_i e; subst e; exact hx
 ·rename_i e
  have hu : u < q.length := by rw [<- hq, List.length_take]; omega
  have := (hp.bd u hu h).2
  simp only [<- hq, List.getElem_take] at this
  exact this
theorem B6 (hc : 0 < c.length) (hl : l = 0) (h : c[0] < 0) : Yp w c l = false := by
 rw [Yp, decide_eq_true hl, show cA c 0 = c[0] from Hh (u := 0) hc, decide_eq_true h]; rfl
theorem Lz (h : Xh w c l = false) : Yp w c l = false := by rw [Yp, h, Bool.false_and, Bool.and_false]
theorem B7 (hc : l < c.length) (hl : 0 < l) (h : 0 <= c[l]) (h2 : Nl w c l = false) : Yp w c l = false := by
 rw [Yp, decide_eq_false (Wa : ¬ l = 0), Hh hc, decide_eq_false (Wa : ¬ c[l] < 0), h2]
 simp
theorem B8 (hc : 0 < c.length) (hl : l = 0) (h : ¬ c[0] < 0) (h2 : Xh w c l = true) : Yp w c l = true := by
 rw [Yp, h2, show cA c 0 = c[0] from Hh (u := 0) hc, decide_eq_false h, decide_eq_true hl]; rfl
theorem B9 (hc : l < c.length) (hl : 0 < l) (h : ¬ 0 <= c[l]) (h2 : Xh w c l = true) : Yp w c l = true := by
 rw [Yp, h2, decide_eq_false (Wa : ¬ l = 0), Hh hc, decide_eq_true (Wa : c[l] < 0)]; rfl
theorem Qaa (hl : 0 < l) (h : Nl w c l = true) (h2 : Xh w c l = true) : Yp w c l = true := by
 rw [Yp, h2, h, decide_eq_false (Wa : ¬ l = 0)]; simp
theorem C1 {hi : Bool} {us : List Nat} (hql : q.length = l) (h : Yp w (q ++ [x]) l = true) : subW w hi us q x = listW w hi us (q ++ [x]) := by
 subst hql; exact if_pos h
theorem QbP {hi : Bool} {us : List Nat} (hql : q.length = l) (h : Yp w (q ++ [x]) l = false) : subW w hi us q x = [] := by
 subst hql; exact if_neg (by rw [h]; simp)
theorem Qb7 {σ : Type} {p : N0 σ} {s s' : σ} {hi : Bool} {us : List Nat} {n j : Nat} (hql : q.length = l) (h : X7 p s ((List.range j).flatMap fun i => subW w hi us q (Zs hi n i)) = (s', true)) (hq : c.take l = q) (hl : l < c.length) (hf : Yp w (c.set l (Zs hi n j)) l = false) : X7 p s ((List.range (j + 1)).flatMap fun i => subW w hi us q (Zs hi n i)) = (s', true) := by
 rw [MA h]
 show X7 p s' (subW w hi us q (Zs hi n j)) = _
 rw [QbP hql (by rw [<- Fp hq hl]; exact hf)]; rfl
theorem Qc3 {σ : Type} {p : N0 σ} {s s' : σ} {hi : Bool} {us : List Nat} {n j : Nat} (h : X7 p s ((List.range j).flatMap fun i => subW w hi us q (Zs hi n i)) = (s', true)) (h2 : (X7 p s' (subW w hi us q (Zs hi n j))).2 = true) : X7 p s ((List.range (j + 1)).flatMap fun i => subW w hi us q (Zs hi n i)) = ((X7 p s' (subW w hi us q (Zs hi n j))).1, true) := by
 rw [MA h, <- h2]
theorem Qag {σ : Type} {p : N0 σ} {s s' : σ} {hi : Bool} {us : List Nat} {n m j : Nat} (hj : j < m) (h : X7 p s ((List.range j).flatMap fun i => subW w hi us q (Zs hi n i)) = (s', true)) (h2 : (X7 p s' (subW w hi us q (Zs hi n j))).2 = false) : X7 p s ((List.range m).flatMap fun i => subW w hi us q (Zs hi n i)) = ((X7 p s' (subW w hi us q (Zs hi n j))).1, false) := by
 rw [Ce hj h h2, <- h2]
theorem PI (hql : q.length = l) (h : c.take (l + 1) = q ++ [x]) : c.take l = q := by
 have := congrArg (List.take l) h
 rw [List.take_take, Nat.min_eq_left Wa, List.take_append_of_le_length Wa, Qev (Wa : q.length <= l)] at this
 exact this
theorem TA {hi : Bool} {n j : Nat} : Zs hi n j = if hi = true then (n : Int) - 1 - j else (j : Int) - 1 := rfl
end
end M25
namespace Go.Proofs
open Go Go.Abs M3 M25
section
variable {σ : Type} {w : Qv} {hb : Bool} {p : N0 σ} {B1 B2 : σ -> Box} {f : Nat} {ps : List D} (hp : PutOk w hb p B1 B2 f ps)
include hp
variable (hw : WSm w) (hr : WIn w)
include hw hr
theorem CI {s : St} {c : List Int} {x : σ} {l : Nat} {t : Bool} (hcl : c.length = w.length) (hl : l < w.length) (hbd : ∀ u (h : u < w.length) (h2 : u < c.length), u <= l -> c[u] < w[u].cs.length) (ht : Xh w c l = t) {o1 o2 : Opd} (h1 : Q8 s [o1, o2] = some [.ref 1500000 0 0, .int .i64 l]) (hH : ∀ q ∈ HW 1000006 1500003 1500000 w c hb f ps (B1 x) (B2 x), lk s.H q.1 = some q.2) :
  JF Tryd.prog 35 [o1, o2] s (HW 1000006 1500003 1500000 w c hb f ps (B1 x) (B2 x)) [] [] (.bool t) :=
 RP 3 (ht ▸ Xo hw hr hcl (hb := hb) hl hbd) h1 hH (T5 hp c x) rfl (by rw [List.map_cons, List.map_cons, BS]; rfl) rfl rfl rfl
theorem QcH {s : St} {c : List Int} {x : σ} {l : Nat} {t : Bool} (hcl : c.length = w.length) (hl : l < w.length) (hc0 : 0 <= c[l]'Wa) (hck : c[l]'Wa < w[l].cs.length) (ht : Nl w c l = t) {o1 o2 : Opd} (h1 : Q8 s [o1, o2] = some [.ref 1500000 0 0, .int .i64 l]) (hH : ∀ q ∈ HW 1000006 1500003 1500000 w c hb f ps (B1 x) (B2 x), lk s.H q.1 = some q.2) :
  JF Tryd.prog 36 [o1, o2] s (HW 1000006 1500003 1500000 w c hb f ps (B1 x) (B2 x)) [] [] (.bool t) :=
 RP 3 (ht ▸ Xe hw hr hcl (hb := hb) hl hc0 hck) h1 hH (T5 hp c x) rfl (by rw [List.map_cons, List.map_cons, BS]; rfl) rfl rfl rfl
omit hw hr in
theorem T7 {c : List Int} {x : σ} : J3 [500001] (HW 1000006 1500003 1500000 w c hb f ps (B1 x) (B2 x)) = HW 2000006 2500003 2500000 w c hb f ps (B1 x) (B2 x) := by
 have e1 : Xb [500001] 500001 = 500001 := rfl
 have e2 : Xb [500001] 1000006 = 2000006 := rfl
 have e3 : Xb [500001] 1500003 = 2500003 := rfl
 have e4 : Xb [500001] 1500000 = 2500000 := rfl
 simp only [J3, HW, List.map_cons, List.map_nil, e1, e2, e3, e4, hp.r1, hp.r2 e1]
 simp only [Box.ren, X2, List.map_cons, List.map_nil, D.renS, e2, e3]
 rfl
omit hw hr in
theorem T8 {c : List Int} {x : σ} : NS CX (HW 1000006 1500003 1500000 w c hb f ps (B1 x) (B2 x)) = HW 2000006 2500003 2500000 w c hb f ps (B1 x) (B2 x) := by
 have e1 : CX 500001 = 500001 := rfl
 have e2 : CX 1000006 = 2000006 := rfl
 have e3 : CX 1500003 = 2500003 := rfl
 have e4 : CX 1500000 = 2500000 := rfl
 simp only [NS, HW, List.map_cons, List.map_nil, e1, e2, e3, e4, hp.r1, hp.r2 e1]
 simp only [Box.ren, X2, List.map_cons, List.map_nil, D.renS, e2, e3]
 rfl
end
theorem Qbn {w : Qv} {hb : Bool} {f : Nat} {ps : List D} {c c' : List Int} {rows : List (List D)} {pr : Bool} {b1 b2 : Box} (h : rows = c'.map rI) (hl : c.length = c'.length) (hpr : pr = true) : [(500001, b1), (1000006, b2), (1500003, (⟨rows, 1, 3, pr⟩ : Box)), (1500000, WB w c hb f ps)] = HW 1000006 1500003 1500000 w c' hb f ps b1 b2 := by
 subst h hpr
 simp only [WB, hl]
def Bi {σ : Type} (w : Qv) (hb : Bool) (p : N0 σ) (B1 B2 : σ -> Box) (f : Nat) (ps : List D) (unit : Nat) (q : List Int) (s : σ) (d : D) (H' : Qed) : Prop :=
 ∃ c' : List Int, c'.length = w.length /\ c'.take unit = q /\ d = .bool (X7 p s (listW w hb ((G4 w).drop unit) q)).2 /\ H' = HW 1000006 1500003 1500000 w c' hb f ps (B1 (X7 p s (listW w hb ((G4 w).drop unit) q)).1) (B2 (X7 p s (listW w hb ((G4 w).drop unit) q)).1)
def Bj {σ : Type} (w : Qv) (hb : Bool) (p : N0 σ) (B1 B2 : σ -> Box) (f : Nat) (ps : List D) (unit : Nat) (cur : List Int) (s : σ) : Prop :=
 ∃ d H', Bi w hb p B1 B2 f ps unit (cur.take unit) s d H' /\ OkH Tryd.prog 20 [.ref 1500000 0 0, .int .i64 unit] (HW 1000006 1500003 1500000 w cur hb f ps (B1 s) (B2 s)) d H'
section
variable {σ : Type} {w : Qv} {hb : Bool} {p : N0 σ} {B1 B2 : σ -> Box} {f : Nat} {ps : List D} (hp : PutOk w hb p B1 B2 f ps) (hw : WSm w) (hr : WIn w) (h0 : 0 < w.length)
include hp
theorem L5 (hw : WSm w) (hr : WIn w) (h0 : 0 < w.length) {cur : List Int} {s : σ} (hcl : cur.length = w.length) (hq : PreW w (cur.take w.length)) (hok : p.ok s (listW w hb ((G4 w).drop w.length) (cur.take w.length)).length) : Bj w hb p B1 B2 f ps w.length cur s := by
 have e : cur.take w.length = cur := Qev Wa
 have hch : ChOk w cur := by
  rw [e] at hq
  exact ⟨hcl, fun u hu hc => hq.bd u hc hu⟩
 have hc0 : 0 <= cA cur 0 := by
  rw [e] at hq
  exact (hq.inv (by intro e2; subst e2; simp at hcl; omega)).2
 have ed : (G4 w).drop w.length = [] := List.drop_of_length_le (by simp [G4])
 cases ht : tidyB w cur with
 | true =>
  have hL : listW w hb ((G4 w).drop w.length) (cur.take w.length) = [cur] := by
   rw [ed, e, listW, if_pos (L3.1 ht)]
  rw [hL] at hok
  refine ⟨_, _, ⟨cur, hcl, rfl, rfl, rfl⟩, ?_⟩
  rw [hL, Cd]
  exact Cq hp hw hr h0 hch hc0 ht hok
 | false =>
  have hL : listW w hb ((G4 w).drop w.length) (cur.take w.length) = [] := by
   rw [ed, e, listW, if_neg fun h => by rw [RD h] at ht; cases ht]
  refine ⟨_, _, ⟨cur, hcl, rfl, rfl, rfl⟩, ?_⟩
  rw [hL]
  exact Qat hp hw hr h0 hch hc0 ht
theorem Sy {unit : Nat} {cur c q : List Int} {s s' : σ} {t : Bool} {H : Qed} {b1 b2 : Box} {e : ZX} {fr : Qee} (hc : c.length = w.length) (ht : c.take unit = q) (hrun : X7 p s (listW w hb ((G4 w).drop unit) q) = (s', t)) (hH : H = HW 1000006 1500003 1500000 w c hb f ps (B1 s') (B2 s')) (hfr : lk fr 4 = some (.bool t)) (he : e = .ret \/ e = .normal := by first | exact .inl rfl | exact .inr rfl) :
  ∃ d H', Bi w hb p B1 B2 f ps unit q s d H' /\ (∀ k, 1000000 <= k -> (lk (HW 1000006 1500003 1500000 w cur hb f ps b1 b2) k).isSome = true -> (lk H' k).isSome = true) /\ (∀ k b, lk H' k = some b -> 500000 <= k /\ ∀ j ∈ b.ids, (lk H' j).isSome = true) /\ NZ [.tmp 4] d H' e ⟨fr, H⟩ := by
 subst hH
 refine ⟨_, _, ⟨c, hc, ht, rfl, rfl⟩, Rg, by rw [hrun]; exact DW hp c s', ?_⟩
 rw [hrun]
 exact Xj hfr rfl (fun k b h => h) he
theorem L6 {unit : Nat} {c c2 : List Int} {s s' : σ} {t : Bool} {o : AOper} {fr : Qee} {K : St -> Prop} {dst : Nat} {o1 o2 : Opd} (ho : o = ⟨some dst, .call 20 [o1, o2], none⟩) (hok : OkH Tryd.prog 20 [.ref 1500000 0 0, .int .i64 ((unit : Int) + 1)] (HW 1000006 1500003 1500000 w c hb f ps (B1 s) (B2 s)) (.bool t) (HW 1000006 1500003 1500000 w c2 hb f ps (B1 s') (B2 s')))
  (hds : Q8 ⟨fr, HW 1000006 1500003 1500000 w c hb f ps (B1 s) (B2 s)⟩ [o1, o2] = some [.ref 1500000 0 0, .int .i64 ((unit : Int) + 1)]) (hfr : (fr.all fun p => p.2.ids.all fun k => !([500001] : List Nat).contains k) = true) (hK : K ⟨(dst, .bool t) :: fr, HW 1000006 1500003 1500000 w c2 hb f ps (B1 s') (B2 s')⟩) :
  Df Tryd.prog o K ⟨fr, HW 1000006 1500003 1500000 w c hb f ps (B1 s) (B2 s)⟩ :=
 F8 (G := [500001]) (Hr := HW 1000006 1500003 1500000 w c2 hb f ps (B1 s') (B2 s')) ho hds rfl hfr rfl rfl rfl (OkH.rnm' rnU hok rfl (T8 hp) rfl (T8 hp)) (T7 hp) (T7 hp) hK
end
end Go.Proofs
namespace Go.Proofs
open Go Go.Abs M3 M25
theorem _root_.Wl {p : Prop} (h : p := by rw [List.length_set]; omega) : p := h
theorem Xy {σ : Type} {w : Qv} {hb : Bool} {p : N0 σ} {B1 B2 : σ -> Box} {f : Nat} {ps : List D} (hp : PutOk w hb p B1 B2 f ps) (hw : WSm w) (hr : WIn w) {unit : Nat} (hu : unit < w.length) {cur q : List Int} {s : σ} (hcl : cur.length = w.length) (hqt : cur.take unit = q) (hpre : PreW w q) (hok : p.ok s (listW w hb ((G4 w).drop unit) q).length)
  (ih : ∀ (cur : List Int) (s : σ), cur.length = w.length -> PreW w (cur.take (unit + 1)) -> p.ok s (listW w hb ((G4 w).drop (unit + 1)) (cur.take (unit + 1))).length -> Bj w hb p B1 B2 f ps (unit + 1) cur s) : ∃ d H', Bi w hb p B1 B2 f ps unit q s d H' /\ OkH Tryd.prog 20 [.ref 1500000 0 0, .int .i64 unit] (HW 1000006 1500003 1500000 w (cur) hb f ps (B1 s) (B2 s)) d H' := by
 have hwl := hw.len
 have hcu := hw.cs _ (Qek hu)
 have hql : q.length = unit := by rw [<- hqt, List.length_take]; omega
 have hLE : listW w hb ((G4 w).drop unit) q = (List.range ((w[unit]'hu).cs.length + 1)).flatMap fun i => subW w hb ((G4 w).drop (unit + 1)) q (Zs hb (w[unit]'hu).cs.length i) := by rw [BX hu]; exact SW _ _ _ _ _
 rw [hLE] at hok
 refine OkH.ofX Z5 Tryd.func20 QcE (Qeg Z) ?_
 show TX _ _ tf20.body _ _
 refine J6 fun K hK => Qa Z (hK _ _ (Yi (kp2 Z Z) ?_))
 refine Dn ?_ -- 0
 refine J6 fun K hK => mv2 Z Z (Za Z Z (Qe Z Z (Qs Z Z Z ?_)))
 first | refine QP rfl QO ?_ | refine QP rfl rfl ?_
 refine Xd Z Z (hK _ _ (Yi (kp3 Z Z Z) ?_))
 refine Fv Z (fun h1 => ?_) (fun h1 => ?_)
 ·try rw [h1]
  try simp only [qA] at h1
  exfalso; omega
 ·try rw [h1]
  try simp only [qA] at h1
  refine Fw (Xm (kp2 Z Z) (J6 fun K hK => Qa Z (Za Z Z (Qe Z Z (Qs Z Z Z (Qa Z (QN Z Z Z Wa (Q0 Wa) Z (Qs Z Z Z ?_))))))))
  first | refine QP rfl QO ?_ | refine QP rfl rfl ?_
  refine Qa Z (hK _ _ (Yi (kp3 Z Z Z) ?_))
  refine Dn ?_ -- 1
  refine J6 fun K hK => Qa Z (Zb Z Z Wb (Qa Z (hK _ _ (Yi (kp5 Z Z Z Z Z) ?_))))
  refine Ti ?_
  refine Qa0 (ι := Nat × List Int × σ) (fun j => ⟨[(0, .ref 1500000 0 0), (1, .int .i64 unit), (5, .int .i64 (w[unit]'hu).cs.length), (38, .int .i64 ((w[unit]'hu).cs.length + 1)), (39, .int .i64 j.1)], HW 1000006 1500003 1500000 w (j.2.1) hb f ps (B1 j.2.2) (B2 j.2.2)⟩) (fun j => j.1 <= (w[unit]'hu).cs.length + 1 /\ j.2.1.length = w.length /\ j.2.1.take unit = q /\ X7 p s ((List.range j.1).flatMap fun i => subW w hb ((G4 w).drop (unit + 1)) q (Zs hb (w[unit]'hu).cs.length i)) = (j.2.2, true)) (fun j => (w[unit]'hu).cs.length + 1 - j.1) (0, cur, s) ?_ ?_ ?_
  ·exact QT (l := [0, 1, 5, 38, 39]) (lH := [500001, 1000006, 1500003, 1500000]) (kp5 rfl rfl rfl rfl rfl) (Qb rfl (Qb rfl (Qb rfl (Qb rfl Qj)))) rfl rfl (HY hp rfl) rfl
  ·exact ⟨Qer _, hcl, hqt, rfl⟩
  intro j hI
  try dsimp only
  refine J6 fun K hK => Z6 Z Z (hK _ _ (Yi (kp6 Z Z Z Z Z Z) ?_))
  refine Dn ?_ -- 2
  refine Fv Z (fun h2 => ?_) (fun h2 => ?_)
  ·try rw [h2]
   try simp only [qA] at h2
   have hX := DC (hi := hb) (Wa : j.1 < (w[unit]'hu).cs.length + 1)
   refine Fw (Xm (kp5 Z Z Z Z Z) ?_)
   refine Dn ?_ -- 3
   refine Ti (J6 fun K hK => mv2 Z Z (hK _ _ (Yi (kp6 Z Z Z Z Z Z) ?_)))
   refine J6 fun K hK => Qa Z (Za Z Z (Qe Z Z (Qs Z Z Z (mv2 Z Z (KT Z Z Wb (Xt Z Z Z Wd Wa Wa Z (Zn Z Z (Q0 Wa) Z Z Z Z Z (hK _ _ (Yi (kp6 Z Z Z Z Z Z) ?_)))))))))
   refine CB (ι := Unit) (fun _ => ⟨[(0, .ref 1500000 0 0), (1, .int .i64 unit), (5, .int .i64 (w[unit]'hu).cs.length), (38, .int .i64 ((w[unit]'hu).cs.length + 1)), (39, .int .i64 j.1)], HW 1000006 1500003 1500000 w ((j.2.1.set unit (Zs hb (w[unit]'hu).cs.length j.1))) hb f ps (B1 j.2.2) (B2 j.2.2)⟩) (fun _ => True) ?_ ?_
   ·skip
    refine J6 fun K hK => Qa Z (Za Z Z (Qe Z Z (Qs Z Z Z (hK _ _ (Yi (kp7 Z Z Z Z Z Z Z) ?_)))))
    refine Fv Z (fun h3 => ?_) (fun h3 => ?_)
    ·skip
     try simp only [qA] at h3
     refine Gw fun K hK => Qa Z (Za Z Z (Qe Z Z (Qs Z Z Z (mv2 Z Z (KT Z Z Wb (Qa Z (KT Z Z Wb (Xt Z Z Z Wd Wa Wa Z ?_))))))))
     refine Zn Z Z (List.getElem?_set_self Wh) Z Z Z Z Z ?_
     refine hK _ ?_
     refine Zc () ?_ ?_
     ·exact QT (l := [0, 1, 5, 38, 39]) (lH := [500001, 1000006, 1500003, 1500000]) (kp5 rfl rfl rfl rfl rfl) (Qb rfl (Qb rfl (Qb rfl (Qb rfl Qj)))) rfl (Qbn (by rw [TA, if_pos h3, List.map_set, List.set_set]; rfl) (by rw [List.length_set]) rfl) (HY hp rfl) rfl
     ·exact trivial
    ·skip
     try simp only [qA] at h3
     refine Fw ?_
     refine Zc () ?_ ?_
     ·exact QT (l := [0, 1, 5, 38, 39]) (lH := [500001, 1000006, 1500003, 1500000]) (kp5 rfl rfl rfl rfl rfl) (Qb rfl (Qb rfl (Qb rfl (Qb rfl Qj)))) rfl (Qbn (by rw [TA, if_neg (by rw [h3]; simp), List.map_set]; rfl) (by rw [List.length_set]) rfl) (HY hp rfl) rfl
     ·exact trivial
   intro _ _
   try dsimp only
   refine CB (ι := Unit) (fun _ => ⟨[(0, .ref 1500000 0 0), (1, .int .i64 unit), (5, .int .i64 (w[unit]'hu).cs.length), (38, .int .i64 ((w[unit]'hu).cs.length + 1)), (39, .int .i64 j.1)], HW 1000006 1500003 1500000 w ((j.2.1.set unit (Zs hb (w[unit]'hu).cs.length j.1))) hb f ps (B1 j.2.2) (B2 j.2.2)⟩) (fun _ => Yp w (j.2.1.set unit (Zs hb (w[unit]'hu).cs.length j.1)) unit = true) ?_ ?_
   ·skip
    refine J6 fun K hK => Qa Z (Xd Z Z (Qa Z ?_))
    refine Qp (g := 66) Z (fun h4 => ?_) (fun h4 => ?_)
    ·try rw [h4]
     try simp only [qA] at h4
     refine Qc Z (Qa Z (Qc Z (Za Z Z (Qc Z (Qe Z Z (Qc Z (Qs Z Z Z (Qc Z (Xt Z Z Z Wd Wa Wl Z (Qc Z (Qs Z (FC Z (Zz Wa Wl)) Z ?_)))))))))))
     refine Qc Z (Z6 Z Z (Qf Z Z (Qa Z ?_)))
     refine Qp (g := 75) Z (fun h5 => ?_) (fun h5 => ?_)
     ·try rw [h5]
      try simp only [qA] at h5
      refine gn4 Z Z Z Z (Qf Z Z (Qa Z (gn3 Z Z Z (Qm Z (Qm Z (Qm Z ?_))))))
      refine Qm Z (Qm Z (Qm Z (Qm Z (Qm Z (gn2 Z Z (Qm Z (Qm Z (Qm Z (Qm Z (Yv Z ?_))))))))))
      refine Qf Z Z (hK _ _ (Yi (kp6 Z Z Z Z Z Z) ?_))
      refine PW Z (MW (Kk (QE (Xm (kp5 Z Z Z Z Z) (Gw fun K hK => Zb Z Z Wb (Qa Z (hK _ ?_)))))))
      refine Ql (j.1 + 1, (j.2.1.set unit (Zs hb (w[unit]'hu).cs.length j.1)), j.2.2) ?_ ?_ ?_
      ·exact QT (l := [0, 1, 5, 38, 39]) (lH := [500001, 1000006, 1500003, 1500000]) (kp5 rfl rfl rfl rfl rfl) (Qb rfl (Qb rfl (Qb rfl (Qb rfl Qj)))) rfl rfl (HY hp rfl) rfl
      ·exact ⟨Wa, by rw [List.length_set]; exact hI.2.1, by rw [List.take_set_of_le (Nat.le_refl _)]; exact hI.2.2.1, Qb7 hql hI.2.2.2 hI.2.2.1 Wa (B6 Wl Wa (by simpa using h5))⟩
      ·show (w[unit]'hu).cs.length + 1 - (j.1 + 1) < (w[unit]'hu).cs.length + 1 - j.1; omega
     ·try rw [h5]
      try simp only [qA] at h5
      refine Qc Z (Qa Z (Qc Z (Qa Z (Qc Z (PT (CI hp hw hr (x := j.2.2) (c := (j.2.1.set unit (Zs hb (w[unit]'hu).cs.length j.1))) (by rw [List.length_set]; exact hI.2.1) hu (LV hpre hI.2.2.1 hI.2.1 hu hX.2) Z Z (T6 hp)) (Qc Z (Zv Z (Qf Z Z (Qa Z ?_)))))))))
      refine Qp (g := 81) Z (fun h6 => ?_) (fun h6 => ?_)
      ·try rw [h6]
       try simp only [qA] at h6
       refine gn3 Z Z Z (Qm Z (Qm Z (Qm Z (Qm Z (Qm Z (Qm Z (Qm Z (Qm Z (Yv Z ?_)))))))))
       refine Yv Z (Qm Z (Qm Z (Qm Z (Qm Z (Yv Z (Qf Z Z (hK _ _ (Yi (kp6 Z Z Z Z Z Z) ?_))))))))
       refine PW Z (MW (Kk (QE (Xm (kp5 Z Z Z Z Z) (Gw fun K hK => Zb Z Z Wb (Qa Z (hK _ ?_)))))))
       refine Ql (j.1 + 1, (j.2.1.set unit (Zs hb (w[unit]'hu).cs.length j.1)), j.2.2) ?_ ?_ ?_
       ·exact QT (l := [0, 1, 5, 38, 39]) (lH := [500001, 1000006, 1500003, 1500000]) (kp5 rfl rfl rfl rfl rfl) (Qb rfl (Qb rfl (Qb rfl (Qb rfl Qj)))) rfl rfl (HY hp rfl) rfl
       ·exact ⟨Wa, by rw [List.length_set]; exact hI.2.1, by rw [List.take_set_of_le (Nat.le_refl _)]; exact hI.2.2.1, Qb7 hql hI.2.2.2 hI.2.2.1 Wa (Lz h6)⟩
       ·show (w[unit]'hu).cs.length + 1 - (j.1 + 1) < (w[unit]'hu).cs.length + 1 - j.1; omega
      ·try rw [h6]
       try simp only [qA] at h6
       refine Qc Z (Qa Z (Qc Z (YW Z Z (Qc Z (Qa Z ?_)))))
       refine Qp (g := 84) Z (fun h7 => ?_) (fun h7 => ?_)
       ·try rw [h7]
        try simp only [qA] at h7
        exfalso; omega
       ·try rw [h7]
        try simp only [qA] at h7
        refine gn4 Z Z Z Z (gn4 Z Z Z Z (Qc Z (Qf Z Z (Qc Z (Qa Z ?_)))))
        refine gn4 Z Z Z Z (Qc Z (Qf Z Z (Qf Z Z (hK _ _ (Yi (kp6 Z Z Z Z Z Z) ?_)))))
        refine Tj Z (Fw ?_)
        refine Zc () ?_ ?_
        ·exact QT (l := [0, 1, 5, 38, 39]) (lH := [500001, 1000006, 1500003, 1500000]) (kp5 rfl rfl rfl rfl rfl) (Qb rfl (Qb rfl (Qb rfl (Qb rfl Qj)))) rfl rfl (HY hp rfl) rfl
        ·exact B8 Wl Wa (by simpa using h5) h6
    ·try rw [h4]
     try simp only [qA] at h4
     refine gn4 Z Z Z Z (gn3 Z Z Z (Qf Z Z (Qa Z (Qc Z (Qa Z (Qc Z ?_))))))
     refine Qa Z (Qc Z (PT (CI hp hw hr (x := j.2.2) (c := (j.2.1.set unit (Zs hb (w[unit]'hu).cs.length j.1))) (by rw [List.length_set]; exact hI.2.1) hu (LV hpre hI.2.2.1 hI.2.1 hu hX.2) Z Z (T6 hp)) (Qc Z (Zv Z (Qf Z Z (Qa Z ?_))))))
     refine Qp (g := 81) Z (fun h8 => ?_) (fun h8 => ?_)
     ·try rw [h8]
      try simp only [qA] at h8
      refine gn3 Z Z Z (Qm Z (Qm Z (Qm Z (Qm Z (Qm Z (Qm Z (Qm Z (Qm Z (Yv Z ?_)))))))))
      refine Yv Z (Qm Z (Qm Z (Qm Z (Qm Z (Yv Z (Qf Z Z (hK _ _ (Yi (kp6 Z Z Z Z Z Z) ?_))))))))
      refine PW Z (MW (Kk (QE (Xm (kp5 Z Z Z Z Z) (Gw fun K hK => Zb Z Z Wb (Qa Z (hK _ ?_)))))))
      refine Ql (j.1 + 1, (j.2.1.set unit (Zs hb (w[unit]'hu).cs.length j.1)), j.2.2) ?_ ?_ ?_
      ·exact QT (l := [0, 1, 5, 38, 39]) (lH := [500001, 1000006, 1500003, 1500000]) (kp5 rfl rfl rfl rfl rfl) (Qb rfl (Qb rfl (Qb rfl (Qb rfl Qj)))) rfl rfl (HY hp rfl) rfl
      ·exact ⟨Wa, by rw [List.length_set]; exact hI.2.1, by rw [List.take_set_of_le (Nat.le_refl _)]; exact hI.2.2.1, Qb7 hql hI.2.2.2 hI.2.2.1 Wa (Lz h8)⟩
      ·show (w[unit]'hu).cs.length + 1 - (j.1 + 1) < (w[unit]'hu).cs.length + 1 - j.1; omega
     ·try rw [h8]
      try simp only [qA] at h8
      refine Qc Z (Qa Z (Qc Z (YW Z Z (Qc Z (Qa Z ?_)))))
      refine Qp (g := 84) Z (fun h9 => ?_) (fun h9 => ?_)
      ·try rw [h9]
       try simp only [qA] at h9
       refine Qc Z (Qa Z (Qc Z (Za Z Z (Qc Z (Qe Z Z (Qc Z (Qs Z Z Z (Qc Z (Qa Z (Qc Z (Xt Z Z Z Wd Wa Wl Z ?_)))))))))))
       refine Qc Z (Qs Z (FC Z (Q0 Wl)) Z (Qc Z (MU Z Z (Qc Z (Qf Z Z (Qc Z (Qa Z ?_)))))))
       refine Qp (g := 94) Z (fun h10 => ?_) (fun h10 => ?_)
       ·try rw [h10]
        try simp only [qA] at h10
        refine Qc Z (Qa Z (Qc Z (Qa Z (Qc Z (PT (QcH hp hw hr (x := j.2.2) (c := (j.2.1.set unit (Zs hb (w[unit]'hu).cs.length j.1))) (by rw [List.length_set]; exact hI.2.1) hu h10 (LV hpre hI.2.2.1 hI.2.1 hu hX.2 unit hu Wl (Nat.le_refl _)) Z Z (T6 hp)) (Qc Z (Zv Z (Qc Z (Qf Z Z (Qf Z Z (hK _ _ (Yi (kp6 Z Z Z Z Z Z) ?_))))))))))))
        refine Fv Z (fun h11 => ?_) (fun h11 => ?_)
        ·try rw [h11]
         try simp only [qA] at h11
         refine MW (Kk (QE (Xm (kp5 Z Z Z Z Z) (Gw fun K hK => Zb Z Z Wb (Qa Z (hK _ ?_))))))
         refine Ql (j.1 + 1, (j.2.1.set unit (Zs hb (w[unit]'hu).cs.length j.1)), j.2.2) ?_ ?_ ?_
         ·exact QT (l := [0, 1, 5, 38, 39]) (lH := [500001, 1000006, 1500003, 1500000]) (kp5 rfl rfl rfl rfl rfl) (Qb rfl (Qb rfl (Qb rfl (Qb rfl Qj)))) rfl rfl (HY hp rfl) rfl
         ·exact ⟨Wa, by rw [List.length_set]; exact hI.2.1, by rw [List.take_set_of_le (Nat.le_refl _)]; exact hI.2.2.1, Qb7 hql hI.2.2.2 hI.2.2.1 Wa (B7 Wl Wa h10 h11)⟩
         ·show (w[unit]'hu).cs.length + 1 - (j.1 + 1) < (w[unit]'hu).cs.length + 1 - j.1; omega
        ·try rw [h11]
         try simp only [qA] at h11
         refine Fw ?_
         refine Zc () ?_ ?_
         ·exact QT (l := [0, 1, 5, 38, 39]) (lH := [500001, 1000006, 1500003, 1500000]) (kp5 rfl rfl rfl rfl rfl) (Qb rfl (Qb rfl (Qb rfl (Qb rfl Qj)))) rfl rfl (HY hp rfl) rfl
         ·exact Qaa Wa h11 h8
       ·try rw [h10]
        try simp only [qA] at h10
        refine gn4 Z Z Z Z (Qc Z (Qf Z Z (Qf Z Z (hK _ _ (Yi (kp6 Z Z Z Z Z Z) ?_)))))
        refine Tj Z (Fw ?_)
        refine Zc () ?_ ?_
        ·exact QT (l := [0, 1, 5, 38, 39]) (lH := [500001, 1000006, 1500003, 1500000]) (kp5 rfl rfl rfl rfl rfl) (Qb rfl (Qb rfl (Qb rfl (Qb rfl Qj)))) rfl rfl (HY hp rfl) rfl
        ·exact B9 Wl Wa Wa h8
      ·try rw [h9]
       try simp only [qA] at h9
       exfalso; omega
   intro _ hP
   try dsimp only
   obtain ⟨d2, H2, ⟨c2, hc2, hc2t, rfl, rfl⟩, hok2⟩ := ih (j.2.1.set unit (Zs hb (w[unit]'hu).cs.length j.1)) j.2.2 (by rw [List.length_set]; exact hI.2.1) (by rw [KR hI.2.2.1 Wa]; exact hpre.push Wa (by subst hql; exact hX) (by rw [hql, <- Fp hI.2.2.1 Wa]; exact hP)) (by rw [KR hI.2.2.1 Wa, <- C1 hql (by rw [<- Fp hI.2.2.1 Wa]; exact hP)]; exact QbJ (F := fun i => subW w hb ((G4 w).drop (unit + 1)) q (Zs hb (w[unit]'hu).cs.length i)) Wa hI.2.2.2 hok)
   rw [KR hI.2.2.1 Wa, <- C1 hql (by rw [<- Fp hI.2.2.1 Wa]; exact hP)] at hok2
   obtain ⟨t2, ht2⟩ : ∃ t, (X7 p j.2.2 (subW w hb ((G4 w).drop (unit + 1)) q (Zs hb (w[unit]'hu).cs.length j.1))).2 = t := ⟨_, rfl⟩
   rw [ht2] at hok2
   (refine Be fun K hK => Bl (l := [_, _, _]) ?_)
   refine mv2 Z Z (Zb Z Z (Qu Wa Wa) (SC ?_))
   (refine GH (s' := ⟨[(0, .ref 1500000 0 0), (1, .int .i64 unit), (5, .int .i64 (w[unit]'hu).cs.length), (38, .int .i64 ((w[unit]'hu).cs.length + 1)), (39, .int .i64 j.1), (101, .ref 1500000 0 0), (103, .int .i64 (unit + 1))], HW 1000006 1500003 1500000 w ((j.2.1.set unit (Zs hb (w[unit]'hu).cs.length j.1))) hb f ps (B1 j.2.2) (B2 j.2.2)⟩) (QT (l := [0, 1, 5, 38, 39, 101, 103]) (lH := [500001, 1000006, 1500003, 1500000]) (kp7 rfl rfl rfl rfl rfl rfl rfl) (Qb rfl (Qb rfl (Qb rfl (Qb rfl Qj)))) rfl rfl (HY hp rfl) rfl) ?_)
   (refine L6 hp rfl hok2 rfl rfl ?_)
   (refine Qa2 ?_)
   refine Zv Z (hK _ _ (Yi (kp6 Z Z Z Z Z Z) ?_))
   refine Fv Z (fun h12 => ?_) (fun h12 => ?_)
   ·try rw [h12]
    try simp only [qA] at h12
    refine J6 fun K hK => Qa Z (hK _ _ (Yi (kp1 Z) ?_))
    refine Qa1 (Qi (Ss (QB (Qi (Ss ?_)))))
    exact Sy hp hc2 (PI hql (hc2t.trans (KR hI.2.2.1 Wa))) (by rw [hLE]; exact Qag Wa hI.2.2.2 (ht2.trans h12)) rfl rfl
   ·try rw [h12]
    try simp only [qA] at h12
    refine Fw (Qk (Xm (kp5 Z Z Z Z Z) (Gw fun K hK => Zb Z Z Wb (Qa Z (hK _ ?_)))))
    refine Ql (j.1 + 1, c2, (X7 p j.2.2 (subW w hb ((G4 w).drop (unit + 1)) q (Zs hb (w[unit]'hu).cs.length j.1))).1) ?_ ?_ ?_
    ·exact QT (l := [0, 1, 5, 38, 39]) (lH := [500001, 1000006, 1500003, 1500000]) (kp5 rfl rfl rfl rfl rfl) (Qb rfl (Qb rfl (Qb rfl (Qb rfl Qj)))) rfl rfl (HY hp rfl) rfl
    ·exact ⟨Wa, hc2, PI hql (hc2t.trans (KR hI.2.2.1 Wa)), Qc3 hI.2.2.2 (ht2.trans h12)⟩
    ·show (w[unit]'hu).cs.length + 1 - (j.1 + 1) < (w[unit]'hu).cs.length + 1 - j.1; omega
  ·try rw [h2]
   try simp only [qA] at h2
   refine MW (LU (Qx (QE (Xm (QJ) (J6 fun K hK => Qa Z (hK _ _ (Yi (kp1 Z) ?_)))))))
   refine Qa1 ?_
   exact Sy hp hI.2.1 hI.2.2.1 (by rw [hLE, <- show j.1 = (w[unit]'hu).cs.length + 1 by omega]; exact hI.2.2.2) rfl rfl
open Go Go.Abs M3 M25
theorem JD {w : Qv} (hw : WSm w) (hr : WIn w) {hb : Bool} {f et : Nat} {ps : List D} : OkH Tryd.prog 18 [Z7 w, .bool hb, .clr f 1000006 ps, gD] [(1000006, ⟨[[.fsl []]], 1, et, true⟩)] (.ref 500000 0 0) [(500000, ⟨[[Zr w, .osl 500003 w.length, .bool hb, .clr f 1000006 ps]], 4, 73, false⟩), (500003, ⟨(List.replicate w.length 0).map rI, 1, 3, true⟩), (1000006, ⟨[[.fsl []]], 1, et, true⟩)] := by
 have hwl := hw.len
 refine OkH.ofTG (ds := [Z7 w, .bool hb, .clr f 1000006 ps]) (dg := gD) Z5 Tryd.func18 Qdb (Qeg Z) ?_ ?_ ?_
 ·intro k hk h; simp only [Qr] at h ⊢; (repeat' split) <;> simp_all [lk]
 ·intro k b h; simp only [Qr] at h; (repeat' split at h) <;> first | (cases h; subst_vars; refine ⟨Wa, fun j hj => ?_⟩; simp [Box.ids, D.sid] at hj; done) | (cases h; subst_vars; refine ⟨Wa, fun j hj => ?_⟩; simp [Box.ids, D.sid, Zr] at hj; rcases hj with rfl | rfl <;> rfl) | cases h
 show TW _ _ tf18.body _ _
 refine Qd fun K hK => ZJ Z Z Z (Qa Z (kc4 hK Z Z Z Z ?_))
 refine Qd fun K hK => mv2 Z Z (Qe Z Z (Qs Z Z Z ?_))
 first | refine QP rfl QO ?_ | refine QP rfl rfl ?_
 refine CA Z Z Z Wa Wh Wh (ZO Z Z (ZJ Z Z Z (Qa Z (kc3 hK Z Z Z ?_))))
 refine QC ?_ -- 0
 refine Qd fun K hK => Qe Z Z (Qs Z Z Z ?_)
 first | refine QP rfl QO ?_ | refine QP rfl rfl ?_
 refine Qa Z (kc6 hK Z Z Z Z Z Z ?_)
 refine Qz ?_
 refine Zh (ι := Nat) (fun i => ⟨[(3, .ref 3 0 0), (7, .ref 28 0 0), (30, .sl (w.map Yd)), (31, .int .i64 w.length), (32, .int .i64 i), (900000, gD)], [(3, ⟨[[.sl (w.map Yd)]], 1, 24, true⟩), (26, ⟨List.replicate w.length [.int .i64 0], 1, 3, true⟩), (28, ⟨[[.osl 100 (w.take i).length, .osl 26 w.length, .bool hb, .clr f 1000006 ps]], 4, 73, false⟩), (100, ⟨(w.take i).map (fun u => [Js w u]), 1, 74, true⟩), (1000006, ⟨[[.fsl []]], 1, et, true⟩)]⟩) (fun i => i <= w.length) (fun i => w.length - i) 0 ?_ ?_ ?_
 ·exact le_trans (Kl 28 0 100 1 74 rfl rfl rfl rfl) (QT (l := [3, 7, 30, 31, 32, 900000]) (lH := [3, 26, 28, 100, 1000006]) (kp6 rfl rfl rfl rfl rfl rfl) (Qb rfl (Qb rfl (Qb rfl (Qb rfl (Qb rfl Qj))))) rfl rfl rfl)
 ·exact Qer _
 intro i hI
 have hlen : (w.take i).length = i := by simp only [List.length_take]; omega
 have hcu := fun (h : i < w.length) => hw.cs _ (Qek h)
 try dsimp only
 refine Qd fun K hK => Z6 Z Z (kc7 hK Z Z Z Z Z Z Z ?_)
 refine QC ?_ -- 1
 refine Qw Z (fun h1 => ?_) (fun h1 => ?_)
 ·try rw [h1]
  try simp only [qA] at h1
  refine Qt (ks6 Z Z Z Z Z Z ?_)
  refine QC ?_ -- 2
  refine Qz (Qd fun K hK => QN Z Z Z Wa (Q0 Wa) Z (QH (cs := [_, _, _]) Z Z Z Z (Zu Z (Zn Z Z Z Z Z Z Z Z (kc7 hK Z Z Z Z Z Z Z ?_)))))
  refine Qd fun K hK => Qa Z (kc8 hK Z Z Z Z Z Z Z Z ?_)
  refine QC ?_ -- 3
  refine Qd fun K hK => Qe Z Z (Qs Z Z Z ?_)
  first | refine QP rfl QO ?_ | refine QP rfl rfl ?_
  refine Qa Z (kc hK (GT Z Z Z Z Z Z Z Z Z Z) ?_)
  refine Qz ?_
  have hcu1 := hcu Wa
  refine Zh (ι := Nat) (fun k => ⟨[(3, .ref 3 0 0), (7, .ref 28 0 0), (10, .osl 10 ((w[i]'Wa).cs.take k).length), (30, .sl (w.map Yd)), (31, .int .i64 w.length), (32, .int .i64 i), (37, FO (w[i]'Wa).cs), (38, .int .i64 (w[i]'Wa).cs.length), (39, .int .i64 k), (900000, gD)], [(3, ⟨[[.sl (w.map Yd)]], 1, 24, true⟩), (10, ⟨((w[i]'Wa).cs.take k).map (TG w), 2, 78, true⟩), (26, ⟨List.replicate w.length [.int .i64 0], 1, 3, true⟩), (28, ⟨[[.osl 100 (w.take i).length, .osl 26 w.length, .bool hb, .clr f 1000006 ps]], 4, 73, false⟩), (100, ⟨(w.take i).map (fun u => [Js w u]), 1, 74, true⟩), (1000006, ⟨[[.fsl []]], 1, et, true⟩)]⟩) (fun k => k <= (w[i]'Wa).cs.length) (fun k => (w[i]'Wa).cs.length - k) 0 ?_ ?_ ?_
  ·exact le_trans (H4 10 10 2 78 rfl rfl) (QT (l := [3, 7, 10, 30, 31, 32, 37, 38, 39, 900000]) (lH := [3, 10, 26, 28, 100, 1000006]) (GT rfl rfl rfl rfl rfl rfl rfl rfl rfl rfl) (Qb rfl (Qb rfl (Qb rfl (Qb rfl (Qb rfl (Qb rfl Qj)))))) rfl rfl rfl)
  ·exact Qer _
  intro k hK1
  have hlen2 : ((w[i]'Wa).cs.take k).length = k := by simp only [List.length_take]; omega
  have hns := fun (h : k < (w[i]'Wa).cs.length) => hw.ns _ (Qek (Wa : i < w.length)) _ (Qek h)
  have hnl := fun (h : k < (w[i]'Wa).cs.length) => hw.nl _ (Qek (Wa : i < w.length)) _ (Qek h)
  try dsimp only
  refine Qd fun K hK => Z6 Z Z (kc hK (Pm Z Z Z Z Z Z Z Z Z Z Z) ?_)
  refine QC ?_ -- 4
  refine Qw Z (fun h2 => ?_) (fun h2 => ?_)
  ·try rw [h2]
   try simp only [qA] at h2
   refine Qt (QG (GT Z Z Z Z Z Z Z Z Z Z) ?_)
   refine QC ?_ -- 5
   refine Qz (Qd fun K hK => QN Z Z Z Wa (Q0 Wa) Z (QH (cs := [_, _, _, _, _, _, _, _]) Z Z Z Z (Zu Z (Zn Z Z Z Z Z Z Z Z (kc hK (Pm Z Z Z Z Z Z Z Z Z Z Z) ?_)))))
   refine Qd fun K hK => Zu Z (kc hK (NO Z Z Z Z Z Z Z Z Z Z Z Z) ?_)
   refine QC ?_ -- 6
   refine Qd fun K hK => Qe Z Z (Qs Z Z Z ?_)
   first | refine QP rfl QO ?_ | refine QP rfl rfl ?_
   refine Qa Z (kc hK (PO Z Z Z Z Z Z Z Z Z Z Z Z Z Z Z) ?_)
   refine Qz ?_
   have hns1 := hns Wa
   refine Zh (ι := Nat) (fun a => ⟨[(3, .ref 3 0 0), (7, .ref 28 0 0), (10, .osl 10 ((w[i]'Wa).cs.take k).length), (12, .ref 12 0 0), (13, .ref 13 0 0), (30, .sl (w.map Yd)), (31, .int .i64 w.length), (32, .int .i64 i), (37, FO (w[i]'Wa).cs), (38, .int .i64 (w[i]'Wa).cs.length), (39, .int .i64 k), (44, GP ((w[i]'Wa).cs[k]'Wa).ns), (45, .int .i64 ((w[i]'Wa).cs[k]'Wa).ns.length), (46, .int .i64 a), (900000, gD)], [(3, ⟨[[.sl (w.map Yd)]], 1, 24, true⟩), (10, ⟨((w[i]'Wa).cs.take k).map (TG w), 2, 78, true⟩), (12, ⟨[P3 ((w[i]'Wa).cs[k]'Wa)], 8, 45, true⟩), (13, ⟨[[.osl 101 (((w[i]'Wa).cs[k]'Wa).ns.take a).length, .fsl []]], 2, 78, false⟩), (26, ⟨List.replicate w.length [.int .i64 0], 1, 3, true⟩), (28, ⟨[[.osl 100 (w.take i).length, .osl 26 w.length, .bool hb, .clr f 1000006 ps]], 4, 73, false⟩), (100, ⟨(w.take i).map (fun u => [Js w u]), 1, 74, true⟩), (101, ⟨(((w[i]'Wa).cs[k]'Wa).ns.take a).map (fun r => [Np w r]), 1, 76, true⟩), (1000006, ⟨[[.fsl []]], 1, et, true⟩)]⟩) (fun a => a <= ((w[i]'Wa).cs[k]'Wa).ns.length) (fun a => ((w[i]'Wa).cs[k]'Wa).ns.length - a) 0 ?_ ?_ ?_
   ·exact le_trans (Kl 13 0 101 1 76 rfl rfl rfl rfl) (QT (l := [3, 7, 10, 12, 13, 30, 31, 32, 37, 38, 39, 44, 45, 46, 900000]) (lH := [3, 10, 12, 13, 26, 28, 100, 101, 1000006]) (PO rfl rfl rfl rfl rfl rfl rfl rfl rfl rfl rfl rfl rfl rfl rfl) (Qb rfl (Qb rfl (Qb rfl (Qb rfl (Qb rfl (Qb rfl (Qb rfl (Qb rfl (Qb rfl Qj))))))))) rfl rfl rfl)
   ·exact Qer _
   intro a hA
   have hlen3 : (((w[i]'Wa).cs[k]'Wa).ns.take a).length = a := by simp only [List.length_take]; omega
   have hrl := fun (h : a < ((w[i]'Wa).cs[k]'Wa).ns.length) => hnl Wa _ (Qek h)
   try dsimp only
   refine Qd fun K hK => Z6 Z Z (kc hK (CM Z Z Z Z Z Z Z Z Z Z Z Z Z Z Z Z) ?_)
   refine QC ?_ -- 7
   refine Qw Z (fun h3 => ?_) (fun h3 => ?_)
   ·try rw [h3]
    try simp only [qA] at h3
    refine Qt (QG (PO Z Z Z Z Z Z Z Z Z Z Z Z Z Z Z) ?_)
    refine QC ?_ -- 8
    refine Qz (Qd fun K hK => QN Z Z Z Wa (Q0 Wa) Z (Qs Z Z Z (Qa Z (kc hK (CM Z Z Z Z Z Z Z Z Z Z Z Z Z Z Z Z) ?_))))
    refine Qd fun K hK => Qa Z (kc hK (QcN Z Z Z Z Z Z Z Z Z Z Z Z Z Z Z Z Z) ?_)
    refine QC ?_ -- 9
    refine Qd fun K hK => Qa Z ?_
    first | refine QP rfl QO ?_ | refine QP rfl rfl ?_
    refine Qa Z (kc hK (QaF Z Z Z Z Z Z Z Z Z Z Z Z Z Z Z Z Z Z Z) ?_)
    refine Qz ?_
    have hrl1 := hrl Wa
    refine Zh (ι := Nat) (fun b => ⟨[(3, .ref 3 0 0), (7, .ref 28 0 0), (10, .osl 10 ((w[i]'Wa).cs.take k).length), (12, .ref 12 0 0), (13, .ref 13 0 0), (16, .osl 16 ((((w[i]'Wa).cs[k]'Wa).ns[a]'Wa).take b).length), (30, .sl (w.map Yd)), (31, .int .i64 w.length), (32, .int .i64 i), (37, FO (w[i]'Wa).cs), (38, .int .i64 (w[i]'Wa).cs.length), (39, .int .i64 k), (44, GP ((w[i]'Wa).cs[k]'Wa).ns), (45, .int .i64 ((w[i]'Wa).cs[k]'Wa).ns.length), (46, .int .i64 a), (50, Jf (((w[i]'Wa).cs[k]'Wa).ns[a]'Wa)), (51, .int .i64 (((w[i]'Wa).cs[k]'Wa).ns[a]'Wa).length), (52, .int .i64 b), (900000, gD)], [(3, ⟨[[.sl (w.map Yd)]], 1, 24, true⟩), (10, ⟨((w[i]'Wa).cs.take k).map (TG w), 2, 78, true⟩), (12, ⟨[P3 ((w[i]'Wa).cs[k]'Wa)], 8, 45, true⟩), (13, ⟨[[.osl 101 (((w[i]'Wa).cs[k]'Wa).ns.take a).length, .fsl []]], 2, 78, false⟩), (16, ⟨((((w[i]'Wa).cs[k]'Wa).ns[a]'Wa).take b).map (dWk w), 2, 81, true⟩), (26, ⟨List.replicate w.length [.int .i64 0], 1, 3, true⟩), (28, ⟨[[.osl 100 (w.take i).length, .osl 26 w.length, .bool hb, .clr f 1000006 ps]], 4, 73, false⟩), (100, ⟨(w.take i).map (fun u => [Js w u]), 1, 74, true⟩), (101, ⟨(((w[i]'Wa).cs[k]'Wa).ns.take a).map (fun r => [Np w r]), 1, 76, true⟩), (1000006, ⟨[[.fsl []]], 1, et, true⟩)]⟩) (fun b => b <= (((w[i]'Wa).cs[k]'Wa).ns[a]'Wa).length) (fun b => (((w[i]'Wa).cs[k]'Wa).ns[a]'Wa).length - b) 0 ?_ ?_ ?_
    ·exact le_trans (H4 16 16 2 81 rfl rfl) (QT (l := [3, 7, 10, 12, 13, 16, 30, 31, 32, 37, 38, 39, 44, 45, 46, 50, 51, 52, 900000]) (lH := [3, 10, 12, 13, 16, 26, 28, 100, 101, 1000006]) (QaF rfl rfl rfl rfl rfl rfl rfl rfl rfl rfl rfl rfl rfl rfl rfl rfl rfl rfl rfl) (Qb rfl (Qb rfl (Qb rfl (Qb rfl (Qb rfl (Qb rfl (Qb rfl (Qb rfl (Qb rfl (Qb rfl Qj)))))))))) rfl rfl rfl)
    ·exact Qer _
    intro b hB
    have hlen4 : ((((w[i]'Wa).cs[k]'Wa).ns[a]'Wa).take b).length = b := by simp only [List.length_take]; omega
    try dsimp only
    refine Qd fun K hK => Z6 Z Z (kc hK (QcO Z Z Z Z Z Z Z Z Z Z Z Z Z Z Z Z Z Z Z Z) ?_)
    refine QC ?_ -- 10
    refine Qw Z (fun h4 => ?_) (fun h4 => ?_)
    ·try rw [h4]
     try simp only [qA] at h4
     refine Qt (QG (QaF Z Z Z Z Z Z Z Z Z Z Z Z Z Z Z Z Z Z Z) ?_)
     refine QC ?_ -- 11
     refine Qz (Qd fun K hK => QN Z Z Z Wa (Q0 Wa) Z (QH (cs := [_, _, _]) Z Z Z Z (Zu Z (Zn Z Z Z Z Z Z Z Z (kc hK (QcO Z Z Z Z Z Z Z Z Z Z Z Z Z Z Z Z Z Z Z Z) ?_)))))
     refine QU fun K hK => Qa Z (QH (cs := [_]) Z Z Z Z (QH (cs := [_, _, _]) Z Z Z Z (QK (ND hw (hr.nr _ (Qek (Wa : i < w.length)) _ (Qek (Wa : k < (w[i]'Wa).cs.length)) _ (Qek (Wa : a < ((w[i]'Wa).cs[k]'Wa).ns.length)) _ (Qek (Wa : b < (((w[i]'Wa).cs[k]'Wa).ns[a]'Wa).length))) (hw.nw _ (Qek (Wa : i < w.length)) _ (Qek (Wa : k < (w[i]'Wa).cs.length)) _ (Qek (Wa : a < ((w[i]'Wa).cs[k]'Wa).ns.length)) _ (Qek (Wa : b < (((w[i]'Wa).cs[k]'Wa).ns[a]'Wa).length)))) Z Z (.inl Z) (Zl Z Z (J5 Z Z (fun _ h => Gn Z Z Z h) Z Wd Z Z Z Wh Wh (Qa Z (hK _ ?_)))))))
     refine Qk (QG (QaF Z Z Z Z Z Z Z Z Z Z Z Z Z Z Z Z Z Z Z) (QU fun K hK => Zb Z Z Wb (Qa Z (hK _ ?_))))
     refine Ql (b + 1) ?_ ?_ ?_
     ·exact QT (l := [3, 7, 10, 12, 13, 16, 30, 31, 32, 37, 38, 39, 44, 45, 46, 50, 51, 52, 900000]) (lH := [3, 10, 12, 13, 16, 26, 28, 100, 101, 1000006]) (QaF rfl rfl rfl rfl rfl rfl rfl rfl rfl rfl rfl rfl rfl rfl rfl rfl rfl rfl rfl) (Qb rfl (Qb rfl (Qb rfl (Qb rfl (Qb rfl (Qb rfl (Qb rfl (Qb rfl (Qb rfl (Qb rfl Qj)))))))))) (by rw [Gq (Wa : b < (((w[i]'Wa).cs[k]'Wa).ns[a]'Wa).length)] <;> rfl) (by rw [Gr (Wa : b < (((w[i]'Wa).cs[k]'Wa).ns[a]'Wa).length)] <;> rfl) rfl
     ·omega
     ·first | omega | (simp only; omega) | (dsimp only; omega)
    ·try rw [h4]
     try simp only [qA] at h4
     refine Q4 (QF (Qx (QE (QG (CM Z Z Z Z Z Z Z Z Z Z Z Z Z Z Z Z) (Dd (Li (l := [3, 7, 10, 12, 13, 30, 31, 32, 37, 38, 39, 44, 45, 46, 900000]) (lH := [3, 26, 28, 100, 1000006, 10, 12, 13, 101]) 16 16 (PO Z Z Z Z Z Z Z Z Z Z Z Z Z Z Z) (Qb Z (Qb Z (Qb Z (Qb Z (Qb Z (Qb Z (Qb Z (Qb Z (Qb Z Qj))))))))) Z Z Z (by first | (simp; done) | (simp; omega)) Z Z Z Z) (QU fun K hK => Qe Z Z (Qs Z Z Z (Qa Z (Zl Z Z (J5 Z Z (fun _ h => Gn Z Z Z h) Z Wd Z Z Z Wh Wh ?_))))))))))
     refine Qe Z Z (Zn Z Z Z Z Z Z Z Z (hK _ ?_))
     refine Qk (QG (PO Z Z Z Z Z Z Z Z Z Z Z Z Z Z Z) (QU fun K hK => Zb Z Z Wb (Qa Z (hK _ ?_))))
     refine Ql (a + 1) ?_ ?_ ?_
     ·exact QT (l := [3, 7, 10, 12, 13, 30, 31, 32, 37, 38, 39, 44, 45, 46, 900000]) (lH := [3, 10, 12, 13, 26, 28, 100, 101, 1000006]) (PO rfl rfl rfl rfl rfl rfl rfl rfl rfl rfl rfl rfl rfl rfl rfl) (Qb rfl (Qb rfl (Qb rfl (Qb rfl (Qb rfl (Qb rfl (Qb rfl (Qb rfl (Qb rfl Qj))))))))) rfl (by rw [Gq (Wa : a < ((w[i]'Wa).cs[k]'Wa).ns.length), Gr (Wa : a < ((w[i]'Wa).cs[k]'Wa).ns.length), Qev (Wa : (((w[i]'Wa).cs[k]'Wa).ns[a]'Wa).length <= b)] <;> rfl) rfl
     ·omega
     ·first | omega | (simp only; omega) | (dsimp only; omega)
   ·try rw [h3]
    try simp only [qA] at h3
    refine Q4 (QF (Qx (QE (QG (NO Z Z Z Z Z Z Z Z Z Z Z Z) ?_))))
    refine QC ?_ -- 12
    refine Qd fun K hK => Qe Z Z (Qs Z Z Z ?_)
    first | refine QP rfl QO ?_ | refine QP rfl rfl ?_
    refine Qa Z (kc hK (BN Z Z Z Z Z Z Z Z Z Z Z Z Z Z) ?_)
    refine Qz ?_
    refine Zh (ι := Nat) (fun m => ⟨[(3, .ref 3 0 0), (7, .ref 28 0 0), (10, .osl 10 ((w[i]'Wa).cs.take k).length), (13, .ref 13 0 0), (30, .sl (w.map Yd)), (31, .int .i64 w.length), (32, .int .i64 i), (37, FO (w[i]'Wa).cs), (38, .int .i64 (w[i]'Wa).cs.length), (39, .int .i64 k), (71, Jf ((w[i]'Wa).cs[k]'Wa).bs), (72, .int .i64 ((w[i]'Wa).cs[k]'Wa).bs.length), (73, .int .i64 m), (900000, gD)], [(3, ⟨[[.sl (w.map Yd)]], 1, 24, true⟩), (10, ⟨((w[i]'Wa).cs.take k).map (TG w), 2, 78, true⟩), (13, ⟨[[.osl 101 (((w[i]'Wa).cs[k]'Wa).ns.take a).length, .osl 102 (((w[i]'Wa).cs[k]'Wa).bs.take m).length]], 2, 78, false⟩), (26, ⟨List.replicate w.length [.int .i64 0], 1, 3, true⟩), (28, ⟨[[.osl 100 (w.take i).length, .osl 26 w.length, .bool hb, .clr f 1000006 ps]], 4, 73, false⟩), (100, ⟨(w.take i).map (fun u => [Js w u]), 1, 74, true⟩), (101, ⟨(((w[i]'Wa).cs[k]'Wa).ns.take a).map (fun r => [Np w r]), 1, 76, true⟩), (102, ⟨(((w[i]'Wa).cs[k]'Wa).bs.take m).map (dWk w), 2, 81, true⟩), (1000006, ⟨[[.fsl []]], 1, et, true⟩)]⟩) (fun m => m <= ((w[i]'Wa).cs[k]'Wa).bs.length) (fun m => ((w[i]'Wa).cs[k]'Wa).bs.length - m) 0 ?_ ?_ ?_
    ·exact le_trans (Kl 13 1 102 2 81 rfl rfl rfl rfl) (QT (l := [3, 7, 10, 13, 30, 31, 32, 37, 38, 39, 71, 72, 73, 900000]) (lH := [3, 10, 13, 26, 28, 100, 101, 102, 1000006]) (BN rfl rfl rfl rfl rfl rfl rfl rfl rfl rfl rfl rfl rfl rfl) (Qb rfl (Qb rfl (Qb rfl (Qb rfl (Qb rfl (Qb rfl (Qb rfl (Qb rfl (Qb rfl Qj))))))))) rfl rfl rfl)
    ·exact Qer _
    intro m hM
    have hlen5 : (((w[i]'Wa).cs[k]'Wa).bs.take m).length = m := by simp only [List.length_take]; omega
    try dsimp only
    refine Qd fun K hK => Z6 Z Z (kc hK (PO Z Z Z Z Z Z Z Z Z Z Z Z Z Z Z) ?_)
    refine QC ?_ -- 13
    refine Qw Z (fun h5 => ?_) (fun h5 => ?_)
    ·try rw [h5]
     try simp only [qA] at h5
     refine Qt (QG (BN Z Z Z Z Z Z Z Z Z Z Z Z Z Z) ?_)
     refine QC ?_ -- 14
     refine Qz (Qd fun K hK => QN Z Z Z Wa (Q0 Wa) Z (QH (cs := [_, _, _]) Z Z Z Z (Zu Z (Zn Z Z Z Z Z Z Z Z (kc hK (PO Z Z Z Z Z Z Z Z Z Z Z Z Z Z Z) ?_)))))
     refine QU fun K hK => Qe Z Z (QQ (ds0 := [2, 0, 0]) Z Z Z Z Z (Zm (ds0 := [4, 3, 2, 0, 0]) (cs := [_]) Z Z Z Z Z Z (Zm (ds0 := [4, 3, 2, 0, 0]) (cs := [_, _, _]) Z Z Z Z Z Z (Zp (ds0 := [3, 2, 0]) (ND hw (hr.bw _ (Qek (Wa : i < w.length)) _ (Qek (Wa : k < (w[i]'Wa).cs.length)) _ (Qek (Wa : m < ((w[i]'Wa).cs[k]'Wa).bs.length))) (hw.bw _ (Qek (Wa : i < w.length)) _ (Qek (Wa : k < (w[i]'Wa).cs.length)) _ (Qek (Wa : m < ((w[i]'Wa).cs[k]'Wa).bs.length)))) Z Z (.inl Z) Z Z (Zl Z Z (Ta (ds0 := [0]) Z Z Wm ⟨_, rfl, rfl, rfl, rfl, rfl⟩ Z Z Wd Z Z Wh Wh Z Z (Qe Z Z (N1 (ds0 := []) Z Z Z Z Z Z Z Z Z Z (hK _ ?_)))))))))
     refine Qk (QG (BN Z Z Z Z Z Z Z Z Z Z Z Z Z Z) (QU fun K hK => Zb Z Z Wb (Qa Z (hK _ ?_))))
     refine Ql (m + 1) ?_ ?_ ?_
     ·exact le_trans (R8 (l := [3, 7, 30, 31, 32, 37, 38, 39, 900000, 10, 13, 71, 72, 73]) (lH := [3, 26, 28, 100, 1000006, 10, 101]) 83 102 13 (BN rfl rfl rfl rfl rfl rfl rfl rfl rfl rfl rfl rfl rfl rfl) (Qb rfl (Qb rfl (Qb rfl (Qb rfl (Qb rfl (Qb rfl (Qb rfl Qj))))))) rfl rfl rfl rfl rfl rfl rfl rfl) (QT (l := [3, 7, 10, 13, 30, 31, 32, 37, 38, 39, 71, 72, 73, 900000]) (lH := [3, 10, 13, 26, 28, 100, 101, 102, 1000006]) (BN rfl rfl rfl rfl rfl rfl rfl rfl rfl rfl rfl rfl rfl rfl) (Qb rfl (Qb rfl (Qb rfl (Qb rfl (Qb rfl (Qb rfl (Qb rfl (Qb rfl (Qb rfl Qj))))))))) rfl (by rw [Gq (Wa : m < ((w[i]'Wa).cs[k]'Wa).bs.length), Gr (Wa : m < ((w[i]'Wa).cs[k]'Wa).bs.length)] <;> rfl) rfl)
     ·omega
     ·first | omega | (simp only; omega) | (dsimp only; omega)
    ·try rw [h5]
     try simp only [qA] at h5
     refine Q4 (QF (Qx (QE (QG (Pm Z Z Z Z Z Z Z Z Z Z Z) (Dd (le_trans (Ri (l := [3, 7, 30, 31, 32, 37, 38, 39, 900000, 10, 13]) (lH := [3, 26, 28, 100, 1000006, 10, 102]) 101 13 0 (Pm Z Z Z Z Z Z Z Z Z Z Z) (Qb Z (Qb Z (Qb Z (Qb Z (Qb Z (Qb Z (Qb Z Qj))))))) Z Z Wd Z Z Z Z Z Z Z Z) (Ri (l := [3, 7, 30, 31, 32, 37, 38, 39, 900000, 10, 13]) (lH := [3, 26, 28, 100, 1000006, 10]) 102 13 1 (Pm Z Z Z Z Z Z Z Z Z Z Z) (Qb Z (Qb Z (Qb Z (Qb Z (Qb Z (Qb Z Qj)))))) Z Z Wd Z Z Z Z Z Z Z Z)) (QU fun K hK => Qa Z (QH (cs := [_, _]) Z Z Z Z (Zl Z Z (J5 Z Z (fun _ h => Gn Z Z Z h) Z Wd Z Z Z Wh Wh (Qa Z ?_))))))))))
     refine hK _ ?_
     refine Qk (QG (GT Z Z Z Z Z Z Z Z Z Z) (QU fun K hK => Zb Z Z Wb (Qa Z (hK _ ?_))))
     refine Ql (k + 1) ?_ ?_ ?_
     ·exact QT (l := [3, 7, 10, 30, 31, 32, 37, 38, 39, 900000]) (lH := [3, 10, 26, 28, 100, 1000006]) (GT rfl rfl rfl rfl rfl rfl rfl rfl rfl rfl) (Qb rfl (Qb rfl (Qb rfl (Qb rfl (Qb rfl (Qb rfl Qj)))))) (by rw [Gq (Wa : k < (w[i]'Wa).cs.length)] <;> rfl) (by rw [Gr (Wa : k < (w[i]'Wa).cs.length), Qev (Wa : ((w[i]'Wa).cs[k]'Wa).ns.length <= a), Qev (Wa : ((w[i]'Wa).cs[k]'Wa).bs.length <= m)] <;> rfl) rfl
     ·omega
     ·first | omega | (simp only; omega) | (dsimp only; omega)
  ·try rw [h2]
   try simp only [qA] at h2
   refine Q4 (QF (Qx (QE (ks7 Z Z Z Z Z Z Z (Dd (Li (l := [3, 7, 30, 31, 32, 900000]) (lH := [3, 26, 28, 100, 1000006]) 10 10 (kp6 Z Z Z Z Z Z) (Qb Z (Qb Z (Qb Z (Qb Z (Qb Z Qj))))) Z Z Z (by first | (simp; done) | (simp; omega)) Z Z Z Z) (QU fun K hK => mv2 Z Z (Za Z Z (Qe Z Z (Qs Z Z Z ?_)))))))))
   refine Qa Z (Zl Z Z (J5 Z Z (fun _ h => Gn Z Z Z h) Z Wd Z Z Z Wh Wh (Za Z Z (Qe Z Z (Zn Z Z Z Z Z Z Z Z (hK _ ?_))))))
   refine Qk (ks6 Z Z Z Z Z Z (QU fun K hK => Zb Z Z Wb (Qa Z (hK _ ?_))))
   refine Ql (i + 1) ?_ ?_ ?_
   ·exact QT (l := [3, 7, 30, 31, 32, 900000]) (lH := [3, 26, 28, 100, 1000006]) (kp6 rfl rfl rfl rfl rfl rfl) (Qb rfl (Qb rfl (Qb rfl (Qb rfl (Qb rfl Qj))))) rfl (by rw [Gq (Wa : i < w.length), Gr (Wa : i < w.length), Qev (Wa : (w[i]'Wa).cs.length <= k)] <;> rfl) rfl
   ·omega
   ·first | omega | (simp only; omega) | (dsimp only; omega)
 ·try rw [h1]
  try simp only [qA] at h1
  refine Q4 (QF (Qx (QE (ks1 Z (Dd (le_trans (Ri (l := [7]) (lH := [26, 1000006]) 100 28 0 (kp1 Z) (Qb Z (Qb Z Qj)) Z Z Wd Z Z Z Z Z Z Z Z) (le_trans (Mo 28 500000 Wf Wf _) (le_trans (Mo 26 500003 Wf Wf _) (QT (fr' := [(7, .ref 500000 0 0)]) (H' := [(500000, ⟨[[Zr w, .osl 500003 w.length, .bool hb, .clr f 1000006 ps]], 4, 73, false⟩), (500003, ⟨(List.replicate w.length 0).map rI, 1, 3, true⟩), (1000006, ⟨[[.fsl []]], 1, et, true⟩)]) (l := [7]) (lH := [500000, 500003, 1000006]) (kp1 Z) (Qb Z (Qb Z (Qb Z Qj))) Z (by rw [Qev (Wa : w.length <= i)]; simp only [Box.ren, List.map_cons, List.map_nil, List.set_cons_zero, D.renS, List.map_replicate]; rfl) Z Z)))) (Qd fun K hK => mv2 Z Z (kc1 hK Z ?_)))))))
  refine Qq ?_
  exact Xj rfl rfl fun k b h => h
open Go Go.Abs M3 M25
theorem MJ {σ : Type} {w : Qv} {hb : Bool} {p : N0 σ} {B1 B2 : σ -> Box} {f : Nat} {ps : List D} (hp : PutOk w hb p B1 B2 f ps) (hw : WSm w) (hr : WIn w) (h0 : 0 < w.length) : ∀ (k unit : Nat) (cur : List Int) (s : σ), unit + k = w.length -> cur.length = w.length -> PreW w (cur.take unit) -> p.ok s (listW w hb ((G4 w).drop unit) (cur.take unit)).length -> Bj w hb p B1 B2 f ps unit cur s
 | 0, unit, cur, s, hu, hcl, hq, hok => by
  have : unit = w.length := Wa
  subst this
  exact L5 hp hw hr h0 hcl hq hok
 | k + 1, unit, cur, s, hu, hcl, hq, hok =>
  Xy hp hw hr Wa hcl rfl hq hok fun cur s h1 h2 h3 => MJ hp hw hr h0 k (unit + 1) cur s Wa h1 h2 h3
/-! ### What All puts -/
def pA (most : Int) : N0 (List (List Int)) where
 st s c := if most <= s.length then (s, false) else (s ++ [c], true)
 ok s k := s.length + k <= 1048576
 step {s c k} h := by
  show (if most <= s.length then (s, false) else (s ++ [c], true)).1.length + k <= 1048576
  have h' : s.length + (k + 1) <= 1048576 := h
  split
  ·show s.length + k <= _; omega
  ·show (s ++ [c]).length + k <= _; rw [List.length_append]; simp only [List.length_cons, List.length_nil]; omega
 mono {s j k} h hj := by
  have h' : s.length + k <= 1048576 := h
  show s.length + j <= 1048576
  omega
theorem Qab {w : Qv} {most : Int} : PutOk w false (pA most) (fun s => bA1 s) (fun s => bA2 s) 19 [.ptr [.int .i64 most]] where
 p1 _ := rfl
 s1 s r hr d hd := by
  obtain ⟨c, _, rfl⟩ := Qet.1 hr
  simp [rL] at hd; subst hd; rfl
 s2 s r hr d hd j hj := by
  simp at hr; subst hr; simp at hd; subst hd; simpa [D.sid] using hj
 cap := rfl
 ren _ := rfl
 ids d hd := by simp at hd; subst hd; rfl
 ok s cur c h := by
  by_cases hm : most <= s.length
  ·have e : (pA most).st s c = (s, false) := if_pos hm
   rw [e]
   exact Tu hm
  ·have e : (pA most).st s c = (s ++ [c], true) := if_neg hm
   rw [e]
   refine SF hm ?_
   have h1 : s.length + 1 <= 1048576 := h
   omega
def pF : N0 (Option (List Int)) where
 st _ c := (some c, false)
 ok _ _ := True
 step _ := trivial
 mono _ _ := trivial
theorem Qac {w : Qv} : PutOk w true pF (fun _ => bF1) (fun s => bF2 s) 25 [] where
 p1 _ := rfl
 s1 s r hr d hd := by cases hr
 s2 s r hr d hd j hj := by
  simp at hr; subst hr; simp at hd; subst hd
  cases s <;> simp [D.sid, ZT] at hj
 cap := rfl
 ren _ := rfl
 ids d hd := by cases hd
 ok s cur c h := Qa9
theorem QcP (w : Qv) : PreW w ((List.replicate w.length (0 : Int)).take 0) := PreW.nil w
def BI (l : List (List Int)) : D := .sl (l.map rL)
noncomputable def allW (w : Qv) : List (List Int) := listW w false (G4 w) []
theorem Bo {fr : Qee} {H : Qed} {k n : Nat} {b : Box} {rows : List (List D)} (h : lk H k = some b) (hp : b.pr = true) (hn : n = b.rows.length) (e : b.rows = rows) : JM ⟨fr, H⟩ (.osl k n) = .sl rows := by
 simp [JM, D.fz, D.fzS, Nn, h, hp, hn, e, D.can, D.canS]
theorem Bz {w : Qv} (hwr : SD w) (hm : MayW w) {most : Int} (hL : (allW w).length <= 1048576) : Ok Tryd.prog 9 [Z7 w, .int .i64 most, gD] (.tup [BI (X7 (pA most) [] (allW w)).1, .bool (X7 (pA most) [] (allW w)).2]) := by
 have hv := hm.val hwr
 have hw := hv.wsm
 have hr := hv.win
 have h0 : 0 < w.length := hv.len.1
 obtain ⟨d, H', ⟨c', hc', _, rfl, rfl⟩, hok⟩ := MJ (Qab (w := w) (most := most)) hw hr h0 w.length 0 (List.replicate w.length 0) [] Wa Wd (QcP w) (by rw [List.drop_zero]; show _ + _ <= _; simpa [allW] using hL)
 rw [List.drop_zero, List.take_zero] at hok
 change OkH Tryd.prog 20 _ _ (.bool (X7 (pA most) [] (allW w)).2) (HW 1000006 1500003 1500000 w c' false 19 [.ptr [.int .i64 most]] (bA1 (X7 (pA most) [] (allW w)).1) (bA2 (X7 (pA most) [] (allW w)).1)) at hok
 refine Ok.ofTG (ds := [Z7 w, .int .i64 most]) (dg := gD) Z5 Tryd.func9 tp9 (Qeg rfl) ?_
 show TW _ _ tf9.body _ _
 refine Qd fun K hK => ?_
 refine ZJ rfl rfl rfl ?_
 refine ZJ rfl rfl rfl ?_
 refine Qa rfl ?_
 refine Qa rfl ?_
 refine hK _ _ (Zw (Qo rfl (Qo rfl (Qo rfl QJ))) ?_)
 clear hK K
 refine QC ?_
 refine Qd fun K hK => ?_
 refine QH (cs := [_]) rfl rfl rfl rfl ?_
 refine QK (XE hm ▸ Hm hwr) rfl rfl (.inr rfl) ?_
 refine Zv rfl ?_
 refine hK _ _ (Zw (Qo rfl (Qo rfl (Qo rfl (Qo rfl QJ)))) ?_)
 clear hK K
 refine Ze rfl ?_
 refine Qt ?_
 refine QG (Qo rfl (Qo rfl (Qo rfl QJ))) ?_
 refine Qd fun K hK => ?_
 refine Zu rfl ?_
 refine hK _ _ (Zw (Qo rfl (Qo rfl (Qo rfl (Qo rfl QJ)))) ?_)
 clear hK K
 refine Dd (le_trans (Lh 3 _ Wf) (QT (fr' := [(2, .ref 2 0 0), (3, .ptr [.int .i64 most]), (6, .ref 6 0 0), (900000, gD)]) (H' := [(2, ⟨[[.sl (w.map Yd)]], 1, 24, true⟩), (6, ⟨[[.fsl []]], 1, 29, true⟩)]) (l := [2, 3, 6, 900000]) (lH := [2, 6]) (Qo rfl (Qo rfl (Qo rfl (Qo rfl QJ)))) (Qb rfl (Qb rfl Qj)) rfl rfl rfl rfl)) ?_
 (refine PV fun K hK => Gk (l := [_, _]) ?_)
 refine QH (cs := [_]) rfl rfl rfl rfl ?_
 refine Td rfl rfl rfl rfl ?_
 refine SC ?_
 (refine GH (QT (fr' := [(6, .ref 6 0 0), (11, Z7 w), (12, .clr 19 6 [.ptr [.int .i64 most]]), (900000, gD)]) (H' := [(6, ⟨[[.fsl []]], 1, 29, true⟩)]) (l := [6, 11, 12, 900000]) (lH := [6]) (Qo rfl (Qo rfl (Qo rfl (Qo rfl QJ)))) (Qb rfl Qj) rfl rfl rfl rfl) ?_)
 (refine B4 (Lv (G := [500000, 500003]) (Hr := [(500000, ⟨[[Zr w, .osl 500003 w.length, .bool false, .clr 19 6 [.ptr [.int .i64 most]]]], 4, 73, false⟩), (500003, ⟨(List.replicate w.length 0).map rI, 1, 3, true⟩), (6, ⟨[[.fsl []]], 1, 29, true⟩)]) rfl rfl rfl rfl rfl rfl rfl rfl rfl ?_ (JD hw hr (hb := false) (f := 19) (et := 29) (ps := [.ptr [.int .i64 most]])) ?_))
 ·simp only [J3, List.map_cons, List.map_nil, Box.ren, X2]; rfl
 (refine Gk (l := []) ?_)
 refine SC ?_
 (refine GH (le_trans (Kl 6 0 500001 1 32 rfl rfl rfl rfl) (QT (fr' := [(6, .ref 6 0 0), (13, .ref 500000 0 0)]) (H' := [(500001, bA1 []), (6, bA2 []), (500003, ⟨(List.replicate w.length 0).map rI, 1, 3, true⟩), (500000, ⟨[[Zr w, .osl 500003 w.length, .bool false, .clr 19 6 [.ptr [.int .i64 most]]]], 4, 73, false⟩)]) (l := [6, 13]) (lH := [500001, 6, 500003, 500000]) (Qo rfl (Qo rfl QJ)) (Qb rfl (Qb rfl (Qb rfl (Qb rfl Qj)))) rfl rfl rfl rfl)) ?_)
 (refine F8 (G := [500001]) (Hr := [(500001, bA1 (X7 (pA most) [] (allW w)).1), (6, bA2 (X7 (pA most) [] (allW w)).1), (500003, ⟨c'.map rI, 1, 3, true⟩), (500000, ⟨[[Zr w, .osl 500003 c'.length, .bool false, .clr 19 6 [.ptr [.int .i64 most]]]], 4, 73, false⟩)]) rfl rfl rfl rfl rfl rfl rfl hok ?_ ?_ ?_)
 ·simp only [J3, List.map_cons, List.map_nil, Box.ren, X2, HW, List.length_replicate]; rfl
 ·simp only [J3, List.map_cons, List.map_nil, Box.ren, X2, HW]
  have e : ∀ l : List (List Int), (l.map rL).map (fun r => r.map (D.renS (Xb [500001]))) = l.map rL := fun l => by simp [rL, ZT, D.renS, Function.comp]
  rw [e]; rfl
 refine So ?_
 refine Qa rfl ?_
 refine hK _ _ (Zw (Qo rfl (Qo rfl QJ)) ?_)
 clear hK K
 refine Qd fun K hK => ?_
 refine Qs rfl rfl rfl ?_
 refine Qa rfl ?_
 refine Qa rfl ?_
 refine Qa rfl ?_
 refine hK _ _ (Zw (Qo rfl (Qo rfl QJ)) ?_)
 clear hK K
 refine Qq ?_
 exact ZH rfl rfl ⟨Bo rfl rfl Wd rfl, rfl⟩
open Go Go.Abs M3 M25
/-! ### First -/
def BH (l : List (List Int)) : D := .tup [ZT (l.getLast?.getD []), .bool l.getLast?.isSome]
theorem Qc4 (l : List (List Int)) : X7 pF none l = (l.head?, l.isEmpty) := by
 cases l with
 | nil => rfl
 | cons c l => rfl
theorem C6 {ρ : Nat -> Nat} {x : Option (List Int)} : (xF x).renS ρ = xF x := by cases x <;> simp [D.renS, ZT]
theorem Ts {w : Qv} (hwr : SD w) (hm : MayW w) : Ok Tryd.prog 11 [Z7 w, gD] (BH (allW w)) := by
 have hv := hm.val hwr
 have hw := hv.wsm
 have hr := hv.win
 have h0 : 0 < w.length := hv.len.1
 obtain ⟨d, H', ⟨c', hc', _, rfl, rfl⟩, hok⟩ := MJ (Qac (w := w)) hw hr h0 w.length 0 (List.replicate w.length 0) none Wa Wd (QcP w) trivial
 rw [List.drop_zero, List.take_zero] at hok
 have e0 : listW w true (G4 w) [] = (allW w).reverse := NP w _ _
 rw [e0, Qc4, List.head?_reverse, List.isEmpty_reverse] at hok
 have eL : BH (allW w) = .tup [ZT ((allW w).getLast?.getD []), .bool (!(allW w).isEmpty)] := by
  unfold BH; congr 4; cases allW w <;> simp
 rw [eL]
 generalize (allW w).getLast? = x at hok ⊢
 generalize (allW w).isEmpty = y at hok ⊢
 have hok2 : OkH Tryd.prog 20 [.ref 1500000 0 0, .int .i64 0] (HW 1000004 1500003 1500000 w (List.replicate w.length 0) true 25 [] bF1 (bF2 none)) (.bool y) (HW 1000004 1500003 1500000 w c' true 25 [] bF1 (bF2 x)) := by
  refine OkH.rnm' (rnS (a := 1000006) (b := 1000004) Wf Wf) hok rfl ?_ rfl ?_
  ·simp only [NS, List.map_cons, List.map_nil, Box.ren, X2, HW]; rfl
  ·simp only [NS, List.map_cons, List.map_nil, Box.ren, X2, HW, C6]; rfl
 have hnw := OkH.rnm' (rnS (a := 1000006) (b := 1000004) Wf Wf) (JD hw hr (hb := true) (f := 25) (et := 32) (ps := [])) (ds2 := [Z7 w, .bool true, .clr 25 1000004 [], gD]) (H2 := [(1000004, ⟨[[.fsl []]], 1, 32, true⟩)]) (d2 := .ref 500000 0 0) (H2' := [(500000, ⟨[[Zr w, .osl 500003 w.length, .bool true, .clr 25 1000004 []]], 4, 73, false⟩), (500003, ⟨(List.replicate w.length 0).map rI, 1, 3, true⟩), (1000004, ⟨[[.fsl []]], 1, 32, true⟩)]) rfl rfl rfl (by simp only [NS, List.map_cons, List.map_nil, Box.ren, X2]; rfl)
 refine Ok.ofTG (ds := [Z7 w]) (dg := gD) Z5 Tryd.func11 Qc7 (Qeg rfl) ?_
 show TW _ _ tf11.body _ _
 refine Qd fun K hK => ?_
 refine ZJ rfl rfl rfl ?_
 refine Qa rfl ?_
 refine Qa rfl ?_
 refine hK _ _ (Zw (Qo rfl (Qo rfl QJ)) ?_)
 clear hK K
 refine QC ?_
 refine Qd fun K hK => ?_
 refine QH (cs := [_]) rfl rfl rfl rfl ?_
 refine QK (XE hm ▸ Hm hwr) rfl rfl (.inr rfl) ?_
 refine Zv rfl ?_
 refine hK _ _ (Zw (Qo rfl (Qo rfl (Qo rfl QJ))) ?_)
 clear hK K
 refine Ze rfl ?_
 refine Qt ?_
 refine QG (Qo rfl (Qo rfl QJ)) ?_
 refine Qd fun K hK => ?_
 refine Zu rfl ?_
 refine hK _ _ (Zw (Qo rfl (Qo rfl (Qo rfl QJ))) ?_)
 clear hK K
 refine Dd (QT (fr' := [(1, .ref 1 0 0), (4, .ref 4 0 0), (900000, gD)]) (H' := [(1, ⟨[[.sl (w.map Yd)]], 1, 24, true⟩), (4, ⟨[[.fsl []]], 1, 32, true⟩)]) (l := [1, 4, 900000]) (lH := [1, 4]) (Qo rfl (Qo rfl (Qo rfl QJ))) (Qb rfl (Qb rfl Qj)) rfl rfl rfl rfl) ?_
 (refine PV fun K hK => Gk (l := [_, _]) ?_)
 refine QH (cs := [_]) rfl rfl rfl rfl ?_
 refine Td rfl rfl rfl rfl ?_
 refine SC ?_
 (refine GH (QT (fr' := [(4, .ref 4 0 0), (9, Z7 w), (10, .clr 25 4 []), (900000, gD)]) (H' := [(4, ⟨[[.fsl []]], 1, 32, true⟩)]) (l := [4, 9, 10, 900000]) (lH := [4]) (Qo rfl (Qo rfl (Qo rfl (Qo rfl QJ)))) (Qb rfl Qj) rfl rfl rfl rfl) ?_)
 (refine B4 (Lv (G := [500000, 500003]) (Hr := [(500000, ⟨[[Zr w, .osl 500003 w.length, .bool true, .clr 25 4 []]], 4, 73, false⟩), (500003, ⟨(List.replicate w.length 0).map rI, 1, 3, true⟩), (4, ⟨[[.fsl []]], 1, 32, true⟩)]) rfl rfl rfl rfl rfl rfl rfl rfl rfl ?_ hnw ?_))
 ·simp only [J3, List.map_cons, List.map_nil, Box.ren, X2]; rfl
 (refine Gk (l := []) ?_)
 refine SC ?_
 (refine GH (le_trans (BP 500001 1 32 rfl) (QT (fr' := [(4, .ref 4 0 0), (11, .ref 500000 0 0)]) (H' := [(500001, bF1), (4, bF2 none), (500003, ⟨(List.replicate w.length 0).map rI, 1, 3, true⟩), (500000, ⟨[[Zr w, .osl 500003 w.length, .bool true, .clr 25 4 []]], 4, 73, false⟩)]) (l := [4, 11]) (lH := [500001, 4, 500003, 500000]) (Qo rfl (Qo rfl QJ)) (Qb rfl (Qb rfl (Qb rfl (Qb rfl Qj)))) rfl rfl rfl rfl)) ?_)
 (refine F8 (G := [500001]) (Hr := [(500001, bF1), (4, bF2 x), (500003, ⟨c'.map rI, 1, 3, true⟩), (500000, ⟨[[Zr w, .osl 500003 c'.length, .bool true, .clr 25 4 []]], 4, 73, false⟩)]) rfl rfl rfl rfl rfl rfl rfl hok2 ?_ ?_ ?_)
 ·simp only [J3, List.map_cons, List.map_nil, Box.ren, X2, HW, List.length_replicate]; rfl
 ·simp only [J3, List.map_cons, List.map_nil, Box.ren, X2, HW, C6]; rfl
 refine So ?_
 refine Qa rfl ?_
 refine hK _ _ (Zw (Qo rfl (Qo rfl QJ)) ?_)
 clear hK K
 refine Qd fun K hK => ?_
 refine Qs rfl rfl rfl ?_
 refine Qa rfl ?_
 refine Zv rfl ?_
 refine Qa rfl ?_
 refine Qa rfl ?_
 refine hK _ _ (Zw (Qo rfl (Qo rfl QJ)) ?_)
 clear hK K
 refine Qq ?_
 cases x with
 | none => exact ZH rfl rfl ⟨rfl, rfl⟩
 | some c => exact ZH rfl rfl ⟨rfl, rfl⟩
end Go.Proofs
namespace M25
open Go Go.Abs M3
/-! ### The world that shows something -/
def wTal : Qv := [⟨[], [], [⟨⟨0, 0, 0, [], []⟩, 0, [[⟨1, ([(Jg, H3)], [(Jg, H3)])⟩]], []⟩]⟩, ⟨[98], [], [⟨⟨1, 0, 0, [], []⟩, 0, [], []⟩, ⟨⟨2, 0, 0, [], []⟩, 0, [], []⟩]⟩]
theorem RA : SD wTal := by
 have hS : Sm [(Jg, H3)] := ⟨by decide, fun s hs => by simp only [Qeo] at hs; subst hs; exact ⟨⟨by decide, by decide⟩, ⟨by decide, by decide⟩⟩⟩
 refine ⟨by decide, fun u hu => ?_, fun u hu => ?_, fun u hu c hc => ?_⟩ <;> simp only [wTal, Qeh, List.not_mem_nil, or_false] at hu <;> rcases hu with rfl | rfl
 ·exact ⟨by decide, by decide⟩
 ·exact ⟨by decide, by decide⟩
 ·exact (by decide : (1 : Nat) <= 1048576)
 ·exact (by decide : (2 : Nat) <= 1048576)
 ·simp only [Qeo] at hc; subst hc
  refine ⟨⟨by decide, by decide⟩, by decide, by decide, fun r hr => ?_, fun x hx => by cases hx⟩
  simp only [Qeo] at hr; subst hr
  exact ⟨by decide, fun x hx => by simp only [Qeo] at hx; subst hx; exact ⟨hS, hS⟩⟩
 ·simp only [Qeh, List.not_mem_nil, or_false] at hc
  rcases hc with rfl | rfl <;> exact ⟨⟨by decide, by decide⟩, by decide, by decide, fun r hr => (by cases hr), fun x hx => (by cases hx)⟩
theorem Rz : MayW wTal := ⟨by decide, fun i hi => by
 have h3 : i = 0 \/ i = 1 := by
  have : wTal.length = 2 := rfl
  omega
 have k0 : cdR 2 ⟨⟨0, 0, 0, [], []⟩, 0, [[⟨1, ([(Jg, H3)], [(Jg, H3)])⟩]], []⟩ = true := by decide +kernel
 have k1 : cdR 2 ⟨⟨1, 0, 0, [], []⟩, 0, [], []⟩ = true := by decide +kernel
 have k2 : cdR 2 ⟨⟨2, 0, 0, [], []⟩, 0, [], []⟩ = true := by decide +kernel
 have k3 : HA ⟨1, 0, 0, [], []⟩ ⟨2, 0, 0, [], []⟩ < 0 := by decide +kernel
 rcases h3 with rfl | rfl
 ·exact ⟨fun _ => (by decide : (1 : Nat) <= 16), fun _ _ => ⟨rfl, rfl, rfl⟩, fun _ h => absurd h Wf, fun _ h => absurd h Wf, fun _ k (hk : k < 1) => by
   have : k = 0 := Wa
   subst this
   exact ⟨k0, fun h => absurd h Wa⟩⟩
 ·exact ⟨fun _ => (by decide : (2 : Nat) <= 16), fun _ h => absurd h Wf, fun _ _ => (by decide : ([98] : List UInt8) ≠ []), fun _ h => absurd h Wf, fun _ k (hk : k < 2) => by
   have : k = 0 \/ k = 1 := Wa
   rcases this with rfl | rfl
   ·exact ⟨k1, fun h => absurd h Wa⟩
   ·exact ⟨k2, fun _ => k3⟩⟩⟩
theorem Sv {b : Int} (hb : b = 0 \/ b = 1) : tidyM wTal [0, b] = [0, b] := by
 have hx : mtM wTal [0, b] ⟨1, ([(Jg, H3)], [(Jg, H3)])⟩ = true := by rcases hb with rfl | rfl <;> decide +kernel
 have n0 : Ndd wTal [0, b] 0 := .root (by rcases hb with rfl | rfl <;> decide)
 have n1 : Ndd wTal [0, b] 1 := .step (x := ⟨1, ([(Jg, H3)], [(Jg, H3)])⟩) (r := [⟨1, ([(Jg, H3)], [(Jg, H3)])⟩]) n0 (by simp [Ng, wTal, cA]) Wd hx
 have b0 : nddB wTal [0, b] 0 = true := @decide_eq_true _ (Classical.propDecidable _) n0
 have b1 : nddB wTal [0, b] 1 = true := @decide_eq_true _ (Classical.propDecidable _) n1
 show [if nddB wTal [0, b] 0 = true then cA [0, b] (0 : Nat) else -1, if nddB wTal [0, b] 1 = true then cA [0, b] (1 : Nat) else -1] = [0, b]
 rw [if_pos b0, if_pos b1]; rfl
theorem L1 : listW wTal false (G4 wTal) [] = [[0, 0], [0, 1]] := by
 have p1 : Yp wTal [-1] 0 = false := by decide +kernel
 have p2 : Yp wTal [0] 0 = true := by decide +kernel
 have p3 : Yp wTal [0, -1] 1 = false := by decide +kernel
 have p4 : Yp wTal [0, 0] 1 = true := by decide +kernel
 have p5 : Yp wTal [0, 1] 1 = true := by decide +kernel
 have t0 := Sv (b := 0) (.inl rfl)
 have t1 := Sv (b := 1) (.inr rfl)
 have e2 : listW wTal false [2] [0] = [[0, 0], [0, 1]] := by
  show (if Yp wTal [0, -1] 1 = true then (if tidyM wTal [0, -1] = [0, -1] then [[0, -1]] else []) else []) ++ ((if Yp wTal [0, 0] 1 = true then (if tidyM wTal [0, 0] = [0, 0] then [[0, 0]] else []) else []) ++ ((if Yp wTal [0, 1] 1 = true then (if tidyM wTal [0, 1] = [0, 1] then [[0, 1]] else []) else []) ++ [])) = _
  rw [if_neg (by rw [p3]; decide), if_pos p4, if_pos p5, if_pos t0, if_pos t1]; rfl
 show (if Yp wTal [-1] 0 = true then listW wTal false [2] [-1] else []) ++ ((if Yp wTal [0] 0 = true then listW wTal false [2] [0] else []) ++ []) = _
 rw [if_neg (by rw [p1]; decide), if_pos p2, e2]; rfl
theorem Cl : szT wTal 100 = 6 := by
 rw [KA (XE Rz) Wf]; decide +kernel
end M25
namespace Go.Proofs
open Go Go.Abs M3 M25
theorem Qcm : Ok Tryd.prog 9 [Z7 wTal, .int .i64 9, gD] (.tup [BI [[0, 0], [0, 1]], .bool true]) := by
 have e : allW wTal = [[0, 0], [0, 1]] := L1
 have h := Bz (most := 9) RA Rz (by rw [e]; decide)
 rw [e] at h
 exact h
theorem Qcn : Ok Tryd.prog 11 [Z7 wTal, gD] (.tup [ZT [0, 1], .bool true]) := by
 have e : allW wTal = [[0, 0], [0, 1]] := L1
 have h := Ts RA Rz
 rw [e] at h
 exact h
theorem Qco : Ok Tryd.prog 7 [Z7 wTal, .int .i64 100, gD] (.int .i64 6) := by
 have h := GN RA (most := 100) Wf
 rw [Cl] at h
 exact h
theorem Xf  : Ok Tryd.prog 6 [gD] (.bool true) := by
 refine Ok.ofTG (ds := []) (dg := gD) Z5 Tryd.func6 tp6 (Qeg Z) ?_
 show TW _ _ tf6.body _ _
 refine Qd fun K hK => Qa Z (kc1 hK Z ?_)
 refine Qd fun K hK => QK (HJ) Z Z (.inl Z) (Zu Z (Zn Z Z Z Z Z Z Z Z (kc2 hK Z Z ?_)))
 refine Qd fun K hK => QH (cs := [_, _]) Z Z Z Z (ZO Z Z (Yt Z Z (Yt Z Z (ZO Z Z (Yt Z Z (ZO Z Z (ZO Z Z (ZO Z Z (ZO Z Z (ZO Z Z ?_))))))))))
 refine Yt Z Z (ZO Z Z (Yt Z Z (ZO Z Z (Zu Z (Zn Z Z Z Z Z Z Z Z (kc2 hK Z Z ?_))))))
 refine Qd fun K hK => QH (cs := [_]) Z Z Z Z (QK (Ok.weak Qcm (by rfl)) Z Z (.inl Z) (Qa Z (Zf Z Z (Zf Z Z (mv2 Z Z (kc4 hK Z Z Z Z ?_))))))
 refine Qd fun K hK => QH (cs := [_]) Z Z Z Z (QK (Ok.weak Qcn (by rfl)) Z Z (.inl Z) (Qa Z (Zf Z Z (Zf Z Z (mv2 Z Z (kc6 hK Z Z Z Z Z Z ?_))))))
 refine Qd fun K hK => QH (cs := [_]) Z Z Z Z (QK (Ok.weak Qco (by rfl)) Z Z (.inr Z) (Xd Z Z (Qa Z ?_)))
 refine Qp (g := 36) Z (fun h1 => ?_) (fun h1 => ?_)
 ·try rw [h1]
  try simp only [qB] at h1
  refine Qc Z (Qa Z (Qf Z Z (Qa Z ?_)))
  refine Qp (g := 39) Z (fun h2 => ?_) (fun h2 => ?_)
  ·try rw [h2]
   try simp only [qB] at h2
   refine Qc Z (Qa Z (Qc Z ?_))
   first | refine QP rfl QO ?_ | refine QP rfl rfl ?_
   refine Qc Z (Xd Z Z (Qf Z Z (Qa Z ?_)))
   refine Qp (g := 44) Z (fun h3 => ?_) (fun h3 => ?_)
   ·try rw [h3]
    try simp only [qB] at h3
    refine Qc Z (Qa Z (Qc Z (QN Z Z Z Wf Z Z (Qc Z (Qs Z Z Z (Qc Z ?_))))))
    first | refine QP rfl QO ?_ | refine QP rfl rfl ?_
    refine Qc Z (Xd Z Z (Qf Z Z (Qa Z ?_)))
    refine Qp (g := 51) Z (fun h4 => ?_) (fun h4 => ?_)
    ·try rw [h4]
     try simp only [qB] at h4
     refine Qc Z (Qa Z (Qc Z (QN Z Z Z Wf Z Z (Qc Z (Qs Z Z Z (Qc Z (QN Z Z Z Wf Z Z (Qc Z (Qs Z Z Z (Qc Z (Xd Z Z ?_)))))))))))
     refine Qf Z Z (Qa Z ?_)
     refine Qp (g := 59) Z (fun h5 => ?_) (fun h5 => ?_)
     ·try rw [h5]
      try simp only [qB] at h5
      refine Qc Z (Qa Z (Qf Z Z (Qa Z ?_)))
      refine Qp (g := 62) Z (fun h6 => ?_) (fun h6 => ?_)
      ·try rw [h6]
       try simp only [qB] at h6
       refine Qc Z (Qa Z (Qc Z ?_))
       first | refine QP rfl QO ?_ | refine QP rfl rfl ?_
       refine Qc Z (Xd Z Z (Qf Z Z (Qa Z ?_)))
       refine Qp (g := 67) Z (fun h7 => ?_) (fun h7 => ?_)
       ·try rw [h7]
        try simp only [qB] at h7
        refine Qc Z (Qa Z (Qc Z (QN Z Z Z Wf Z Z (Qc Z (Qs Z Z Z (Qc Z (Xd Z Z (Qf Z Z (Qa Z (kc1 hK Z ?_))))))))))
        refine Qq (Qh Z ?_)
        rfl
       ·try rw [h7]
        try simp only [qB] at h7
        first | (simp at h7; done) | exact absurd trivial h7 | cases h7
      ·try rw [h6]
       try simp only [qB] at h6
       first | (simp at h6; done) | exact absurd trivial h6 | cases h6
     ·try rw [h5]
      try simp only [qB] at h5
      first | (simp at h5; done) | exact absurd trivial h5 | cases h5
    ·try rw [h4]
     try simp only [qB] at h4
     first | (simp at h4; done) | exact absurd trivial h4 | cases h4
   ·try rw [h3]
    try simp only [qB] at h3
    first | (simp at h3; done) | exact absurd trivial h3 | cases h3
  ·try rw [h2]
   try simp only [qB] at h2
   first | (simp at h2; done) | exact absurd trivial h2 | cases h2
 ·try rw [h1]
  try simp only [qB] at h1
  first | (simp at h1; done) | exact absurd trivial h1 | cases h1
open Go Go.Abs M3 M25
theorem c_linchpinlaw20_TallySizes {w : Qv} (hw : SD w) {most : Int} (hm : most <= 9223372036854775807) : Ok Tryd.prog 3 [Z7 w, .int .i64 most, gD] (.bool true) := by
 refine Ok.ofTG (ds := [Z7 w, .int .i64 most]) (dg := gD) Z5 Tryd.func3 tp3 (Qeg Z) ?_
 show TW _ _ tf3.body _ _
 refine Qd fun K hK => ZJ Z Z Z (Qa Z (kc3 hK Z Z Z ?_))
 refine QC ?_ -- 0
 refine Qd fun K hK => QH (cs := [_]) Z Z Z Z (QK (Hi hw) Z Z (.inr Z) (Zv Z (kc4 hK Z Z Z Z ?_)))
 refine Qw Z (fun h1 => ?_) (fun h1 => ?_)
 ·try rw [h1]
  try simp only [qA] at h1
  refine Qd fun K hK => QK (Xf) Z Z (.inr Z) (Qa Z (kc1 hK Z ?_))
  refine Qq (Qg (Qh Z ?_))
  (repeat clear hK K); first | rfl | (simp; done) | simp_all
 ·try rw [h1]
  try simp only [qA] at h1
  refine Qt (ks3 Z Z Z (Qd fun K hK => Zp (ds0 := [9, 8, 7, 6, 5, 4, 3, 2, 1, 0]) (Xf) Z Z (.inr Z) Z Z (Qa Z ?_)))
  refine Qp (g := 10) Z (fun h2 => ?_) (fun h2 => ?_)
  ·try rw [h2]
   try simp only [qA] at h2
   refine Qc Z (Zm (ds0 := [6, 2, 1, 0]) (cs := [_]) Z Z Z Z Z Z (Qc Z (Qa Z (Qc Z (Zp (ds0 := [2, 1, 0]) (GN hw hm) Z Z (.inr Z) Z Z (Qc Z (Zm (ds0 := [3, 2, 1, 0]) (cs := [_]) Z Z Z Z Z Z (Qc Z (Qa Z (Qc Z (Zp (ds0 := [2, 1, 0]) (KX hw hm) Z Z (.inr Z) Z Z ?_)))))))))))
   refine Qc Z (Xd Z Z (Qf Z Z (Qa Z (kc1 hK Z ?_))))
   refine Qq (Qh Z ?_)
   (repeat clear hK K); first | rfl | (simp; done) | simp_all
  ·try rw [h2]
   try simp only [qA] at h2
   first | (simp at h2; done) | cases h2
end Go.Proofs
namespace M25
open Go Go.Abs M3
theorem sat_argsN {Ds : List D} (h : SatAs [.agg [.sl tUn], .one (.int .i64)] Ds) : ∃ (w : Qv) (n : Int), Ds = [Z7 w, .int .i64 n] /\ SD w /\ n <= 9223372036854775807 := by
 simp only [SatAs, Qce, SatR] at h
 obtain ⟨_, _, rfl, ⟨_, rfl, _, _, rfl, h1, rfl⟩, _, _, rfl, h2, rfl⟩ := h
 obtain ⟨w, rfl, hw⟩ := LS h1
 simp only [Sat] at h2
 obtain ⟨n, rfl, hn⟩ := h2
 exact ⟨w, n, rfl, hw, hn.2⟩
end M25
