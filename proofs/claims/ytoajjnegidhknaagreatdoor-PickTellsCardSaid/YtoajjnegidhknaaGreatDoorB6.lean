/- Part 6 of the means of the proof: a verified abstract evaluator, the prepared functions, and contracts of functions. It states nothing of the claim by itself. -/
import Derived.Test.YtoajjnegidhknaaGreatDoorB5
set_option maxRecDepth 4000
set_option linter.unusedSimpArgs false
set_option linter.unusedVariables false
namespace Go.Proofs
open Go Go.Abs M3 M25
theorem HH {w : Qz} (hw : WSm w) {c : List Int} (hch : N4 w c) {x : WantT} (hx : 0 <= x.u /\ x.u < w.length) : Ok Tryz.prog 80 [QN c, .agg (dMW w x)] (.bool (mtM w c x)) := by
 refine Ok.ofT ZN Tryz.func80 QiD (QiY Z) ?_
 show TW _ _ tf80.body _ _
 have hcl := hch.len
 have hcu : x.u.toNat < c.length := Wa
 have hb := BL hch hcu
 have h16 := hw.cs _ (Qi3 (Wa : x.u.toNat < w.length))
 refine Qd fun K hK => Zp Z Z Z (Qa Z (kc2 hK Z Z ?_))
 refine Qd fun K hK => Qa Z (Qg Z Z (QQ (ds0 := [16, 15, 14, 13, 12, 11, 10, 9, 8, 7, 6, 5, 4, 3, 2, 1, 0]) Z Z Z Z Z (QG Z Z Z Wa (Zq Wa Wa) Z (QQ (ds0 := [14, 13, 12, 11, 10, 9, 8, 7, 6, 5, 4, 3, 2, 1, 0]) Z Z Z Z Z (NM Z Z (Qa Z ?_))))))
 refine Qu (g := 11) Z (fun h1 => ?_) (fun h1 => ?_)
 ·rw [h1]
  simp only [qA] at h1
  refine Qe Z (Qg Z Z (Qe Z (QQ (ds0 := [3, 2, 1, 0]) Z Z Z Z Z (Qe Z (Qa Z (Qe Z (Qg Z Z (Qe Z (QQ (ds0 := [7, 6, 5, 4, 3, 2, 1, 0]) Z Z Z Z Z (Qe Z (QG Z Z Z Wa (Zq Wa Wa) Z ?_)))))))))))
  refine Qe Z (QQ (ds0 := [5, 4, 3, 2, 1, 0]) Z Z Z Z Z (Qe Z (NL Z (Ni Wa Wa) (Qe Z (LA Z Z Wa (RS Wa) (Qe Z (Nj Z Z (Qe Z (Ym Z Z (Qh Z Z (Qa Z ?_)))))))))))
  refine kc1 hK Z ?_
  refine Qp (Qk Z ?_)
  (rw [QfF hw hch hx.1 hx.2 hcu Wa]; done)
 ·rw [h1]
  simp only [qA] at h1
  refine gn4 Z Z Z Z (gn4 Z Z Z Z (gn3 Z Z Z (Qh Z Z ?_)))
  refine Qa Z (kc1 hK Z ?_)
  refine Qp (Qk Z ?_)
  rw [Qgx hw hch hx.1 hx.2 hcu Wa]
theorem Ja {w : Qz} (hw : WSm w) {c : List Int} (hch : N4 w c) {l : List WantT} (hl : l.length <= 1000) (hx : ∀ x ∈ l, 0 <= x.u /\ x.u < w.length) : Ok Tryz.prog 53 [QN c, BQ w l] (.bool (G9 w c l)) := by
 refine Ok.ofT ZN Tryz.func53 Qif (QiY Z) ?_
 show TW _ _ tf53.body _ _
 refine Qd fun K hK => Qa Z (kc2 hK Z Z ?_)
 refine QB ?_ -- 0
 refine Qd fun K hK => Qa Z (kc3 hK Z Z Z ?_)
 refine QA ?_
 refine Zg (ι := Nat) (fun i => ⟨[(0, QN c), (1, BQ w l), (5, .int .i64 i)], []⟩) (fun i => i <= l.length /\ (l.take i).any (mtM w c) = false) (fun i => l.length - i) 0 ?_ ?_ ?_
 ·exact QS (kp3 rfl rfl rfl)
 ·exact ⟨Qja _, by simp⟩
 intro i hI
 refine QB ?_ -- 1
 refine Qd fun K hK => mv2 Z Z (Zb Z QU (ZS Z Z (kc4 hK Z Z Z Z ?_)))
 refine Qt Z (fun h1 => ?_) (fun h1 => ?_)
 ·rw [h1]
  simp only [qA] at h1
  refine Qq (ks3 Z Z Z ?_)
  refine QB ?_ -- 2
  refine QA (Qd fun K hK => mv2 Z Z (Qa Z (QG Z Z Z Wa (QV Wa) Z (QD (cs := [_, _]) Z Z Z Z (Qw (HH hw hch (hx _ (Qi3 (Wa : i < l.length)))) Z Z (.inr Z) (kc4 hK Z Z Z Z ?_))))))
  refine Qt Z (fun h2 => ?_) (fun h2 => ?_)
  ·rw [h2]
   refine Qd fun K hK => Qa Z (kc1 hK Z ?_)
   refine Qp (Qr (Qj (QR (Qr (Qj (Qk Z ?_))))))
   exact (List.any_eq_true.2 ⟨_, Qi3 (Wa : i < l.length), h2⟩).symm
  ·rw [h2]
   refine Qq (Qf (ks3 Z Z Z (QL fun K hK => Qa Z (QW Z Z Wb (Qa Z (hK _ ?_))))))
   refine Qi (i + 1) ?_ ?_ ?_
   ·exact QS (kp3 rfl rfl rfl)
   ·exact ⟨Wa, ML Wa hI.2 h2⟩
   ·omega
 ·rw [h1]
  simp only [qA] at h1
  refine Q2 (QE (Qs (QC (QP (Zm) (Qd fun K hK => Qa Z (kc1 hK Z ?_))))))
  refine Qp (Qk Z ?_)
  rw [G9, <- hI.2, Qje Wa]
theorem Yw {al : List Int} {u : Int} {p : Int} (hu : 0 <= u) (hp : -1 <= p) (hp2 : p <= 60) : Ok Tryz.prog 69 [QN al, .int .i64 u, .int .i64 p] (.bool (alM al u.toNat (2 ^ (p + 1).toNat))) := by
 refine Ok.ofT ZN Tryz.func69 Qis (QiY Z) ?_
 show TW _ _ tf69.body _ _
 refine Qd fun K hK => Qa Z (kc3 hK Z Z Z ?_)
 refine Qd fun K hK => Qa Z (Zb Z QU (Yt Z Z (Qa Z ?_)))
 refine Qu (g := 10) Z (fun h1 => ?_) (fun h1 => ?_)
 ·rw [h1]
  simp only [qA] at h1
  refine gn4 Z Z Z Z (YN Z (QH Z (QH Z (QH Z (QH Z (QH Z (QH Z (QH Z ?_))))))))
  refine QH Z (QH Z (QH Z (YN Z (Qh Z Z (Qa Z (kc1 hK Z ?_))))))
  refine Qp (Qk Z ?_)
  rw [Bt Wh]
 ·rw [h1]
  simp only [qA] at h1
  refine Qe Z (Qa Z (Qe Z (Qa Z (Qe Z (Zb Z QU (Qe Z (ZS Z Z (Qe Z (Qa Z ?_)))))))))
  refine Qu (g := 15) Z (fun h2 => ?_) (fun h2 => ?_)
  ·rw [h2]
   simp only [qA] at h2
   refine Qe Z (Qa Z (Qe Z (Qa Z (Qe Z (QG Z Z Z Wa (Zq Wa Wa) Z (Qe Z (Qy Z Z Z (Qe Z (Qa Z (Qe Z (QW Z Z Wb ?_)))))))))))
   refine Qe Z (NL Z (Ni Wa Wa) (Qe Z (LA Z Z Wa (Gf Wa) (Qe Z (Nj Z Z (Qe Z (Ym Z Z (Qe Z (Qh Z Z (Qh Z Z (Qa Z ?_)))))))))))
   refine kc1 hK Z ?_
   refine Qp (Qk Z ?_)
   (rw [QcV Wh Wa]; done)
  ·rw [h2]
   simp only [qA] at h2
   refine gn4 Z Z Z Z (gn4 Z Z Z Z (gn2 Z Z (Qe Z (Qh Z Z ?_))))
   refine Qh Z Z (Qa Z (kc1 hK Z ?_))
   refine Qp (Qk Z ?_)
   rw [Bu Wh Wa]
theorem XX {w : Qz} (hw : WSm w) (hr : WIn w) {al c : List Int} (hch : N4 w c) (h0 : 0 < w.length) : Ok Tryz.prog 40 [.agg (DJ w), QN al, QN c] (.tup [.int .i64 (Yq w al c).1, .int .i64 (Yq w al c).2]) := by
 refine Ok.ofT ZN Tryz.func40 Qh2 (QiY Z) ?_
 show TW _ _ tf40.body _ _
 have hcl := hch.len
 have hwl := hw.len
 refine Qd fun K hK => Zp Z Z Z (mv2 Z Z (kc3 hK Z Z Z ?_))
 refine QB ?_ -- 0
 refine Qd fun K hK => Qa Z (QG Z Z Z Wa (Zq Wa Wa) Z (Qy Z Z Z (ZS Z Z (kc4 hK Z Z Z Z ?_))))
 refine Qt Z (fun h1 => ?_) (fun h1 => ?_)
 ·rw [h1]
  simp only [qA] at h1
  refine Qd fun K hK => mv2 Z Z (kc2 hK Z Z ?_)
  refine Qp (Qj (Zx Z Z ?_))
  rw [Qek hw hch Wa h1]; exact ⟨rfl, rfl⟩
 ·rw [h1]
  simp only [qA] at h1
  refine Qq (ks3 Z Z Z ?_)
  refine QB ?_ -- 1
  refine Qd fun K hK => Qa Z (kc4 hK Z Z Z Z ?_)
  refine QA ?_
  refine Zg (ι := Nat) (fun i => ⟨[(1, QN al), (2, QN c), (3, .ptr [QN (flN w w.length), .sl (w.map fun u => [BP w u]), .sl (w.map fun u => [BO w u])]), (8, .int .i64 i)], []⟩) (fun i => i <= c.length /\ ∀ j, j < i -> Y9 w al c j = false) (fun i => c.length - i) 0 ?_ ?_ ?_
  ·exact le_trans (KB 3 _ Wg) (QZ (l := [1, 2, 3, 8]) (lH := []) (kp4 rfl rfl rfl rfl) Ql rfl rfl rfl)
  ·exact ⟨Qja _, all_nil⟩
  intro i hI
  refine QB ?_ -- 2
  refine Qd fun K hK => mv2 Z Z (Zb Z QU (ZS Z Z (kc5 hK Z Z Z Z Z ?_)))
  refine Qt Z (fun h2 => ?_) (fun h2 => ?_)
  ·rw [h2]
   simp only [qA] at h2
   refine Qq (ks4 Z Z Z Z ?_)
   refine QB ?_ -- 3
   refine QA (Qd fun K hK => mv2 Z Z (QG Z Z Z Wa (QV Wa) Z (Qy Z Z Z (ZS Z Z (Qa Z ?_)))))
   refine Qu (g := 27) Z (fun h3 => ?_) (fun h3 => ?_)
   ·rw [h3]
    simp only [qA] at h3
    refine Qe Z (Qa Z (Qe Z (Qa Z (Qe Z (Qw (Yw (al := al) (u := (i : Int)) (p := -1) Wa Wa Wa) Z Z (.inr Z) (Qe Z (ZH Z (Qh Z Z (kc5 hK Z Z Z Z Z ?_)))))))))
    refine Qt Z (fun h4 => ?_) (fun h4 => ?_)
    ·rw [h4]
     simp only [qA] at h4
     refine Qd fun K hK => mv2 Z Z (Qa Z (kc2 hK Z Z ?_))
     refine Qp (Qr (Qj (QR (Qr (Qj (Zx Z Z ?_))))))
     rw [Qel hw hch Wa h1 (i := i) Wa (by rw [Sg hw hch Wa, decide_eq_true h3, show alM al i 1 = false from h4]; rfl) hI.2]; exact ⟨rfl, rfl⟩
    ·rw [h4]
     simp only [qA] at h4
     refine Qq (Qf (ks4 Z Z Z Z (QL fun K hK => Qa Z (QW Z Z Wb (Qa Z (hK _ ?_))))))
     refine Qi (i + 1) ?_ ?_ ?_
     ·exact QS (kp4 rfl rfl rfl rfl)
     ·exact ⟨Wa, Hy hI.2 (by rw [Sg hw hch Wa, show alM al i 1 = true from h4, Bool.not_true, Bool.and_false])⟩
     ·omega
   ·rw [h3]
    simp only [qA] at h3
    refine gn4 Z Z Z Z (Qh Z Z (kc5 hK Z Z Z Z Z ?_))
    refine Zk Z (Qq (Qf (ks4 Z Z Z Z (QL fun K hK => Qa Z (QW Z Z Wb (Qa Z (hK _ ?_)))))))
    refine Qi (i + 1) ?_ ?_ ?_
    ·exact QS (kp4 rfl rfl rfl rfl)
    ·exact ⟨Wa, Hy hI.2 (by rw [Sg hw hch Wa, decide_eq_false h3]; rfl)⟩
    ·omega
  ·rw [h2]
   simp only [qA] at h2
   have hF : ∀ j, j < w.length -> Y9 w al c j = false := fun j hj => hI.2 j Wa
   refine Q2 (QE (Qs (QC (ks2 Z Z ?_))))
   refine QB ?_ -- 4
   refine Qd fun K hK => Qa Z (kc3 hK Z Z Z ?_)
   refine QA ?_
   refine Zg (ι := Nat) (fun i => ⟨[(2, QN c), (3, .ptr [QN (flN w w.length), .sl (w.map fun u => [BP w u]), .sl (w.map fun u => [BO w u])]), (9, .int .i64 i)], []⟩) (fun i => i <= c.length /\ ∀ j, j < i -> JK w c j = false) (fun i => c.length - i) 0 ?_ ?_ ?_
   ·exact QS (kp3 rfl rfl rfl)
   ·exact ⟨Qja _, all_nil⟩
   intro i hI
   refine QB ?_ -- 5
   refine Qd fun K hK => mv2 Z Z (Zb Z QU (ZS Z Z (kc4 hK Z Z Z Z ?_)))
   refine Qt Z (fun h5 => ?_) (fun h5 => ?_)
   ·rw [h5]
    simp only [qA] at h5
    refine Qq (ks3 Z Z Z ?_)
    refine QB ?_ -- 6
    refine QA ?_
    refine QB ?_ -- 7
    refine Qd fun K hK => mv2 Z Z (QG Z Z Z Wa (QV Wa) Z (Qy Z Z Z (ZS Z Z (kc4 hK Z Z Z Z ?_))))
    refine Qt Z (fun h6 => ?_) (fun h6 => ?_)
    ·rw [h6]
     simp only [qA] at h6
     refine Q2 (QE (QC (ks3 Z Z Z (QL fun K hK => Qa Z (QW Z Z Wb (Qa Z (hK _ ?_)))))))
     refine Qi (i + 1) ?_ ?_ ?_
     ·exact QS (kp3 rfl rfl rfl)
     ·exact ⟨Wa, Hy hI.2 (MB (Qcj hw hch Wa Wa h6))⟩
     ·omega
    ·rw [h6]
     simp only [qA] at h6
     have hb := BL hch (Wa : i < c.length); have hcs := hw.cs _ (Qi3 (Wa : i < w.length)); have hnl := (hw.ns _ (Qi3 (Wa : i < w.length)) _ (Qi3 (Wa : (c[i]'Wa).toNat < (w[i]'Wa).cs.length))).1
     refine Qq (ks3 Z Z Z (Qd fun K hK => Ze Z Z (QQ (ds0 := [8, 7, 2, 1, 0]) Z Z Z Z Z (Qa Z (QG Z Z Z Wa (QV Wa) Z (QQ (ds0 := [2, 1, 0]) Z Z Z Z Z (mv2 Z Z (QG Z Z Z Wa (QV Wa) Z (QQ (ds0 := [2, 1, 0]) Z Z Z Z Z ?_)))))))))
     refine QG Z Z Z Wa (Zq Wa Wa) Z (QQ (ds0 := [0]) Z Z Z Z Z (Qa Z (kc4 hK Z Z Z Z ?_)))
     refine Qd fun K hK => Qa Z (kc5 hK Z Z Z Z Z ?_)
     refine QA ?_
     refine Zg (ι := Nat) (fun k => ⟨[(2, QN c), (3, .ptr [QN (flN w w.length), .sl (w.map fun u => [BP w u]), .sl (w.map fun u => [BO w u])]), (9, .int .i64 i), (10, .sl ((w[i]'Wa).cs[(c[i]'Wa).toNat].ns.map fun r => [BQ w r])), (11, .int .i64 k)], []⟩) (fun k => k <= (w[i]'Wa).cs[(c[i]'Wa).toNat].ns.length /\ ∀ j, j < k -> TZ w c (w[i]'Wa).cs[(c[i]'Wa).toNat].ns j = false) (fun k => (w[i]'Wa).cs[(c[i]'Wa).toNat].ns.length - k) 0 ?_ ?_ ?_
     ·exact QS (kp5 rfl rfl rfl rfl rfl)
     ·exact ⟨Qja _, all_nil⟩
     intro k hQ
     refine QB ?_ -- 8
     refine Qd fun K hK => mv2 Z Z (Zb Z QU (ZS Z Z (kc6 hK Z Z Z Z Z Z ?_)))
     refine Qt Z (fun h7 => ?_) (fun h7 => ?_)
     ·rw [h7]
      simp only [qA] at h7
      refine Qq (ks5 Z Z Z Z Z ?_)
      refine QB ?_ -- 9
      refine QA (Qd fun K hK => mv2 Z Z (Qa Z (QG Z Z Z Wa (QV Wa) Z (Qy Z Z Z (Qw (Ja hw hch (hw.nl _ (Qi3 (Wa : i < w.length)) _ (Qi3 (Wa : (c[i]'Wa).toNat < (w[i]'Wa).cs.length)) _ (Qi3 (Wa : k < (w[i]'Wa).cs[(c[i]'Wa).toNat].ns.length))) (hr.nr _ (Qi3 (Wa : i < w.length)) _ (Qi3 (Wa : (c[i]'Wa).toNat < (w[i]'Wa).cs.length)) _ (Qi3 (Wa : k < (w[i]'Wa).cs[(c[i]'Wa).toNat].ns.length)))) Z Z (.inr Z) (ZH Z (kc6 hK Z Z Z Z Z Z ?_)))))))
      refine Qt Z (fun h8 => ?_) (fun h8 => ?_)
      ·rw [h8]
       simp only [qA] at h8
       refine Qd fun K hK => mv2 Z Z (mv2 Z Z (kc2 hK Z Z ?_))
       refine Qp (Qr (Qj (QR (Qr (Qr (Qj (QR (Qr (Qj (Zx Z Z ?_))))))))))
       rw [Qem hw hch Wa h1 hF (i := i) (k := k) Wa (by rw [Ci hw hch Wa Wa Wa Wa]; exact DT Wa (by rw [Mu Wa, show G9 w c ((w[i]'Wa).cs[(c[i]'Wa).toNat].ns[k]'Wa) = false from h8]; rfl) hQ.2) hI.2]; exact ⟨rfl, rfl⟩
      ·rw [h8]
       simp only [qA] at h8
       refine Qq (Qf (ks5 Z Z Z Z Z (QL fun K hK => Qa Z (QW Z Z Wb (Qa Z (hK _ ?_))))))
       refine Qi (k + 1) ?_ ?_ ?_
       ·exact QS (kp5 rfl rfl rfl rfl rfl)
       ·exact ⟨Wa, Hy hQ.2 (by rw [Mu Wa, show G9 w c ((w[i]'Wa).cs[(c[i]'Wa).toNat].ns[k]'Wa) = true from h8]; rfl)⟩
       ·omega
     ·rw [h7]
      simp only [qA] at h7
      refine Q2 (QE (Qs (QC (Qf (ks3 Z Z Z (QL fun K hK => Qa Z (QW Z Z Wb (Qa Z (hK _ ?_)))))))))
      refine Qi (i + 1) ?_ ?_ ?_
      ·exact QS (kp3 rfl rfl rfl)
      ·exact ⟨Wa, Hy hI.2 (MB (by rw [Ci hw hch Wa Wa Wa Wa]; exact DU fun j hj => hQ.2 j Wa))⟩
      ·omega
   ·rw [h5]
    simp only [qA] at h5
    refine Q2 (QE (Qs (QC (QP (Zm) (Qd fun K hK => mv2 Z Z (kc2 hK Z Z ?_))))))
    refine Qp (Zx Z Z ?_)
    rw [Qen hw hch Wa h1 hF (fun j hj => hI.2 j Wa)]; exact ⟨rfl, rfl⟩
theorem Ho {w : Qz} (hw : WSm w) (hr : WIn w) {al c : List Int} (hch : N4 w c) (h0 : 0 < w.length) : Ok Tryz.prog 51 [.agg (DJ w), QN al, QN c] (.bool (MV w al c)) := by
 refine Ok.ofT ZN Tryz.func51 Qid (QiY Z) ?_
 show TW _ _ tf51.body _ _
 have hcl := hch.len
 have hwl := hw.len
 refine Qd fun K hK => Zp Z Z Z (Qa Z (kc3 hK Z Z Z ?_))
 refine QB ?_ -- 0
 refine Qd fun K hK => Qa Z (kc4 hK Z Z Z Z ?_)
 refine QA ?_
 refine Zg (ι := Nat) (fun i => ⟨[(1, QN al), (2, QN c), (3, .ptr [QN (flN w w.length), .sl (w.map fun u => [BP w u]), .sl (w.map fun u => [BO w u])]), (7, .int .i64 i)], []⟩) (fun i => i <= c.length /\ (List.range i).all (FH w al c) = true) (fun i => c.length - i) 0 ?_ ?_ ?_
 ·exact le_trans (KB 3 _ Wg) (QZ (l := [1, 2, 3, 7]) (lH := []) (kp4 rfl rfl rfl rfl) Ql rfl rfl rfl)
 ·exact ⟨Qja _, rfl⟩
 intro i hI
 refine QB ?_ -- 1
 refine Qd fun K hK => mv2 Z Z (Zb Z QU (ZS Z Z (kc5 hK Z Z Z Z Z ?_)))
 refine Qt Z (fun h1 => ?_) (fun h1 => ?_)
 ·rw [h1]
  simp only [qA] at h1
  have hb := BL hch (Wa : i < c.length); have hcs := hw.cs _ (Qi3 (Wa : i < w.length))
  refine Qq (ks4 Z Z Z Z ?_)
  refine QB ?_ -- 2
  refine QA (Qd fun K hK => mv2 Z Z (QG Z Z Z Wa (QV Wa) Z (QQ (ds0 := [25, 24, 23, 22, 21, 20, 19, 18, 17, 16, 15, 14, 13, 12, 11, 10, 9, 8, 7, 6, 5, 4, 3, 2, 1, 0]) Z Z Z Z Z (NM Z Z (Qa Z ?_)))))
  refine Qu (g := 19) Z (fun h2 => ?_) (fun h2 => ?_)
  ·rw [h2]
   simp only [qA] at h2
   refine Qe Z (Qa Z (Qe Z (Qa Z (Qe Z (Qa Z (Qe Z (Qa Z (Qe Z (QG Z Z Z Wa (QV Wa) Z (Qe Z (QQ (ds0 := [17, 16, 15, 14, 13, 12, 11, 10, 9, 8, 7, 6, 5, 4, 3, 2, 1, 0]) Z Z Z Z Z ?_)))))))))))
   refine Qe Z (Q0 (ds0 := [16, 15, 14, 13, 12, 11, 10, 9, 8, 7, 6, 5, 4, 3, 2, 1, 0]) (Yw (al := al) (u := (i : Int)) (p := (c[i]'Wa)) Wa Wa Wa) Z Z (.inr Z) Z Z (Qe Z (ZH Z (Qe Z (Qa Z ?_)))))
   refine Qu (g := 28) Z (fun h3 => ?_) (fun h3 => ?_)
   ·rw [h3]
    simp only [qA] at h3
    refine gn4 Z Z Z Z (gn4 Z Z Z Z (gn4 Z Z Z Z ?_))
    refine YN Z (Qe Z (Qh Z Z (Qh Z Z (kc5 hK Z Z Z Z Z ?_))))
    refine Zn Z (Qd fun K hK => Qa Z (kc1 hK Z ?_))
    refine Qp (Qr (Qj (QR (Qr (Qj (Qk Z ?_))))))
    exact (Yj (i := i) Wa (by rw [MW hw hch Wa Wa Wa Wa, show alM al i (2 ^ ((c[i]'Wa) + 1).toNat) = false from h3]; rfl)).symm
   ·rw [h3]
    simp only [qA] at h3
    have hpz := QgC hb.2 h2; have hnl := (hw.ns _ (Qi3 (Wa : i < w.length)) _ (Qi3 hpz)).2
    refine Qe Z (Qa Z (Qe Z (Ze Z Z (Qe Z (QQ (ds0 := [10, 9, 4, 3, 2, 1, 0]) Z Z Z Z Z (Qe Z (Qa Z (Qe Z (QG Z Z Z Wa (QV Wa) Z (Qe Z (QQ (ds0 := [4, 3, 2, 1, 0]) Z Z Z Z Z ?_)))))))))))
    refine Qe Z (Qa Z (Qe Z (Qa Z (Qe Z (QG Z Z Z Wa (QV Wa) Z (Qe Z (QQ (ds0 := [4, 3, 2, 1, 0]) Z Z Z Z Z (Qe Z (QG Z Z Z Wa (Zq Wa Wa) Z (Qe Z (QQ (ds0 := [2, 1, 0]) Z Z Z Z Z ?_)))))))))))
    refine Qe Z (Q0 (ds0 := [1, 0]) (Ja hw hch Wa (hr.bw _ (Qi3 (Wa : i < w.length)) _ (Qi3 hpz))) Z Z (.inr Z) Z Z (Qe Z (Qh Z Z (Qh Z Z (kc5 hK Z Z Z Z Z ?_)))))
    refine Qt Z (fun h4 => ?_) (fun h4 => ?_)
    ·rw [h4]
     refine Qd fun K hK => Qa Z (kc1 hK Z ?_)
     refine Qp (Qr (Qj (QR (Qr (Qj (Qk Z ?_))))))
     exact (Yj (i := i) Wa (by rw [MW hw hch Wa Wa Wa Wa, show alM al i (2 ^ ((c[i]'Wa) + 1).toNat) = true from h3, show G9 w c (w[i]'Wa).cs[(c[i]'Wa).toNat].bs = true from h4]; rfl)).symm
    ·rw [h4]
     refine Qq (Qf (ks4 Z Z Z Z (QL fun K hK => Qa Z (QW Z Z Wb (Qa Z (hK _ ?_))))))
     refine Qi (i + 1) ?_ ?_ ?_
     ·exact QS (kp4 rfl rfl rfl rfl)
     ·exact ⟨Wa, Ke hI.2 (by rw [MW hw hch Wa Wa Wa Wa, show alM al i (2 ^ ((c[i]'Wa) + 1).toNat) = true from h3, show G9 w c (w[i]'Wa).cs[(c[i]'Wa).toNat].bs = false from h4]; rfl)⟩
     ·omega
  ·rw [h2]
   simp only [qA] at h2
   refine gn4 Z Z Z Z (gn4 Z Z Z Z (YN Z (QH Z (QH Z (QH Z ?_)))))
   refine QH Z (QH Z (QH Z (QH Z (QH Z (QH Z (QH Z (QH Z (QH Z (QH Z (YN Z (Qh Z Z ?_)))))))))))
   refine kc5 hK Z Z Z Z Z ?_
   refine Zk Z (Qq (Qf (ks4 Z Z Z Z (QL fun K hK => Qa Z (QW Z Z Wb (Qa Z (hK _ ?_)))))))
   refine Qi (i + 1) ?_ ?_ ?_
   ·exact QS (kp4 rfl rfl rfl rfl)
   ·exact ⟨Wa, Ke hI.2 (LO hw hch Wa Wa Wa)⟩
   ·omega
 ·rw [h1]
  simp only [qA] at h1
  refine Q2 (QE (Qs (QC (QP (Zm) (Qd fun K hK => Qa Z (kc1 hK Z ?_))))))
  refine Qp (Qk Z ?_)
  rw [MV, show w.length = i by omega]; exact hI.2.symm
end Go.Proofs
namespace M25
open Go Go.Abs M3
theorem Qfn {w : Qz} {u : Int} (h0 : 0 <= u) (h1 : u < w.length) : (flN w w.length)[u.toNat]'(by rw [LY]; omega) = Xd w u := by
 simp only [flN, List.getElem_map, List.getElem_range]
 rw [show ((u.toNat : Nat) : Int) = u by omega]
theorem CT (w : Qz) (row : List WantT) : Q6 (row.map fun x => ⟨x.u, PT w x⟩) = BQ w row := by
 simp only [Q6, BQ, List.map_map]; rfl
def Ff (w : Qz) (al : List Int) (order : List (List Int)) (c : List Int) : List TermT := if (Yq w al c).1 < 0 then [] else (tsR w c (Yq w al c)).foldl (YJ w al order c) []
section
variable {w : Qz} {al c : List Int} {order : List (List Int)} {a b : Int}
theorem RH (h : Yq w al c = (a, b)) (h1 : a < 0) : Ff w al order c = [] := by rw [Ff, h, if_pos h1]
theorem Px (h : Yq w al c = (a, b)) (h1 : ¬ a < 0) : Ff w al order c = (tsR w c (a, b)).foldl (YJ w al order c) [] := by rw [Ff, h, if_neg h1]
theorem SZ (h : b < 0) : tsR w c (a, b) = [⟨a, Xd w a⟩] := by rw [tsR, if_pos h]
theorem SY (h : ¬ b < 0) (hu : a.toNat < w.length) (hc : a.toNat < c.length) (hp : c[a.toNat].toNat < w[a.toNat].cs.length) (hk : b.toNat < w[a.toNat].cs[c[a.toNat].toNat].ns.length) : tsR w c (a, b) = w[a.toNat].cs[c[a.toNat].toNat].ns[b.toNat].map fun x => ⟨x.u, PT w x⟩ := by
 have e : cA c a = c[a.toNat] := by rw [cA, List.getElem?_eq_getElem hc]; rfl
 rw [tsR, if_neg h]
 simp only [List.getElem?_eq_getElem hu, e, List.getElem?_eq_getElem hp, List.getElem?_eq_getElem hk]
theorem QfV (hw : WSm w) (hr : WIn w) (h : Yq w al c = (a, b)) (h0 : 0 < w.length) (h1 : ¬ a < 0) : (tsR w c (a, b)).length <= 1000 /\ ∀ t ∈ tsR w c (a, b), 0 <= t.u /\ t.u < w.length := by
 by_cases h2 : b < 0
 ·rw [SZ h2]
  have := QaK h h0 h1
  refine ⟨by simp, fun t ht => ?_⟩
  simp only [Qi7] at ht; subst ht; exact ⟨by show 0 <= a; omega, this⟩
 ·obtain ⟨hu, hc, hp, hk, _⟩ := NA h h1 h2
  rw [SY h2 hu hc hp hk]
  refine ⟨?_, fun t ht => ?_⟩
  ·rw [List.length_map]; exact hw.nl _ (Qi3 hu) _ (Qi3 hp) _ (Qi3 hk)
  ·obtain ⟨x, hx, rfl⟩ := Qjc.1 ht
   exact hr.nr _ (Qi3 hu) _ (Qi3 hp) _ (Qi3 hk) x hx
theorem SX {ord : List Int} (ho : ∀ p ∈ ord, 0 <= p /\ p <= 60) {n : Nat} (hn : n <= 16) : ∀ j, j <= n -> ∀ p ∈ ZW ord n j, 0 <= p /\ p <= 60
 | 0, _ => ho
 | j + 1, hj => fun p hp => by
  rw [Hd, Qbz] at hp
  split at hp
  ·exact SX ho hn j Wa p hp
  ·rcases Qi9.1 hp with h | h
   ·exact SX ho hn j Wa p h
   ·simp only [Qi7] at h; omega
theorem Cm {order : List (List Int)} (ho : ∀ r ∈ order, ∀ p ∈ r, 0 <= p /\ p <= 60) (u : Int) : ∀ p ∈ Zi order u, 0 <= p /\ p <= 60 := by
 unfold Zi; split
 ·intro p hp; cases hp
 ·cases e : order[u.toNat]? with
  | none => intro p hp; cases hp
  | some r => exact ho r (List.mem_of_getElem? e)
theorem C8 (t : TermT) (out : List TermT) (p : Int) : (Xs al t out p).length <= out.length + 1 := by
 unfold Xs; split
 ·simp
 ·omega
theorem Fh (t : TermT) : ∀ (l : List Int) (out : List TermT), (l.foldl (Xs al t) out).length <= out.length + l.length
 | [], out => Nat.le_refl _
 | p :: l, out => by
  rw [List.foldl_cons]
  have := Fh t l (Xs al t out p)
  have := C8 (al := al) t out p
  simp only [List.length_cons]; omega
theorem Gb {out : List TermT} {t : TermT} (h : t.u.toNat < c.length) (hc : 0 <= c[t.u.toNat]) : YJ w al order c out t = out := by
 rw [YJ, cA, List.getElem?_eq_getElem h]; simp only [Option.getD_some]; rw [if_pos hc]
theorem NE {out : List TermT} {t : TermT} (h : t.u.toNat < c.length) (hc : ¬ 0 <= c[t.u.toNat]) (hu : t.u.toNat < w.length) : YJ w al order c out t = (ZW (Zi order t.u) w[t.u.toNat].cs.length w[t.u.toNat].cs.length).foldl (Xs al t) out := by
 rw [YJ, cA, List.getElem?_eq_getElem h]; simp only [Option.getD_some]; rw [if_neg hc, List.getElem?_eq_getElem hu]
theorem Dc (hw : WSm w) (ho : ∀ r ∈ order, r.length <= 100000) (out : List TermT) (t : TermT) : (YJ w al order c out t).length <= out.length + 100016 := by
 unfold YJ; split
 ·omega
 ·split
  ·rename_i x e
   have h1 := Fh (al := al) t (ZW (Zi order t.u) x.cs.length x.cs.length) out
   have h2 := Nf (Zi order t.u) x.cs.length x.cs.length
   have h3 := NC (u := t.u) ho
   have h4 := hw.cs _ (List.mem_of_getElem? e)
   omega
  ·omega
theorem N0 (hw : WSm w) (ho : ∀ r ∈ order, r.length <= 100000) : ∀ (l : List TermT) (out : List TermT), (l.foldl (YJ w al order c) out).length <= out.length + l.length * 100016
 | [], out => by simp
 | t :: l, out => by
  rw [List.foldl_cons]
  have := N0 hw ho l (YJ w al order c out t)
  have := Dc (al := al) (c := c) hw ho out t
  simp only [List.length_cons]; omega
theorem RP {t : TermT} {out : List TermT} {p : Int} (h1 : ¬ KJ t.m (2 * 2 ^ p.toNat) = 0) (h2 : alM al t.u.toNat (2 ^ (p + 1).toNat) = true) (h3 : ¬ (⟨t.u, p⟩ : TermT) ∈ out) : Xs al t out p = out ++ [⟨t.u, p⟩] := by
 rw [Xs, if_pos ⟨by rw [N8, decide_eq_false h1, h2]; rfl, h3⟩]
theorem RM {t : TermT} {out : List TermT} {p : Int} (h1 : KJ t.m (2 * 2 ^ p.toNat) = 0) : Xs al t out p = out := by
 rw [Xs, if_neg]; rintro ⟨h, _⟩; rw [N8, decide_eq_true h1] at h; simp at h
theorem RN {t : TermT} {out : List TermT} {p : Int} (h1 : alM al t.u.toNat (2 ^ (p + 1).toNat) = false) : Xs al t out p = out := by
 rw [Xs, if_neg]; rintro ⟨h, _⟩; rw [N8, h1] at h; simp at h
theorem RO {t : TermT} {out : List TermT} {p : Int} (h1 : (⟨t.u, p⟩ : TermT) ∈ out) : Xs al t out p = out := by
 rw [Xs, if_neg]; rintro ⟨_, h⟩; exact h h1
end
theorem C3 {α : Type} {l : List α} {o : α} {i : Nat} (h : i < l.length) (h1 : ¬ o ∈ l.take i) (h2 : ¬ l[i] = o) : ¬ o ∈ l.take (i + 1) := by
 rw [List.take_succ_eq_append_getElem h]; simp only [Qi9, Qi7, not_or]; exact ⟨h1, fun e => h2 e.symm⟩
end M25
namespace Go.Proofs
open Go Go.Abs M3 M25
theorem HI {order : List (List Int)} (ho : ∀ r ∈ order, r.length <= 100000) {u : Int} (hu : 0 <= u) {n : Nat} (hn : n <= 1000) : Ok Tryz.prog 77 [.sl (order.map fun r => [QN r]), .int .i64 u, .int .i64 ((n : Nat) : Int)] (QN (ZW (Zi order u) n n)) := by
 refine Ok.ofT ZN Tryz.func77 QiA (QiY Z) ?_
 show TW _ _ tf77.body _ _
 have hol := NC (u := u) ho
 refine Qd fun K hK => Qa Z (kc3 hK Z Z Z ?_)
 refine Qd fun K hK => Qa Z (kc4 hK Z Z Z Z ?_)
 refine Fp (ι := Unit) (fun _ => ⟨[(2, .int .i64 ((n : Nat) : Int)), (7, .osl 7 (Zi order u).length)], [(7, ⟨(Zi order u).map (fun x => [.int .i64 x]), 1, 3, true⟩)]⟩) (fun _ => True) ?_ ?_
 ·skip
  refine Qd fun K hK => Qa Z (Zb Z QU (Qa Z (GF Z Z (kc5 hK Z Z Z Z Z ?_))))
  refine Qt Z (fun h1 => ?_) (fun h1 => ?_)
  ·rw [h1]
   simp only [qA] at h1
   have hrl := ho _ (Qi3 (Wa : u.toNat < order.length))
   refine QL fun K hK => mv2 Z Z (Qa Z (QG Z Z Z Wa (Zq Wa Wa) Z (Qy Z Z Z (Dx Z Z (fun _ h => CC QfM h) Z (.inl Z) Wd Wf Wf (Qa Z (hK _ ?_))))))
   refine Zo () ?_ ?_
   ·exact le_trans (Ns (l := [2]) (lH := []) 20 7 7 (kp1 rfl) Ql rfl rfl rfl rfl rfl rfl rfl) (QZ (l := [2, 7]) (lH := [7]) (kp2 rfl rfl) (Qb rfl Ql) (by rw [QaO Wa Wa, List.length_map, List.length_nil, Nat.zero_add] <;> rfl) (by rw [QaO Wa Wa] <;> rfl) rfl)
   ·exact trivial
  ·rw [h1]
   simp only [qA] at h1
   refine Qq ?_
   refine Zo () ?_ ?_
   ·exact le_trans (ZT 7 7 1 3 rfl rfl) (QZ (l := [2, 7]) (lH := [7]) (kp2 rfl rfl) (Qb rfl Ql) (by rw [SJ Wa] <;> rfl) (by rw [SJ Wa] <;> rfl) rfl)
   ·exact trivial
 intro _ hJ
 refine QB ?_ -- 1
 refine Qd fun K hK => Qa Z (Hl Z Z (Qn Wa Wa) (Qa Z (kc2 hK Z Z ?_)))
 refine QA ?_
 refine Zg (ι := Nat) (fun j => ⟨[(7, .osl 7 (ZW (Zi order u) n j).length), (8, .int .i64 ((n : Int) - 1 - ((j : Nat) : Int)))], [(7, ⟨(ZW (Zi order u) n j).map (fun x => [.int .i64 x]), 1, 3, true⟩)]⟩) (fun j => j <= n) (fun j => n - j) 0 ?_ ?_ ?_
 ·exact QZ (l := [7, 8]) (lH := [7]) (kp2 rfl rfl) (Qb rfl Ql) (by rw [show ((n : Int) - 1 - (((0 : Nat)) : Int)) = (n : Int) - 1 by omega] <;> rfl) rfl rfl
 ·exact Qja _
 intro j hj
 have htl := Nf (Zi order u) n j
 refine QB ?_ -- 2
 refine Qd fun K hK => Qa Z (NM Z Z (kc3 hK Z Z Z ?_))
 refine Qt Z (fun h2 => ?_) (fun h2 => ?_)
 ·rw [h2]
  simp only [qA] at h2
  refine Qq (ks2 Z Z ?_)
  refine QB ?_ -- 3
  refine QA (Qd fun K hK => Qa Z (kc3 hK Z Z Z ?_))
  refine QB ?_ -- 4
  refine Qd fun K hK => Qa Z (kc4 hK Z Z Z Z ?_)
  refine QA ?_
  refine Zg (ι := Nat) (fun k => ⟨[(7, .osl 7 (ZW (Zi order u) n j).length), (8, .int .i64 ((n : Int) - 1 - ((j : Nat) : Int))), (9, .bool (decide (((n : Int) - 1 - ((j : Nat) : Int)) ∈ (ZW (Zi order u) n j).take k))), (10, .int .i64 k)], [(7, ⟨(ZW (Zi order u) n j).map (fun x => [.int .i64 x]), 1, 3, true⟩)]⟩) (fun k => k <= (ZW (Zi order u) n j).length) (fun k => (ZW (Zi order u) n j).length - k) 0 ?_ ?_ ?_
  ·exact QZ (l := [7, 8, 9, 10]) (lH := [7]) (kp4 rfl rfl rfl rfl) (Qb rfl Ql) rfl rfl rfl
  ·exact Qja _
  intro k hk
  refine QB ?_ -- 5
  refine Qd fun K hK => mv2 Z Z (Zb Z Z (ZS Z Z (kc5 hK Z Z Z Z Z ?_)))
  refine Qt Z (fun h3 => ?_) (fun h3 => ?_)
  ·rw [h3]
   simp only [qA] at h3
   refine Qq (ks4 Z Z Z Z ?_)
   refine QB ?_ -- 6
   refine QA (QL fun K hK => mv2 Z Z ?_)
   refine Qu (g := 34) Z (fun h4 => ?_) (fun h4 => ?_)
   ·rw [h4]
    simp only [qA] at h4
    refine gn4 Z Z Z Z (gn2 Z Z (Qh Z Z (Qa Z (hK _ ?_))))
    refine Qf (ks4 Z Z Z Z (QL fun K hK => Qa Z (QW Z Z (Qn Wa Wa) (Qa Z (hK _ ?_)))))
    refine Qi (k + 1) ?_ ?_ ?_
    ·exact QZ (l := [7, 8, 9, 10]) (lH := [7]) (kp4 rfl rfl rfl rfl) (Qb rfl Ql) (by rw [SB Wa, decide_eq_true h4, Bool.true_or] <;> rfl) rfl rfl
    ·show k + 1 <= _; omega
    ·show (ZW (Zi order u) n j).length - (k + 1) < (ZW (Zi order u) n j).length - k; omega
   ·rw [h4]
    simp only [qA] at h4
    refine Qe Z (Qa Z (Qe Z (Qa Z (Qe Z (Jj Z Z Z Wd Wa Wa Z (Qe Z (Qy Z (Ye Z (QV Wa)) Z (Qe Z (Qa Z (Qe Z (Yt Z Z ?_)))))))))))
    refine Qh Z Z (Qa Z (hK _ ?_))
    refine Qf (ks4 Z Z Z Z (QL fun K hK => Qa Z (QW Z Z (Qn Wa Wa) (Qa Z (hK _ ?_)))))
    refine Qi (k + 1) ?_ ?_ ?_
    ·exact QZ (l := [7, 8, 9, 10]) (lH := [7]) (kp4 rfl rfl rfl rfl) (Qb rfl Ql) (by rw [SB Wa, decide_eq_false h4, Bool.false_or] <;> rfl) rfl rfl
    ·show k + 1 <= _; omega
    ·show (ZW (Zi order u) n j).length - (k + 1) < (ZW (Zi order u) n j).length - k; omega
  ·rw [h3]
   simp only [qA] at h3
   refine Q2 (QE (Qs (QC (ks3 Z Z Z (Qd fun K hK => Qa Z (ZH Z (kc3 hK Z Z Z ?_)))))))
   refine Qt Z (fun h5 => ?_) (fun h5 => ?_)
   ·rw [h5]
    simp only [qA] at h5
    have hni : ¬ ((n : Int) - 1 - ((j : Nat) : Int)) ∈ (ZW (Zi order u) n j) := fun hm => h5 (by rw [Qje Wa]; exact hm)
    refine QL fun K hK => mv2 Z Z (QK Z Z (Xw Z Z (fun _ h => Xj Z Z Z h) Z Wd Z Z Z Wf Wf (Qa Z (hK _ ?_))))
    refine Qf (ks2 Z Z (QL fun K hK => Qa Z (Hl Z Z (Qn Wa Wa) (Qa Z (hK _ ?_)))))
    refine Qi (j + 1) ?_ ?_ ?_
    ·exact QZ (l := [7, 8]) (lH := [7]) (kp2 rfl rfl) (Qb rfl Ql) (by rw [show ((n : Int) - 1 - (((j + 1 : Nat)) : Int)) = (n : Int) - 1 - (j : Int) - 1 by omega, Hd, Br hni, List.length_append] <;> rfl) (by rw [Hd, Br hni, List.map_append] <;> rfl) rfl
    ·show j + 1 <= n; omega
    ·show n - (j + 1) < n - j; omega
   ·rw [h5]
    simp only [qA] at h5
    have hni : ((n : Int) - 1 - ((j : Nat) : Int)) ∈ (ZW (Zi order u) n j) := by rw [Qje Wa] at h5; exact h5
    refine Qq (Qf (ks2 Z Z (QL fun K hK => Qa Z (Hl Z Z (Qn Wa Wa) (Qa Z (hK _ ?_))))))
    refine Qi (j + 1) ?_ ?_ ?_
    ·exact QZ (l := [7, 8]) (lH := [7]) (kp2 rfl rfl) (Qb rfl Ql) (by rw [show ((n : Int) - 1 - (((j + 1 : Nat)) : Int)) = (n : Int) - 1 - (j : Int) - 1 by omega, Hd, DB hni] <;> rfl) (by rw [Hd, DB hni] <;> rfl) rfl
    ·show j + 1 <= n; omega
    ·show n - (j + 1) < n - j; omega
 ·rw [h2]
  simp only [qA] at h2
  refine Q2 (QE (Qs (QC (ks1 Z (Qd fun K hK => mv2 Z Z (kc1 hK Z ?_))))))
  refine Qp ?_
  exact Kb rfl rfl rfl Wd (by rw [show n = j by omega]; rfl)
theorem KO {l : List TermT} {o : TermT} (hl : l.length <= 1000000000) : Ok Tryz.prog 78 [Q6 l, .agg (XC o)] (.bool (decide (o ∈ l))) := by
 refine Ok.ofT ZN Tryz.func78 QiB (QiY Z) ?_
 show TW _ _ tf78.body _ _
 refine Qd fun K hK => Zp Z Z Z (Qa Z (kc2 hK Z Z ?_))
 refine QB ?_ -- 0
 refine Qd fun K hK => Qa Z (kc3 hK Z Z Z ?_)
 refine QA ?_
 refine Zg (ι := Nat) (fun i => ⟨[(0, Q6 l), (3, .ref 3 0 0), (5, .int .i64 i)], [(3, ⟨[[.int .i64 (o).u, .int .i64 (o).m]], 2, 50, true⟩)]⟩) (fun i => i <= l.length /\ ¬ o ∈ l.take i) (fun i => l.length - i) 0 ?_ ?_ ?_
 ·exact QZ (l := [0, 3, 5]) (lH := [3]) (kp3 rfl rfl rfl) (Qb rfl Ql) rfl rfl rfl
 ·exact ⟨Qja _, Wd⟩
 intro i hI
 refine QB ?_ -- 1
 refine Qd fun K hK => mv2 Z Z (Zb Z QU (ZS Z Z (kc4 hK Z Z Z Z ?_)))
 refine Qt Z (fun h1 => ?_) (fun h1 => ?_)
 ·rw [h1]
  simp only [qA, Q6] at h1
  refine Qq (ks3 Z Z Z ?_)
  refine QB ?_ -- 2
  refine QA (Qd fun K hK => mv2 Z Z (QG Z Z Z Wa (QV Wa) Z (QM (ds0 := [0]) (cs := [_, _]) Z Z Z Z Z Z (QM (ds0 := [0]) (cs := [_, _]) Z Z Z Z Z Z (Fm Z Z Lm (kc4 hK Z Z Z Z ?_))))))
  refine Qt Z (fun h2 => ?_) (fun h2 => ?_)
  ·rw [h2]
   simp only [qA, Q6] at h2
   refine Qd fun K hK => Qa Z (kc1 hK Z ?_)
   refine Qp (Qr (Qj (QR (Qr (Qj (Qk Z ?_))))))
   exact (decide_eq_true (h2 ▸ Qi3 (Wa : i < l.length))).symm
  ·rw [h2]
   simp only [qA, Q6] at h2
   refine Qq (Qf (ks3 Z Z Z (QL fun K hK => Qa Z (QW Z Z Wb (Qa Z (hK _ ?_))))))
   refine Qi (i + 1) ?_ ?_ ?_
   ·exact QZ (l := [0, 3, 5]) (lH := [3]) (kp3 rfl rfl rfl) (Qb rfl Ql) rfl rfl rfl
   ·exact ⟨Wa, C3 Wa hI.2 h2⟩
   ·omega
 ·rw [h1]
  simp only [qA, Q6] at h1
  refine Q2 (QE (Qs (QC (QP (Zm) (Qd fun K hK => Qa Z (kc1 hK Z ?_))))))
  refine Qp (Qk Z ?_)
  rw [Qje Wa] at hI; exact (decide_eq_false hI.2).symm
theorem Hp {w : Qz} (hw : WSm w) (hr : WIn w) {al c : List Int} (hch : N4 w c) (h0 : 0 < w.length) {order : List (List Int)} (ho : ∀ r ∈ order, r.length <= 100000) (ho2 : ∀ r ∈ order, ∀ p ∈ r, 0 <= p /\ p <= 60) : Ok Tryz.prog 46 [.agg (DJ w), QN al, .sl (order.map fun r => [QN r]), QN c] (Q6 (Ff w al order c)) := by
 refine Ok.ofT ZN Tryz.func46 Qh8 (QiY Z) ?_
 show TW _ _ tf46.body _ _
 have hcl := hch.len
 have hwl := hw.len
 have hfl := LY w w.length
 obtain ⟨oa, ob, hO⟩ : ∃ a b, Yq w al c = (a, b) := ⟨_, _, rfl⟩
 have hcO := XX hw hr hch h0 (al := al)
 simp only [hO] at hcO
 refine Qd fun K hK => Zp Z Z Z (Qa Z (kc4 hK Z Z Z Z ?_))
 refine Qd fun K hK => QD (cs := [_, _, _]) Z Z Z Z (mv2 Z Z (Qw (hcO) Z Z (.inl Z) (Qa Z (QX Z Z (QX Z Z (mv2 Z Z (kc6 hK Z Z Z Z Z Z ?_)))))))
 refine QB ?_ -- 0
 refine Qd fun K hK => Qa Z (ZS Z Z (kc7 hK Z Z Z Z Z Z Z ?_))
 refine Qt Z (fun h1 => ?_) (fun h1 => ?_)
 ·rw [h1]
  simp only [qA, Q6] at h1
  refine Qd fun K hK => Qa Z (kc1 hK Z ?_)
  refine Qp (Qj ?_)
  rw [RH hO h1]
  exact ZQ rfl rfl
 ·rw [h1]
  simp only [qA, Q6] at h1
  have hbu := QaK hO h0 h1
  refine Qq (ks6 Z Z Z Z Z Z (Qd fun K hK => Qa Z (Qg Z Z (Qy Z Z Z (Qa Z (QG Z Z Z Wa (Zq Wa Wa) Z (Qy Z Z Z (Q1 Z Z (QK Z Z (Qa Z ?_))))))))))
  refine kc7 hK Z Z Z Z Z Z Z ?_
  refine Fp (ι := Unit) (fun _ => ⟨[(1, QN al), (2, .sl (order.map fun r => [QN r])), (3, QN c), (4, .ref 4 0 0), (11, Q6 (tsR w c (oa, ob)))], [(4, ⟨[[QN (flN w w.length), .sl (w.map fun u => [BP w u]), .sl (w.map fun u => [BO w u])]], 3, 45, true⟩)]⟩) (fun _ => True) ?_ ?_
  ·skip
   refine Qd fun K hK => Qa Z (NM Z Z (kc8 hK Z Z Z Z Z Z Z Z ?_))
   refine Qt Z (fun h2 => ?_) (fun h2 => ?_)
   ·rw [h2]
    simp only [qA, Q6] at h2
    obtain ⟨hu, huc, hp, hk, hc0⟩ := NA hO h1 Wa
    refine QL fun K hK => Qg Z Z (QQ (ds0 := [11, 10, 5, 4, 2, 1, 0]) Z Z Z Z Z (Qa Z (QG Z Z Z Wa (Zq Wa Wa) Z (QQ (ds0 := [5, 4, 2, 1, 0]) Z Z Z Z Z (mv2 Z Z (QG Z Z Z Wa (Zq Wa Wa) Z (QQ (ds0 := [5, 4, 2, 1, 0]) Z Z Z Z Z (QG Z Z Z Wa (Zq Wa Wa) Z (QQ (ds0 := [2, 1, 0]) Z Z Z Z Z ?_)))))))))
    refine Qa Z (QG Z Z Z Wa (Zq Wa Wa) Z (QQ (ds0 := [0]) Z Z Z Z Z (Qa Z (hK _ ?_))))
    refine Zo () ?_ ?_
    ·exact QZ (l := [1, 2, 3, 4, 11]) (lH := [4]) (kp5 rfl rfl rfl rfl rfl) (Qb rfl Ql) (by rw [SY Wa hu huc hp hk, CT] <;> rfl) rfl rfl
    ·exact trivial
   ·rw [h2]
    simp only [qA, Q6] at h2
    refine Qq ?_
    refine Zo () ?_ ?_
    ·exact le_trans (FT (l := [1, 2, 3, 4]) (lH := [4]) 34 11 (kp4 rfl rfl rfl rfl) (Qb rfl Ql) rfl rfl rfl Wq rfl rfl rfl rfl) (QZ (l := [1, 2, 3, 4, 11]) (lH := [4]) (kp5 rfl rfl rfl rfl rfl) (Qb rfl Ql) (by rw [SZ Wa, <- Qfn Wa hbu] <;> rfl) rfl rfl)
    ·exact trivial
  intro _ hJ
  have htr := QfV hw hr hO h0 h1
  obtain ⟨ts, hts⟩ : ∃ ts, tsR w c (oa, ob) = ts := ⟨_, rfl⟩
  rw [hts] at htr
  refine Qd fun K hK => Qa Z (kc6 hK Z Z Z Z Z Z ?_)
  refine QB ?_ -- 2
  refine Qd fun K hK => Qa Z (kc7 hK Z Z Z Z Z Z Z ?_)
  refine QA ?_
  refine Zg (ι := Nat) (fun j => ⟨[(1, QN al), (2, .sl (order.map fun r => [QN r])), (3, QN c), (4, .ref 4 0 0), (11, Q6 ts), (12, .osl 12 ((ts.take j).foldl (YJ w al order c) []).length), (13, .int .i64 j)], [(4, ⟨[[QN (flN w w.length), .sl (w.map fun u => [BP w u]), .sl (w.map fun u => [BO w u])]], 3, 45, true⟩), (12, ⟨((ts.take j).foldl (YJ w al order c) []).map XC, 2, 50, true⟩)]⟩) (fun j => j <= ts.length) (fun j => ts.length - j) 0 ?_ ?_ ?_
  ·exact le_trans (ZT 12 12 2 50 rfl rfl) (QZ (l := [1, 2, 3, 4, 11, 12, 13]) (lH := [4, 12]) (kp7 rfl rfl rfl rfl rfl rfl rfl) (Qb rfl (Qb rfl Ql)) (by rw [hts] <;> rfl) rfl rfl)
  ·exact Qja _
  intro j hJj
  have hol := N0 (al := al) (c := c) hw ho (ts.take j) []
  rw [List.length_take] at hol
  simp only [List.length_nil] at hol
  refine QB ?_ -- 3
  refine Qd fun K hK => mv2 Z Z (Zb Z QU (ZS Z Z (kc8 hK Z Z Z Z Z Z Z Z ?_)))
  refine Qt Z (fun h3 => ?_) (fun h3 => ?_)
  ·rw [h3]
   simp only [qA, Q6] at h3
   have ok := htr.2 _ (Qi3 (Wa : j < ts.length)); have ok1 := ok.2; have hns := hw.cs _ (Qi3 (Wa : (ts[j]'Wa).u.toNat < w.length)); have htl := Nf (Zi order (ts[j]'Wa).u) (w[(ts[j]'Wa).u.toNat]'Wa).cs.length (w[(ts[j]'Wa).u.toNat]'Wa).cs.length; have hod := NC (u := (ts[j]'Wa).u) ho; have hti := SX (Cm ho2 (ts[j]'Wa).u) hns (w[(ts[j]'Wa).u.toNat]'Wa).cs.length (Nat.le_refl _)
   refine Qq (ks7 Z Z Z Z Z Z Z ?_)
   refine QB ?_ -- 4
   refine QA (Qd fun K hK => mv2 Z Z (QG Z Z Z Wa (QV Wa) Z (Ze Z Z (Qy Z Z Z (Qa Z (kc8 hK Z Z Z Z Z Z Z Z ?_))))))
   refine QB ?_ -- 5
   refine Qd fun K hK => mv2 Z Z (QG Z Z Z Wa (Zq Wa Wa) Z (Qy Z Z Z (NM Z Z (kc9 hK Z Z Z Z Z Z Z Z Z ?_))))
   refine Qt Z (fun h4 => ?_) (fun h4 => ?_)
   ·rw [h4]
    simp only [qA, Q6] at h4
    refine Q2 (QE (QC (ks7 Z Z Z Z Z Z Z (QL fun K hK => Qa Z (QW Z Z Wb (Qa Z (hK _ ?_)))))))
    refine Qi (j + 1) ?_ ?_ ?_
    ·exact QZ (l := [1, 2, 3, 4, 11, 12, 13]) (lH := [4, 12]) (kp7 rfl rfl rfl rfl rfl rfl rfl) (Qb rfl (Qb rfl Ql)) (by rw [Yo (Wa : j < ts.length), Gb Wa h4] <;> rfl) (by rw [Yo (Wa : j < ts.length), Gb Wa h4] <;> rfl) rfl
    ·show j + 1 <= ts.length; omega
    ·show ts.length - (j + 1) < ts.length - j; omega
   ·rw [h4]
    simp only [qA, Q6] at h4
    refine Qq (ks8 Z Z Z Z Z Z Z Z (Qd fun K hK => mv2 Z Z (Qg Z Z (Qy Z Z Z (Qa Z (QG Z Z Z Wa (Zq Wa Wa) Z (Qy Z Z Z (Zb Z QU (Qw (HI ho ok.1 (n := (w[(ts[j]'Wa).u.toNat]'Wa).cs.length) Wa) Z Z (.inl Z) ?_)))))))))
    refine Qa Z (kc9 hK Z Z Z Z Z Z Z Z Z ?_)
    refine Qd fun K hK => Qa Z (kc hK (Fa Z Z Z Z Z Z Z Z Z Z) ?_)
    refine QA ?_
    refine Zg (ι := Nat) (fun i => ⟨[(1, QN al), (2, .sl (order.map fun r => [QN r])), (3, QN c), (4, .ref 4 0 0), (11, Q6 ts), (12, .osl 12 (((ZW (Zi order (ts[j]'Wa).u) (w[(ts[j]'Wa).u.toNat]'Wa).cs.length (w[(ts[j]'Wa).u.toNat]'Wa).cs.length).take i).foldl (Xs al (ts[j]'Wa)) ((ts.take j).foldl (YJ w al order c) [])).length), (13, .int .i64 j), (14, .int .i64 (ts[j]'Wa).u), (15, QN (ZW (Zi order (ts[j]'Wa).u) (w[(ts[j]'Wa).u.toNat]'Wa).cs.length (w[(ts[j]'Wa).u.toNat]'Wa).cs.length)), (16, .int .i64 i)], [(4, ⟨[[QN (flN w w.length), .sl (w.map fun u => [BP w u]), .sl (w.map fun u => [BO w u])]], 3, 45, true⟩), (12, ⟨(((ZW (Zi order (ts[j]'Wa).u) (w[(ts[j]'Wa).u.toNat]'Wa).cs.length (w[(ts[j]'Wa).u.toNat]'Wa).cs.length).take i).foldl (Xs al (ts[j]'Wa)) ((ts.take j).foldl (YJ w al order c) [])).map XC, 2, 50, true⟩)]⟩) (fun i => i <= (ZW (Zi order (ts[j]'Wa).u) (w[(ts[j]'Wa).u.toNat]'Wa).cs.length (w[(ts[j]'Wa).u.toNat]'Wa).cs.length).length) (fun i => (ZW (Zi order (ts[j]'Wa).u) (w[(ts[j]'Wa).u.toNat]'Wa).cs.length (w[(ts[j]'Wa).u.toNat]'Wa).cs.length).length - i) 0 ?_ ?_ ?_
    ·exact QZ (l := [1, 2, 3, 4, 11, 12, 13, 14, 15, 16]) (lH := [4, 12]) (Fa rfl rfl rfl rfl rfl rfl rfl rfl rfl rfl) (Qb rfl (Qb rfl Ql)) rfl rfl rfl
    ·exact Qja _
    intro i hI
    have hil := Fh (al := al) (ts[j]'Wa) ((ZW (Zi order (ts[j]'Wa).u) (w[(ts[j]'Wa).u.toNat]'Wa).cs.length (w[(ts[j]'Wa).u.toNat]'Wa).cs.length).take i) ((ts.take j).foldl (YJ w al order c) [])
    rw [List.length_take] at hil
    refine QB ?_ -- 6
    refine Qd fun K hK => mv2 Z Z (Zb Z QU (ZS Z Z (kc hK (C2 Z Z Z Z Z Z Z Z Z Z Z) ?_)))
    refine Qt Z (fun h5 => ?_) (fun h5 => ?_)
    ·rw [h5]
     simp only [qA, Q6] at h5
     have hpi := hti _ (Qi3 (Wa : i < (ZW (Zi order (ts[j]'Wa).u) (w[(ts[j]'Wa).u.toNat]'Wa).cs.length (w[(ts[j]'Wa).u.toNat]'Wa).cs.length).length))
     refine Qq (QP (Fa Z Z Z Z Z Z Z Z Z Z) ?_)
     refine QB ?_ -- 7
     refine QA (Qd fun K hK => mv2 Z Z (Qa Z (QG Z Z Z Wa (QV Wa) Z (Qy Z Z Z (Q1 Z Z (Zw Z (Q4 Z Z Z Z Z Z Z Z (kc hK (C2 Z Z Z Z Z Z Z Z Z Z Z) ?_))))))))
     refine Qd fun K hK => mv2 Z Z (QG Z Z Z Wa (QV Wa) Z (Ze Z Z (QQ (ds0 := [16, 15, 14, 13, 12, 11, 10, 9, 8, 7, 6, 5, 4, 3, 2, 1, 0]) Z Z Z Z Z (mv2 Z Z (QG Z Z Z Wa (QV Wa) Z (QQ (ds0 := [18, 17, 16, 15, 14, 13, 12, 11, 10, 9, 8, 7, 6, 5, 4, 3, 2, 1, 0]) Z Z Z Z Z (NL Z (Ni Wa Wa) (LA Z Z Wa (RS Wa) ?_))))))))
     refine Nj Z Z (Ym Z Z (Qa Z ?_))
     refine Qu (g := 101) Z (fun h6 => ?_) (fun h6 => ?_)
     ·rw [h6]
      simp only [qA, Q6] at h6
      refine Qe Z (Qa Z (Qe Z (Qa Z (Qe Z (Qa Z (Qe Z (Qa Z (Qe Z (QG Z Z Z Wa (QV Wa) Z (Qe Z (QQ (ds0 := [7, 6, 5, 4, 3, 2, 1, 0]) Z Z Z Z Z ?_)))))))))))
      refine Qe Z (Q0 (ds0 := [6, 5, 4, 3, 2, 1, 0]) (Yw (al := al) (u := (ts[j]'Wa).u) (p := (ZW (Zi order (ts[j]'Wa).u) (w[(ts[j]'Wa).u.toNat]'Wa).cs.length (w[(ts[j]'Wa).u.toNat]'Wa).cs.length)[i]'Wa) ok.1 Wa Wa) Z Z (.inr Z) Z Z (Qh Z Z (Qa Z ?_)))
      refine Qu (g := 110) Z (fun h7 => ?_) (fun h7 => ?_)
      ·rw [h7]
       refine Qe Z (Qa Z (Qe Z (QM (ds0 := [2, 1, 0]) (cs := [_, _]) Z Z Z Z Z Z (Qe Z (Q0 (ds0 := [1, 0]) (KO (l := (((ZW (Zi order (ts[j]'Wa).u) (w[(ts[j]'Wa).u.toNat]'Wa).cs.length (w[(ts[j]'Wa).u.toNat]'Wa).cs.length).take i).foldl (Xs al (ts[j]'Wa)) ((ts.take j).foldl (YJ w al order c) []))) (o := (⟨(ts[j]'Wa).u, (ZW (Zi order (ts[j]'Wa).u) (w[(ts[j]'Wa).u.toNat]'Wa).cs.length (w[(ts[j]'Wa).u.toNat]'Wa).cs.length)[i]'Wa⟩ : TermT)) Wa) Z (by simp [XO, D.fz, D.fzS, GG, lk, D.can, D.canS, Q6] <;> rfl) (.inr Z) Z Z (Qe Z (ZH Z (Qh Z Z (kc hK (Qga Z Z Z Z Z Z Z Z Z Z Z Z) ?_)))))))))
       refine Qt Z (fun h8 => ?_) (fun h8 => ?_)
       ·rw [h8]
        simp only [qA, Q6] at h8
        refine QL fun K hK => Qa Z (QD (cs := [_, _]) Z Z Z Z (QK Z Z (Xw Z Z (fun _ h => Xj Z Z Z h) Z Wd Z Z Z Wf Wf (Qa Z (hK _ ?_)))))
        refine Qf (QP (Fa Z Z Z Z Z Z Z Z Z Z) (QL fun K hK => Qa Z (QW Z Z Wb (Qa Z (hK _ ?_)))))
        refine Qi (i + 1) ?_ ?_ ?_
        ·exact QZ (l := [1, 2, 3, 4, 11, 12, 13, 14, 15, 16]) (lH := [4, 12]) (Fa rfl rfl rfl rfl rfl rfl rfl rfl rfl rfl) (Qb rfl (Qb rfl Ql)) (by rw [Yo Wa, RP h6 h7 h8, List.length_append] <;> rfl) (by rw [Yo Wa, RP h6 h7 h8, List.map_append] <;> rfl) rfl
        ·omega
        ·omega
       ·rw [h8]
        simp only [qA, Q6] at h8
        refine Qq (Qf (QP (Fa Z Z Z Z Z Z Z Z Z Z) (QL fun K hK => Qa Z (QW Z Z Wb (Qa Z (hK _ ?_))))))
        refine Qi (i + 1) ?_ ?_ ?_
        ·exact QZ (l := [1, 2, 3, 4, 11, 12, 13, 14, 15, 16]) (lH := [4, 12]) (Fa rfl rfl rfl rfl rfl rfl rfl rfl rfl rfl) (Qb rfl (Qb rfl Ql)) (by rw [Yo Wa, RO h8] <;> rfl) (by rw [Yo Wa, RO h8] <;> rfl) rfl
        ·omega
        ·omega
      ·rw [h7]
       refine gn4 Z Z Z Z (Qh Z Z (kc hK (Qga Z Z Z Z Z Z Z Z Z Z Z Z) ?_))
       refine Zk Z (Qq (Qf (QP (Fa Z Z Z Z Z Z Z Z Z Z) (QL fun K hK => Qa Z (QW Z Z Wb (Qa Z (hK _ ?_)))))))
       refine Qi (i + 1) ?_ ?_ ?_
       ·exact QZ (l := [1, 2, 3, 4, 11, 12, 13, 14, 15, 16]) (lH := [4, 12]) (Fa rfl rfl rfl rfl rfl rfl rfl rfl rfl rfl) (Qb rfl (Qb rfl Ql)) (by rw [Yo Wa, RN h7] <;> rfl) (by rw [Yo Wa, RN h7] <;> rfl) rfl
       ·omega
       ·omega
     ·rw [h6]
      simp only [qA, Q6] at h6
      refine gn4 Z Z Z Z (gn3 Z Z Z (Qh Z Z (Qa Z (gn3 Z Z Z ?_))))
      refine YN Z (Qh Z Z (kc hK (Qga Z Z Z Z Z Z Z Z Z Z Z Z) ?_))
      refine Zk Z (Qq (Qf (QP (Fa Z Z Z Z Z Z Z Z Z Z) (QL fun K hK => Qa Z (QW Z Z Wb (Qa Z (hK _ ?_)))))))
      refine Qi (i + 1) ?_ ?_ ?_
      ·exact QZ (l := [1, 2, 3, 4, 11, 12, 13, 14, 15, 16]) (lH := [4, 12]) (Fa rfl rfl rfl rfl rfl rfl rfl rfl rfl rfl) (Qb rfl (Qb rfl Ql)) (by rw [Yo Wa, RM h6] <;> rfl) (by rw [Yo Wa, RM h6] <;> rfl) rfl
      ·omega
      ·omega
    ·rw [h5]
     simp only [qA, Q6] at h5
     refine Q2 (QE (Qs (QC (Qf (ks7 Z Z Z Z Z Z Z (QL fun K hK => Qa Z (QW Z Z Wb (Qa Z (hK _ ?_)))))))))
     refine Qi (j + 1) ?_ ?_ ?_
     ·exact QZ (l := [1, 2, 3, 4, 11, 12, 13]) (lH := [4, 12]) (kp7 rfl rfl rfl rfl rfl rfl rfl) (Qb rfl (Qb rfl Ql)) (by rw [Yo (Wa : j < ts.length), NE Wa h4 Wa, Qje (Wa : (ZW (Zi order (ts[j]'Wa).u) (w[(ts[j]'Wa).u.toNat]'Wa).cs.length (w[(ts[j]'Wa).u.toNat]'Wa).cs.length).length <= i)] <;> rfl) (by rw [Yo (Wa : j < ts.length), NE Wa h4 Wa, Qje (Wa : (ZW (Zi order (ts[j]'Wa).u) (w[(ts[j]'Wa).u.toNat]'Wa).cs.length (w[(ts[j]'Wa).u.toNat]'Wa).cs.length).length <= i)] <;> rfl) rfl
     ·show j + 1 <= ts.length; omega
     ·show ts.length - (j + 1) < ts.length - j; omega
  ·rw [h3]
   simp only [qA, Q6] at h3
   refine Q2 (QE (Qs (QC (ks1 Z (Qd fun K hK => mv2 Z Z (kc1 hK Z ?_))))))
   refine Qp ?_
   exact Kb rfl rfl rfl Wd (by rw [Qje (Wa : ts.length <= j), Px hO h1, hts]; rfl)
end Go.Proofs
namespace M25
open Go Go.Abs M3
/-! ### The reference offers the same, in the same order -/
def KV (u : Int) (l : List Int) (out : List TermT) : List TermT := l.foldl (fun out p => PW out ⟨u, p⟩) out
theorem HO (u : Int) (a b : List Int) (out : List TermT) : KV u (a ++ b) out = KV u b (KV u a out) := by rw [KV, List.foldl_append]; rfl
theorem QbA (out : List TermT) (o : TermT) : o ∈ PW out o := by
 unfold PW; split
 ·rename_i h; exact R2.1 h
 ·simp
theorem Bs {out : List TermT} {o x : TermT} (h : x ∈ out) : x ∈ PW out o := by
 unfold PW; split
 ·exact h
 ·simp [h]
theorem Rr {u : Int} {x : TermT} : ∀ (l : List Int) {out : List TermT}, x ∈ out -> x ∈ KV u l out
 | [], _, h => h
 | p :: l, _, h => Rr l (Bs h)
theorem TD {u p : Int} : ∀ (l : List Int) (out : List TermT), p ∈ l -> (⟨u, p⟩ : TermT) ∈ KV u l out
 | q :: l, out, h => by
  rcases Qi0.1 h with rfl | h
  ·exact Rr l (QbA _ _)
  ·exact TD l _ h
theorem TC {u p : Int} {l : List Int} (out : List TermT) (h : p ∈ l) : KV u (l ++ [p]) out = KV u l out := by
 rw [HO]
 show PW (KV u l out) ⟨u, p⟩ = _
 exact LC (R2.2 (TD l out h))
theorem KT {g : Int -> Bool} (l : List Int) (p : Int) : (l ++ [p]).filter g = l.filter g ++ if g p = true then [p] else [] := by
 rw [List.filter_append]
 congr 1
 by_cases h : g p = true
 ·simp [h]
 ·simp [h]
theorem Rs {m0 u : Int} (out : List TermT) : ∀ (l L : List Int) (s : List Int × Int), Qf4 m0 L s -> KV u s.1 out = KV u (L.filter (SN m0)) out -> KV u (l.foldl Jt s).1 out = KV u ((L ++ l).filter (SN m0)) out
 | [], L, s, _, he => by simpa using he
 | p :: l, L, s, h, he => by
  have key : KV u (Jt s p).1 out = KV u ((L ++ [p]).filter (SN m0)) out := by
   rw [KT]
   by_cases hp : SN s.2 p = true
   ·obtain ⟨h1, _⟩ := (h.bit p).1 hp
    rw [Jt, if_pos hp, if_pos h1, HO, HO, he]
   ·rw [Jt, if_neg hp]
    by_cases h1 : SN m0 p = true
    ·have : p ∈ s.1 := Classical.byContradiction fun hn => hp ((h.bit p).2 ⟨h1, hn⟩)
     rw [if_pos h1, TC out (List.mem_filter.2 ⟨((h.mem p).1 this).1, h1⟩), he]
    ·rw [if_neg h1, List.append_nil, he]
  have := Rs out l (L ++ [p]) (Jt s p) (QaN h p) key
  simpa using this
theorem Sf (u m : Int) (ord : List Int) (out : List TermT) : (ZY u (Z0 ord m)).foldl PW out = KV u ((ord ++ dn16).filter (SN m)) out := by
 have := Rs (u := u) out (ord ++ dn16) [] ([], m) (Qco m) rfl
 rw [ZY, List.foldl_map]
 exact this
theorem QaW (al : List Int) (t : TermT) (out : List TermT) (p : Int) : Xs al t out p = if N8 al t p = true then PW out ⟨t.u, p⟩ else out := by
 unfold Xs PW
 by_cases hg : N8 al t p = true
 ·rw [if_pos hg]
  by_cases hm : (⟨t.u, p⟩ : TermT) ∈ out
  ·rw [if_neg (fun h => h.2 hm), if_pos (R2.2 hm)]
  ·rw [if_pos ⟨hg, hm⟩, if_neg (fun h => hm (R2.1 h))]
 ·rw [if_neg hg, if_neg (fun h => hg h.1)]
theorem NU (al : List Int) (t : TermT) : ∀ (l : List Int) (out : List TermT), l.foldl (Xs al t) out = KV t.u (l.filter (N8 al t)) out
 | [], _ => rfl
 | p :: l, out => by
  rw [List.foldl_cons, NU al t l, QaW, List.filter_cons]
  split
  ·rfl
  ·rfl
theorem RR (u : Int) (g : Int -> Bool) (ord : List Int) (n : Nat) (out : List TermT) : ∀ j, (∀ p, p ∈ ZW ord n j ↔ p ∈ ord ++ dnN n j) /\ KV u ((ZW ord n j).filter g) out = KV u ((ord ++ dnN n j).filter g) out
 | 0 => by simp [ZW, dnN]
 | j + 1 => by
  obtain ⟨h1, h2⟩ := RR u g ord n out j
  have e : dnN n (j + 1) = dnN n j ++ [(n : Int) - 1 - (j : Int)] := by simp [dnN, List.range_succ]
  rw [Hd, e, <- List.append_assoc]
  generalize (n : Int) - 1 - (j : Int) = x
  unfold Qbz
  split
  ·rename_i hx
   have hx2 := (h1 x).1 hx
   refine ⟨fun p => ?_, ?_⟩
   ·rw [h1 p, Qi9 (s := ord ++ dnN n j), Qi7]
    constructor
    ·exact .inl
    ·rintro (h | rfl)
     ·exact h
     ·exact hx2
   ·rw [KT, h2]
    by_cases hg : g x = true
    ·rw [if_pos hg, TC out (List.mem_filter.2 ⟨hx2, hg⟩)]
    ·rw [if_neg hg, List.append_nil]
  ·refine ⟨fun p => ?_, ?_⟩
   ·rw [Qi9, h1 p, Qi9 (s := ord ++ dnN n j)]
   ·rw [KT, KT, HO, HO, h2]
theorem QbM : ∀ n : Fin 17, dn16 = dn16.take (16 - n.1) ++ dnN n.1 n.1 /\ ∀ p ∈ dn16.take (16 - n.1), (n.1 : Int) <= p := by decide
theorem LW {g : Int -> Bool} {l : List Int} (h : ∀ p ∈ l, g p = false) : l.filter g = [] := List.filter_eq_nil_iff.2 fun p hp => by rw [h p hp]; simp
theorem M2 {g g' : Int -> Bool} {l : List Int} (h : ∀ p ∈ l, g p = g' p) : l.filter g = l.filter g' := List.filter_congr h
theorem B9 {g g' : Int -> Bool} {ord : List Int} {n : Nat} (hn : n <= 16) (ho : ∀ p ∈ ord, g p = g' p) (hd : ∀ p : Int, 0 <= p -> p < 16 -> g p = g' p) (hg : ∀ p : Int, (n : Int) <= p -> g p = false) : (ord ++ dn16).filter g = (ord ++ dnN n n).filter g' := by
 have := QbM ⟨n, Wa⟩
 obtain ⟨e, h⟩ := this
 simp only at e h
 rw [List.filter_append, List.filter_append, M2 ho]
 congr 1
 rw [e, List.filter_append, LW fun p hp => hg p (h p hp), List.nil_append]
 refine M2 fun p hp => ?_
 simp only [dnN, Qjc, Qjl] at hp
 obtain ⟨t, ht, rfl⟩ := hp
 exact hd _ Wa Wa
theorem QdJ {al : List Int} {u k : Nat} (hk : k < 64) : alM al u (2 ^ k) = (decide (al = []) || match al[u]? with | some a => tb a k | none => false) := by
 cases e : al[u]? with
 | none => simp only [alM, e]
 | some a =>
  simp only [alM, e]
  congr 1
  cases h : tb a k with
  | true => rw [decide_eq_false (fun e => by rw [(Jl hk).1 e] at h; cases h)]; rfl
  | false => rw [decide_eq_true ((Jl hk).2 h)]; rfl
theorem Sn {al : List Int} {t t' : TermT} (hu : t.u = t'.u) (h0 : 0 <= t.u) (hal : al = [] \/ t.u < al.length) {p : Int} (hp : 0 <= p) (hp2 : p <= 60) (hm : tb t.m (p.toNat + 1) = tb t'.m (p.toNat + 1)) (hb : tb t.m (p.toNat + 1) = true -> p < 16) : SN (JH al t') p = N8 al t p := by
 have hn : (p + 1).toNat = p.toNat + 1 := Wa
 have hg : N8 al t p = (tb t.m (p.toNat + 1) && alM al t.u.toNat (2 ^ (p.toNat + 1))) := by
  rw [N8, Db, hn]
  congr 1
  cases h : tb t.m (p.toNat + 1) with
  | true => rw [decide_eq_false (fun e => by rw [(Jl Wa).1 e] at h; cases h)]; rfl
  | false => rw [decide_eq_true ((Jl Wa).2 h)]; rfl
 rw [hg, QdJ Wa, Bool.eq_iff_iff, Mz, hn]
 rcases hal with rfl | hal
 ·rw [SA (.inl Wd), <- hm]
  simp only [decide_true, Bool.true_or, Bool.and_true]
  exact ⟨fun h => h.2.2, fun h => ⟨hp, hb h, h⟩⟩
 ·have hne : ¬ al = [] := fun e => by subst e; simp at hal; omega
  rw [Cf Wa Wa Wa, Qdo, <- hm, decide_eq_false hne, Bool.false_or, List.getElem?_eq_getElem Wa]
  simp only [<- hu]
  exact ⟨fun h => h.2.2, fun h => ⟨hp, hb (by rw [Qi2] at h; exact h.1), h⟩⟩
theorem Bd {w : Qz} {u : Int} (h0 : 0 <= u) (h1 : u < w.length) {k : Nat} (h : min (w[u.toNat]'Wa).cs.length 16 < k) : tb (Xd w u) k = false := by
 rw [Qbf h0 h1]; exact decide_eq_false Wa
section
variable {w : Qz} {al c : List Int} {order : List (List Int)}
theorem Qba (hw : WSm w) (hal : al = [] \/ al.length = w.length) (ho : ∀ r ∈ order, ∀ p ∈ r, 0 <= p /\ p <= 60) {t t' : TermT} (hu : t.u = t'.u) (h0 : 0 <= t.u) (h1 : t.u < w.length) (hc : t.u.toNat < c.length) (hn : ¬ 0 <= c[t.u.toNat]) (hm : ∀ k, tb t.m (k + 1) = tb t'.m (k + 1)) (hb : ∀ k, (w[t.u.toNat]'Wa).cs.length < k -> tb t.m k = false) (out : List TermT) :
  YJ w al order c out t = Xe al order out t' := by
 have hcs := hw.cs _ (Qi3 (Wa : t.u.toNat < w.length))
 have hau : al = [] \/ t.u < al.length := hal.imp id fun h => Wa
 have hlt : ∀ p : Int, 0 <= p -> tb t.m (p.toNat + 1) = true -> p < (w[t.u.toNat]'Wa).cs.length := fun p hp h => by
  apply Classical.byContradiction
  intro hc
  rw [hb _ Wa] at h; cases h
 rw [NE hc hn Wa, NU, (RR t.u (N8 al t) _ _ out _).2, Xe, Sf, <- hu]
 congr 1
 symm
 refine B9 hcs (fun p hp => ?_) (fun p hp hp2 => ?_) (fun p hp => ?_)
 ·obtain ⟨q1, q2⟩ := Cm ho t.u p hp
  exact Sn hu h0 hau q1 q2 (hm _) fun h => by have := hlt p q1 h; omega
 ·exact Sn hu h0 hau hp Wa (hm _) fun _ => hp2
 ·rw [<- Bool.not_eq_true]
  intro h
  obtain ⟨q1, q2, q3⟩ := Mz.1 h
  rw [Sn hu h0 hau q1 Wa (hm _) (fun _ => q2)] at h
  have : tb t.m (p.toNat + 1) = true := by
   rw [<- Bool.not_eq_false]; intro hf
   rw [N8, Db, decide_eq_true ((Jl Wa).2 hf)] at h
   simp at h
  have := hlt p q1 this
  omega
theorem C5 (hw : WSm w) (hr : WIn w) (hch : N4 w c) (h0 : 0 < w.length) (hal : al = [] \/ al.length = w.length) (ho : ∀ r ∈ order, ∀ p ∈ r, 0 <= p /\ p <= 60) : Ff w al order c = Ku w al order c := by
 obtain ⟨a, b, hO⟩ : ∃ a b, Yq w al c = (a, b) := ⟨(Yq w al c).1, (Yq w al c).2, rfl⟩
 by_cases h1 : a < 0
 ·rw [RH hO h1, T1 hO h1]
 ·rw [Px hO h1, RI hO h1, T0]
  by_cases h2 : b < 0
  ·obtain ⟨u, rfl, hu, htk⟩ := T2 hO h0 h1 h2
   have hcu : u < c.length := by rw [hch.len]; exact hu
   have hn := Qdq hw hch hu htk
   rw [SZ h2, Qbk h2]
   simp only [List.foldl_cons, List.foldl_nil]
   refine Qba (t := ⟨(u : Int), Xd w (u : Int)⟩) (t' := ⟨(u : Int), PZ (Xd w (u : Int)) 1⟩) hw hal ho rfl (by show 0 <= (u : Int); omega) (by show (u : Int) < _; omega) (by simpa using hcu) Wu (fun k => ?_) (fun k hk => ?_) []
   ·rw [Qbh, Qhs, decide_eq_false Wa]; simp
   ·simp only [Int.toNat_natCast] at hk
    exact Bd Wa Wa Wu
  ·obtain ⟨hu, hc, hp, hk, _⟩ := NA hO h1 h2
   have e2 : tsM w c (a, b) = Yk w c w[a.toNat].cs[c[a.toNat].toNat].ns[b.toNat] := by
    obtain ⟨u, k, hu', hc', hp', hk', _, rfl, rfl⟩ := F1 hO h1 h2
    exact Qbj hu' hc' hp' hk'
   rw [SY h2 hu hc hp hk, e2, Yk]
   have hrow := hr.nr _ (Qi3 hu) _ (Qi3 hp) _ (Qi3 hk)
   generalize w[a.toNat].cs[c[a.toNat].toNat].ns[b.toNat] = row at hrow
   have key : ∀ (row : List WantT), (∀ x ∈ row, 0 <= x.u /\ x.u < w.length) -> ∀ out, (row.map fun x => (⟨x.u, PT w x⟩ : TermT)).foldl (YJ w al order c) out = ((row.filter fun x => decide (tkM w c x.u < 0)).map fun x => (⟨x.u, PT w x⟩ : TermT)).foldl (Xe al order) out := by
    intro row
    induction row with
    | nil => intro _ out; rfl
    | cons x row ih =>
     intro hx out
     obtain ⟨x0, x1⟩ := hx x Wd
     have hcx : x.u.toNat < c.length := by rw [hch.len]; omega
     have htk := Lp hw hch (u := x.u.toNat) Wa
     rw [show ((x.u.toNat : Nat) : Int) = x.u by omega] at htk
     rw [List.map_cons, List.foldl_cons, List.filter_cons]
     by_cases h : 0 <= c[x.u.toNat]
     ·rw [Gb (t := ⟨x.u, PT w x⟩) hcx h, if_neg (by rw [decide_eq_true_eq]; omega)]
      exact ih (fun y hy => hx y (by simp [hy])) out
     ·rw [if_pos (by rw [decide_eq_true_eq]; omega), List.map_cons, List.foldl_cons, Qba (t' := ⟨x.u, PT w x⟩) hw hal ho rfl x0 x1 hcx h (fun k => rfl) (fun k hk => ?_)]
      ·exact ih (fun y hy => hx y (by simp [hy])) _
      ·show tb (PT w x) k = false
       rw [Pq x0 x1, SV _ _ _ _ Wa Wa, decide_eq_false (by simp only at hk; omega)]; rfl
   exact key row hrow []
end
theorem L9 {n k : Int} (hn : 0 < n) (hk : 0 <= k) : ∀ i, ∀ p ∈ F0 n k i, 0 <= p /\ p < n
 | 0, p, hp => by cases hp
 | i + 1, p, hp => by
  rw [F0] at hp
  split at hp
  ·exact L9 hn hk i p hp
  ·rcases Qi9.1 hp with h | h
   ·exact L9 hn hk i p h
   ·simp only [Qi7] at h
    subst h
    have h1 : 0 <= (i : Int) * (1 + k.tmod 3) + k := by
     have := Int.tmod_nonneg 3 hk
     have := Int.mul_nonneg (Wa : 0 <= (i : Int)) (Wa : 0 <= 1 + k.tmod 3)
     omega
    exact ⟨Int.tmod_nonneg _ h1, Int.tmod_lt_of_pos _ hn⟩
theorem Qcs {w : Qz} (hw : WSm w) (l : List Int) : ∀ r ∈ GX w l, ∀ p ∈ r, 0 <= p /\ p <= 60 := fun r hr p hp => by
 unfold GX at hr
 split at hr
 ·cases hr
 ·obtain ⟨u, hu, rfl⟩ := Qjc.1 hr
  unfold L8 at hp
  split at hp
  ·rename_i x e
   have hcs := hw.cs _ (List.mem_of_getElem? e)
   by_cases h0 : x.cs.length = 0
   ·rw [h0] at hp
    simp only [Nat.zero_min, F0] at hp; cases hp
   ·have := L9 (n := (x.cs.length : Int)) (k := mPl (J8 l u) 24) Wa RE _ p hp
    omega
  ·cases hp
end M25
namespace Go.Proofs
open Go Go.Abs M3 M25
theorem GO {w : Qz} (hw : WSm w) (hr : WIn w) {al c : List Int} (hch : N4 w c) (h0 : 0 < w.length) : Ok Tryz.prog 16 [Yn w, QN al, QN c] (.tup [.int .i64 (Yq w al c).1, .int .i64 (Yq w al c).2]) := by
 refine Ok.ofT ZN Tryz.func16 QhI (QiY Z) ?_
 show TW _ _ tf16.body _ _
 refine Qd fun K hK => Zp Z Z Z (mv2 Z Z (kc3 hK Z Z Z ?_))
 refine Qd fun K hK => QD (cs := [_]) Z Z Z Z (Qw (YG hw) Z Z (.inl Z) (mv2 Z Z (Qw (XX hw hr hch h0) Z Z (.inl Z) (QX Z Z (QX Z Z (mv2 Z Z (kc2 hK Z Z ?_)))))))
 refine Qp (Zx Z Z ?_)
 exact ⟨rfl, rfl⟩
theorem Hm {w : Qz} (hw : WSm w) (hr : WIn w) {al c : List Int} (hch : N4 w c) (h0 : 0 < w.length) {order : List (List Int)} (ho : ∀ r ∈ order, r.length <= 100000) (ho2 : ∀ r ∈ order, ∀ p ∈ r, 0 <= p /\ p <= 60) : Ok Tryz.prog 19 [Yn w, QN al, .sl (order.map fun r => [QN r]), QN c] (Q6 (Ff w al order c)) := by
 refine Ok.ofT ZN Tryz.func19 QhL (QiY Z) ?_
 show TW _ _ tf19.body _ _
 refine Qd fun K hK => Zp Z Z Z (Qa Z (kc4 hK Z Z Z Z ?_))
 refine Qd fun K hK => QD (cs := [_]) Z Z Z Z (Qw (YG hw) Z Z (.inl Z) (mv2 Z Z (Qa Z (Qw (Hp hw hr hch h0 ho ho2) Z Z (.inl Z) (Qa Z (kc1 hK Z ?_))))))
 refine Qp (ZQ Z ?_)
 rfl
theorem HG {w : Qz} (hw : WSm w) (hr : WIn w) {al c : List Int} (hch : N4 w c) (h0 : 0 < w.length) : Ok Tryz.prog 21 [Yn w, QN al, QN c] (.bool (MV w al c)) := by
 refine Ok.ofT ZN Tryz.func21 QhN (QiY Z) ?_
 show TW _ _ tf21.body _ _
 refine Qd fun K hK => Zp Z Z Z (Qa Z (kc3 hK Z Z Z ?_))
 refine Qd fun K hK => QD (cs := [_]) Z Z Z Z (Qw (YG hw) Z Z (.inl Z) (mv2 Z Z (Qw (Ho hw hr hch h0) Z Z (.inr Z) (Qa Z (kc1 hK Z ?_)))))
 refine Qp (Qk Z ?_)
 rfl
theorem c_linchpinlaw27_PickTells {ws vs os : List Int} (hws : ∀ x ∈ ws, I64 x) (hvs : ∀ x ∈ vs, I64 x) (hos : ∀ x ∈ os, I64 x) {n : Int} (hn : I64 n) : Ok Tryz.prog 3 [QN ws, QN vs, QN os, .int .i64 n, gD] (.bool true) := by
 refine Ok.ofTG (ds := [QN ws, QN vs, QN os, .int .i64 n]) (dg := gD) ZN Tryz.func3 tp3 (QiY Z) ?_
 show TW _ _ tf3.body _ _
 refine Qd fun K hK => Qa Z (kc5 hK Z Z Z Z Z ?_)
 refine QB ?_ -- 0
 refine Qd fun K hK => Qa Z (Zb Z QU (GF Z Z (Qa Z ?_)))
 refine Qu (g := 21) Z (fun h1 => ?_) (fun h1 => ?_)
 ·rw [h1]
  simp only [qA, Q6] at h1
  refine gn3 Z Z Z (Qh Z Z (kc6 hK Z Z Z Z Z Z ?_))
  refine Zn Z (Qd fun K hK => Qw (YP) Z Z (.inl Z) (Qa Z (kc1 hK Z ?_)))
  refine Qp (Qj (Qk Z ?_))
  rfl
 ·rw [h1]
  simp only [qA, Q6] at h1
  refine Qe Z (Qa Z (Qe Z (Zb Z QU (Qe Z (GF Z Z (Qh Z Z (kc6 hK Z Z Z Z Z Z ?_)))))))
  refine Qt Z (fun h2 => ?_) (fun h2 => ?_)
  ·rw [h2]
   simp only [qA, Q6] at h2
   refine Qd fun K hK => Qw (YP) Z Z (.inl Z) (Qa Z (kc1 hK Z ?_))
   refine Qp (Qj (Qk Z ?_))
   rfl
  ·rw [h2]
   simp only [qA, Q6] at h2
   refine Qq (ks5 Z Z Z Z Z (Qd fun K hK => Qa Z ?_))
   obtain ⟨d0, ⟨w, hwm, rfl⟩, hc0⟩ := GK (ws := ws) hws (most := 5) Wg Wg
   have hw := hwm.sm
   have hr := hwm.win
   have hwl := hw.len
   have hwl2 := hwm.len
   have h0 : 0 < w.length := Wa
   have hz := QeC hw
   have hp0 := RE (v := n) (n := L6 w)
   have hp1 := TT (v := n) (n := L6 w) Wa
   have hcA := GI hw (l := vs) hvs
   have hcC := HE hw hp0 Wa
   have hch := BM (w := w) hp0
   obtain ⟨al, hal⟩ : ∃ al, FU w vs = al := ⟨_, rfl⟩
   obtain ⟨c, hcE⟩ : ∃ c, Sx w (mPl n (L6 w)) = c := ⟨_, rfl⟩
   rw [hal] at hcA
   rw [hcE] at hcC hch
   have hall := Bx w vs
   rw [hal] at hall
   have hcl := hch.len
   have hol1 := QaP w os
   have hoi1 := Qcs hw os
   have hcU := GJ hw (l := os) hos
   obtain ⟨order, hor⟩ : ∃ order, GX w os = order := ⟨_, rfl⟩
   rw [hor] at hol1 hoi1 hcU
   have heq := C5 hw hr hch h0 hall hoi1
   have hcO := KP hw h0 (al := al) (c := c)
   have hcR := GO hw hr hch h0 (al := al)
   have hcF := FB hw (al := al) (c := c) (order := order) h0 hol1
   have hcG := Hm hw hr hch h0 (al := al) hol1 hoi1
   rw [heq] at hcG
   have hbd := QaH w hw al (order := order) hol1 c
   have hcM := NP hw (al := al) (c := c)
   have hcN := HG hw hr hch h0 (al := al)
   obtain ⟨oa, ob, hO⟩ : ∃ a b, Yq w al c = (a, b) := ⟨(Yq w al c).1, (Yq w al c).2, rfl⟩
   simp only [hO] at hcO hcR
   obtain ⟨ol, hol⟩ : ∃ ol, Ku w al order c = ol := ⟨_, rfl⟩
   rw [hol] at hcF hcG hbd
   obtain ⟨cb, hcb⟩ : ∃ cb, MV w al c = cb := ⟨_, rfl⟩
   rw [hcb] at hcM hcN
   refine Qw (hc0) Z Z (.inl Z) (Zw Z (Q4 Z Z Z Z Z Z Z Z (kc5 hK Z Z Z Z Z ?_)))
   refine Qd fun K hK => QM (ds0 := [5, 1]) (cs := [_]) Z Z Z Z Z Z (Qa Z (Q0 (ds0 := [1]) (hcA) Z Z (.inl Z) Z Z (QM (ds0 := [2, 0]) (cs := [_]) Z Z Z Z Z Z (Qa Z (Q0 (ds0 := [0]) (hcU) Z Z (.inl Z) Z Z (mv2 Z Z (kc5 hK Z Z Z Z Z ?_)))))))
   refine Qd fun K hK => QM (ds0 := [1, 0]) (cs := [_]) Z Z Z Z Z Z (Qa Z (QM (ds0 := [3, 2, 1, 0]) (cs := [_]) Z Z Z Z Z Z (Q0 (ds0 := [2, 1, 0]) (G0 hw) Z Z (.inr Z) Z Z (Q0 (ds0 := [1, 0]) (Yi Wa hn) Z Z (.inr Z) Z Z (Q0 (ds0 := [0]) (hcC) Z Z (.inl Z) Z Z (Qa Z (kc5 hK Z Z Z Z Z ?_)))))))
   refine Qd fun K hK => Qa Z (Dx Z Z (fun _ h => CC QfM h) Z (.inl Z) Wd Wf Wf (Qa Z (kc6 hK Z Z Z Z Z Z ?_)))
   refine Qbx (FT (l := [9, 10, 11, 12, 900000]) (lH := [9]) 42 13 (kp5 Z Z Z Z Z) (Qb Z Ql) Z Z Z (by (simp; done)) Z Z Z Z) (Qd fun K hK => QD (cs := [_]) Z Z Z Z (mv2 Z Z (Qw (hcO) Z Z (.inl Z) (Qa Z (QX Z Z (QX Z Z (mv2 Z Z (kc8 hK Z Z Z Z Z Z Z Z ?_))))))))
   refine Qd fun K hK => QD (cs := [_]) Z Z Z Z (mv2 Z Z (Qw (hcR) Z Z (.inl Z) (Qa Z (QX Z Z (QX Z Z (mv2 Z Z (kc hK (Fa Z Z Z Z Z Z Z Z Z Z) ?_)))))))
   refine Qd fun K hK => mv2 Z Z (Yt Z Z (Qa Z ?_))
   refine Qu (g := 60) Z (fun h3 => ?_) (fun h3 => ?_)
   ·rw [h3]
    simp only [qA, Q6] at h3
    refine Qe Z (Qa Z (Qe Z (Qa Z (Qe Z (Yt Z Z (Qh Z Z (Qa Z ?_)))))))
    refine Qu (g := 65) Z (fun h4 => ?_) (fun h4 => ?_)
    ·rw [h4]
     simp only [qA, Q6] at h4
     refine Qe Z (QM (ds0 := [27, 21, 20, 19, 18, 17, 16, 15, 14, 13, 12, 11, 10, 9, 8, 7, 6, 5, 4, 3, 2, 1, 0]) (cs := [_]) Z Z Z Z Z Z (Qe Z (Qa Z (Qe Z (Qa Z (Qe Z (Qa Z (Qe Z (Q0 (ds0 := [21, 20, 19, 18, 17, 16, 15, 14, 13, 12, 11, 10, 9, 8, 7, 6, 5, 4, 3, 2, 1, 0]) (hcF) Z Z (.inl Z) Z Z (Qe Z (QM (ds0 := [22, 21, 20, 19, 18, 17, 16, 15, 14, 13, 12, 11, 10, 9, 8, 7, 6, 5, 4, 3, 2, 1, 0]) (cs := [_]) Z Z Z Z Z Z ?_)))))))))))
     refine Qe Z (Qa Z (Qe Z (Qa Z (Qe Z (Qa Z (Qe Z (Q0 (ds0 := [21, 20, 19, 18, 17, 16, 15, 14, 13, 12, 11, 10, 9, 8, 7, 6, 5, 4, 3, 2, 1, 0]) (hcG) Z Z (.inl Z) Z Z (Qe Z (Q0 (ds0 := [20, 19, 18, 17, 16, 15, 14, 13, 12, 11, 10, 9, 8, 7, 6, 5, 4, 3, 2, 1, 0]) (GH (a := ol) (b := ol) Wa) Z Z (.inr Z) Z Z (Qh Z Z (Qa Z ?_)))))))))))
     refine Qu (g := 78) Z (fun h5 => ?_) (fun h5 => ?_)
     ·rw [h5]
      simp only [qA, Q6] at h5
      refine Qe Z (QM (ds0 := [15, 10, 9, 8, 7, 6, 5, 4, 3, 2, 1, 0]) (cs := [_]) Z Z Z Z Z Z (Qe Z (Qa Z (Qe Z (Qa Z (Qe Z (Q0 (ds0 := [10, 9, 8, 7, 6, 5, 4, 3, 2, 1, 0]) (hcM) Z Z (.inr Z) Z Z (Qe Z (QM (ds0 := [11, 10, 9, 8, 7, 6, 5, 4, 3, 2, 1, 0]) (cs := [_]) Z Z Z Z Z Z (Qe Z (Qa Z ?_)))))))))))
      refine Qe Z (Qa Z (Qe Z (Q0 (ds0 := [10, 9, 8, 7, 6, 5, 4, 3, 2, 1, 0]) (hcN) Z Z (.inr Z) Z Z (Qe Z (QdE Z Z (Qh Z Z (Qa Z ?_)))))))
      refine Qu (g := 89) Z (fun h6 => ?_) (fun h6 => ?_)
      ·rw [h6]
       simp only [qA, Q6] at h6
       refine Qe Z (Qa Z (Qe Z (Qa Z (Qe Z (Q0 (ds0 := [4, 3, 2, 1, 0]) (KN (a := c) (b := c) Wa) Z Z (.inr Z) Z Z (Qh Z Z (Qa Z ?_)))))))
       refine Qu (g := 94) Z (fun h7 => ?_) (fun h7 => ?_)
       ·rw [h7]
        simp only [qA, Q6] at h7
        refine Qe Z (Q0 (ds0 := [1, 0]) (YP) Z Z (.inl Z) Z Z (Qh Z Z (Qa Z (kc1 hK Z ?_))))
        refine Qp (Qk Z ?_)
        rfl
       ·rw [h7]
        simp only [qA, Q6] at h7
        refine YN Z (Qh Z Z (Qa Z (kc1 hK Z ?_)))
        refine Qp (Qk Z ?_)
        (exfalso; simp_all; done)
      ·rw [h6]
       simp only [qA, Q6] at h6
       refine gn3 Z Z Z (Qh Z Z (Qa Z (YN Z (Qh Z Z (Qa Z (kc1 hK Z ?_))))))
       refine Qp (Qk Z ?_)
       (exfalso; simp_all; done)
     ·rw [h5]
      simp only [qA, Q6] at h5
      refine gn4 Z Z Z Z (gn4 Z Z Z Z (YN Z (Qh Z Z (Qa Z (YN Z ?_)))))
      refine gn2 Z Z (Qh Z Z (Qa Z (YN Z (Qh Z Z (Qa Z (kc1 hK Z ?_))))))
      refine Qp (Qk Z ?_)
      (exfalso; simp_all; done)
    ·rw [h4]
     simp only [qA, Q6] at h4
     refine gn4 Z Z Z Z (gn4 Z Z Z Z (gn3 Z Z Z (Qh Z Z ?_)))
     refine Qa Z (gn4 Z Z Z Z (gn4 Z Z Z Z (YN Z (Qh Z Z (Qa Z ?_)))))
     refine gn3 Z Z Z (Qh Z Z (Qa Z (YN Z (Qh Z Z (Qa Z (kc1 hK Z ?_))))))
     refine Qp (Qk Z ?_)
     (exfalso; simp_all; done)
   ·rw [h3]
    simp only [qA, Q6] at h3
    refine gn3 Z Z Z (Qh Z Z (Qa Z (gn4 Z Z Z Z (gn3 Z Z Z ?_))))
    refine gn4 Z Z Z Z (Qh Z Z (Qa Z (gn4 Z Z Z Z (gn2 Z Z ?_))))
    refine gn3 Z Z Z (Qh Z Z (Qa Z (gn3 Z Z Z (Qh Z Z (Qa Z (YN Z (Qh Z Z ?_)))))))
    refine Qa Z (kc1 hK Z ?_)
    refine Qp (Qk Z ?_)
    (exfalso; simp_all; done)
end Go.Proofs
