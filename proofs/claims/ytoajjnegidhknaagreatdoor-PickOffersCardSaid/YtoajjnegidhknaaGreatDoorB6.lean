/- Part 6 of the means of the proof: a verified abstract evaluator, the prepared functions, and contracts of functions. It states nothing of the claim by itself. -/
import Derived.Test.YtoajjnegidhknaaGreatDoorB5
set_option maxRecDepth 4000
set_option linter.unusedSimpArgs false
set_option linter.unusedVariables false
namespace M25
open Go Go.Abs M3
/-! ### What each unit may have, by numbers; in which order candidates are tried -/
def QlU (w : QE) (l : List Int) (u : Nat) : Int := if mPl (Qmk l u) 300 < 100 then (if 0 < (u : Int) then Qb9 (X4 w u) (mPl (Qmk l u) 300) else X4 w u) else X4 w u
def Qmx (w : QE) (l : List Int) (n : Nat) : List Int := (List.range n).map (QlU w l)
def Qcq (w : QE) (l : List Int) : List Int := if l = [] then [] else Qmx w l w.length
theorem QhH (w : QE) (l : List Int) (n : Nat) : (Qmx w l n).length = n := by simp [Qmx]
theorem Qmy (w : QE) (l : List Int) (n : Nat) : Qmx w l (n + 1) = Qmx w l n ++ [QlU w l n] := by simp [Qmx, List.range_succ]
theorem QmB {w : QE} {l : List Int} (h : (l.length : Int) = 0) : Qcq w l = [] := by
 rw [Qcq, if_pos (List.length_eq_zero_iff.1 (by omega))]
theorem Qop {w : QE} {l : List Int} (h : ¬ (l.length : Int) = 0) : Qcq w l = Qmx w l w.length := by
 rw [Qcq, if_neg (fun e => h (by rw [e]; rfl))]
theorem QmA (w : QE) (l : List Int) : (Qcq w l).length <= w.length := by
 unfold Qcq; split
 ·exact Qvp _
 ·rw [QhH]; exact Nat.le_refl _
/-! ### What every program says -/
def Qvb : D := .agg [.sl [[.str [], .str [], .fsl [[.int .i64 0, .int .i64 0, .int .i64 0, .str [], .str [], .int .i64 (-1), .fsl [[.fsl [[.int .i64 1, Zl QgL.1, Zl QgL.2]]]], .fsl []]]], [.str [97, 110, 116], .str [], .fsl [[.int .i64 1, .int .i64 0, .int .i64 0, .str [], .str [], .int .i64 0, .fsl [], .fsl []], [.int .i64 1, .int .i64 2, .int .i64 0, .str [], .str [], .int .i64 0, .fsl [], .fsl []]]]]]
def w27 : QE := [⟨[], [], [⟨⟨0, 0, 0, [], []⟩, -1, [[⟨1, QgL⟩]], []⟩]⟩, ⟨[97, 110, 116], [], [⟨⟨1, 0, 0, [], []⟩, 0, [], []⟩, ⟨⟨1, 2, 0, [], []⟩, 0, [], []⟩]⟩]
theorem QlK : WSm w27 := by
 have ha : Sm QgL.1 /\ Sm QgL.2 := ⟨QkR.1.sm (by decide), QkR.2.sm (by decide)⟩
 constructor
 ·decide
 ·decide
 ·intro u hu c hc
  simp only [w27, Qvf, Qve, or_false] at hu
  rcases hu with rfl | rfl
  ·simp only [Qvf, Qve, or_false] at hc; subst hc; exact ⟨by decide, by decide⟩
  ·simp only [Qvf, Qve, or_false] at hc
   rcases hc with rfl | rfl <;> exact ⟨by decide, by decide⟩
 ·decide
 ·decide
 ·intro u hu c hc r hr x hx
  simp only [w27, Qvf, Qve, or_false] at hu
  rcases hu with rfl | rfl
  ·simp only [Qvf, Qve, or_false] at hc; subst hc
   simp only [Qvf, Qve, or_false] at hr; subst hr
   simp only [Qvf, Qve, or_false] at hx; subst hx
   exact ha
  ·simp only [Qvf, Qve, or_false] at hc
   rcases hc with rfl | rfl <;> cases hr
 ·intro u hu c hc x hx
  simp only [w27, Qvf, Qve, or_false] at hu
  rcases hu with rfl | rfl
  ·simp only [Qvf, Qve, or_false] at hc; subst hc; cases hx
  ·simp only [Qvf, Qve, or_false] at hc
   rcases hc with rfl | rfl <;> cases hx
theorem Qsx : XL w27 [] [0, -1] = (0, 0) := by decide +kernel
theorem Qsy : XL w27 [] [-1, -1] = (0, -1) := by decide +kernel
theorem Qsz : XQ w27 [] [] [0, -1] = [⟨1, 1⟩, ⟨1, 0⟩] := by decide +kernel
theorem Qsw : QmP w27 [] [0, 1] = true := by decide +kernel
end M25
namespace Go.Proofs
open Go Go.Abs M3 M25
theorem Qc2 {w : QE} (hw : WSm w) {l : List Int} (hL : ∀ x ∈ l, I64 x) : Ok Tryz.prog 10 [Xk w, QX l] (QX (Qcq w l)) := by
 refine Ok.ofT Z4 Tryz.func10 Qt9 (Qvd Z) ?_
 show TW _ _ tf10.body _ _
 have hwl := hw.len
 refine Qe fun K hK => Zy Z Z Z (Qb Z (hK _ _ (Qa (kp2 Z Z) ?_)))
 refine QF ?_ -- 0
 refine Qe fun K hK => Qb Z ?_
 first | refine Q0 rfl Zb ?_ | refine Q0 rfl rfl ?_
 refine YI Z Z (hK _ _ (Qa (kp3 Z Z Z) ?_))
 refine Qx Z (fun h1 => ?_) (fun h1 => ?_)
 ·try rw [h1]
  try simp only [qA] at h1
  refine Qe fun K hK => Qb Z (hK _ _ (Qa (kp1 Z) ?_))
  refine Qt (Qk ?_)
  rw [QmB h1]
  exact Z7 rfl rfl
 ·try rw [h1]
  try simp only [qA] at h1
  refine Qu (Qd (kp2 Z Z) (Qe fun K hK => Qb Z (hK _ _ (Qa (kp3 Z Z Z) ?_))))
  refine QF ?_ -- 1
  refine Qe fun K hK => Qb Z (hK _ _ (Qa (kp4 Z Z Z Z) ?_))
  refine QG ?_
  refine ZH (ι := Nat) (fun i => ⟨[(1, QX l), (2, .ref 2 0 0), (5, .osl 5 (Qmx w l i).length), (6, .int .i64 i)], [(2, ⟨[[.sl ((w).map YJ)]], 1, 26, true⟩), (5, ⟨(Qmx w l i).map (fun x => [.int .i64 x]), 1, 3, true⟩)]⟩) (fun i => i <= w.length) (fun i => w.length - i) 0 ?_ ?_ ?_
  ·exact le_trans (Y0 5 5 1 3 rfl rfl) (Q1 (l := [1, 2, 5, 6]) (lH := [2, 5]) (kp4 rfl rfl rfl rfl) (Qi rfl (Qi rfl Qp)) rfl rfl rfl)
  ·exact Qvp _
  intro i hI
  have hlen := QhH w l i
  try dsimp only
  refine QF ?_ -- 2
  refine Qe fun K hK => Qb Z (Qg Z Z (QC Z Z Z ?_))
  first | refine Q0 rfl Zb ?_ | refine Q0 rfl rfl ?_
  refine Z8 Z Z (hK _ _ (Qa (kp5 Z Z Z Z Z) ?_))
  refine Qx Z (fun h2 => ?_) (fun h2 => ?_)
  ·try rw [h2]
   try simp only [qA] at h2
   refine Qu (Qd (kp4 Z Z Z Z) ?_)
   refine QF ?_ -- 3
   refine QG (Qe fun K hK => QB (cs := [_]) Z Z Z Z (Qb Z (QA (Qc7 hw) Z Z (.inr Z) (Qb Z (hK _ _ (Qa (kp5 Z Z Z Z Z) ?_))))))
   refine Qe fun K hK => Qb Z (Qb Z (QA (Qbl (l := l) (i := (i : Int))) Z Z (.inr Z) (QA (Xh (by omega) (Qlj hL ⟨by omega, by omega⟩)) Z Z (.inr Z) (Qb Z (hK _ _ (Qa (kp6 Z Z Z Z Z Z) ?_))))))
   refine Qde (ι := Unit) (fun _ => ⟨[(1, QX l), (2, .ref 2 0 0), (5, .osl 5 (Qmx w l i).length), (6, .int .i64 i), (7, .int .i64 (QlU w l i))], [(2, ⟨[[.sl ((w).map YJ)]], 1, 26, true⟩), (5, ⟨(Qmx w l i).map (fun x => [.int .i64 x]), 1, 3, true⟩)]⟩) (fun _ => True) ?_ ?_
   ·skip
    refine Qe fun K hK => Qb Z (Z8 Z Z (Qb Z ?_))
    refine Qv (g := 28) Z (fun h3 => ?_) (fun h3 => ?_)
    ·try rw [h3]
     try simp only [qA] at h3
     refine Qf Z (Qb Z (Qf Z (Qdd Z Z (Qh Z Z (hK _ _ (Qa (kp7 Z Z Z Z Z Z Z) ?_))))))
     refine Qx Z (fun h4 => ?_) (fun h4 => ?_)
     ·try rw [h4]
      try simp only [qA] at h4
      refine QR fun K hK => Qb Z (Qb Z (Qfb Z Z (Qb Z (hK _ ?_))))
      refine Zm () ?_ ?_
      ·exact Q1 (l := [1, 2, 5, 6, 7]) (lH := [2, 5]) (kp5 rfl rfl rfl rfl rfl) (Qi rfl (Qi rfl Qp)) (by rw [QlU, if_pos h3, if_pos h4] <;> rfl) rfl rfl
      ·exact trivial
     ·try rw [h4]
      try simp only [qA] at h4
      refine Qu ?_
      refine Zm () ?_ ?_
      ·exact Q1 (l := [1, 2, 5, 6, 7]) (lH := [2, 5]) (kp5 rfl rfl rfl rfl rfl) (Qi rfl (Qi rfl Qp)) (by rw [QlU, if_pos h3, if_neg h4] <;> rfl) rfl rfl
      ·exact trivial
    ·try rw [h3]
     try simp only [qA] at h3
     refine Qq Z (Qq Z (Qh Z Z (hK _ _ (Qa (kp7 Z Z Z Z Z Z Z) ?_))))
     refine Zq Z (Qu ?_)
     refine Zm () ?_ ?_
     ·exact Q1 (l := [1, 2, 5, 6, 7]) (lH := [2, 5]) (kp5 rfl rfl rfl rfl rfl) (Qi rfl (Qi rfl Qp)) (by rw [QlU, if_neg h3] <;> rfl) rfl rfl
     ·exact trivial
   intro _ hJ
   try dsimp only
   refine QR fun K hK => Qb Z (Qb Z (QP Z Z (QaN Z Z (fun _ h => Qah Z Z Z h) Z (by simp) Z Z Z (by simp; omega) (by simp; omega) (Qb Z (hK _ ?_)))))
   refine Qj (Qd (kp4 Z Z Z Z) (QR fun K hK => Qb Z (Q9 Z Z (by first | exact Qs (by omega) (by omega) | exact QN (by omega) (by omega) | exact QV (by omega) (by omega) | rfl) (Qb Z (hK _ ?_)))))
   refine Qm (i + 1) ?_ ?_ ?_
   ·exact Q1 (l := [1, 2, 5, 6]) (lH := [2, 5]) (kp4 rfl rfl rfl rfl) (Qi rfl (Qi rfl Qp)) (by rw [Qmy, List.length_append] <;> rfl) (by rw [Qmy, List.map_append] <;> rfl) rfl
   ·omega
   ·first | omega | (simp only; omega) | (dsimp only; omega)
  ·try rw [h2]
   try simp only [qA] at h2
   refine Zf (QK (Qz (QH (Qd (kp1 Z) (Qe fun K hK => Qb Z (Qb Z (hK _ _ (Qa (kp1 Z) ?_))))))))
   refine Qt ?_
   exact Qfx rfl rfl rfl (by simp) (by rw [Qop h1, show w.length = i by omega]; rfl)
theorem Qcc  : Ok Tryz.prog 29 [] (Qvb) := by
 refine Ok.ofT Z4 Tryz.func29 Quh (Qvd Z) ?_
 show TW _ _ tf29.body _ _
 refine Qe fun K hK => ZJ Z (hK _ _ (Qa (kp1 Z) ?_))
 refine Qe fun K hK => QA (XC) Z Z (.inl Z) (Qb Z (hK _ _ (Qa (kp2 Z Z) ?_)))
 refine Qe fun K hK => Ze (ds0 := [18, 17, 16, 15, 14, 13, 2, 1, 0]) (QaU) Z Z (.inl Z) Z Z (Q2 Z Z (Ye Z Z (Ye Z Z (Q2 Z Z (Ye Z Z (Q2 Z Z (Qb Z (QM Z Z Z (by decide) Z Z (QQ (ds0 := [9, 4, 3, 2, 1, 0]) (cs := [_, _, _, _, _]) Z Z Z Z Z Z (Q2 Z Z ?_))))))))))
 refine Qb Z (QM Z Z Z (by decide) Z Z (QQ (ds0 := [5, 4, 3, 2, 1, 0]) (cs := [_, _, _, _, _]) Z Z Z Z Z Z (Q2 Z Z (Ye Z Z (Q2 Z Z (Ye Z Z (Q2 Z Z (Xo (ds0 := []) Z Z Z Z Z Z Z Z Z Z (hK _ _ (Qa (kp1 Z) ?_))))))))))
 refine Qt ?_
 exact ZN (cs := [_]) rfl rfl rfl rfl rfl
theorem Yo  : Ok Tryz.prog 8 [gD] (.bool true) := by
 refine Ok.ofTG (ds := []) (dg := gD) Z4 Tryz.func8 tp8 (Qvd Z) ?_
 show TW _ _ tf8.body _ _
 refine Qe fun K hK => Qb Z (hK _ _ (Qa (kp1 Z) ?_))
 refine Qe fun K hK => QA (Qcc) Z Z (.inl Z) (ZJ Z (Q5 Z Z Z Z Z Z Z Z (hK _ _ (Qa (kp2 Z Z) ?_))))
 refine Qe fun K hK => QB (cs := [_]) Z Z Z Z (Ye Z Z ?_)
 have hc1 := QbB QlK (al := []) (c := [0, -1]) (by decide)
 rw [Qsx] at hc1
 refine QA (hc1.weak (by rfl)) Z Z (.inl Z) (Qb Z (Q6 Z Z (Q6 Z Z (Qb Z (Qb Z (hK _ _ (Qa (kp4 Z Z Z Z) ?_)))))))
 refine Qe fun K hK => QB (cs := [_]) Z Z Z Z (Ye Z Z ?_)
 have hc2 := QbB QlK (al := []) (c := [-1, -1]) (by decide)
 rw [Qsy] at hc2
 refine QA (hc2.weak (by rfl)) Z Z (.inl Z) (Qb Z (Q6 Z Z (Q6 Z Z (Qb Z (Qb Z (hK _ _ (Qa (kp6 Z Z Z Z Z Z) ?_)))))))
 refine Qe fun K hK => QB (cs := [_]) Z Z Z Z (Ye Z Z ?_)
 have hc3 := QdV QlK (al := []) (c := [0, -1]) (order := []) (by decide) (by decide)
 rw [Qsz] at hc3
 refine QA (hc3.weak (by rfl)) Z Z (.inl Z) (Qb Z (hK _ _ (Qa (kp7 Z Z Z Z Z Z Z) ?_)))
 refine Qe fun K hK => Qb Z (YI Z Z (Qb Z ?_))
 refine Qv (g := 25) Z (fun h1 => ?_) (fun h1 => ?_)
 ·try rw [h1]
  try simp only [qA] at h1
  refine Qf Z (Qb Z (Qf Z (YI Z Z (Qh Z Z (Qb Z ?_)))))
  refine Qv (g := 29) Z (fun h2 => ?_) (fun h2 => ?_)
  ·try rw [h2]
   try simp only [qA] at h2
   refine Qf Z (Qb Z (Qf Z (YI Z Z (Qh Z Z (Qb Z ?_)))))
   refine Qv (g := 33) Z (fun h3 => ?_) (fun h3 => ?_)
   ·try rw [h3]
    try simp only [qA] at h3
    refine Qf Z (Qb Z (Qf Z (YI Z Z (Qh Z Z (Qb Z ?_)))))
    refine Qv (g := 37) Z (fun h4 => ?_) (fun h4 => ?_)
    ·try rw [h4]
     try simp only [qA] at h4
     refine Qf Z (Qb Z (Qf Z ?_))
     first | refine Q0 rfl Zb ?_ | refine Q0 rfl rfl ?_
     refine Qf Z (YI Z Z (Qh Z Z (Qb Z ?_)))
     refine Qv (g := 42) Z (fun h5 => ?_) (fun h5 => ?_)
     ·try rw [h5]
      try simp only [qA] at h5
      refine Qf Z (Qb Z (Qf Z (QM Z Z Z (by decide) Z Z (Qf Z (QB (cs := [_, _]) Z Z Z Z (Qf Z (Q2 Z Z (Qf Z (Qdc Z Z Z (Qh Z Z (Qb Z ?_)))))))))))
      refine Qv (g := 49) Z (fun h6 => ?_) (fun h6 => ?_)
      ·try rw [h6]
       try simp only [qA] at h6
       refine Qf Z (Qb Z (Qf Z (QM Z Z Z (by decide) Z Z (Qf Z (QB (cs := [_, _]) Z Z Z Z (Qf Z (Q2 Z Z (Qf Z (Qdc Z Z Z (Qh Z Z (Qb Z ?_)))))))))))
       refine Qv (g := 56) Z (fun h7 => ?_) (fun h7 => ?_)
       ·try rw [h7]
        try simp only [qA] at h7
        refine Qf Z (QB (cs := [_]) Z Z Z Z (Qf Z (Ye Z Z (Qf Z ?_))))
        have hc4 := QiU QlK (al := []) (c := [0, 1])
        rw [Qsw] at hc4
        refine QA (hc4.weak (by rfl)) Z Z (.inr Z) (Qh Z Z (Qb Z (hK _ _ (Qa (kp1 Z) ?_))))
        refine Qt (Ql Z ?_)
        first | rfl | decide
       ·try rw [h7]
        try simp only [qA] at h7
        exact absurd h7 (by decide)
      ·try rw [h6]
       try simp only [qA] at h6
       exact absurd h6 (by decide)
     ·try rw [h5]
      try simp only [qA] at h5
      exact absurd h5 (by decide)
    ·try rw [h4]
     try simp only [qA] at h4
     exact absurd h4 (by decide)
   ·try rw [h3]
    try simp only [qA] at h3
    exact absurd h3 (by decide)
  ·try rw [h2]
   try simp only [qA] at h2
   exact absurd h2 (by decide)
 ·try rw [h1]
  try simp only [qA] at h1
  exact absurd h1 (by decide)
end Go.Proofs
namespace M25
open Go Go.Abs M3
/-! ### Whatever the order, the same are offered -/
theorem Qfy {m p : Int} : Qkw m p = true ↔ 0 <= p /\ p < 16 /\ tb m (p + 1).toNat = true := by
 simp only [Qkw, Qvh, decide_eq_true_eq, Bool.not_eq_true', decide_eq_false_iff_not]
 constructor
 ·rintro ⟨h1, h2, h3⟩
  refine ⟨h1, h2, ?_⟩
  cases h : tb m (p + 1).toNat with
  | true => rfl
  | false => exact absurd ((QdK (by omega)).2 h) h3
 ·rintro ⟨h1, h2, h3⟩
  exact ⟨h1, h2, fun h => by rw [(QdK (by omega)).1 h] at h3; cases h3⟩
structure QrC (m0 : Int) (L : List Int) (s : List Int × Int) : Prop where
 nd : s.1.Nodup
 mem : ∀ p, p ∈ s.1 ↔ p ∈ L /\ Qkw m0 p = true
 bit : ∀ p, Qkw s.2 p = true ↔ Qkw m0 p = true /\ p ∉ s.1
theorem Qo8 (m : Int) : QrC m [] ([], m) := ⟨List.nodup_nil, by simp, by simp⟩
theorem QnF {m0 : Int} {L : List Int} {s : List Int × Int} (h : QrC m0 L s) (p : Int) : QrC m0 (L ++ [p]) (QaK s p) := by
 unfold QaK
 by_cases hp : Qkw s.2 p = true
 ·rw [if_pos hp]
  obtain ⟨h0, hni⟩ := (h.bit p).1 hp
  refine ⟨?_, fun q => ?_, fun q => ?_⟩
  ·rw [List.nodup_append]
   refine ⟨h.nd, by simp, fun a ha b hb => ?_⟩
   simp only [Qvm] at hb; subst hb
   rintro rfl; exact hni ha
  ·simp only [Qvo, Qvm, h.mem q]
   constructor
   ·rintro (⟨h1, h2⟩ | rfl)
    ·exact ⟨.inl h1, h2⟩
    ·exact ⟨.inr rfl, h0⟩
   ·rintro ⟨h1 | rfl, h2⟩
    ·exact .inl ⟨h1, h2⟩
    ·exact .inr rfl
  ·have hb := h.bit q
   rw [Qfy] at hb ⊢
   simp only [Qn3, Qvh, Bool.not_eq_true', Qvo, Qvm, not_or]
   constructor
   ·rintro ⟨q1, q2, q3, q4⟩
    obtain ⟨z1, z2⟩ := hb.1 ⟨q1, q2, q3⟩
    refine ⟨z1, z2, ?_⟩
    rintro rfl
    rw [QgD (by omega)] at q4
    simp at q4
   ·rintro ⟨z1, z2, z3⟩
    obtain ⟨q1, q2, q3⟩ := hb.2 ⟨z1, z2⟩
    obtain ⟨p1, p2, _⟩ := Qfy.1 hp
    refine ⟨q1, q2, q3, ?_⟩
    rw [QgD (by omega), decide_eq_false_iff_not]
    intro e; exact z3 (by omega)
 ·rw [if_neg hp]
  refine ⟨h.nd, fun q => ?_, h.bit⟩
  rw [h.mem q]
  simp only [Qvo, Qvm]
  constructor
  ·rintro ⟨h1, h2⟩; exact ⟨.inl h1, h2⟩
  ·rintro ⟨h1 | rfl, h2⟩
   ·exact ⟨h1, h2⟩
   ·have : q ∈ s.1 := Classical.byContradiction fun hn => hp ((h.bit q).2 ⟨h2, hn⟩)
    exact (h.mem q).1 this
theorem Qjx {m0 : Int} : ∀ (l L : List Int) (s : List Int × Int), QrC m0 L s -> QrC m0 (L ++ l) (l.foldl QaK s)
 | [], L, s, h => by simpa using h
 | p :: l, L, s, h => by
  have := Qjx l (L ++ [p]) (QaK s p) (QnF h p)
  simpa using this
theorem Qox {p : Int} (h0 : 0 <= p) (h1 : p < 16) : p ∈ dn16 := by
 have : ∀ n : Fin 16, ((n : Nat) : Int) ∈ dn16 := by decide
 have h := this ⟨p.toNat, by omega⟩
 simp only [show ((p.toNat : Nat) : Int) = p by omega] at h
 exact h
theorem Qe6 (ord : List Int) (m : Int) : (ZW ord m).Nodup /\ ∀ p, p ∈ ZW ord m ↔ Qkw m p = true := by
 have h := Qjx (m0 := m) (ord ++ dn16) [] ([], m) (Qo8 m)
 refine ⟨h.nd, fun p => ?_⟩
 rw [ZW, h.mem p]
 simp only [List.nil_append, Qvo]
 constructor
 ·exact fun h => h.2
 ·intro hp
  obtain ⟨h1, h2, _⟩ := Qfy.1 hp
  exact ⟨.inr (Qox h1 h2), hp⟩
theorem QhT {o x : ZY} : eqT o x = true ↔ o = x := by
 obtain ⟨a, b⟩ := o
 obtain ⟨c, d⟩ := x
 simp [eqT]
theorem QmC {o : ZY} {l : List ZY} : l.any (eqT o) = true ↔ o ∈ l := by
 rw [List.any_eq_true]
 constructor
 ·rintro ⟨x, h1, h2⟩; rw [QhT.1 h2]; exact h1
 ·exact fun h => ⟨o, h, QhT.2 rfl⟩
theorem Qoo {out : List ZY} (h : out.Nodup) (o : ZY) : (QiN out o).Nodup /\ ∀ x, x ∈ QiN out o ↔ x ∈ out \/ x = o := by
 unfold QiN
 split
 ·rename_i ha
  have := QmC.1 ha
  refine ⟨h, fun x => ⟨.inl, ?_⟩⟩
  rintro (h1 | rfl)
  ·exact h1
  ·exact this
 ·rename_i ha
  refine ⟨?_, fun x => by simp⟩
  rw [List.nodup_append]
  refine ⟨h, by simp, fun a h1 b h2 => ?_⟩
  simp only [Qvm] at h2; subst h2
  rintro rfl; exact ha (QmC.2 h1)
theorem QiO : ∀ (l : List ZY) {out : List ZY}, out.Nodup -> (l.foldl QiN out).Nodup /\ ∀ x, x ∈ l.foldl QiN out ↔ x ∈ out \/ x ∈ l
 | [], out, h => ⟨h, by simp⟩
 | o :: l, out, h => by
  obtain ⟨h1, h2⟩ := Qoo h o
  obtain ⟨h3, h4⟩ := QiO l h1
  refine ⟨h3, fun x => ?_⟩
  rw [List.foldl_cons, h4 x, h2 x, Qvf, or_assoc]
def QqI (al : List Int) (ts : List ZY) (x : ZY) : Prop := ∃ t ∈ ts, x.u = t.u /\ Qkw (X5 al t) x.m = true
theorem Qju {al : List Int} {order : List (List Int)} : ∀ (ts : List ZY) {out : List ZY}, out.Nodup -> (ts.foldl (Xu al order) out).Nodup /\ ∀ x, x ∈ ts.foldl (Xu al order) out ↔ x ∈ out \/ QqI al ts x
 | [], out, h => ⟨h, by simp [QqI]⟩
 | t :: ts, out, h => by
  obtain ⟨h1, h2⟩ := QiO (Z5 t.u (ZW (ZX order t.u) (X5 al t))) h
  obtain ⟨h3, h4⟩ := Qju ts h1
  refine ⟨h3, fun x => ?_⟩
  rw [List.foldl_cons]
  refine (h4 x).trans ?_
  rw [h2 x]
  have hm : x ∈ Z5 t.u (ZW (ZX order t.u) (X5 al t)) ↔ x.u = t.u /\ Qkw (X5 al t) x.m = true := by
   simp only [Z5, Qvr]
   constructor
   ·rintro ⟨p, hp, rfl⟩; exact ⟨rfl, ((Qe6 _ _).2 p).1 hp⟩
   ·rintro ⟨h5, h6⟩; exact ⟨x.m, ((Qe6 _ _).2 x.m).2 h6, by rw [<- h5]⟩
  rw [hm]
  constructor
  ·rintro ((h5 | h5) | ⟨t', h5, h6⟩)
   ·exact .inl h5
   ·exact .inr ⟨t, by simp, h5⟩
   ·exact .inr ⟨t', by simp [h5], h6⟩
  ·rintro (h5 | ⟨t', h5, h6⟩)
   ·exact .inl (.inl h5)
   ·rcases Qvf.1 h5 with rfl | h5
    ·exact .inl (.inr h6)
    ·exact .inr ⟨t', h5, h6⟩
theorem Qgq (w : QE) (al : List Int) (order : List (List Int)) (c : List Int) : (XQ w al order c).Nodup /\ ∀ x, x ∈ XQ w al order c ↔ ¬ (XL w al c).1 < 0 /\ QqI al (tsM w c (XL w al c)) x := by
 unfold XQ
 split
 ·rename_i h; exact ⟨List.nodup_nil, by simp [h]⟩
 ·rename_i h
  obtain ⟨h1, h2⟩ := Qju (al := al) (order := order) (tsM w c (XL w al c)) (out := []) List.nodup_nil
  exact ⟨h1, fun x => by rw [Qjs, h2 x]; simp [h]⟩
theorem QnC (w : QE) (hw : WSm w) (al : List Int) {order : List (List Int)} (ho : ∀ r ∈ order, r.length <= 100000) (c : List Int) : (XQ w al order c).length <= 200000000 := by
 unfold XQ
 split
 ·simp
 ·have := QgC (al := al) ho (tsM w c (XL w al c)) []
  have h2 := Qp7 hw c (XL w al c)
  simp only [List.length_nil] at this
  rw [Qjs]; omega
end M25
namespace Go.Proofs
open Go Go.Abs M3 M25
end Go.Proofs
namespace M25
open Go Go.Abs M3
/-! ### What is offered may be offered -/
theorem Qss {w : QE} {c : List Int} (hw : WSm w) (hch : QsJ w c) {u : Nat} (hu : u < w.length) (h : tkM w c (u : Int) < 0) : c[u]'(by rw [hch.len]; exact hu) = -1 := by
 have hc : u < c.length := by rw [hch.len]; exact hu
 obtain ⟨h1, h2⟩ := hch.bd u hu hc
 have h16 := hw.cs _ (Qvi hu)
 apply Classical.byContradiction
 intro hn
 have hv := QaD (w := w) (c := c) (u := (u : Int)) (by omega) (by omega) (by omega) (by simp only [Int.toNat_natCast]; omega) (by simp only [Int.toNat_natCast]; omega)
 simp only [Int.toNat_natCast] at hv
 have : ¬ Qa2 w c (u : Int) <= 1 := by
  rw [hv]
  obtain ⟨n, hn2⟩ : ∃ n, (c[u] + 1).toNat = n + 1 := ⟨c[u].toNat, by omega⟩
  rw [hn2, Int.pow_succ]
  have := Qpf (n := n) (by omega)
  omega
 rw [Qre this] at h
 simp only [Int.toNat_natCast] at h
 omega
theorem Qjv {w : QE} {al c : List Int} {a b : Int} (h : XL w al c = (a, b)) (h0 : 0 < w.length) (h1 : ¬ a < 0) (h2 : b < 0) : ∃ u : Nat, a = (u : Int) /\ u < w.length /\ tkM w c (u : Int) < 0 := by
 unfold XL at h
 split at h
 ·rename_i q1
  simp only [YQ, Prod.mk.injEq] at h q1
  exact ⟨0, h.1.symm, h0, of_decide_eq_true q1⟩
 ·split at h
  ·rename_i q1 q2
   rcases Qd6 w.length (QaX w al c) with ⟨e, _⟩ | ⟨u, e, hu, hp, _⟩
   ·simp only [YQ] at q2; rw [e] at q2; simp at q2
   ·simp only [YQ, e, if_pos (Int.natCast_nonneg u), Prod.mk.injEq] at h
    simp only [QaX, Qvh, decide_eq_true_eq] at hp
    exact ⟨u, h.1.symm, hu, hp.1⟩
  ·split at h
   ·rename_i q1 q2 q3
    rcases Qd6 w.length (Qb1 w c) with ⟨e, _⟩ | ⟨u, e, hu, hp, _⟩
    ·simp only [YQ] at q3; rw [e] at q3; simp at q3
    ·simp only [YQ, e, if_pos (Int.natCast_nonneg u), Int.toNat_natCast, Prod.mk.injEq] at h
     have := of_decide_eq_true hp
     omega
   ·simp only [Prod.mk.injEq] at h; omega
theorem QqV {w : QE} {al c : List Int} {a b : Int} (h : XL w al c = (a, b)) (h0 : 0 < w.length) (h1 : ¬ a < 0) : a < w.length := by
 by_cases h2 : b < 0
 ·obtain ⟨u, rfl, hu, _⟩ := Qjv h h0 h1 h2; omega
 ·obtain ⟨u, k, hu, _, _, _, _, rfl, _⟩ := Qek h h1 h2; omega
def Qo2 (w : QE) (o : ZY) (x : WantT) : Bool := decide (x.u = o.u) && !decide (Qb9 (Qnv w x) (2 * 2 ^ o.m.toNat) = 0)
theorem QnI (n : Nat) : (2 : Int) * 2 ^ n = 2 ^ (n + 1) := by rw [Int.pow_succ, Int.mul_comm]
structure QrA (w : QE) (al c : List Int) (a b : Int) (o : ZY) : Prop where
 u0 : 0 <= o.u
 u1 : o.u < w.length
 no : ∀ h : o.u.toNat < c.length, c[o.u.toNat] = -1
 p0 : 0 <= o.m
 p1 : ∀ h : o.u.toNat < w.length, o.m < w[o.u.toNat].cs.length
 p2 : o.m < 16
 al0 : 0 < (al.length : Int) -> ∃ h : o.u.toNat < al.length, ¬ Qb9 al[o.u.toNat] (2 * 2 ^ o.m.toNat) = 0
 me : b < 0 -> o.u = a
 need : 0 <= b -> ∀ hu : a.toNat < w.length, ∀ hc : a.toNat < c.length, ∀ hp : c[a.toNat].toNat < w[a.toNat].cs.length, ∀ hk : b.toNat < w[a.toNat].cs[c[a.toNat].toNat].ns.length, w[a.toNat].cs[c[a.toNat].toNat].ns[b.toNat].any (Qo2 w o) = true
theorem Ql9 {w : QE} {al c : List Int} {a b : Int} (h : XL w al c = (a, b)) (h1 : ¬ a < 0) (h2 : ¬ b < 0) : ∃ hu : a.toNat < w.length, ∃ hc : a.toNat < c.length, ∃ hp : c[a.toNat].toNat < w[a.toNat].cs.length, b.toNat < w[a.toNat].cs[c[a.toNat].toNat].ns.length /\ 0 <= c[a.toNat] := by
 obtain ⟨u, k, hu, hc, hp, hk, h0, rfl, rfl⟩ := Qek h h1 h2
 exact ⟨hu, hc, hp, hk, h0⟩
theorem Qse {w : QE} (hw : WSm w) {al c : List Int} (hch : QsJ w c) (hal : al = [] \/ al.length = w.length) (h0 : 0 < w.length) {order : List (List Int)} {a b : Int} (hO : XL w al c = (a, b)) {o : ZY} (ho : o ∈ XQ w al order c) : QrA w al c a b o := by
 obtain ⟨h1, t, ht, hu, hp⟩ := ((Qgq w al order c).2 o).1 ho
 rw [hO] at h1 ht
 obtain ⟨p0, p1, p2⟩ := Qfy.1 hp
 -- a unit in range, that has none; the bit is the term's
 have hbit : tb t.m (o.m + 1).toNat = true := by
  by_cases e : 0 < (al.length : Int) /\ t.u < al.length /\ 0 <= t.u
  ·rw [Qie e.1 e.2.1 e.2.2, Qn2, Qvh] at p2; exact p2.1
  ·rw [Qid (by omega)] at p2; exact p2
 have hn : (o.m + 1).toNat = o.m.toNat + 1 := by omega
 rw [hn] at hbit p2
 have key : ∃ v : Nat, t.u = (v : Int) /\ ∃ hv : v < w.length, tkM w c (v : Int) < 0 /\ o.m < w[v].cs.length /\ (b < 0 -> o.u = a) /\ (0 <= b -> ∀ hu : a.toNat < w.length, ∀ hc : a.toNat < c.length, ∀ hp : c[a.toNat].toNat < w[a.toNat].cs.length, ∀ hk : b.toNat < w[a.toNat].cs[c[a.toNat].toNat].ns.length, w[a.toNat].cs[c[a.toNat].toNat].ns[b.toNat].any (Qo2 w o) = true) := by
  by_cases h2 : b < 0
  ·obtain ⟨v, rfl, hv, htk⟩ := Qjv hO h0 h1 h2
   rw [Qn6 h2, Qvm] at ht
   subst ht
   rw [Qn3, Qvh] at hbit
   have := Qmf (w := w) (u := (v : Int)) (by omega) (by omega) hbit.1
   simp only [Int.toNat_natCast] at this
   exact ⟨v, rfl, hv, htk, by omega, fun _ => hu, fun h => by omega⟩
  ·obtain ⟨u, k, hu1, hc1, hp1, hk1, _, rfl, rfl⟩ := Qek hO h1 h2
   rw [Qn5 hu1 hc1 hp1 hk1, YH, Qvr] at ht
   obtain ⟨x, hx, rfl⟩ := ht
   rw [List.mem_filter, decide_eq_true_eq] at hx
   obtain ⟨hx1, hx2⟩ := hx
   simp only at hbit hu
   by_cases hr : 0 <= x.u /\ x.u < w.length
   ·have hm := hbit
    rw [Qia hr.1 hr.2, QlH _ _ _ _ (by omega) (by omega), Qvh, decide_eq_true_eq] at hm
    have hxu : ((x.u.toNat : Nat) : Int) = x.u := by omega
    refine ⟨x.u.toNat, hxu.symm, by omega, by rw [hxu]; exact hx2, by have := hm.1; omega, fun h => absurd h h2, ?_⟩
    intro _ _ _ _ _
    rw [List.any_eq_true]
    refine ⟨x, hx1, ?_⟩
    rw [Qo2, decide_eq_true hu.symm, QnI, Bool.true_and, Bool.not_eq_true', decide_eq_false_iff_not, QdK (by omega), hbit]
    simp
   ·rw [Qfo (by omega), Qis] at hbit; cases hbit
 obtain ⟨v, hv0, hv, htk, hlt, hme, hneed⟩ := key
 have hov : o.u = (v : Int) := by omega
 have hvt : o.u.toNat = v := by omega
 refine ⟨by omega, by omega, fun h => ?_, p0, fun h => ?_, p1, fun h => ?_, hme, hneed⟩
 ·simp only [hvt]; exact Qss hw hch hv htk
 ·simp only [hvt]; exact hlt
 ·rcases hal with rfl | hal
  ·simp at h
  ·refine ⟨by omega, ?_⟩
   rw [Qie h (by omega) (by omega), Qn2, Qvh] at p2
   rw [QnI, QdK (by omega)]
   have e : t.u.toNat = o.u.toNat := by omega
   have := p2.2
   simp only [e] at this
   rw [this]; simp
theorem Qmz (w : QE) (l : List Int) : Qcq w l = [] \/ (Qcq w l).length = w.length := by
 unfold Qcq; split
 ·exact .inl rfl
 ·exact .inr (QhH w l w.length)
theorem Qhz {v : Int} (h : v <= 60) : IntKind.i64.wrap ((2 : Int) * 2 ^ min v.toNat IntKind.i64.bits) = 2 * 2 ^ v.toNat := by
 have := Qob (p := v.toNat) (by omega)
 simp only [Int.toNat_natCast] at this
 exact this
theorem Qlt {α : Type} {l : List α} (h : l.Nodup) {i j : Nat} (hi : i < l.length) (hj : j < i) : ¬ l[j]'(by omega) = l[i] := fun e => by
 have := (List.getElem_inj (i := j) (j := i) (h₀ := by omega) (h₁ := hi) h).1 e
 omega
theorem Qkr {w : QE} {o : ZY} {row : List WantT} {j : Nat} (h : j < row.length) : (row.take (j + 1)).any (Qo2 w o) = ((row.take j).any (Qo2 w o) || Qo2 w o row[j]) := by
 rw [List.take_succ_eq_append_getElem h, List.any_append]; simp
end M25
namespace Go.Proofs
open Go Go.Abs M3 M25
theorem c_linchpinlaw27_PickOffers {ws vs : List Int} (hws : ∀ x ∈ ws, I64 x) (hvs : ∀ x ∈ vs, I64 x) {n : Int} (hn : I64 n) : Ok Tryz.prog 6 [QX ws, QX vs, .int .i64 n, gD] (.bool true) := by
 refine Ok.ofTG (ds := [QX ws, QX vs, .int .i64 n]) (dg := gD) Z4 Tryz.func6 tp6 (Qvd Z) ?_
 show TW _ _ tf6.body _ _
 refine Qe fun K hK => Qb Z (hK _ _ (Qa (kp4 Z Z Z Z) ?_))
 refine QF ?_ -- 0
 refine Qe fun K hK => Qb Z ?_
 first | refine Q0 rfl Zb ?_ | refine Q0 rfl rfl ?_
 refine Qdd Z Z (hK _ _ (Qa (kp5 Z Z Z Z Z) ?_))
 refine Qx Z (fun h1 => ?_) (fun h1 => ?_)
 ·try rw [h1]
  try simp only [qA, QT] at h1
  refine Qe fun K hK => QA (Yo) Z Z (.inl Z) (Qb Z (hK _ _ (Qa (kp1 Z) ?_)))
  refine Qt (Qk (Ql Z ?_))
  (repeat clear hK K); first | rfl | (exfalso; simp_all; done) | (exfalso; omega)
 ·try rw [h1]
  try simp only [qA, QT] at h1
  refine Qu (Qd (kp4 Z Z Z Z) (Qe fun K hK => Qb Z ?_))
  obtain ⟨d0, ⟨w, hwm, rfl⟩, hc0⟩ := Qc3 (ws := ws) hws (most := 5) (by decide) (by decide)
  have hw := hwm.sm
  have hwl := hw.len
  have hwl2 := hwm.len
  have h0 : 0 < w.length := by omega
  have hz := Qra hw
  have hp0 := Qln (v := n) (n := Qkq w)
  have hp1 := Qlm (v := n) (n := Qkq w) (by omega)
  have hcA := Qc2 hw (l := vs) hvs
  have hcC := Qcd hw hp0 (by omega)
  have hch := QmO (w := w) hp0
  obtain ⟨al, hal⟩ : ∃ al, Qcq w vs = al := ⟨_, rfl⟩
  obtain ⟨c, hcE⟩ : ∃ c, Qh9 w (mPl n (Qkq w)) = c := ⟨_, rfl⟩
  rw [hal] at hcA
  rw [hcE] at hcC hch
  have hall := Qmz w vs
  rw [hal] at hall
  have hal1 := QmA w vs
  rw [hal] at hal1
  have hcl := hch.len
  obtain ⟨oa, ob, hO⟩ : ∃ a b, XL w al c = (a, b) := ⟨(XL w al c).1, (XL w al c).2, rfl⟩
  have hcO := QbB hw h0 (al := al) (c := c)
  rw [hO] at hcO
  obtain ⟨ol, hol⟩ : ∃ ol, XQ w al [] c = ol := ⟨_, rfl⟩
  have hcF := QdV hw (al := al) (c := c) (order := []) h0 (by simp)
  rw [hol] at hcF
  have hbd := QnC w hw al (order := []) (by simp) c
  rw [hol] at hbd
  have hok : ∀ o ∈ ol, QrA w al c oa ob o := fun o ho => Qse hw hch hall h0 hO (by rw [hol]; exact ho)
  have hnd := (Qgq w al [] c).1
  rw [hol] at hnd
  refine QA (hc0) Z Z (.inl Z) (ZJ Z (Q5 Z Z Z Z Z Z Z Z (hK _ _ (Qa (kp4 Z Z Z Z) ?_))))
  refine Qe fun K hK => QB (cs := [_]) Z Z Z Z (Qb Z (QA (hcA) Z Z (.inl Z) (Qb Z (hK _ _ (Qa (kp4 Z Z Z Z) ?_)))))
  refine Qe fun K hK => QQ (ds0 := [1, 0]) (cs := [_]) Z Z Z Z Z Z (Qb Z (QQ (ds0 := [3, 2, 1, 0]) (cs := [_]) Z Z Z Z Z Z (Ze (ds0 := [2, 1, 0]) (Qdo hw) Z Z (.inr Z) Z Z (Ze (ds0 := [1, 0]) (Xh (by omega) hn) Z Z (.inr Z) Z Z (Ze (ds0 := [0]) (hcC) Z Z (.inl Z) Z Z (Qb Z (hK _ _ (Qa (kp4 Z Z Z Z) ?_))))))))
  refine Qe fun K hK => QB (cs := [_]) Z Z Z Z (Qb Z (Qb Z (QA (hcO) Z Z (.inl Z) (Qb Z (Q6 Z Z (Q6 Z Z (Qb Z (Qb Z (hK _ _ (Qa (kp6 Z Z Z Z Z Z) ?_))))))))))
  refine Qe fun K hK => QB (cs := [_]) Z Z Z Z (Qb Z (Qb Z (QA (hcF) Z Z (.inl Z) (Qb Z (hK _ _ (Qa (kp7 Z Z Z Z Z Z Z) ?_))))))
  refine QF ?_ -- 1
  refine Qe fun K hK => Qb Z (Z8 Z Z (Qb Z ?_))
  refine Qv (g := 47) Z (fun h2 => ?_) (fun h2 => ?_)
  ·try rw [h2]
   try simp only [qA, QT] at h2
   have hz0 := Qjt (order := []) hO h2; rw [hol] at hz0; subst hz0
   refine Qq Z (Qq Z (Qq Z (Qq Z (Qq Z (Qh Z Z (hK _ _ (Qa (kp8 Z Z Z Z Z Z Z Z) ?_)))))))
   refine Zn Z (Qe fun K hK => Qb Z ?_)
   first | refine Q0 rfl Zb ?_ | refine Q0 rfl rfl ?_
   refine YI Z Z (Qb Z ?_)
   refine Qv (g := 57) Z (fun h3 => ?_) (fun h3 => ?_)
   ·try rw [h3]
    try simp only [qA, QT] at h3
    refine Qf Z (QA (Yo) Z Z (.inl Z) (Qh Z Z (Qb Z (hK _ _ (Qa (kp1 Z) ?_)))))
    refine Qt (Qk (Ql Z ?_))
    (repeat clear hK K); first | rfl | (exfalso; simp_all; done) | (exfalso; omega)
   ·try rw [h3]
    try simp only [qA, QT] at h3
    refine Qq Z (Qh Z Z (Qb Z (hK _ _ (Qa (kp1 Z) ?_))))
    refine Qt (Qk (Ql Z ?_))
    (repeat clear hK K); first | rfl | (exfalso; simp_all; done) | (exfalso; omega)
  ·try rw [h2]
   try simp only [qA, QT] at h2
   have hbu := QqV hO h0 h2
   refine Qf Z (Qb Z (Qf Z (Qg Z Z (Qf Z (QC Z Z Z (Qf Z ?_))))))
   first | refine Q0 rfl Zb ?_ | refine Q0 rfl rfl ?_
   refine Qf Z (QeV Z Z (Qh Z Z (hK _ _ (Qa (kp8 Z Z Z Z Z Z Z Z) ?_))))
   refine Qx Z (fun h4 => ?_) (fun h4 => ?_)
   ·try rw [h4]
    try simp only [qA, QT] at h4
    refine Qe fun K hK => Qb Z ?_
    first | refine Q0 rfl Zb ?_ | refine Q0 rfl rfl ?_
    refine YI Z Z (Qb Z ?_)
    refine Qv (g := 57) Z (fun h5 => ?_) (fun h5 => ?_)
    ·try rw [h5]
     try simp only [qA, QT] at h5
     refine Qf Z (QA (Yo) Z Z (.inl Z) (Qh Z Z (Qb Z (hK _ _ (Qa (kp1 Z) ?_)))))
     refine Qt (Qk (Ql Z ?_))
     (repeat clear hK K); first | rfl | (exfalso; simp_all; done) | (exfalso; omega)
    ·try rw [h5]
     try simp only [qA, QT] at h5
     refine Qq Z (Qh Z Z (Qb Z (hK _ _ (Qa (kp1 Z) ?_))))
     refine Qt (Qk (Ql Z ?_))
     (repeat clear hK K); first | rfl | (exfalso; simp_all; done) | (exfalso; omega)
   ·try rw [h4]
    try simp only [qA, QT] at h4
    refine Qu (Qd (kp7 Z Z Z Z Z Z Z) ?_)
    refine QF ?_ -- 2
    refine Qe fun K hK => Qb Z (hK _ _ (Qa (kp8 Z Z Z Z Z Z Z Z) ?_))
    refine QG ?_
    refine ZH (ι := Nat) (fun i => ⟨[(7, .ptr [.sl (w.map YJ)]), (8, QX al), (9, QX c), (10, .int .i64 oa), (11, .int .i64 ob), (12, QT ol), (13, .int .i64 i), (900000, gD)], []⟩) (fun i => i <= ol.length) (fun i => ol.length - i) 0 ?_ ?_ ?_
    ·exact le_trans (Qcn 7 _ (by decide)) (Q1 (l := [7, 8, 9, 10, 11, 12, 13, 900000]) (lH := []) (kp8 rfl rfl rfl rfl rfl rfl rfl rfl) Qp rfl rfl rfl)
    ·exact Qvp _
    intro i hI
    try dsimp only
    refine QF ?_ -- 3
    refine Qe fun K hK => Qb Z (Qb Z ?_)
    first | refine Q0 rfl Zb ?_ | refine Q0 rfl rfl ?_
    refine Z8 Z Z (hK _ _ (Qa (kp9 Z Z Z Z Z Z Z Z Z) ?_))
    refine Qx Z (fun h6 => ?_) (fun h6 => ?_)
    ·try rw [h6]
     try simp only [qA, QT] at h6
     have ok := hok _ (Qvi (show i < ol.length by omega)); have ok0 := ok.u0; have ok1 := ok.u1; have ok2 := ok.p0; have ok3 := ok.p1 (by omega); have ok4 := ok.p2
     refine Qu (Qd (kp8 Z Z Z Z Z Z Z Z) ?_)
     refine QF ?_ -- 4
     refine QG (Qe fun K hK => Qb Z (Qb Z (QM Z Z Z (by omega) (Zk (by omega)) Z (QB (cs := [_, _]) Z Z Z Z (ZJ Z (Q5 Z Z Z Z Z Z Z Z (hK _ _ (Qa (kp9 Z Z Z Z Z Z Z Z Z) ?_))))))))
     refine Qde (ι := Unit) (fun _ => ⟨[(7, .ptr [.sl (w.map YJ)]), (8, QX al), (9, QX c), (10, .int .i64 oa), (11, .int .i64 ob), (12, QT ol), (13, .int .i64 i), (14, .ref 14 0 0), (900000, gD)], [(14, ⟨[XK (ol[i]'(by omega))], 2, 50, true⟩)]⟩) (fun _ => True) ?_ ?_
     ·skip
      refine Qe fun K hK => Qg Z Z (QU (ds0 := [52, 51, 50, 49, 48, 47, 46, 45, 44, 43, 42, 41, 40, 39, 38, 37, 36, 35, 34, 33, 32, 31, 30, 29, 28, 27, 26, 25, 24, 23, 22, 21, 20, 19, 18, 17, 16, 15, 14, 13, 12, 11, 10, 9, 8, 7, 6, 5, 4, 3, 2, 1, 0]) Z Z Z Z Z (Z8 Z Z (Qb Z ?_)))
      refine Qv (g := 73) Z (fun h7 => ?_) (fun h7 => ?_)
      ·try rw [h7]
       try simp only [qA, QT] at h7
       exact absurd h7 (by omega)
      ·try rw [h7]
       try simp only [qA, QT] at h7
       refine Qf Z (Qg Z Z (Qf Z (QU (ds0 := [45, 44, 43, 42, 41, 40, 39, 38, 37, 36, 35, 34, 33, 32, 31, 30, 29, 28, 27, 26, 25, 24, 23, 22, 21, 20, 19, 18, 17, 16, 15, 14, 13, 12, 11, 10, 9, 8, 7, 6, 5, 4, 3, 2, 1, 0]) Z Z Z Z Z (Qf Z (Zd Z Z (Qf Z (QU (ds0 := [46, 45, 44, 43, 42, 41, 40, 39, 38, 37, 36, 35, 34, 33, 32, 31, 30, 29, 28, 27, 26, 25, 24, 23, 22, 21, 20, 19, 18, 17, 16, 15, 14, 13, 12, 11, 10, 9, 8, 7, 6, 5, 4, 3, 2, 1, 0]) Z Z Z Z Z (Qf Z ?_))))))))
       first | refine Q0 rfl Zb ?_ | refine Q0 rfl rfl ?_
       refine Qf Z (QeV Z Z (Qh Z Z (Qb Z ?_)))
       refine Qv (g := 81) Z (fun h8 => ?_) (fun h8 => ?_)
       ·try rw [h8]
        try simp only [qA, QT] at h8
        exact absurd h8 (by omega)
       ·try rw [h8]
        try simp only [qA, QT] at h8
        refine Qf Z (Qb Z (Qf Z (Qg Z Z (Qf Z (QU (ds0 := [39, 38, 37, 36, 35, 34, 33, 32, 31, 30, 29, 28, 27, 26, 25, 24, 23, 22, 21, 20, 19, 18, 17, 16, 15, 14, 13, 12, 11, 10, 9, 8, 7, 6, 5, 4, 3, 2, 1, 0]) Z Z Z Z Z (Qf Z (QM Z Z Z (by omega) (Zz (by omega) (by omega)) Z (Qf Z (QU (ds0 := [37, 36, 35, 34, 33, 32, 31, 30, 29, 28, 27, 26, 25, 24, 23, 22, 21, 20, 19, 18, 17, 16, 15, 14, 13, 12, 11, 10, 9, 8, 7, 6, 5, 4, 3, 2, 1, 0]) Z Z Z Z Z (Qf Z (YN Z Z ?_)))))))))))
        refine Qh Z Z (Qb Z ?_)
        refine Qv (g := 89) Z (fun h9 => ?_) (fun h9 => ?_)
        ·try rw [h9]
         try simp only [qA, QT] at h9
         exact absurd (ok.no _) h9
        ·try rw [h9]
         try simp only [qA, QT] at h9
         refine Qf Z (Qg Z Z (Qf Z (QU (ds0 := [32, 31, 30, 29, 28, 27, 26, 25, 24, 23, 22, 21, 20, 19, 18, 17, 16, 15, 14, 13, 12, 11, 10, 9, 8, 7, 6, 5, 4, 3, 2, 1, 0]) Z Z Z Z Z (Qf Z (Z8 Z Z (Qh Z Z (Qb Z ?_)))))))
         refine Qv (g := 94) Z (fun h10 => ?_) (fun h10 => ?_)
         ·try rw [h10]
          try simp only [qA, QT] at h10
          exact absurd h10 (by omega)
         ·try rw [h10]
          try simp only [qA, QT] at h10
          refine Qf Z (Qg Z Z (Qf Z (QU (ds0 := [19, 18, 17, 16, 15, 14, 13, 12, 11, 10, 9, 8, 7, 6, 5, 4, 3, 2, 1, 0]) Z Z Z Z Z (Qf Z (Zd Z Z (Qf Z (QU (ds0 := [23, 22, 21, 20, 19, 18, 17, 16, 15, 14, 13, 12, 11, 10, 9, 8, 7, 6, 5, 4, 3, 2, 1, 0]) Z Z Z Z Z (Qf Z (Qg Z Z (Qf Z (QU (ds0 := [23, 22, 21, 20, 19, 18, 17, 16, 15, 14, 13, 12, 11, 10, 9, 8, 7, 6, 5, 4, 3, 2, 1, 0]) Z Z Z Z Z ?_)))))))))))
          refine Qf Z (QM Z Z Z (by omega) (Zz (by omega) (by omega)) Z (Qf Z (Zd Z Z (Qf Z (QU (ds0 := [20, 19, 18, 17, 16, 15, 14, 13, 12, 11, 10, 9, 8, 7, 6, 5, 4, 3, 2, 1, 0]) Z Z Z Z Z (Qf Z ?_))))))
          first | refine Q0 rfl Zb ?_ | refine Q0 rfl rfl ?_
          refine Qf Z (QeV Z Z (Qh Z Z (Qb Z ?_)))
          refine Qv (g := 107) Z (fun h11 => ?_) (fun h11 => ?_)
          ·try rw [h11]
           try simp only [qA, QT] at h11
           exact absurd h11 (by omega)
          ·try rw [h11]
           try simp only [qA, QT] at h11
           refine Qf Z (Qb Z (Qf Z ?_))
           first | refine Q0 rfl Zb ?_ | refine Q0 rfl rfl ?_
           refine Qf Z (Qdd Z Z (Qf Z (Qb Z ?_)))
           refine Qv (g := 111) Z (fun h12 => ?_) (fun h12 => ?_)
           ·try rw [h12]
            try simp only [qA, QT] at h12
            obtain ⟨oal, oka⟩ := ok.al0 h12
            refine Qf Z (Qb Z (Qf Z (Qg Z Z (Qf Z (QU (ds0 := [9, 8, 3, 2, 1, 0]) Z Z Z Z Z (Qf Z (QM Z Z Z (by omega) (Zz (by omega) (by omega)) Z (Qf Z (QU (ds0 := [3, 2, 1, 0]) Z Z Z Z Z (Qf Z (Qg Z Z ?_)))))))))))
            refine Qf Z (QU (ds0 := [5, 4, 3, 2, 1, 0]) Z Z Z Z Z (Qf Z (QfG Z (QfC (by omega) (by omega)) (Qf Z (QlS Z Z (by omega) (Qhz (by omega)) (Qf Z (Qfb Z Z (Qf Z (YI Z Z (Qf Z (Qh Z Z ?_)))))))))))
            refine Qh Z Z (hK _ _ (Qa (Qec Z Z Z Z Z Z Z Z Z Z) ?_))
            refine Qx Z (fun h13 => ?_) (fun h13 => ?_)
            ·try rw [h13]
             try simp only [qA, QT] at h13
             exact absurd h13 oka
            ·try rw [h13]
             try simp only [qA, QT] at h13
             refine Qu ?_
             refine Zm () ?_ ?_
             ·exact Q1 (l := [7, 8, 9, 10, 11, 12, 13, 14, 900000]) (lH := [14]) (kp9 rfl rfl rfl rfl rfl rfl rfl rfl rfl) (Qi rfl Qp) rfl rfl rfl
             ·exact trivial
           ·try rw [h12]
            try simp only [qA, QT] at h12
            refine Qq Z (Qq Z (Qq Z (Qq Z (Qq Z (Qq Z (Qq Z (Qq Z (Qq Z (Qq Z (Qq Z (Qf Z ?_)))))))))))
            refine Qh Z Z (Qh Z Z (hK _ _ (Qa (Qec Z Z Z Z Z Z Z Z Z Z) ?_)))
            refine Zq Z (Qu ?_)
            refine Zm () ?_ ?_
            ·exact Q1 (l := [7, 8, 9, 10, 11, 12, 13, 14, 900000]) (lH := [14]) (kp9 rfl rfl rfl rfl rfl rfl rfl rfl rfl) (Qi rfl Qp) rfl rfl rfl
            ·exact trivial
     intro _ hJ
     try dsimp only
     refine Qe fun K hK => Qb Z (Z8 Z Z (Qb Z ?_))
     refine Qv (g := 127) Z (fun h14 => ?_) (fun h14 => ?_)
     ·try rw [h14]
      try simp only [qA, QT] at h14
      refine Qf Z (Qg Z Z (Qf Z (QC Z Z Z (Qf Z (Qb Z (Qf Z (YI Z Z (Qh Z Z (Qb Z (hK _ _ (Qa (Qec Z Z Z Z Z Z Z Z Z Z) ?_)))))))))))
      refine Qde (ι := Unit) (fun _ => ⟨[(7, .ptr [.sl (w.map YJ)]), (8, QX al), (9, QX c), (10, .int .i64 oa), (11, .int .i64 ob), (12, QT ol), (13, .int .i64 i), (14, .ref 14 0 0), (15, .bool true), (900000, gD)], [(14, ⟨[XK (ol[i]'(by omega))], 2, 50, true⟩)]⟩) (fun _ => True) ?_ ?_
      ·skip
       refine Qe fun K hK => Qb Z (QeV Z Z (Qb Z ?_))
       refine Qv (g := 135) Z (fun h15 => ?_) (fun h15 => ?_)
       ·try rw [h15]
        try simp only [qA, QT] at h15
        exfalso; omega
       ·try rw [h15]
        try simp only [qA, QT] at h15
        refine Qq Z (Qq Z (Qq Z (Qq Z (Qq Z (Qq Z (Qq Z (Qq Z (Qq Z (Qq Z (Qq Z (Qq Z ?_)))))))))))
        refine Qq Z (Qq Z (Qq Z (Qq Z (Qh Z Z (hK _ _ (Qa (Qoe Z Z Z Z Z Z Z Z Z Z Z) ?_))))))
        refine Zq Z (Qu ?_)
        refine Zm () ?_ ?_
        ·exact Q1 (l := [7, 8, 9, 10, 11, 12, 13, 14, 15, 900000]) (lH := [14]) (Qec rfl rfl rfl rfl rfl rfl rfl rfl rfl rfl) (Qi rfl Qp) (by first | rw [decide_eq_true (ok.me h14)] | rw [Qvt (by omega), hnd2]) rfl rfl
        ·exact trivial
      intro _ hJ
      try dsimp only
      refine QF ?_ -- 9
      refine Qe fun K hK => Qb Z (ZP Z (hK _ _ (Qa (Qec Z Z Z Z Z Z Z Z Z Z) ?_)))
      refine Qx Z (fun h16 => ?_) (fun h16 => ?_)
      ·try rw [h16]
       try simp only [qA, QT] at h16
       simp at h16
      ·try rw [h16]
       try simp only [qA, QT] at h16
       refine Qu (Qd (kp9 Z Z Z Z Z Z Z Z Z) (Qe fun K hK => Qb Z (hK _ _ (Qa (Qec Z Z Z Z Z Z Z Z Z Z) ?_))))
       refine QG ?_
       refine ZH (ι := Nat) (fun m => ⟨[(7, .ptr [.sl (w.map YJ)]), (8, QX al), (9, QX c), (10, .int .i64 oa), (11, .int .i64 ob), (12, QT ol), (13, .int .i64 i), (14, .ref 14 0 0), (18, .int .i64 m), (900000, gD)], [(14, ⟨[XK (ol[i]'(by omega))], 2, 50, true⟩)]⟩) (fun m => m <= i) (fun m => i - m) 0 ?_ ?_ ?_
       ·exact Q1 (l := [7, 8, 9, 10, 11, 12, 13, 14, 18, 900000]) (lH := [14]) (Qec rfl rfl rfl rfl rfl rfl rfl rfl rfl rfl) (Qi rfl Qp) rfl rfl rfl
       ·exact Qvp _
       intro m hm
       try dsimp only
       refine QF ?_ -- 10
       refine Qe fun K hK => Qb Z (Qb Z (Z8 Z Z (hK _ _ (Qa (Qoe Z Z Z Z Z Z Z Z Z Z Z) ?_))))
       refine Qx Z (fun h17 => ?_) (fun h17 => ?_)
       ·try rw [h17]
        try simp only [qA, QT] at h17
        refine Qu (Qd (Qec Z Z Z Z Z Z Z Z Z Z) ?_)
        refine QF ?_ -- 11
        refine QG (Qe fun K hK => Qb Z (Qb Z (QM Z Z Z (by omega) (Zk (by omega)) Z (QQ (ds0 := [0]) (cs := [_, _]) Z Z Z Z Z Z (QQ (ds0 := [0]) (cs := [_, _]) Z Z Z Z Z Z (Qdc Z Z Z (hK _ _ (Qa (Qoe Z Z Z Z Z Z Z Z Z Z Z) ?_))))))))
        refine Qx Z (fun h18 => ?_) (fun h18 => ?_)
        ·try rw [h18]
         try simp only [qA, QT] at h18
         exact absurd (QhT.1 h18) (Qlt (i := i) (j := m) hnd (by omega) (by omega))
        ·try rw [h18]
         try simp only [qA, QT] at h18
         refine Qu (Qj (Qd (Qec Z Z Z Z Z Z Z Z Z Z) (QR fun K hK => Qb Z (Q9 Z Z (by first | exact Qs (by omega) (by omega) | exact QN (by omega) (by omega) | exact QV (by omega) (by omega) | rfl) (Qb Z (hK _ ?_))))))
         refine Qm (m + 1) ?_ ?_ ?_
         ·exact Q1 (l := [7, 8, 9, 10, 11, 12, 13, 14, 18, 900000]) (lH := [14]) (Qec rfl rfl rfl rfl rfl rfl rfl rfl rfl rfl) (Qi rfl Qp) rfl rfl rfl
         ·omega
         ·first | omega | (simp only; omega) | (dsimp only; omega)
       ·try rw [h17]
        try simp only [qA, QT] at h17
        refine Zf (QK (Qz (QH (Qj (Qd (kp8 Z Z Z Z Z Z Z Z) (QR fun K hK => Qb Z (Q9 Z Z (by first | exact Qs (by omega) (by omega) | exact QN (by omega) (by omega) | exact QV (by omega) (by omega) | rfl) (Qb Z (hK _ ?_)))))))))
        refine Qm (i + 1) ?_ ?_ ?_
        ·exact Q1 (l := [7, 8, 9, 10, 11, 12, 13, 900000]) (lH := []) (kp8 rfl rfl rfl rfl rfl rfl rfl rfl) Qp rfl rfl rfl
        ·omega
        ·first | omega | (simp only; omega) | (dsimp only; omega)
     ·try rw [h14]
      try simp only [qA, QT] at h14
      obtain ⟨hu, huc, hp, hk, hc0⟩ := Ql9 hO h2 h14; have hnd2 := ok.need (by omega) hu huc hp hk; have hrl := hw.nl _ (Qvi hu) _ (Qvi hp) _ (Qvi hk)
      refine Qq Z (Qq Z (Qq Z (Qq Z (Qh Z Z (Qb Z (hK _ _ (Qa (Qec Z Z Z Z Z Z Z Z Z Z) ?_)))))))
      refine Qde (ι := Unit) (fun _ => ⟨[(7, .ptr [.sl (w.map YJ)]), (8, QX al), (9, QX c), (10, .int .i64 oa), (11, .int .i64 ob), (12, QT ol), (13, .int .i64 i), (14, .ref 14 0 0), (15, .bool true), (900000, gD)], [(14, ⟨[XK (ol[i]'(by omega))], 2, 50, true⟩)]⟩) (fun _ => True) ?_ ?_
      ·skip
       refine Qe fun K hK => Qb Z (QeV Z Z (Qb Z ?_))
       refine Qv (g := 135) Z (fun h19 => ?_) (fun h19 => ?_)
       ·try rw [h19]
        try simp only [qA, QT] at h19
        refine Qf Z (Qb Z (Qf Z (Zd Z Z (Qf Z (QU (ds0 := [12, 11, 10, 5, 4, 3, 2, 1, 0]) Z Z Z Z Z (Qf Z (Qb Z (Qf Z (QM Z Z Z (by omega) (Zz (by omega) (by omega)) Z (Qf Z (Zd Z Z ?_)))))))))))
        refine Qf Z (QU (ds0 := [5, 4, 3, 2, 1, 0]) Z Z Z Z Z (Qf Z (Qb Z (Qf Z (Qb Z (Qf Z (QM Z Z Z (by omega) (Zz (by omega) (by omega)) Z (Qf Z (QU (ds0 := [5, 4, 3, 2, 1, 0]) Z Z Z Z Z (Qf Z (QM Z Z Z (by omega) (Zz (by omega) (by omega)) Z ?_)))))))))))
        refine Qf Z (Zd Z Z (Qf Z (QU (ds0 := [2, 1, 0]) Z Z Z Z Z (Qf Z ?_))))
        first | refine Q0 rfl Zb ?_ | refine Q0 rfl rfl ?_
        refine Qf Z (Z8 Z Z (Qh Z Z (hK _ _ (Qa (Qoe Z Z Z Z Z Z Z Z Z Z Z) ?_))))
        refine Qx Z (fun h20 => ?_) (fun h20 => ?_)
        ·try rw [h20]
         try simp only [qA, QT] at h20
         refine Qe fun K hK => Zd Z Z (QU (ds0 := [13, 12, 11, 6, 5, 4, 2, 1, 0]) Z Z Z Z Z (Qb Z (QM Z Z Z (by omega) (Zz (by omega) (by omega)) Z (Zd Z Z (QU (ds0 := [6, 5, 4, 2, 1, 0]) Z Z Z Z Z (Qb Z (Qb Z (QM Z Z Z (by omega) (Zz (by omega) (by omega)) Z (QU (ds0 := [6, 5, 4, 2, 1, 0]) Z Z Z Z Z (QM Z Z Z (by omega) (Zz (by omega) (by omega)) Z ?_))))))))))
         refine Zd Z Z (QU (ds0 := [2, 1, 0]) Z Z Z Z Z (Qb Z (QM Z Z Z (by omega) (Zz (by omega) (by omega)) Z (QU (ds0 := [0]) Z Z Z Z Z (Qb Z (hK _ _ (Qa (Qoe Z Z Z Z Z Z Z Z Z Z Z) ?_)))))))
         refine Qe fun K hK => Qb Z (hK _ _ (Qa (Qof Z Z Z Z Z Z Z Z Z Z Z Z) ?_))
         refine QG ?_
         refine ZH (ι := Nat) (fun j => ⟨[(7, .ptr [.sl (w.map YJ)]), (8, QX al), (9, QX c), (10, .int .i64 oa), (11, .int .i64 ob), (12, QT ol), (13, .int .i64 i), (14, .ref 14 0 0), (15, .bool (((w[oa.toNat]'hu).cs[(c[oa.toNat]'huc).toNat].ns[ob.toNat].take j).any (Qo2 w (ol[i]'(by omega))))), (16, Za (w[oa.toNat]'hu).cs[(c[oa.toNat]'huc).toNat].ns[ob.toNat]), (17, .int .i64 j), (900000, gD)], [(14, ⟨[XK (ol[i]'(by omega))], 2, 50, true⟩)]⟩) (fun j => j <= (w[oa.toNat]'hu).cs[(c[oa.toNat]'huc).toNat].ns[ob.toNat].length) (fun j => (w[oa.toNat]'hu).cs[(c[oa.toNat]'huc).toNat].ns[ob.toNat].length - j) 0 ?_ ?_ ?_
         ·exact Q1 (l := [7, 8, 9, 10, 11, 12, 13, 14, 15, 16, 17, 900000]) (lH := [14]) (Qof rfl rfl rfl rfl rfl rfl rfl rfl rfl rfl rfl rfl) (Qi rfl Qp) rfl rfl rfl
         ·exact Qvp _
         intro j hJ
         try dsimp only
         refine QF ?_ -- 7
         refine Qe fun K hK => Qb Z (Qb Z ?_)
         first | refine Q0 rfl Zb ?_ | refine Q0 rfl rfl ?_
         refine Z8 Z Z (hK _ _ (Qa (Qt4 Z Z Z Z Z Z Z Z Z Z Z Z Z) ?_))
         refine Qx Z (fun h21 => ?_) (fun h21 => ?_)
         ·try rw [h21]
          try simp only [qA, QT] at h21
          refine Qu (Qd (Qof Z Z Z Z Z Z Z Z Z Z Z Z) ?_)
          refine QF ?_ -- 8
          refine QG (QR fun K hK => Qb Z (Qb Z ?_))
          refine Qv (g := 176) Z (fun h22 => ?_) (fun h22 => ?_)
          ·try rw [h22]
           try simp only [qA, QT] at h22
           refine Qq Z (Qq Z (Qq Z (Qq Z (Qq Z (Qq Z (Qq Z (Qq Z (Qq Z (QJ Z (QJ Z (QJ Z ?_)))))))))))
           refine QJ Z (QJ Z (QJ Z (QJ Z (QJ Z (QJ Z (QJ Z (QJ Z (QJ Z (Qq Z (Qh Z Z (Qb Z ?_)))))))))))
           refine hK _ ?_
           refine Qj (Qd (Qof Z Z Z Z Z Z Z Z Z Z Z Z) (QR fun K hK => Qb Z (Q9 Z Z (by first | exact Qs (by omega) (by omega) | exact QN (by omega) (by omega) | exact QV (by omega) (by omega) | rfl) (Qb Z (hK _ ?_)))))
           refine Qm (j + 1) ?_ ?_ ?_
           ·exact Q1 (l := [7, 8, 9, 10, 11, 12, 13, 14, 15, 16, 17, 900000]) (lH := [14]) (Qof rfl rfl rfl rfl rfl rfl rfl rfl rfl rfl rfl rfl) (Qi rfl Qp) (by rw [Qkr (by omega), h22, Bool.true_or] <;> rfl) rfl rfl
           ·omega
           ·first | omega | (simp only; omega) | (dsimp only; omega)
          ·try rw [h22]
           try simp only [qA, QT] at h22
           refine Qf Z (Qb Z (Qf Z (Qb Z (Qf Z (QM Z Z Z (by omega) (Zk (by omega)) Z (Qf Z (Zd Z Z (Qf Z (QU (ds0 := [16, 15, 14, 13, 12, 11, 10, 9, 8, 7, 6, 5, 4, 3, 2, 1, 0]) Z Z Z Z Z (Qf Z (Qg Z Z ?_)))))))))))
           refine Qf Z (QU (ds0 := [16, 15, 14, 13, 12, 11, 10, 9, 8, 7, 6, 5, 4, 3, 2, 1, 0]) Z Z Z Z Z (Qf Z ?_))
           first | refine YI rfl rfl ?_ | refine Qb2 rfl rfl ?_
           refine Qf Z (Qb Z ?_)
           refine Qv (g := 185) Z (fun h23 => ?_) (fun h23 => ?_)
           ·try rw [h23]
            try simp only [qA, QT] at h23
            refine Qf Z (QQ (ds0 := [9, 4, 3, 2, 1, 0]) (cs := [_]) Z Z Z Z Z Z (Qf Z (Qb Z (Qf Z (Qb Z (Qf Z (QM Z Z Z (by omega) (Zk (by omega)) Z (Qf Z (QQ (ds0 := [9, 4, 3, 2, 1, 0]) (cs := [_, _, _]) Z Z Z Z Z Z (Qf Z (Ze (ds0 := [4, 3, 2, 1, 0]) (Qdq hw (hw.nw _ (Qvi hu) _ (Qvi hp) _ (Qvi hk) _ (Qvi (show j < (w[oa.toNat]'hu).cs[(c[oa.toNat]'huc).toNat].ns[ob.toNat].length by omega)))) Z Z (.inr Z) Z Z ?_)))))))))))
            refine Qf Z (Qg Z Z (Qf Z (QU (ds0 := [6, 5, 4, 3, 2, 1, 0]) Z Z Z Z Z (Qf Z (QfG Z (QfC (by omega) (by omega)) (Qf Z (QlS Z Z (by omega) (Qhz (by omega)) (Qf Z (Qfb Z Z (Qf Z (YN Z Z ?_)))))))))))
            refine Qf Z (Qh Z Z (Qh Z Z (Qb Z (hK _ ?_))))
            refine Qj (Qd (Qof Z Z Z Z Z Z Z Z Z Z Z Z) (QR fun K hK => Qb Z (Q9 Z Z (by first | exact Qs (by omega) (by omega) | exact QN (by omega) (by omega) | exact QV (by omega) (by omega) | rfl) (Qb Z (hK _ ?_)))))
            refine Qm (j + 1) ?_ ?_ ?_
            ·exact Q1 (l := [7, 8, 9, 10, 11, 12, 13, 14, 15, 16, 17, 900000]) (lH := [14]) (Qof rfl rfl rfl rfl rfl rfl rfl rfl rfl rfl rfl rfl) (Qi rfl Qp) (by rw [Qkr (by omega), h22, Qo2, decide_eq_true h23, Bool.false_or, Bool.true_and] <;> rfl) rfl rfl
            ·omega
            ·first | omega | (simp only; omega) | (dsimp only; omega)
           ·try rw [h23]
            try simp only [qA, QT] at h23
            refine Qq Z (Qq Z (Qq Z (Qq Z (Qq Z (Qq Z (Qq Z (Qq Z (Qq Z (Qq Z (Qq Z (Qq Z ?_)))))))))))
            refine Qf Z (Qh Z Z (Qh Z Z (Qb Z (hK _ ?_))))
            refine Qj (Qd (Qof Z Z Z Z Z Z Z Z Z Z Z Z) (QR fun K hK => Qb Z (Q9 Z Z (by first | exact Qs (by omega) (by omega) | exact QN (by omega) (by omega) | exact QV (by omega) (by omega) | rfl) (Qb Z (hK _ ?_)))))
            refine Qm (j + 1) ?_ ?_ ?_
            ·exact Q1 (l := [7, 8, 9, 10, 11, 12, 13, 14, 15, 16, 17, 900000]) (lH := [14]) (Qof rfl rfl rfl rfl rfl rfl rfl rfl rfl rfl rfl rfl) (Qi rfl Qp) (by rw [Qkr (by omega), h22, Qo2, decide_eq_false h23, Bool.false_or, Bool.false_and] <;> rfl) rfl rfl
            ·omega
            ·first | omega | (simp only; omega) | (dsimp only; omega)
         ·try rw [h21]
          try simp only [qA, QT] at h21
          refine Zf (QK (Qz (QH ?_)))
          refine Zm () ?_ ?_
          ·exact Q1 (l := [7, 8, 9, 10, 11, 12, 13, 14, 15, 900000]) (lH := [14]) (Qec rfl rfl rfl rfl rfl rfl rfl rfl rfl rfl) (Qi rfl Qp) (by first | rw [decide_eq_true (ok.me h14)] | rw [Qvt (by omega), hnd2]) rfl rfl
          ·exact trivial
        ·try rw [h20]
         try simp only [qA, QT] at h20
         exfalso; omega
       ·try rw [h19]
        try simp only [qA, QT] at h19
        exfalso; omega
      intro _ hJ
      try dsimp only
      refine QF ?_ -- 9
      refine Qe fun K hK => Qb Z (ZP Z (hK _ _ (Qa (Qec Z Z Z Z Z Z Z Z Z Z) ?_)))
      refine Qx Z (fun h24 => ?_) (fun h24 => ?_)
      ·try rw [h24]
       try simp only [qA, QT] at h24
       simp at h24
      ·try rw [h24]
       try simp only [qA, QT] at h24
       refine Qu (Qd (kp9 Z Z Z Z Z Z Z Z Z) (Qe fun K hK => Qb Z (hK _ _ (Qa (Qec Z Z Z Z Z Z Z Z Z Z) ?_))))
       refine QG ?_
       refine ZH (ι := Nat) (fun m => ⟨[(7, .ptr [.sl (w.map YJ)]), (8, QX al), (9, QX c), (10, .int .i64 oa), (11, .int .i64 ob), (12, QT ol), (13, .int .i64 i), (14, .ref 14 0 0), (18, .int .i64 m), (900000, gD)], [(14, ⟨[XK (ol[i]'(by omega))], 2, 50, true⟩)]⟩) (fun m => m <= i) (fun m => i - m) 0 ?_ ?_ ?_
       ·exact Q1 (l := [7, 8, 9, 10, 11, 12, 13, 14, 18, 900000]) (lH := [14]) (Qec rfl rfl rfl rfl rfl rfl rfl rfl rfl rfl) (Qi rfl Qp) rfl rfl rfl
       ·exact Qvp _
       intro m hm
       try dsimp only
       refine QF ?_ -- 10
       refine Qe fun K hK => Qb Z (Qb Z (Z8 Z Z (hK _ _ (Qa (Qoe Z Z Z Z Z Z Z Z Z Z Z) ?_))))
       refine Qx Z (fun h25 => ?_) (fun h25 => ?_)
       ·try rw [h25]
        try simp only [qA, QT] at h25
        refine Qu (Qd (Qec Z Z Z Z Z Z Z Z Z Z) ?_)
        refine QF ?_ -- 11
        refine QG (Qe fun K hK => Qb Z (Qb Z (QM Z Z Z (by omega) (Zk (by omega)) Z (QQ (ds0 := [0]) (cs := [_, _]) Z Z Z Z Z Z (QQ (ds0 := [0]) (cs := [_, _]) Z Z Z Z Z Z (Qdc Z Z Z (hK _ _ (Qa (Qoe Z Z Z Z Z Z Z Z Z Z Z) ?_))))))))
        refine Qx Z (fun h26 => ?_) (fun h26 => ?_)
        ·try rw [h26]
         try simp only [qA, QT] at h26
         exact absurd (QhT.1 h26) (Qlt (i := i) (j := m) hnd (by omega) (by omega))
        ·try rw [h26]
         try simp only [qA, QT] at h26
         refine Qu (Qj (Qd (Qec Z Z Z Z Z Z Z Z Z Z) (QR fun K hK => Qb Z (Q9 Z Z (by first | exact Qs (by omega) (by omega) | exact QN (by omega) (by omega) | exact QV (by omega) (by omega) | rfl) (Qb Z (hK _ ?_))))))
         refine Qm (m + 1) ?_ ?_ ?_
         ·exact Q1 (l := [7, 8, 9, 10, 11, 12, 13, 14, 18, 900000]) (lH := [14]) (Qec rfl rfl rfl rfl rfl rfl rfl rfl rfl rfl) (Qi rfl Qp) rfl rfl rfl
         ·omega
         ·first | omega | (simp only; omega) | (dsimp only; omega)
       ·try rw [h25]
        try simp only [qA, QT] at h25
        refine Zf (QK (Qz (QH (Qj (Qd (kp8 Z Z Z Z Z Z Z Z) (QR fun K hK => Qb Z (Q9 Z Z (by first | exact Qs (by omega) (by omega) | exact QN (by omega) (by omega) | exact QV (by omega) (by omega) | rfl) (Qb Z (hK _ ?_)))))))))
        refine Qm (i + 1) ?_ ?_ ?_
        ·exact Q1 (l := [7, 8, 9, 10, 11, 12, 13, 900000]) (lH := []) (kp8 rfl rfl rfl rfl rfl rfl rfl rfl) Qp rfl rfl rfl
        ·omega
        ·first | omega | (simp only; omega) | (dsimp only; omega)
    ·try rw [h6]
     try simp only [qA, QT] at h6
     refine Zf (QK (Qz (QH (Qd (kp1 Z) (Qe fun K hK => QA (Yo) Z Z (.inl Z) (Qb Z (hK _ _ (Qa (kp1 Z) ?_))))))))
     refine Qt (Ql Z ?_)
     (repeat clear hK K); first | rfl | (exfalso; simp_all; done) | (exfalso; omega)
end Go.Proofs
