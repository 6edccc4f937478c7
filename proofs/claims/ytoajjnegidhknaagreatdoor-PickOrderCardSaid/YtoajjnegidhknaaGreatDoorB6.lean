/- Part 6 of the means of the proof: a verified abstract evaluator, the prepared functions, and contracts of functions. It states nothing of the claim by itself. -/
import Derived.Test.YtoajjnegidhknaaGreatDoorB5
set_option maxRecDepth 4000
set_option linter.unusedSimpArgs false
set_option linter.unusedVariables false
namespace M25
open Go Go.Abs M3
/-! ### What each unit may have, by numbers; in which order candidates are tried -/
def Qf3 (n k : Int) (i : Nat) : Int := ((i : Int) * (1 + k.tmod 3) + k).tmod n
def QeR (n k : Int) : Nat -> List Int
 | 0 => []
 | i + 1 => if Qf3 n k i ∈ QeR n k i then QeR n k i else QeR n k i ++ [Qf3 n k i]
theorem QhV (n k : Int) : ∀ i, (QeR n k i).length <= i
 | 0 => Nat.le_refl _
 | i + 1 => by
  have := QhV n k i
  rw [QeR]; split
  ·omega
  ·simp; omega
def QlR (w : QF) (l : List Int) (u : Nat) : List Int := match w[u]? with
 | some x => QeR x.cs.length (mPl (Qbk l u) 24) (min x.cs.length ((mPl (Qbk l u) 24).tmod 5).toNat)
 | none => []
theorem Qlc {w : QF} {l : List Int} {u : Nat} (h : u < w.length) : QlR w l u = QeR w[u].cs.length (mPl (Qbk l u) 24) (min w[u].cs.length ((mPl (Qbk l u) 24).tmod 5).toNat) := by
 rw [QlR, List.getElem?_eq_getElem h]
def QlS (w : QF) (l : List Int) (n : Nat) : List (List Int) := (List.range n).map (QlR w l)
def Xt (w : QF) (l : List Int) : List (List Int) := if l = [] then [] else QlS w l w.length
theorem QoP (w : QF) (l : List Int) (n : Nat) : (QlS w l n).length = n := by simp [QlS]
theorem QhY (w : QF) (l : List Int) (n : Nat) : QlS w l (n + 1) = QlS w l n ++ [QlR w l n] := by simp [QlS, List.range_succ]
theorem Qnp {w : QF} {l : List Int} (h : (l.length : Int) = 0) : Xt w l = [] := by
 rw [Xt, if_pos (List.length_eq_zero_iff.1 (by omega))]
theorem QoX {w : QF} {l : List Int} (h : ¬ (l.length : Int) = 0) : Xt w l = QlS w l w.length := by
 rw [Xt, if_neg (fun e => h (by rw [e]; rfl))]
theorem Qnj (w : QF) (l : List Int) (u : Nat) : (QlR w l u).length <= 10 := by
 unfold QlR; split
 ·rename_i x e
  have := QhV x.cs.length (mPl (Qbk l u) 24) (min x.cs.length ((mPl (Qbk l u) 24).tmod 5).toNat)
  have h1 := Int.tmod_lt_of_pos (mPl (Qbk l u) 24) (show (0 : Int) < 5 by omega)
  omega
 ·exact Qu4 _
theorem Qno (w : QF) (l : List Int) : ∀ r ∈ Xt w l, r.length <= 100000 := fun r hr => by
 unfold Xt at hr
 split at hr
 ·cases hr
 ·obtain ⟨u, _, rfl⟩ := Qu6.1 hr
  have := Qnj w l u; omega
theorem QpF {n k : Int} {i : Nat} (h : Qf3 n k i ∈ QeR n k i) : QeR n k (i + 1) = QeR n k i := by rw [QeR, if_pos h]
theorem Qr1 {n k : Int} {i : Nat} (h : ¬ Qf3 n k i ∈ QeR n k i) : QeR n k (i + 1) = QeR n k i ++ [Qf3 n k i] := by rw [QeR, if_neg h]
theorem Qnc {l : List Int} {x : Int} {i : Nat} (h : i < l.length) : decide (x ∈ l.take (i + 1)) = (decide (x ∈ l.take i) || decide (l[i] = x)) := by
 rw [List.take_succ_eq_append_getElem h, Bool.eq_iff_iff]
 simp only [Qu3, Qu1, decide_eq_true_eq, Bool.or_eq_true]
 exact ⟨fun h => h.imp id Eq.symm, fun h => h.imp id Eq.symm⟩
theorem Qr0 {a b : Int} (h1 : 0 <= a) (h2 : a <= 5) (h3 : 0 <= b) (h4 : b <= 3) : 0 <= a * b /\ a * b <= 15 :=
 ⟨Int.mul_nonneg h1 h3, Int.le_trans (Int.mul_le_mul h2 h4 h3 (by omega)) (by omega)⟩
/-! ### What every program says -/
def QuQ : D := .agg [.sl [[.str [], .str [], .fsl [[.int .i64 0, .int .i64 0, .int .i64 0, .str [], .str [], .int .i64 (-1), .fsl [[.fsl [[.int .i64 1, Zk Qgo.1, Zk Qgo.2]]]], .fsl []]]], [.str [97, 110, 116], .str [], .fsl [[.int .i64 1, .int .i64 0, .int .i64 0, .str [], .str [], .int .i64 0, .fsl [], .fsl []], [.int .i64 1, .int .i64 2, .int .i64 0, .str [], .str [], .int .i64 0, .fsl [], .fsl []]]]]]
def w27 : QF := [⟨[], [], [⟨⟨0, 0, 0, [], []⟩, -1, [[⟨1, Qgo⟩]], []⟩]⟩, ⟨[97, 110, 116], [], [⟨⟨1, 0, 0, [], []⟩, 0, [], []⟩, ⟨⟨1, 2, 0, [], []⟩, 0, [], []⟩]⟩]
theorem Qls : WSm w27 := by
 have ha : Sm Qgo.1 /\ Sm Qgo.2 := ⟨Qkz.1.sm (by decide), Qkz.2.sm (by decide)⟩
 constructor
 ·decide
 ·decide
 ·intro u hu c hc
  simp only [w27, QuU, QuT, or_false] at hu
  rcases hu with rfl | rfl
  ·simp only [QuU, QuT, or_false] at hc; subst hc; exact ⟨by decide, by decide⟩
  ·simp only [QuU, QuT, or_false] at hc
   rcases hc with rfl | rfl <;> exact ⟨by decide, by decide⟩
 ·decide
 ·decide
 ·intro u hu c hc r hr x hx
  simp only [w27, QuU, QuT, or_false] at hu
  rcases hu with rfl | rfl
  ·simp only [QuU, QuT, or_false] at hc; subst hc
   simp only [QuU, QuT, or_false] at hr; subst hr
   simp only [QuU, QuT, or_false] at hx; subst hx
   exact ha
  ·simp only [QuU, QuT, or_false] at hc
   rcases hc with rfl | rfl <;> cases hr
 ·intro u hu c hc x hx
  simp only [w27, QuU, QuT, or_false] at hu
  rcases hu with rfl | rfl
  ·simp only [QuU, QuT, or_false] at hc; subst hc; cases hx
  ·simp only [QuU, QuT, or_false] at hc
   rcases hc with rfl | rfl <;> cases hx
theorem Qsk : Qbo w27 [] [0, -1] = (0, 0) := by decide +kernel
theorem Qsl : Qbo w27 [] [-1, -1] = (0, -1) := by decide +kernel
theorem Qsm : ZX w27 [] [] [0, -1] = [⟨1, 1⟩, ⟨1, 0⟩] := by decide +kernel
theorem Qsj : Qmq w27 [] [0, 1] = true := by decide +kernel
end M25
namespace Go.Proofs
open Go Go.Abs M3 M25
theorem QcV {w : QF} (hw : WSm w) {l : List Int} (hL : ∀ x ∈ l, I64 x) : Ok Tryz.prog 11 [XC w, QZ l] (.sl ((Xt w l).map fun r => [QZ r])) := by
 refine Ok.ofT Z6 Tryz.func11 QtT (QuS Z) ?_
 show TW _ _ tf11.body _ _
 have hwl := hw.len
 refine Qe fun K hK => ZI Z Z Z (Qb Z (hK _ _ (Qa (kp2 Z Z) ?_)))
 refine QG ?_ -- 0
 refine Qe fun K hK => Qb Z ?_
 first | refine Q4 rfl Za ?_ | refine Q4 rfl rfl ?_
 refine Xb Z Z (hK _ _ (Qa (kp3 Z Z Z) ?_))
 refine Qw Z (fun h1 => ?_) (fun h1 => ?_)
 ·try rw [h1]
  try simp only [qA] at h1
  refine Qe fun K hK => Qb Z (hK _ _ (Qa (kp1 Z) ?_))
  refine Qt (Qk ?_)
  rw [Qnp h1]
  exact Z5 rfl rfl
 ·try rw [h1]
  try simp only [qA] at h1
  refine Qu (Qd (kp2 Z Z) (Qe fun K hK => Qb Z (hK _ _ (Qa (kp3 Z Z Z) ?_))))
  refine QG ?_ -- 1
  refine Qe fun K hK => Qb Z (hK _ _ (Qa (kp4 Z Z Z Z) ?_))
  refine QH ?_
  refine ZH (ι := Nat) (fun u => ⟨[(1, QZ l), (2, .ref 2 0 0), (5, .osl 5 (QlS w l u).length), (6, .int .i64 u)], [(2, ⟨[[.sl ((w).map Xf)]], 1, 26, true⟩), (5, ⟨(QlS w l u).map (fun r => [QZ r]), 1, 22, true⟩)]⟩) (fun u => u <= w.length) (fun u => w.length - u) 0 ?_ ?_ ?_
  ·exact le_trans (YG 5 5 1 22 rfl rfl) (Q6 (l := [1, 2, 5, 6]) (lH := [2, 5]) (kp4 rfl rfl rfl rfl) (Qg rfl (Qg rfl Qp)) rfl rfl rfl)
  ·exact Qu4 _
  intro u hI
  have hlen := QoP w l u
  try dsimp only
  refine QG ?_ -- 2
  refine Qe fun K hK => Qb Z (Qi Z Z (QC Z Z Z ?_))
  first | refine Q4 rfl Za ?_ | refine Q4 rfl rfl ?_
  refine Yk Z Z (hK _ _ (Qa (kp5 Z Z Z Z Z) ?_))
  refine Qw Z (fun h2 => ?_) (fun h2 => ?_)
  ·try rw [h2]
   try simp only [qA] at h2
   refine Qu (Qd (kp4 Z Z Z Z) ?_)
   refine QG ?_ -- 3
   refine QH (Qe fun K hK => Qb Z (hK _ _ (Qa (kp5 Z Z Z Z Z) ?_)))
   refine Qe fun K hK => Qi Z Z (QC Z Z Z (Qb Z (QP Z Z Z (by omega) (Zj (by omega)) Z (ZA Z Z (QC Z Z Z ?_)))))
   first | refine Q4 rfl Za ?_ | refine Q4 rfl rfl ?_
   refine Qb Z (hK _ _ (Qa (kp6 Z Z Z Z Z Z) ?_))
   refine Qe fun K hK => Qb Z (Qb Z (QA (Qbe (l := l) (i := (u : Int))) Z Z (.inr Z) (QA (Xc (by omega) (Qk2 hL ⟨by omega, by omega⟩)) Z Z (.inr Z) (Qb Z (hK _ _ (Qa (kp7 Z Z Z Z Z Z Z) ?_))))))
   refine QG ?_ -- 4
   refine Qe fun K hK => Qb Z (hK _ _ (Qa (kp8 Z Z Z Z Z Z Z Z) ?_))
   refine QH ?_
   have k0 := @Qja (Qbk l (u : Int)) 24
   have k1 := @Qi9 (Qbk l (u : Int)) 24 (by omega)
   have k2 := Int.tmod_nonneg 3 k0
   have k3 := Int.tmod_lt_of_pos (mPl (Qbk l (u : Int)) 24) (show (0 : Int) < 3 by omega)
   have k4 := Int.tmod_nonneg 5 k0
   have k5 := Int.tmod_lt_of_pos (mPl (Qbk l (u : Int)) 24) (show (0 : Int) < 5 by omega)
   have hcs := hw.cs _ (QuX (show u < w.length by omega))
   refine ZH (ι := Nat) (fun i => ⟨[(1, QZ l), (2, .ref 2 0 0), (5, .osl 5 (QlS w l u).length), (6, .int .i64 u), (7, .osl 7 (QeR (w[u]'(by omega)).cs.length (mPl (Qbk l (u : Int)) 24) i).length), (8, .int .i64 (w[u]'(by omega)).cs.length), (9, .int .i64 (mPl (Qbk l (u : Int)) 24)), (10, .int .i64 i)], [(2, ⟨[[.sl ((w).map Xf)]], 1, 26, true⟩), (5, ⟨(QlS w l u).map (fun r => [QZ r]), 1, 22, true⟩), (7, ⟨(QeR (w[u]'(by omega)).cs.length (mPl (Qbk l (u : Int)) 24) i).map (fun x => [.int .i64 x]), 1, 3, true⟩)]⟩) (fun i => i <= (w[u]'(by omega)).cs.length /\ (i : Int) <= (mPl (Qbk l (u : Int)) 24).tmod 5) (fun i => (w[u]'(by omega)).cs.length - i) 0 ?_ ?_ ?_
   ·exact le_trans (YG 7 7 1 3 rfl rfl) (Q6 (l := [1, 2, 5, 6, 7, 8, 9, 10]) (lH := [2, 5, 7]) (kp8 rfl rfl rfl rfl rfl rfl rfl rfl) (Qg rfl (Qg rfl (Qg rfl Qp))) rfl rfl rfl)
   ·exact ⟨Qu4 _, by omega⟩
   intro i hi
   have hol := QhV (w[u]'(by omega)).cs.length (mPl (Qbk l (u : Int)) 24) i
   try dsimp only
   refine QG ?_ -- 5
   refine Qe fun K hK => Qb Z (Qb Z (Yk Z Z (Qb Z ?_)))
   refine Qz (g := 38) Z (fun h3 => ?_) (fun h3 => ?_)
   ·try rw [h3]
    try simp only [qA] at h3
    refine Qf Z (Qb Z (Qf Z (Qb Z (Qf Z (QjG Z Z (by omega) (Qf Z (Yk Z Z (Qj Z Z (hK _ _ (Qa (kp9 Z Z Z Z Z Z Z Z Z) ?_))))))))))
    refine Qw Z (fun h4 => ?_) (fun h4 => ?_)
    ·try rw [h4]
     try simp only [qA] at h4
     have mb := Qr0 (a := (i : Int)) (b := 1 + (mPl (Qbk l (u : Int)) 24).tmod 3) (by omega) (by omega) (by omega) (by omega)
     refine Qu (Qd (kp8 Z Z Z Z Z Z Z Z) ?_)
     refine QG ?_ -- 6
     refine QH (Qe fun K hK => Qb Z (Qb Z (QjG Z Z (by omega) (Q8 Z Z (Qr (by omega) (by omega)) (Ql6 Z Z (Qr (by omega) (by omega)) (Qb Z (Q8 Z Z (Qr (by omega) (by omega)) (Qb Z (QjG Z Z (by omega) (Qb Z ?_))))))))))
     refine hK _ _ (Qa (kp9 Z Z Z Z Z Z Z Z Z) ?_)
     refine Qe fun K hK => Qb Z (hK _ _ (Qa (QkX Z Z Z Z Z Z Z Z Z Z) ?_))
     refine QG ?_ -- 7
     refine Qe fun K hK => Qb Z (hK _ _ (Qa (QnX Z Z Z Z Z Z Z Z Z Z Z) ?_))
     refine QH ?_
     refine ZH (ι := Nat) (fun j => ⟨[(1, QZ l), (2, .ref 2 0 0), (5, .osl 5 (QlS w l u).length), (6, .int .i64 u), (7, .osl 7 (QeR (w[u]'(by omega)).cs.length (mPl (Qbk l (u : Int)) 24) i).length), (8, .int .i64 (w[u]'(by omega)).cs.length), (9, .int .i64 (mPl (Qbk l (u : Int)) 24)), (10, .int .i64 i), (11, .int .i64 (Qf3 (w[u]'(by omega)).cs.length (mPl (Qbk l (u : Int)) 24) i)), (12, .bool (decide (Qf3 (w[u]'(by omega)).cs.length (mPl (Qbk l (u : Int)) 24) i ∈ (QeR (w[u]'(by omega)).cs.length (mPl (Qbk l (u : Int)) 24) i).take j))), (13, .int .i64 j)], [(2, ⟨[[.sl ((w).map Xf)]], 1, 26, true⟩), (5, ⟨(QlS w l u).map (fun r => [QZ r]), 1, 22, true⟩), (7, ⟨(QeR (w[u]'(by omega)).cs.length (mPl (Qbk l (u : Int)) 24) i).map (fun x => [.int .i64 x]), 1, 3, true⟩)]⟩) (fun j => j <= (QeR (w[u]'(by omega)).cs.length (mPl (Qbk l (u : Int)) 24) i).length) (fun j => (QeR (w[u]'(by omega)).cs.length (mPl (Qbk l (u : Int)) 24) i).length - j) 0 ?_ ?_ ?_
     ·exact Q6 (l := [1, 2, 5, 6, 7, 8, 9, 10, 11, 12, 13]) (lH := [2, 5, 7]) (QnX rfl rfl rfl rfl rfl rfl rfl rfl rfl rfl rfl) (Qg rfl (Qg rfl (Qg rfl Qp))) rfl rfl rfl
     ·exact Qu4 _
     intro j hj
     try dsimp only
     refine QG ?_ -- 8
     refine Qe fun K hK => Qb Z (Qb Z ?_)
     first | refine Q4 rfl Za ?_ | refine Q4 rfl rfl ?_
     refine Yk Z Z (hK _ _ (Qa (QtO Z Z Z Z Z Z Z Z Z Z Z Z) ?_))
     refine Qw Z (fun h5 => ?_) (fun h5 => ?_)
     ·try rw [h5]
      try simp only [qA] at h5
      refine Qu (Qd (QnX Z Z Z Z Z Z Z Z Z Z Z) ?_)
      refine QG ?_ -- 9
      refine QH (QR fun K hK => Qb Z (Qb Z ?_))
      refine Qz (g := 62) Z (fun h6 => ?_) (fun h6 => ?_)
      ·try rw [h6]
       try simp only [qA] at h6
       refine Qs Z (Qs Z (Qs Z (Qs Z (Qs Z (Qs Z (Qj Z Z (Qb Z (hK _ ?_))))))))
       refine Qh (Qd (QnX Z Z Z Z Z Z Z Z Z Z Z) (QR fun K hK => Qb Z (Q8 Z Z (Qr (by omega) (by omega)) (Qb Z (hK _ ?_)))))
       refine Ql (j + 1) ?_ ?_ ?_
       ·exact Q6 (l := [1, 2, 5, 6, 7, 8, 9, 10, 11, 12, 13]) (lH := [2, 5, 7]) (QnX rfl rfl rfl rfl rfl rfl rfl rfl rfl rfl rfl) (Qg rfl (Qg rfl (Qg rfl Qp))) (by rw [Qnc (by omega), decide_eq_true h6, Bool.true_or] <;> rfl) rfl rfl
       ·show j + 1 <= _; omega
       ·show (QeR (w[u]'(by omega)).cs.length (mPl (Qbk l (u : Int)) 24) i).length - (j + 1) < (QeR (w[u]'(by omega)).cs.length (mPl (Qbk l (u : Int)) 24) i).length - j; omega
      ·try rw [h6]
       try simp only [qA] at h6
       refine Qf Z (Qb Z (Qf Z (Qb Z (Qf Z (QaJ Z Z Z (by simp) (by omega) (by omega) Z (Qf Z (QC Z (Yp Z (Zj (by omega))) Z (Qf Z (Qb Z (Qf Z (Xb Z Z ?_)))))))))))
       refine Qj Z Z (Qb Z (hK _ ?_))
       refine Qh (Qd (QnX Z Z Z Z Z Z Z Z Z Z Z) (QR fun K hK => Qb Z (Q8 Z Z (Qr (by omega) (by omega)) (Qb Z (hK _ ?_)))))
       refine Ql (j + 1) ?_ ?_ ?_
       ·exact Q6 (l := [1, 2, 5, 6, 7, 8, 9, 10, 11, 12, 13]) (lH := [2, 5, 7]) (QnX rfl rfl rfl rfl rfl rfl rfl rfl rfl rfl rfl) (Qg rfl (Qg rfl (Qg rfl Qp))) (by rw [Qnc (by omega), decide_eq_false h6, Bool.false_or] <;> rfl) rfl rfl
       ·show j + 1 <= _; omega
       ·show (QeR (w[u]'(by omega)).cs.length (mPl (Qbk l (u : Int)) 24) i).length - (j + 1) < (QeR (w[u]'(by omega)).cs.length (mPl (Qbk l (u : Int)) 24) i).length - j; omega
     ·try rw [h5]
      try simp only [qA] at h5
      refine Ze (QJ (Qy (QI (Qd (QkX Z Z Z Z Z Z Z Z Z Z) (Qe fun K hK => Qb Z (ZW Z (hK _ _ (Qa (QkX Z Z Z Z Z Z Z Z Z Z) ?_))))))))
      refine Qw Z (fun h7 => ?_) (fun h7 => ?_)
      ·try rw [h7]
       try simp only [qA] at h7
       refine QR fun K hK => Qb Z (Qb Z (QM Z Z (X8 Z Z (fun _ h => XK Z Z Z h) Z (by simp) Z Z Z (by simp; omega) (by simp; omega) (Qb Z (hK _ ?_)))))
       refine Qh (Qd (kp8 Z Z Z Z Z Z Z Z) (QR fun K hK => Qb Z (Q8 Z Z (Qr (by omega) (by omega)) (Qb Z (hK _ ?_)))))
       refine Ql (i + 1) ?_ ?_ ?_
       ·exact Q6 (l := [1, 2, 5, 6, 7, 8, 9, 10]) (lH := [2, 5, 7]) (kp8 rfl rfl rfl rfl rfl rfl rfl rfl) (Qg rfl (Qg rfl (Qg rfl Qp))) (by rw [Qr1 (fun hm => h7 (by rw [Qu8 (by omega)]; exact hm)), List.length_append] <;> rfl) (by rw [Qr1 (fun hm => h7 (by rw [Qu8 (by omega)]; exact hm)), List.map_append] <;> rfl) rfl
       ·exact ⟨by omega, by omega⟩
       ·show (w[u]'(by omega)).cs.length - (i + 1) < (w[u]'(by omega)).cs.length - i; omega
      ·try rw [h7]
       try simp only [qA] at h7
       refine Qu (Qh (Qd (kp8 Z Z Z Z Z Z Z Z) (QR fun K hK => Qb Z (Q8 Z Z (Qr (by omega) (by omega)) (Qb Z (hK _ ?_))))))
       refine Ql (i + 1) ?_ ?_ ?_
       ·exact Q6 (l := [1, 2, 5, 6, 7, 8, 9, 10]) (lH := [2, 5, 7]) (kp8 rfl rfl rfl rfl rfl rfl rfl rfl) (Qg rfl (Qg rfl (Qg rfl Qp))) (by rw [QpF (by rw [Qu8 (by omega)] at h7; exact h7)] <;> rfl) (by rw [QpF (by rw [Qu8 (by omega)] at h7; exact h7)] <;> rfl) rfl
       ·exact ⟨by omega, by omega⟩
       ·show (w[u]'(by omega)).cs.length - (i + 1) < (w[u]'(by omega)).cs.length - i; omega
    ·try rw [h4]
     try simp only [qA] at h4
     refine Ze (QJ (Qy (QI (Qd (kp5 Z Z Z Z Z) (Qry (QkY (l := [1, 2, 5, 6]) (lH := [2, 5]) 7 7 (kp4 Z Z Z Z) (Qg Z (Qg Z Qp)) Z Z Z (by first | (simp; done) | (simp; omega)) Z Z Z Z) (QR fun K hK => Qb Z (Qb Z (QM Z Z (X8 Z Z (fun _ h => XK Z Z Z h) Z (by simp) Z Z Z (by simp; omega) (by simp; omega) (Qb Z ?_))))))))))
     refine hK _ ?_
     refine Qh (Qd (kp4 Z Z Z Z) (QR fun K hK => Qb Z (Q8 Z Z (Qr (by omega) (by omega)) (Qb Z (hK _ ?_)))))
     refine Ql (u + 1) ?_ ?_ ?_
     ·exact Q6 (l := [1, 2, 5, 6]) (lH := [2, 5]) (kp4 rfl rfl rfl rfl) (Qg rfl (Qg rfl Qp)) (by rw [QhY, List.length_append] <;> rfl) (by rw [QhY, List.map_append, Qlc (by omega), show min (w[u]'(by omega)).cs.length ((mPl (Qbk l (u : Int)) 24).tmod 5).toNat = i by omega] <;> rfl) rfl
     ·omega
     ·first | omega | (simp only; omega) | (dsimp only; omega)
   ·try rw [h3]
    try simp only [qA] at h3
    refine Qs Z (Qs Z (Qs Z (Qs Z (Qj Z Z (hK _ _ (Qa (kp9 Z Z Z Z Z Z Z Z Z) ?_))))))
    refine Zs Z (Ze (QJ (Qy (QI (Qd (kp5 Z Z Z Z Z) (Qry (QkY (l := [1, 2, 5, 6]) (lH := [2, 5]) 7 7 (kp4 Z Z Z Z) (Qg Z (Qg Z Qp)) Z Z Z (by first | (simp; done) | (simp; omega)) Z Z Z Z) (QR fun K hK => Qb Z (Qb Z (QM Z Z (X8 Z Z (fun _ h => XK Z Z Z h) Z (by simp) Z Z Z (by simp; omega) (by simp; omega) ?_))))))))))
    refine Qb Z (hK _ ?_)
    refine Qh (Qd (kp4 Z Z Z Z) (QR fun K hK => Qb Z (Q8 Z Z (Qr (by omega) (by omega)) (Qb Z (hK _ ?_)))))
    refine Ql (u + 1) ?_ ?_ ?_
    ·exact Q6 (l := [1, 2, 5, 6]) (lH := [2, 5]) (kp4 rfl rfl rfl rfl) (Qg rfl (Qg rfl Qp)) (by rw [QhY, List.length_append] <;> rfl) (by rw [QhY, List.map_append, Qlc (by omega), show min (w[u]'(by omega)).cs.length ((mPl (Qbk l (u : Int)) 24).tmod 5).toNat = i by omega] <;> rfl) rfl
    ·omega
    ·first | omega | (simp only; omega) | (dsimp only; omega)
  ·try rw [h2]
   try simp only [qA] at h2
   refine Ze (QJ (Qy (QI (Qd (kp1 Z) (Qe fun K hK => Qb Z (Qb Z (hK _ _ (Qa (kp1 Z) ?_))))))))
   refine Qt ?_
   exact Qfg rfl rfl rfl (by simp) (by rw [QoX h1, show w.length = u by omega])
theorem Qb8  : Ok Tryz.prog 29 [] (QuQ) := by
 refine Ok.ofT Z6 Tryz.func29 Qt0 (QuS Z) ?_
 show TW _ _ tf29.body _ _
 refine Qe fun K hK => ZF Z (hK _ _ (Qa (kp1 Z) ?_))
 refine Qe fun K hK => QA (Xz) Z Z (.inl Z) (Qb Z (hK _ _ (Qa (kp2 Z Z) ?_)))
 refine Qe fun K hK => Zc (ds0 := [18, 17, 16, 15, 14, 13, 2, 1, 0]) (QaP) Z Z (.inl Z) Z Z (QX Z Z (Ya Z Z (Ya Z Z (QX Z Z (Ya Z Z (QX Z Z (Qb Z (QP Z Z Z (by decide) Z Z (QQ (ds0 := [9, 4, 3, 2, 1, 0]) (cs := [_, _, _, _, _]) Z Z Z Z Z Z (QX Z Z ?_))))))))))
 refine Qb Z (QP Z Z Z (by decide) Z Z (QQ (ds0 := [5, 4, 3, 2, 1, 0]) (cs := [_, _, _, _, _]) Z Z Z Z Z Z (QX Z Z (Ya Z Z (QX Z Z (Ya Z Z (QX Z Z (Xk (ds0 := []) Z Z Z Z Z Z Z Z Z Z (hK _ _ (Qa (kp1 Z) ?_))))))))))
 refine Qt ?_
 exact ZL (cs := [_]) rfl rfl rfl rfl rfl
theorem XY  : Ok Tryz.prog 8 [gD] (.bool true) := by
 refine Ok.ofTG (ds := []) (dg := gD) Z6 Tryz.func8 tp8 (QuS Z) ?_
 show TW _ _ tf8.body _ _
 refine Qe fun K hK => Qb Z (hK _ _ (Qa (kp1 Z) ?_))
 refine Qe fun K hK => QA (Qb8) Z Z (.inl Z) (ZF Z (Q0 Z Z Z Z Z Z Z Z (hK _ _ (Qa (kp2 Z Z) ?_))))
 refine Qe fun K hK => QD (cs := [_]) Z Z Z Z (Ya Z Z ?_)
 have hc1 := Qdj Qls (al := []) (c := [0, -1]) (by decide)
 rw [Qsk] at hc1
 refine QA (hc1.weak (by rfl)) Z Z (.inl Z) (Qb Z (Q5 Z Z (Q5 Z Z (Qb Z (Qb Z (hK _ _ (Qa (kp4 Z Z Z Z) ?_)))))))
 refine Qe fun K hK => QD (cs := [_]) Z Z Z Z (Ya Z Z ?_)
 have hc2 := Qdj Qls (al := []) (c := [-1, -1]) (by decide)
 rw [Qsl] at hc2
 refine QA (hc2.weak (by rfl)) Z Z (.inl Z) (Qb Z (Q5 Z Z (Q5 Z Z (Qb Z (Qb Z (hK _ _ (Qa (kp6 Z Z Z Z Z Z) ?_)))))))
 refine Qe fun K hK => QD (cs := [_]) Z Z Z Z (Ya Z Z ?_)
 have hc3 := Qbx Qls (al := []) (c := [0, -1]) (order := []) (by decide) (by decide)
 rw [Qsm] at hc3
 refine QA (hc3.weak (by rfl)) Z Z (.inl Z) (Qb Z (hK _ _ (Qa (kp7 Z Z Z Z Z Z Z) ?_)))
 refine Qe fun K hK => Qb Z (Xb Z Z (Qb Z ?_))
 refine Qz (g := 25) Z (fun h1 => ?_) (fun h1 => ?_)
 ·try rw [h1]
  try simp only [qA] at h1
  refine Qf Z (Qb Z (Qf Z (Xb Z Z (Qj Z Z (Qb Z ?_)))))
  refine Qz (g := 29) Z (fun h2 => ?_) (fun h2 => ?_)
  ·try rw [h2]
   try simp only [qA] at h2
   refine Qf Z (Qb Z (Qf Z (Xb Z Z (Qj Z Z (Qb Z ?_)))))
   refine Qz (g := 33) Z (fun h3 => ?_) (fun h3 => ?_)
   ·try rw [h3]
    try simp only [qA] at h3
    refine Qf Z (Qb Z (Qf Z (Xb Z Z (Qj Z Z (Qb Z ?_)))))
    refine Qz (g := 37) Z (fun h4 => ?_) (fun h4 => ?_)
    ·try rw [h4]
     try simp only [qA] at h4
     refine Qf Z (Qb Z (Qf Z ?_))
     first | refine Q4 rfl Za ?_ | refine Q4 rfl rfl ?_
     refine Qf Z (Xb Z Z (Qj Z Z (Qb Z ?_)))
     refine Qz (g := 42) Z (fun h5 => ?_) (fun h5 => ?_)
     ·try rw [h5]
      try simp only [qA] at h5
      refine Qf Z (Qb Z (Qf Z (QP Z Z Z (by decide) Z Z (Qf Z (QD (cs := [_, _]) Z Z Z Z (Qf Z (QX Z Z (Qf Z (Qdz Z Z Z (Qj Z Z (Qb Z ?_)))))))))))
      refine Qz (g := 49) Z (fun h6 => ?_) (fun h6 => ?_)
      ·try rw [h6]
       try simp only [qA] at h6
       refine Qf Z (Qb Z (Qf Z (QP Z Z Z (by decide) Z Z (Qf Z (QD (cs := [_, _]) Z Z Z Z (Qf Z (QX Z Z (Qf Z (Qdz Z Z Z (Qj Z Z (Qb Z ?_)))))))))))
       refine Qz (g := 56) Z (fun h7 => ?_) (fun h7 => ?_)
       ·try rw [h7]
        try simp only [qA] at h7
        refine Qf Z (QD (cs := [_]) Z Z Z Z (Qf Z (Ya Z Z (Qf Z ?_))))
        have hc4 := QiC Qls (al := []) (c := [0, 1])
        rw [Qsj] at hc4
        refine QA (hc4.weak (by rfl)) Z Z (.inr Z) (Qj Z Z (Qb Z (hK _ _ (Qa (kp1 Z) ?_))))
        refine Qt (Qn Z ?_)
        first | rfl | decide
       ·try rw [h7]
        try simp only [qA] at h7
        exact absurd h7 (by decide)
      ·try rw [h6]
       try simp only [qA] at h6
       exact absurd h6 (by decide)
     ·try rw [h5]
      try simp only [qA] at h5
      exact absurd h5 (by decide)
    ·try rw [h4]
     try simp only [qA] at h4
     exact absurd h4 (by decide)
   ·try rw [h3]
    try simp only [qA] at h3
    exact absurd h3 (by decide)
  ·try rw [h2]
   try simp only [qA] at h2
   exact absurd h2 (by decide)
 ·try rw [h1]
  try simp only [qA] at h1
  exact absurd h1 (by decide)
end Go.Proofs
namespace M25
open Go Go.Abs M3
/-! ### Whatever the order, the same are offered -/
theorem Qh2 {m p : Int} : Qke m p = true ↔ 0 <= p /\ p < 16 /\ tb m (p + 1).toNat = true := by
 simp only [Qke, QuW, decide_eq_true_eq, Bool.not_eq_true', decide_eq_false_iff_not]
 constructor
 ·rintro ⟨h1, h2, h3⟩
  refine ⟨h1, h2, ?_⟩
  cases h : tb m (p + 1).toNat with
  | true => rfl
  | false => exact absurd ((Qhq (by omega)).2 h) h3
 ·rintro ⟨h1, h2, h3⟩
  exact ⟨h1, h2, fun h => by rw [(Qhq (by omega)).1 h] at h3; cases h3⟩
structure Qrn (m0 : Int) (L : List Int) (s : List Int × Int) : Prop where
 nd : s.1.Nodup
 mem : ∀ p, p ∈ s.1 ↔ p ∈ L /\ Qke m0 p = true
 bit : ∀ p, Qke s.2 p = true ↔ Qke m0 p = true /\ p ∉ s.1
theorem QoT (m : Int) : Qrn m [] ([], m) := ⟨List.nodup_nil, by simp, by simp⟩
theorem Qnn {m0 : Int} {L : List Int} {s : List Int × Int} (h : Qrn m0 L s) (p : Int) : Qrn m0 (L ++ [p]) (QaG s p) := by
 unfold QaG
 by_cases hp : Qke s.2 p = true
 ·rw [if_pos hp]
  obtain ⟨h0, hni⟩ := (h.bit p).1 hp
  refine ⟨?_, fun q => ?_, fun q => ?_⟩
  ·rw [List.nodup_append]
   refine ⟨h.nd, by simp, fun a ha b hb => ?_⟩
   simp only [Qu1] at hb; subst hb
   rintro rfl; exact hni ha
  ·simp only [Qu3, Qu1, h.mem q]
   constructor
   ·rintro (⟨h1, h2⟩ | rfl)
    ·exact ⟨.inl h1, h2⟩
    ·exact ⟨.inr rfl, h0⟩
   ·rintro ⟨h1 | rfl, h2⟩
    ·exact .inl ⟨h1, h2⟩
    ·exact .inr rfl
  ·have hb := h.bit q
   rw [Qh2] at hb ⊢
   simp only [QpQ, QuW, Bool.not_eq_true', Qu3, Qu1, not_or]
   constructor
   ·rintro ⟨q1, q2, q3, q4⟩
    obtain ⟨z1, z2⟩ := hb.1 ⟨q1, q2, q3⟩
    refine ⟨z1, z2, ?_⟩
    rintro rfl
    rw [Qhc (by omega)] at q4
    simp at q4
   ·rintro ⟨z1, z2, z3⟩
    obtain ⟨q1, q2, q3⟩ := hb.2 ⟨z1, z2⟩
    obtain ⟨p1, p2, _⟩ := Qh2.1 hp
    refine ⟨q1, q2, q3, ?_⟩
    rw [Qhc (by omega), decide_eq_false_iff_not]
    intro e; exact z3 (by omega)
 ·rw [if_neg hp]
  refine ⟨h.nd, fun q => ?_, h.bit⟩
  rw [h.mem q]
  simp only [Qu3, Qu1]
  constructor
  ·rintro ⟨h1, h2⟩; exact ⟨.inl h1, h2⟩
  ·rintro ⟨h1 | rfl, h2⟩
   ·exact ⟨h1, h2⟩
   ·have : q ∈ s.1 := Classical.byContradiction fun hn => hp ((h.bit q).2 ⟨h2, hn⟩)
    exact (h.mem q).1 this
theorem Qjh {m0 : Int} : ∀ (l L : List Int) (s : List Int × Int), Qrn m0 L s -> Qrn m0 (L ++ l) (l.foldl QaG s)
 | [], L, s, h => by simpa using h
 | p :: l, L, s, h => by
  have := Qjh l (L ++ [p]) (QaG s p) (Qnn h p)
  simpa using this
theorem Qof {p : Int} (h0 : 0 <= p) (h1 : p < 16) : p ∈ dn16 := by
 have : ∀ n : Fin 16, ((n : Nat) : Int) ∈ dn16 := by decide
 have h := this ⟨p.toNat, by omega⟩
 simp only [show ((p.toNat : Nat) : Int) = p by omega] at h
 exact h
theorem QeS (ord : List Int) (m : Int) : (ZU ord m).Nodup /\ ∀ p, p ∈ ZU ord m ↔ Qke m p = true := by
 have h := Qjh (m0 := m) (ord ++ dn16) [] ([], m) (QoT m)
 refine ⟨h.nd, fun p => ?_⟩
 rw [ZU, h.mem p]
 simp only [List.nil_append, Qu3]
 constructor
 ·exact fun h => h.2
 ·intro hp
  obtain ⟨h1, h2, _⟩ := Qh2.1 hp
  exact ⟨.inr (Qof h1 h2), hp⟩
theorem QmC {o x : TermT} : eqT o x = true ↔ o = x := by
 obtain ⟨a, b⟩ := o
 obtain ⟨c, d⟩ := x
 simp [eqT]
theorem Qme {o : TermT} {l : List TermT} : l.any (eqT o) = true ↔ o ∈ l := by
 rw [List.any_eq_true]
 constructor
 ·rintro ⟨x, h1, h2⟩; rw [QmC.1 h2]; exact h1
 ·exact fun h => ⟨o, h, QmC.2 rfl⟩
theorem Qn6 {out : List TermT} (h : out.Nodup) (o : TermT) : (Qiu out o).Nodup /\ ∀ x, x ∈ Qiu out o ↔ x ∈ out \/ x = o := by
 unfold Qiu
 split
 ·rename_i ha
  have := Qme.1 ha
  refine ⟨h, fun x => ⟨.inl, ?_⟩⟩
  rintro (h1 | rfl)
  ·exact h1
  ·exact this
 ·rename_i ha
  refine ⟨?_, fun x => by simp⟩
  rw [List.nodup_append]
  refine ⟨h, by simp, fun a h1 b h2 => ?_⟩
  simp only [Qu1] at h2; subst h2
  rintro rfl; exact ha (Qme.2 h1)
theorem Qiv : ∀ (l : List TermT) {out : List TermT}, out.Nodup -> (l.foldl Qiu out).Nodup /\ ∀ x, x ∈ l.foldl Qiu out ↔ x ∈ out \/ x ∈ l
 | [], out, h => ⟨h, by simp⟩
 | o :: l, out, h => by
  obtain ⟨h1, h2⟩ := Qn6 h o
  obtain ⟨h3, h4⟩ := Qiv l h1
  refine ⟨h3, fun x => ?_⟩
  rw [List.foldl_cons, h4 x, h2 x, QuU, or_assoc]
def Qqs (al : List Int) (ts : List TermT) (x : TermT) : Prop := ∃ t ∈ ts, x.u = t.u /\ Qke (X1 al t) x.m = true
theorem Qjf {al : List Int} {order : List (List Int)} : ∀ (ts : List TermT) {out : List TermT}, out.Nodup -> (ts.foldl (Xq al order) out).Nodup /\ ∀ x, x ∈ ts.foldl (Xq al order) out ↔ x ∈ out \/ Qqs al ts x
 | [], out, h => ⟨h, by simp [Qqs]⟩
 | t :: ts, out, h => by
  obtain ⟨h1, h2⟩ := Qiv (Z3 t.u (ZU (ZV order t.u) (X1 al t))) h
  obtain ⟨h3, h4⟩ := Qjf ts h1
  refine ⟨h3, fun x => ?_⟩
  rw [List.foldl_cons]
  refine (h4 x).trans ?_
  rw [h2 x]
  have hm : x ∈ Z3 t.u (ZU (ZV order t.u) (X1 al t)) ↔ x.u = t.u /\ Qke (X1 al t) x.m = true := by
   simp only [Z3, Qu6]
   constructor
   ·rintro ⟨p, hp, rfl⟩; exact ⟨rfl, ((QeS _ _).2 p).1 hp⟩
   ·rintro ⟨h5, h6⟩; exact ⟨x.m, ((QeS _ _).2 x.m).2 h6, by rw [<- h5]⟩
  rw [hm]
  constructor
  ·rintro ((h5 | h5) | ⟨t', h5, h6⟩)
   ·exact .inl h5
   ·exact .inr ⟨t, by simp, h5⟩
   ·exact .inr ⟨t', by simp [h5], h6⟩
  ·rintro (h5 | ⟨t', h5, h6⟩)
   ·exact .inl (.inl h5)
   ·rcases QuU.1 h5 with rfl | h5
    ·exact .inl (.inr h6)
    ·exact .inr ⟨t', h5, h6⟩
theorem QbL (w : QF) (al : List Int) (order : List (List Int)) (c : List Int) : (ZX w al order c).Nodup /\ ∀ x, x ∈ ZX w al order c ↔ ¬ (Qbo w al c).1 < 0 /\ Qqs al (tsM w c (Qbo w al c)) x := by
 unfold ZX
 split
 ·rename_i h; exact ⟨List.nodup_nil, by simp [h]⟩
 ·rename_i h
  obtain ⟨h1, h2⟩ := Qjf (al := al) (order := order) (tsM w c (Qbo w al c)) (out := []) List.nodup_nil
  exact ⟨h1, fun x => by rw [Qje, h2 x]; simp [h]⟩
theorem Qm6 {α : Type} [DecidableEq α] : ∀ {a b : List α}, a.Nodup -> (∀ x ∈ a, x ∈ b) -> a.length <= b.length
 | [], b, _, _ => Qu4 _
 | x :: a, b, h, hm => by
  rw [List.nodup_cons] at h
  have hx := hm x (by simp)
  have := Qm6 (a := a) (b := b.erase x) h.2 fun y hy => by
   rw [List.mem_erase_of_ne (fun e => h.1 (by rw [<- e]; exact hy))]
   exact hm y (by simp [hy])
  rw [List.length_erase_of_mem hx] at this
  have hp : 0 < b.length := List.length_pos_of_mem hx
  simp only [List.length_cons]; omega
theorem Qds (w : QF) (al : List Int) (o1 o2 : List (List Int)) (c : List Int) : ∀ x ∈ ZX w al o1 c, x ∈ ZX w al o2 c := fun x hx => ((QbL w al o2 c).2 x).2 (((QbL w al o1 c).2 x).1 hx)
theorem Qg6 (w : QF) (al : List Int) (o1 o2 : List (List Int)) (c : List Int) : (ZX w al o1 c).length = (ZX w al o2 c).length :=
 Nat.le_antisymm (Qm6 (QbL w al o1 c).1 (Qds w al o1 o2 c)) (Qm6 (QbL w al o2 c).1 (Qds w al o2 o1 c))
theorem Qnh (w : QF) (hw : WSm w) (al : List Int) {order : List (List Int)} (ho : ∀ r ∈ order, r.length <= 100000) (c : List Int) : (ZX w al order c).length <= 200000000 := by
 unfold ZX
 split
 ·simp
 ·have := Qgf (al := al) ho (tsM w c (Qbo w al c)) []
  have h2 := QpR hw c (Qbo w al c)
  simp only [List.length_nil] at this
  rw [Qje]; omega
theorem Qmd {b : List TermT} {x : TermT} {k : Nat} (h : k < b.length) : (b.take (k + 1)).any (fun y => decide (x = y)) = ((b.take k).any (fun y => decide (x = y)) || decide (x = b[k])) := by
 rw [List.take_succ_eq_append_getElem h, List.any_append]; simp
theorem Qn8 {b : List TermT} {x : TermT} {k : Nat} (h : b.length <= k) (hx : x ∈ b) : (b.take k).any (fun y => decide (x = y)) = true := by
 rw [Qu8 h, List.any_eq_true]; exact ⟨x, hx, by simp⟩
end M25
namespace Go.Proofs
open Go Go.Abs M3 M25
theorem c_linchpinlaw27_PickOrder {ws os : List Int} (hws : ∀ x ∈ ws, I64 x) (hos : ∀ x ∈ os, I64 x) {n : Int} (hn : I64 n) : Ok Tryz.prog 7 [QZ ws, QZ os, .int .i64 n, gD] (.bool true) := by
 refine Ok.ofTG (ds := [QZ ws, QZ os, .int .i64 n]) (dg := gD) Z6 Tryz.func7 tp7 (QuS Z) ?_
 show TW _ _ tf7.body _ _
 refine Qe fun K hK => Qb Z (hK _ _ (Qa (kp4 Z Z Z Z) ?_))
 refine QG ?_ -- 0
 refine Qe fun K hK => Qb Z ?_
 first | refine Q4 rfl Za ?_ | refine Q4 rfl rfl ?_
 refine Qdx Z Z (hK _ _ (Qa (kp5 Z Z Z Z Z) ?_))
 refine Qw Z (fun h1 => ?_) (fun h1 => ?_)
 ·try rw [h1]
  try simp only [qA, ZC] at h1
  refine Qe fun K hK => QA (XY) Z Z (.inl Z) (Qb Z (hK _ _ (Qa (kp1 Z) ?_)))
  refine Qt (Qk (Qn Z ?_))
  rfl
 ·try rw [h1]
  try simp only [qA, ZC] at h1
  refine Qu (Qd (kp4 Z Z Z Z) (Qe fun K hK => Qb Z ?_))
  obtain ⟨d0, ⟨w, hwm, rfl⟩, hc0⟩ := QcW (ws := ws) hws (most := 5) (by decide) (by decide)
  have hw := hwm.sm
  have hwl := hw.len
  have hwl2 := hwm.len
  have hz := QqU hw
  have hp0 := Qja (v := n) (n := X6 w)
  have hp1 := Qi9 (v := n) (n := X6 w) (by omega)
  have hch := Qmp (w := w) hp0
  refine QA (hc0) Z Z (.inl Z) (ZF Z (Q0 Z Z Z Z Z Z Z Z (hK _ _ (Qa (kp4 Z Z Z Z) ?_))))
  refine Qe fun K hK => QD (cs := [_]) Z Z Z Z (Qb Z (QA (QcV hw hos) Z Z (.inl Z) (Qb Z (hK _ _ (Qa (kp4 Z Z Z Z) ?_)))))
  refine Qe fun K hK => QQ (ds0 := [1, 0]) (cs := [_]) Z Z Z Z Z Z (Qb Z (QQ (ds0 := [3, 2, 1, 0]) (cs := [_]) Z Z Z Z Z Z (Zc (ds0 := [2, 1, 0]) (Qdd hw) Z Z (.inr Z) Z Z (Zc (ds0 := [1, 0]) (Xc (by omega) hn) Z Z (.inr Z) Z Z (Zc (ds0 := [0]) (Qb9 hw hp0 (by omega)) Z Z (.inl Z) Z Z (Qb Z (hK _ _ (Qa (kp4 Z Z Z Z) ?_))))))))
  refine Qe fun K hK => QQ (ds0 := [6, 1]) (cs := [_]) Z Z Z Z Z Z (Qb Z (Zc (ds0 := [1]) (Qbx hw (al := []) (c := (Ym w (mPl n (X6 w)))) (order := []) (show 0 < w.length by omega) (by simp)) Z Z (.inl Z) Z Z (QQ (ds0 := [2, 0]) (cs := [_]) Z Z Z Z Z Z (Qb Z (Qb Z (Zc (ds0 := [0]) (Qbx hw (al := []) (c := (Ym w (mPl n (X6 w)))) (order := Xt w os) (show 0 < w.length by omega) (Qno w os)) Z Z (.inl Z) Z Z (Qb Z (Qb Z (hK _ _ (Qa (kp3 Z Z Z) ?_))))))))))
  refine QG ?_ -- 1
  refine Qe fun K hK => Qb Z ?_
  first | refine Q4 rfl Za ?_ | refine Q4 rfl rfl ?_
  refine Qb Z ?_
  first | refine Q4 rfl Za ?_ | refine Q4 rfl rfl ?_
  refine YQ Z Z (hK _ _ (Qa (kp4 Z Z Z Z) ?_))
  refine Qw Z (fun h2 => ?_) (fun h2 => ?_)
  ·try rw [h2]
   try simp only [qA, ZC] at h2
   exact absurd (by rw [Qg6 w [] [] (Xt w os)]) h2
  ·try rw [h2]
   try simp only [qA, ZC] at h2
   have hbd := Qnh w hw [] (order := []) (by simp) (Ym w (mPl n (X6 w))); have hle := Qg6 w [] [] (Xt w os) (Ym w (mPl n (X6 w)))
   refine Qu (Qd (kp3 Z Z Z) ?_)
   refine QG ?_ -- 2
   refine Qe fun K hK => Qb Z (hK _ _ (Qa (kp4 Z Z Z Z) ?_))
   refine QH ?_
   refine ZH (ι := Nat) (fun i => ⟨[(10, ZC (ZX w [] [] (Ym w (mPl n (X6 w))))), (11, ZC (ZX w [] (Xt w os) (Ym w (mPl n (X6 w))))), (12, .int .i64 i), (900000, gD)], []⟩) (fun i => i <= (ZX w [] [] (Ym w (mPl n (X6 w)))).length) (fun i => (ZX w [] [] (Ym w (mPl n (X6 w)))).length - i) 0 ?_ ?_ ?_
   ·exact Q6 (l := [10, 11, 12, 900000]) (lH := []) (kp4 rfl rfl rfl rfl) Qp rfl rfl rfl
   ·exact Qu4 _
   intro i hI
   try dsimp only
   refine QG ?_ -- 3
   refine Qe fun K hK => Qb Z (Qb Z ?_)
   first | refine Q4 rfl Za ?_ | refine Q4 rfl rfl ?_
   refine Yk Z Z (hK _ _ (Qa (kp5 Z Z Z Z Z) ?_))
   refine Qw Z (fun h3 => ?_) (fun h3 => ?_)
   ·try rw [h3]
    try simp only [qA, ZC] at h3
    refine Qu (Qd (kp4 Z Z Z Z) ?_)
    refine QG ?_ -- 4
    refine QH (Qe fun K hK => Qb Z (hK _ _ (Qa (kp5 Z Z Z Z Z) ?_)))
    refine QG ?_ -- 5
    refine Qe fun K hK => Qb Z (hK _ _ (Qa (kp6 Z Z Z Z Z Z) ?_))
    refine QH ?_
    refine ZH (ι := Nat) (fun k => ⟨[(10, ZC (ZX w [] [] (Ym w (mPl n (X6 w))))), (11, ZC (ZX w [] (Xt w os) (Ym w (mPl n (X6 w))))), (12, .int .i64 i), (13, .bool (((ZX w [] (Xt w os) (Ym w (mPl n (X6 w)))).take k).any (fun y => decide (((ZX w [] [] (Ym w (mPl n (X6 w))))[i]'(by omega)) = y)))), (14, .int .i64 k), (900000, gD)], []⟩) (fun k => k <= (ZX w [] (Xt w os) (Ym w (mPl n (X6 w)))).length) (fun k => (ZX w [] (Xt w os) (Ym w (mPl n (X6 w)))).length - k) 0 ?_ ?_ ?_
    ·exact Q6 (l := [10, 11, 12, 13, 14, 900000]) (lH := []) (kp6 rfl rfl rfl rfl rfl rfl) Qp rfl rfl rfl
    ·exact Qu4 _
    intro k hk
    try dsimp only
    refine QG ?_ -- 6
    refine Qe fun K hK => Qb Z (Qb Z ?_)
    first | refine Q4 rfl Za ?_ | refine Q4 rfl rfl ?_
    refine Yk Z Z (hK _ _ (Qa (kp7 Z Z Z Z Z Z Z) ?_))
    refine Qw Z (fun h4 => ?_) (fun h4 => ?_)
    ·try rw [h4]
     try simp only [qA, ZC] at h4
     refine Qu (Qd (kp6 Z Z Z Z Z Z) ?_)
     refine QG ?_ -- 7
     refine QH (QR fun K hK => Qb Z (Qb Z ?_))
     refine Qz (g := 55) Z (fun h5 => ?_) (fun h5 => ?_)
     ·try rw [h5]
      try simp only [qA, ZC] at h5
      refine Qs Z (Qs Z (Qs Z (Qs Z (Qs Z (Qs Z (Qs Z (Qs Z (Qs Z (Qj Z Z (Qb Z (hK _ ?_)))))))))))
      refine Qh (Qd (kp6 Z Z Z Z Z Z) (QR fun K hK => Qb Z (Q8 Z Z (by first | exact Qr (by omega) (by omega) | exact QO (by omega) (by omega) | exact QW (by omega) (by omega) | rfl) (Qb Z (hK _ ?_)))))
      refine Ql (k + 1) ?_ ?_ ?_
      ·exact Q6 (l := [10, 11, 12, 13, 14, 900000]) (lH := []) (kp6 rfl rfl rfl rfl rfl rfl) Qp (by rw [Qmd (by omega), h5, Bool.true_or] <;> rfl) rfl rfl
      ·show k + 1 <= _; omega
      ·show (ZX w [] (Xt w os) (Ym w (mPl n (X6 w)))).length - (k + 1) < (ZX w [] (Xt w os) (Ym w (mPl n (X6 w)))).length - k; omega
     ·try rw [h5]
      try simp only [qA, ZC] at h5
      refine Qf Z (Qb Z (Qf Z (Qb Z (Qf Z (QP Z Z Z (by omega) (Zj (by omega)) Z (Qf Z (QQ (ds0 := [2, 1, 0]) (cs := [_, _]) Z Z Z Z Z Z (Qf Z (Qb Z (Qf Z (Qb Z ?_)))))))))))
      refine Qf Z (QP Z Z Z (by omega) (Zj (by omega)) Z (Qf Z (QQ (ds0 := [2, 1, 0]) (cs := [_, _]) Z Z Z Z Z Z (Qf Z (Qdz Z Z QnP (Qj Z Z (Qb Z (hK _ ?_))))))))
      refine Qh (Qd (kp6 Z Z Z Z Z Z) (QR fun K hK => Qb Z (Q8 Z Z (by first | exact Qr (by omega) (by omega) | exact QO (by omega) (by omega) | exact QW (by omega) (by omega) | rfl) (Qb Z (hK _ ?_)))))
      refine Ql (k + 1) ?_ ?_ ?_
      ·exact Q6 (l := [10, 11, 12, 13, 14, 900000]) (lH := []) (kp6 rfl rfl rfl rfl rfl rfl) Qp (by rw [Qmd (by omega), h5, Bool.false_or] <;> rfl) rfl rfl
      ·show k + 1 <= _; omega
      ·show (ZX w [] (Xt w os) (Ym w (mPl n (X6 w)))).length - (k + 1) < (ZX w [] (Xt w os) (Ym w (mPl n (X6 w)))).length - k; omega
    ·try rw [h4]
     try simp only [qA, ZC] at h4
     refine Ze (QJ (Qy (QI (Qd (kp5 Z Z Z Z Z) (Qe fun K hK => Qb Z (ZW Z (hK _ _ (Qa (kp5 Z Z Z Z Z) ?_))))))))
     refine Qw Z (fun h6 => ?_) (fun h6 => ?_)
     ·try rw [h6]
      try simp only [qA, ZC] at h6
      rw [Qn8 (by omega) (Qds w [] [] (Xt w os) (Ym w (mPl n (X6 w))) _ (QuX (by omega)))] at h6; cases h6
     ·try rw [h6]
      try simp only [qA, ZC] at h6
      refine Qu (Qh (Qd (kp4 Z Z Z Z) (QR fun K hK => Qb Z (Q8 Z Z (by first | exact Qr (by omega) (by omega) | exact QO (by omega) (by omega) | exact QW (by omega) (by omega) | rfl) (Qb Z (hK _ ?_))))))
      refine Ql (i + 1) ?_ ?_ ?_
      ·exact Q1 (kp4 rfl rfl rfl rfl)
      ·omega
      ·first | omega | (simp only; omega) | (dsimp only; omega)
   ·try rw [h3]
    try simp only [qA, ZC] at h3
    refine Ze (QJ (Qy (QI (Qd (kp1 Z) (Qe fun K hK => QA (XY) Z Z (.inl Z) (Qb Z (hK _ _ (Qa (kp1 Z) ?_))))))))
    refine Qt (Qn Z ?_)
    rfl
end Go.Proofs
