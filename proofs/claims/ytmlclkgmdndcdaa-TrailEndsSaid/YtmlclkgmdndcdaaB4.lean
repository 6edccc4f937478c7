/- Part 4 of the means of the proof: a verified abstract evaluator, the prepared functions, and contracts of functions. It states nothing of the claim by itself. -/
import Derived.Test.YtmlclkgmdndcdaaB3
set_option linter.unusedSimpArgs false
set_option linter.unusedVariables false
namespace Go.Proofs
open Go Go.Abs M3 M25
set_option linter.unusedVariables false
set_option linter.unusedSimpArgs false
theorem Xv {v n : Int} (hn : n <= 9223372036854775807) (hv : I64 v) : Ok Try.prog 12 [.int .i64 v, .int .i64 n] (.int .i64 (mPl v n)) := by
 refine Ok.ofT Yi Try.func12 Qq2 (Nat.le_of_ble_eq_true Z) ?_
 show TW _ _ tf12.body _ _
 refine Qf fun K hK => Qa Z (hK _ _ (Qb (kp2 Z Z) ?_))
 refine QH ?_ -- 0
 refine Qf fun K hK => Qa Z (YY Z Z (hK _ _ (Qb (kp3 Z Z Z) ?_)))
 refine QC Z (fun h1 => ?_) (fun h1 => ?_)
 ·try rw [h1]
  try simp only [qB] at h1
  refine Qf fun K hK => Qa Z (hK _ _ (Qb (kp1 Z) ?_))
  refine Qv (Qm (Qx Z ?_))
  rw [mPl, if_pos h1]
 ·try rw [h1]
  try simp only [qB] at h1
  refine Qy (Qe (kp2 Z Z) (Qf fun K hK => Qa Z (Qa Z (Qok Z Z (by omega) (Qa Z (hK _ _ (Qb (kp2 Z Z) ?_)))))))
  refine QH ?_ -- 1
  refine Qf fun K hK => Qa Z (YY Z Z (hK _ _ (Qb (kp3 Z Z Z) ?_)))
  refine QC Z (fun h2 => ?_) (fun h2 => ?_)
  ·try rw [h2]
   try simp only [qB] at h2
   refine Qf fun K hK => Qa Z (Qa Z (Zb Z Z (Qr (by have := Int.lt_tmod_of_pos v (show 0 < n by omega); omega) (by have := Int.tmod_lt_of_pos v (show 0 < n by omega); omega)) (Qa Z (hK _ _ (Qb (kp1 Z) ?_)))))
   refine Qv (Qm (Qx Z ?_))
   rw [mPl, if_neg h1, QeR, if_pos h2]
  ·try rw [h2]
   try simp only [qB] at h2
   refine Qy (Qe (kp1 Z) (Qf fun K hK => Qa Z (Qa Z (hK _ _ (Qb (kp1 Z) ?_)))))
   refine Qv (Qx Z ?_)
   rw [mPl, if_neg h1, QeR, if_neg h2]
theorem Qas {l : List Int} {i : Int} : Ok Try.prog 13 [ZJ l, .int .i64 i] (.int .i64 (QhN l i)) := by
 refine Ok.ofT Yi Try.func13 Qq3 (Nat.le_of_ble_eq_true Z) ?_
 show TW _ _ tf13.body _ _
 refine Qf fun K hK => Qa Z (hK _ _ (Qb (kp2 Z Z) ?_))
 refine QH ?_ -- 0
 refine Qf fun K hK => Qa Z (YY Z Z (Qa Z ?_))
 refine QA (g := 7) Z (fun h1 => ?_) (fun h1 => ?_)
 ·try rw [h1]
  try simp only [qA] at h1
  refine Qo Z (Qo Z (Qo Z (Qo Z (Qj Z Z (hK _ _ (Qb (kp3 Z Z Z) ?_))))))
  refine ZD Z (Qf fun K hK => Qa Z (Qok Z Z (by omega) (Qa Z (hK _ _ (Qb (kp1 Z) ?_)))))
  refine Qv (Qm (Qx Z ?_))
  rw [QhN, if_pos (by omega)]
 ·try rw [h1]
  try simp only [qA] at h1
  refine Qg Z (Qa Z (Qg Z (Qa Z (Qg Z (Q5 Z Z (Qg Z (Qhc Z Z (Qj Z Z (hK _ _ (Qb (kp3 Z Z Z) ?_))))))))))
  refine QC Z (fun h2 => ?_) (fun h2 => ?_)
  ·try rw [h2]
   try simp only [qA] at h2
   refine Qf fun K hK => Qa Z (Qok Z Z (by omega) (Qa Z (hK _ _ (Qb (kp1 Z) ?_))))
   refine Qv (Qm (Qx Z ?_))
   rw [QhN, if_pos (by omega)]
  ·try rw [h2]
   try simp only [qA] at h2
   refine Qy (Qe (kp2 Z Z) (Qf fun K hK => Qa Z (Qa Z (QV Z Z Z (by omega) (ZW (by omega) (by omega)) Z (QE Z Z Z (Qa Z (hK _ _ (Qb (kp1 Z) ?_))))))))
   refine Qv (Qx Z ?_)
   exact (QlV (by omega) (by omega)).symm
theorem Xm {k : Nat} {L : List Int} {I n : Int} (hk : 1000000 <= k) (hL : ∀ x ∈ L, I64 x) (hn : n <= 9223372036854775807) (et : Nat) : OkH Try.prog 25 [.ref k 0 0, .int .i64 n] [(k, gB L I et)] (.int .i64 (nx L I n)) ((k, gB L (nxI I) et) :: [(k, gB L I et)]) := by
 refine OkH.lent hk Yi Try.func25 Qrf (Nat.le_of_ble_eq_true Z) Z ?_
 show TW _ _ tf25.body _ _
 refine Qf fun K hK => Qa Z (hK _ _ (Qb (kp2 Z Z) ?_))
 refine Qf fun K hK => Qa Z (Z3 Z Z (Qk Z QdZ (QE Z (Z2 Qdj Z) Z (Zb Z Z Z (Z3 Z Z (Qk Z QdZ (QT Z Qdj Z Z Z Z Z Z (hK _ _ (Qb (kp2 Z Z) ?_)))))))))
 refine Qf fun K hK => Qa Z (Z3 Z Z (Qk Z QdZ (Zr (ds0 := [3, 1, 0]) Z (Z2 Qdj Z) Z Z Z (Qa Z (Z3 Z Z (Qk Z QdZ (Zr (ds0 := [4, 3, 1, 0]) Z (Z2 Qdj Z) Z Z Z (Qa9 Z Z Z (Zh (ds0 := [1, 0]) (Qas) Z Z (.inr Z) Z Z (Qa Z ?_))))))))))
 refine Zh (ds0 := [0]) (Xv hn (Qna hL (Qfe _))) Z Z (.inr Z) Z Z (Qa Z (hK _ _ (Qb (kp1 Z) ?_)))
 refine Qv ?_
 exact X0 rfl rfl (Qo4 Qdj)
end Go.Proofs
namespace Go.Proofs
open Go Go.Abs M3 M25
set_option linter.unusedVariables false
set_option linter.unusedSimpArgs false
theorem XP {v : Int} (h0 : 0 <= v) (h1v : v <= 61) : Ok Try.prog 36 [.int .i64 v] (.int .i64 (2 ^ v.toNat)) := by
 refine Ok.ofT Yi Try.func36 Qrn (Nat.le_of_ble_eq_true Z) ?_
 show TW _ _ tf36.body _ _
 refine Qf fun K hK => Qa Z (hK _ _ (Qb (kp1 Z) ?_))
 refine Qf fun K hK => Qa Z (hK _ _ (Qb (kp2 Z Z) ?_))
 refine QH ?_ -- 0
 refine Qf fun K hK => Qa Z (hK _ _ (Qb (kp3 Z Z Z) ?_))
 refine QJ ?_
 refine Yb (ι := Nat) (fun i => ⟨[(0, .int .i64 v), (3, .int .i64 (2 ^ i)), (4, .int .i64 i)], []⟩) (fun i => (i : Int) <= v) (fun i => v.toNat - i) 0 ?_ ?_ ?_
 ·exact Zc (kp3 rfl rfl rfl)
 ·exact h0
 intro i hI
 have hp := Qi1 (i := i + 1) (by omega)
 rw [Int.pow_succ] at hp
 try dsimp only
 refine QH ?_ -- 1
 refine Qf fun K hK => Qa Z (Qa Z (YY Z Z (hK _ _ (Qb (kp4 Z Z Z Z) ?_))))
 refine QC Z (fun h1 => ?_) (fun h1 => ?_)
 ·try rw [h1]
  try simp only [qB] at h1
  refine Qy (Qe (kp3 Z Z Z) ?_)
  refine QH ?_ -- 2
  refine QJ (Q4 fun K hK => Qa rfl (Qpr rfl rfl (Qr (by obtain ⟨p1, p2⟩ := hp; generalize (2 : Int) ^ i = z at *; omega) (by obtain ⟨p1, p2⟩ := hp; generalize (2 : Int) ^ i = z at *; omega)) (Qa rfl (hK _ ?_))))
  refine Ql (Qe (kp3 Z Z Z) (Q4 fun K hK => Qa Z (Zb Z Z (Qr (by omega) (by omega)) (Qa Z (hK _ ?_)))))
  refine Qp (i + 1) ?_ ?_ ?_
  ·exact ZH (l := [0, 3, 4]) (lH := []) (kp3 rfl rfl rfl) Qz (by rw [Int.pow_succ]; rfl) rfl rfl
  ·show ((i + 1 : Nat) : Int) <= v; omega
  ·first | omega | (simp only; omega) | (dsimp only; omega)
 ·try rw [h1]
  try simp only [qB] at h1
  refine Z0 (Q6 (QM (QU (Qe (kp1 Z) (Qf fun K hK => Qa Z (Qa Z (hK _ _ (Qb (kp1 Z) ?_))))))))
  refine Qv (Qx Z ?_)
  rw [show v.toNat = i by omega]
theorem Qhl {h m : Int} : Ok Try.prog 38 [.int .i64 h, .int .i64 m] (.int .i64 (Qcg h m)) := by
 refine Ok.ofT Yi Try.func38 Qrp (Nat.le_of_ble_eq_true Z) ?_
 show TW _ _ tf38.body _ _
 refine Qf fun K hK => Qa Z (hK _ _ (Qb (kp2 Z Z) ?_))
 refine QH ?_ -- 0
 refine QJ (Qf fun K hK => Qa Z (Qa Z (QdR Z Z (Z5 Z Z (Qa Z (hK _ _ (Qb (kp3 Z Z Z) ?_)))))))
 refine QC Z (fun h1 => ?_) (fun h1 => ?_)
 ·try rw [h1]
  try simp only [qB] at h1
  refine Qf fun K hK => Qa Z (hK _ _ (Qb (kp1 Z) ?_))
  refine Qv (Qw (Qm (Qx Z ?_)))
  rw [Qcg, if_pos h1]
 ·try rw [h1]
  try simp only [qB] at h1
  refine Qf fun K hK => Qa Z (Qa Z (Qf7 Z Z (Z5 Z Z (Qa Z (hK _ _ (Qb (kp1 Z) ?_))))))
  refine QC Z (fun h2 => ?_) (fun h2 => ?_)
  ·try rw [h2]
   try simp only [qB] at h2
   refine Qf fun K hK => Qa Z (hK _ _ (Qb (kp1 Z) ?_))
   refine Qv (Qw (Qm (Qx Z ?_)))
   rw [Qcg, if_neg h1, if_pos h2]
  ·try rw [h2]
   try simp only [qB] at h2
   refine Qy (Ql (Qe (QZ) (Qf fun K hK => Qa Z (hK _ _ (Qb (kp1 Z) ?_)))))
   refine Qv (Qx Z ?_)
   rw [Qcg, if_neg h1, if_neg h2]
end Go.Proofs
namespace Go.Proofs
open Go Go.Abs M3 M25
set_option linter.unusedVariables false
set_option linter.unusedSimpArgs false
theorem Y0  : Ok Try.prog 37 [] (.sl (versions.map dVr)) := by
 refine Ok.ofT Yi Try.func37 Qro (Nat.le_of_ble_eq_true Z) ?_
 show TW _ _ tf37.body _ _
 refine Qf fun K hK => Qa Z (hK _ _ (Qb (QZ) ?_))
 refine Qf fun K hK => QS Z Z (QS Z Z (QS Z Z (QS Z Z (QG Z Z (Qa Z (hK _ _ (Qb (kp1 Z) ?_)))))))
 refine Qv (Z8 Z ?_)
 rfl
end Go.Proofs
namespace M25
open Go Go.Abs M3
structure WantT where
 u : Int
 s : Qg1
structure CandT where
 v : Vr
 sh : Int
 ns : List (List WantT)
 bs : List WantT
structure QmF where
 n : List UInt8
 f : List UInt8
 cs : List CandT
abbrev Qn := List QmF
def Qfj (x : WantT) : List D := [.int .i64 x.u, ZF x.s.1, ZF x.s.2]
def QX (l : List WantT) : D := .sl (l.map Qfj)
def QL (l : List (List WantT)) : D := .sl (l.map fun r => [QX r])
def QqA (c : CandT) : List D := [.int .i64 c.v.a, .int .i64 c.v.b, .int .i64 c.v.c, .str c.v.p, .str c.v.q, .int .i64 c.sh, QL c.ns, QX c.bs]
def Qlf (l : List CandT) : D := .sl (l.map QqA)
def Qcc (u : QmF) : List D := [.str u.n, .str u.f, Qlf u.cs]
def XV (w : Qn) : D := .agg [.sl (w.map Qcc)]
structure Zo where
 u : Int
 m : Int
 deriving DecidableEq
structure QD where
 u : Int
 m : Int
 l : Int
 c : Int
 deriving DecidableEq
structure RowT where
 k : Int
 u : Int
 a : Int
 b : Int
 t : List Zo
def QoA (t : Zo) : List D := [.int .i64 t.u, .int .i64 t.m]
def QdC (l : List Zo) : D := .sl (l.map QoA)
def Qeo (s : QD) : List D := [.int .i64 s.u, .int .i64 s.m, .int .i64 s.l, .int .i64 s.c]
def Z7 (l : List QD) : D := .sl (l.map Qeo)
abbrev Y9 (a b : Int) : Int := Qal .and .i64 a b
abbrev bor (a b : Int) : Int := Qal .or .i64 a b
abbrev Qiq (a b : Int) : Int := Qal .andNot .i64 a b
def uAt (w : Qn) (u : Int) : Option QmF := if u < 0 then none else w[u.toNat]?
theorem Qkh {w : Qn} {u : Int} (h0 : 0 <= u) (h : u < w.length) : uAt w u = some (w[u.toNat]'(by omega)) := by
 rw [uAt, if_neg (by omega), List.getElem?_eq_getElem (by omega)]
theorem Qmy {w : Qn} {u : Int} (h : u < 0 \/ (w.length : Int) <= u) : uAt w u = none := by
 unfold uAt
 split
 ·rfl
 ·rw [List.getElem?_eq_none]; omega
def YB (w : Qn) (u : Int) : Int := match uAt w u with
 | none => 0
 | some x => 2 ^ (min x.cs.length 16 + 1) - 1
theorem QcL {w : Qn} {u : Int} (h0 : 0 <= u) (h : u < w.length) : YB w u = 2 ^ (min (w[u.toNat]'(by omega)).cs.length 16 + 1) - 1 := by
 rw [YB, Qkh h0 h]
theorem QcM {w : Qn} {u : Int} (h : u < 0 \/ (w.length : Int) <= u) : YB w u = 0 := by rw [YB, Qmy h]
theorem QjV (w : Qn) (u : Int) : 0 <= YB w u /\ YB w u <= 131071 := by
 unfold YB
 split
 ·omega
 ·rename_i x _
  have h1 : (2 : Nat) ^ (min x.cs.length 16 + 1) <= 2 ^ 17 := Nat.pow_le_pow_right (by omega) (by omega)
  have h2 : 1 <= (2 : Nat) ^ (min x.cs.length 16 + 1) := Nat.one_le_two_pow
  have h3 : ((2 ^ (min x.cs.length 16 + 1) : Nat) : Int) = (2 : Int) ^ (min x.cs.length 16 + 1) := by simp
  rw [<- h3]
  have h4 : (2 : Nat) ^ 17 = 131072 := by decide
  omega
def Qfu (v : Vr) : Prop := v.p.length <= 1000000 /\ v.q.length <= 1000000
structure WSm (w : Qn) : Prop where
 len : w.length <= 48
 cs : ∀ u ∈ w, u.cs.length <= 16
 vs : ∀ u ∈ w, ∀ c ∈ u.cs, Qfu c.v
 ns : ∀ u ∈ w, ∀ c ∈ u.cs, c.ns.length <= 1000 /\ c.bs.length <= 1000
 nl : ∀ u ∈ w, ∀ c ∈ u.cs, ∀ r ∈ c.ns, r.length <= 1000
 nw : ∀ u ∈ w, ∀ c ∈ u.cs, ∀ r ∈ c.ns, ∀ x ∈ r, Sm x.s.1 /\ Sm x.s.2
 bw : ∀ u ∈ w, ∀ c ∈ u.cs, ∀ x ∈ c.bs, Sm x.s.1 /\ Sm x.s.2
def QqX (s : Qg1) (v : Vr) : Bool := QqH s v.a v.b v.c v.p v.q
def QpY (s : Qg1) (l : List CandT) : Nat -> Int
 | 0 => 0
 | n + 1 => QpY s l n + match l[n]? with
  | some c => if QqX s c.v = true then 2 ^ (n + 1) else 0
  | none => 0
def QqR (w : Qn) (x : WantT) : Int := match uAt w x.u with
 | none => 0
 | some un => QpY x.s un.cs (min un.cs.length 16)
theorem Qp3 {n : Nat} (h : n <= 17) : 1 <= (2 : Int) ^ n /\ (2 : Int) ^ n <= 131072 := by
 have h1 : (2 : Nat) ^ n <= 2 ^ 17 := Nat.pow_le_pow_right (by omega) h
 have h2 : 1 <= (2 : Nat) ^ n := Nat.one_le_two_pow
 have h3 : ((2 ^ n : Nat) : Int) = (2 : Int) ^ n := by simp
 rw [<- h3]
 have h4 : (2 : Nat) ^ 17 = 131072 := by decide
 omega
def QcQ (w : Qn) (c : List Int) (u : Int) : Int := match uAt w u with
 | none => 0
 | some x => if (c.length : Int) <= u then 0 else if c.getD u.toNat 0 < -1 \/ ((min x.cs.length 16 : Nat) : Int) <= c.getD u.toNat 0 then 0 else 2 ^ (c.getD u.toNat 0 + 1).toNat
def Yd (m : Int) : Nat -> List Int
 | 0 => []
 | n + 1 => Yd m n ++ if Y9 m (2 ^ n) = 0 then [] else [(n : Int) - 1]
def QdP (m : Int) : List Int := Yd m 17
def QnX (f : Int) (u : Int) : List Zo -> Int
 | [] => f
 | t :: r => if t.u = u then t.m else QnX f u r
def QpW (w : Qn) (l : List Zo) (u : Int) : Int := QnX (YB w u) u l
def Qgm (w : Qn) : Nat -> List Int
 | 0 => []
 | n + 1 => Qgm w n ++ [YB w n]
theorem Qew (w : Qn) : ∀ n, (Qgm w n).length = n
 | 0 => rfl
 | n + 1 => by rw [Qgm, List.length_append, Qew w n]; rfl
def QhP (w : Qn) : List Int := Qgm w w.length
def QfU (w : Qn) (ms : List Int) : Nat -> List Zo
 | 0 => []
 | n + 1 => QfU w ms n ++ if ms.getD n 0 = YB w n then [] else [⟨n, ms.getD n 0⟩]
def QpV (w : Qn) (ms : List Int) : Option (List Zo) := if ms.all (fun m => !decide (m = 0)) = true then some (QfU w ms ms.length) else none
def QfS (ms : List Int) (l : List Zo) : List Int := l.foldl (fun ms t => ms.set t.u.toNat (Y9 (ms.getD t.u.toNat 0) t.m)) ms
def inW (w : Qn) (u : Int) : Bool := decide (0 <= u) && decide (u < w.length)
def QlY (w : Qn) (l : List Zo) : Option (List Zo) := if l.all (fun t => inW w t.u) = true then QpV w (QfS (QhP w) l) else none
def QqG (l : List Zo) (u : Int) : List Zo := l.filter fun t => !decide (t.u = u)
def QbN (l : List Zo) : Nat -> List Zo
 | 0 => []
 | n + 1 => QbN l n ++ l.filter fun t => decide (t.u = ((n : Nat) : Int))
def Ql2 (l : List Zo) : List Zo := QbN l 48
def QgD (w : Qn) (u : Int) (p : Nat) (l : List WantT) (bar : Bool) : Option (List Zo) :=
 QlY w (⟨u, Y9 (YB w u) (2 * 2 ^ p)⟩ :: l.map fun x => ⟨x.u, if bar = true then QqR w x else YB w x.u - QqR w x⟩)
def QqF (r x : RowT) : Bool := decide (x.k = r.k) && decide (x.u = r.u) && decide (QqG x.t r.u = QqG r.t r.u)
def QpK (w : Qn) (r x : RowT) : RowT := { x with t := Ql2 (⟨r.u, bor (QpW w x.t r.u) (QpW w r.t r.u)⟩ :: QqG x.t r.u) }
def QgF (w : Qn) (r : RowT) : List RowT -> List RowT
 | [] => [r]
 | x :: l => if QqF r x = true then QpK w r x :: l else x :: QgF w r l
def Qh0 (w : Qn) (u : Int) (p : Nat) (l : List (List WantT)) (rows : List RowT) : List RowT := l.foldl (fun rows n => match QgD w u p n false with
 | some t => QgF w ⟨2, u, 0, 0, t⟩ rows
 | none => rows) rows
def Qk9 (w : Qn) (u : Int) (p : Nat) (l : List WantT) (rows : List RowT) : List RowT := l.foldl (fun rows n => match QgD w u p [n] true with
 | some t => QgF w ⟨3, u, 0, 0, t⟩ rows
 | none => rows) rows
def QbZ (w : Qn) (u : Int) (cs : List CandT) : Nat -> List RowT -> List RowT
 | 0, rows => rows
 | n + 1, rows => match cs[n]? with
  | some c => Qk9 w u n c.bs (Qh0 w u n c.ns (QbZ w u cs n rows))
  | none => QbZ w u cs n rows
def Qb4 (w : Qn) : Nat -> List RowT
 | 0 => [⟨1, 0, 0, 0, [⟨0, 1⟩]⟩]
 | n + 1 => match w[n]? with
  | some u => QbZ w n u.cs u.cs.length (Qb4 w n)
  | none => Qb4 w n
def QpR (w : Qn) : List RowT := Qb4 w w.length
def mDB (w : Qn) : List (List Zo) := (QpR w).map RowT.t
/-! ### Trails -/
def Q7 (w : Qn) (l : List QD) (u : Int) : Int := l.foldl (fun a s => if s.u = u /\ inW w u = true then s.m else a) (YB w u)
def Yw (l : List QD) : Int := match l.getLast? with
 | none => 0
 | some s => s.l
def ZX (l : List QD) (u : Int) : Bool := l.any fun s => decide (s.u = u) && decide (s.c = -1)
def Qnf : List Int -> Int
 | [x] => x
 | _ => -1
def Yx (m : Int) : Int := Qnf (QdP m)
def Qaz (w : Qn) (l : List QD) (s : QD) : Bool :=
 inW w s.u && decide (-1 <= s.c) && decide (Y9 s.m (Q7 w l s.u) = s.m) &&
  if s.c = -1 then decide (0 <= Yx s.m) && !ZX l s.u && decide (s.l = IntKind.i64.wrap (Yw l + 1))
  else !decide (s.m = 0) && !decide (s.m = Q7 w l s.u) && decide (s.l = Yw l)
def YH (w : Qn) (l : List QD) : Bool := (List.range l.length).all fun i => match l[i]? with
 | some s => Qaz w (l.take i) s
 | none => true
def QhU (w : Qn) (l : List QD) (inc : List Zo) : Bool := inc.all fun t => decide (QeT (Q7 w l t.u) t.m = 2)
def QgJ (have_ : Int -> Int) : List Zo -> Int -> Int
 | [], at_ => at_
 | t :: r, at_ => if QeT (have_ t.u) t.m = 0 then -1 else if QeT (have_ t.u) t.m = 1 then (if 0 <= at_ then -1 else QgJ have_ r t.u) else QgJ have_ r at_
def QpX (w : Qn) (l : List QD) (inc : List Zo) : Int := QgJ (Q7 w l) inc (-1)
def Qke (w : Qn) (l : List QD) : Nat -> List (List Zo) -> Int × Int
 | _, [] => (-1, -1)
 | i, x :: r => if QhU w l x = true then (i, -1) else if 0 <= QpX w l x then (i, QpX w l x) else Qke w l (i + 1) r
def QqI (w : Qn) (db : List (List Zo)) (l : List QD) : Int × Int := Qke w l 0 db
def XZ (w : Qn) (l : List QD) (t : Zo) (c : Int) : Option (List QD) :=
 if c < 0 \/ inW w t.u = false then none
 else if IntKind.i64.wrap (Q7 w l t.u - Y9 (Q7 w l t.u) t.m) = 0 \/ IntKind.i64.wrap (Q7 w l t.u - Y9 (Q7 w l t.u) t.m) = Q7 w l t.u then none
 else some (l ++ [⟨t.u, IntKind.i64.wrap (Q7 w l t.u - Y9 (Q7 w l t.u) t.m), Yw l, c⟩])
def XY (w : Qn) (l : List QD) (u p : Int) : Option (List QD) := match uAt w u with
 | none => none
 | some x => if p < 0 \/ (x.cs.length : Int) <= p then none
  else if Qaz w l ⟨u, IntKind.i64.wrap (2 * 2 ^ min p.toNat 64), IntKind.i64.wrap (Yw l + 1), -1⟩ = true then some (l ++ [⟨u, IntKind.i64.wrap (2 * 2 ^ min p.toNat 64), IntKind.i64.wrap (Yw l + 1), -1⟩]) else none
def dOS (o : Option (List QD)) : D := .tup [Z7 (o.getD []), .bool o.isSome]
end M25
namespace M25
open Go Go.Abs M3
section
variable {fr : List (Nat × D)} {H : List (Nat × Box)} {t u : Nat}
theorem QmH {k n : Nat} {b : Box} {d : D} (hb : lk H k = some b) (hp : b.pr = true) (hn : n = b.rows.length) (hd : .sl b.rows = d) : QaY ⟨fr, H⟩ (.osl k n) = d := by
 unfold QaY; rw [QqC (S := Qc5) rfl hb hp hn]; exact hd
theorem Qj8 {e : AExit} {k n : Nat} {b : Box} {d : D} (h : lk fr t = some (.osl k n)) (hb : lk H k = some b) (hp : b.pr = true) (hn : n = b.rows.length) (hd : .sl b.rows = d) (he : e = .ret \/ e = .normal := by first | exact .inl rfl | exact .inr rfl) : Post [.tmp t] d e ⟨fr, H⟩ :=
 Z8 h (QmH hb hp hn hd) he
end
theorem QqJ (n : Nat) : (min (n : Int) 16 + 1).toNat = min n 16 + 1 := by omega
theorem Qin {n : Nat} (h : n <= 62) : IntKind.i64.wrap ((2 : Int) ^ n - 1) = 2 ^ n - 1 := by
 have := Qi1 h; exact Qr (by omega) (by omega)
theorem XL {w : Qn} {c : List Int} {u : Int} (h : (u < 0 \/ (w.length : Int) <= u) \/ (c.length : Int) <= u) : QcQ w c u = 0 := by
 unfold QcQ
 split
 ·rfl
 ·rename_i x hx
  rcases h with h | h
  ·rw [Qmy h] at hx; cases hx
  ·rw [if_pos h]
theorem XK {w : Qn} {c : List Int} {u : Int} (h0 : 0 <= u) (h1 : u < w.length) (h2 : u < c.length) (h : c[u.toNat]'(by omega) < -1 \/ min (((w[u.toNat]'(by omega)).cs.length : Nat) : Int) 16 <= c[u.toNat]'(by omega)) : QcQ w c u = 0 := by
 rw [QcQ, Qkh h0 h1]
 simp only []
 rw [if_neg (by omega), List.getD_eq_getElem?_getD, List.getElem?_eq_getElem (by omega)]
 simp only [Option.getD_some]
 rw [if_pos]
 rcases h with h | h
 ·exact .inl h
 ·right; omega
theorem QaA {w : Qn} {c : List Int} {u : Int} (h0 : 0 <= u) (h1 : u < w.length) (h2 : u < c.length) (h : ¬ c[u.toNat]'(by omega) < -1) (h' : ¬ min (((w[u.toNat]'(by omega)).cs.length : Nat) : Int) 16 <= c[u.toNat]'(by omega)) : QcQ w c u = 2 ^ (c[u.toNat]'(by omega) + 1).toNat := by
 rw [QcQ, Qkh h0 h1]
 simp only []
 rw [if_neg (by omega), List.getD_eq_getElem?_getD, List.getElem?_eq_getElem (by omega)]
 simp only [Option.getD_some]
 rw [if_neg]
 omega
theorem QjB {m : Int} {n : Nat} (h : ¬ Y9 m (2 ^ n) = 0) : Yd m (n + 1) = Yd m n ++ [(n : Int) - 1] := by rw [Yd, if_neg h]
theorem Qlm {m : Int} {n : Nat} (h : Y9 m (2 ^ n) = 0) : Yd m (n + 1) = Yd m n := by rw [Yd, if_pos h, List.append_nil]
theorem QjM {w : Qn} {u : Int} (h0 : 0 <= u) (h : u < w.length) : inW w u = true := by simp [inW, h0, h]
theorem QeC {w : Qn} {u : Int} (h : u < 0 \/ (w.length : Int) <= u) : inW w u = false := by
 simp only [inW, Bool.and_eq_false_iff, decide_eq_false_iff_not]; omega
theorem Qcf {w : Qn} {u : Int} : inW w u = true ↔ 0 <= u /\ u < w.length := by simp [inW]
theorem QkG (l : List Zo) : ∀ ms : List Int, (QfS ms l).length = ms.length := by
 induction l with
 | nil => intro ms; rfl
 | cons t l ih => intro ms; rw [QfS, List.foldl_cons]; exact (ih _).trans (List.length_set ..)
theorem Qkl {e : Int} (h1 : 0 <= e) (h2 : e <= 18446744073709551615) : IntKind.u64.wrap e = e := by
 unfold IntKind.wrap
 simp only [IntKind.bits, IntKind.signed, Bool.false_and, Bool.false_eq_true, if_false]
 omega
theorem Qly (w : Qn) (l : List Zo) : (QfS (QhP w) l).length = w.length := by rw [QkG, QhP, Qew]
end M25
namespace Go.Proofs
open Go Go.Abs M3 M25
set_option linter.unusedVariables false
set_option linter.unusedSimpArgs false
theorem QbS {w : Qn} (hw : WSm w) {u : Int} : Ok Try.prog 18 [XV w, .int .i64 u] (.int .i64 (YB w u)) := by
 refine Ok.ofT Yi Try.func18 Qq8 (Nat.le_of_ble_eq_true Z) ?_
 show TW _ _ tf18.body _ _
 refine Qf fun K hK => Z1 Z Z Z (Qa Z (hK _ _ (Qb (kp2 Z Z) ?_)))
 refine QH ?_ -- 0
 refine Qf fun K hK => Qa Z (YY Z Z (Qa Z ?_))
 refine QA (g := 7) Z (fun h1 => ?_) (fun h1 => ?_)
 ·try rw [h1]
  try simp only [qA] at h1
  refine Qo Z (Qo Z (Qo Z (Qo Z (Qo Z (Qj Z Z (hK _ _ (Qb (kp3 Z Z Z) ?_)))))))
  refine ZD Z (Qf fun K hK => Qa Z (hK _ _ (Qb (kp1 Z) ?_)))
  refine Qv (Qm (Qx Z ?_))
  rw [QcM (by omega)]
 ·try rw [h1]
  try simp only [qA] at h1
  refine Qg Z (Qa Z (Qg Z (Qk Z Z (Qg Z (QE Z Z Z (Qg Z (Q5 Z Z (Qg Z (Qhc Z Z (Qj Z Z (hK _ _ (Qb (kp3 Z Z Z) ?_))))))))))))
  refine QC Z (fun h2 => ?_) (fun h2 => ?_)
  ·try rw [h2]
   try simp only [qA] at h2
   refine Qf fun K hK => Qa Z (hK _ _ (Qb (kp1 Z) ?_))
   refine Qv (Qm (Qx Z ?_))
   rw [QcM (by omega)]
  ·try rw [h2]
   try simp only [qA] at h2
   refine Qy (Qe (kp2 Z Z) (Qf fun K hK => Qk Z Z (QE Z Z Z (Qa Z (QV Z Z Z (by omega) (ZW (by omega) (by omega)) Z (ZV Z Z (QE Z Z Z (Q5 Z Z (Qpq Z Z (Zb Z Z (by first | exact Qr (by omega) (by omega) | rfl) ?_))))))))))
   refine QB (XP (by omega) (by omega)) Z Z (.inr Z) (Qa9 Z Z (Qin (by omega)) (Qa Z (hK _ _ (Qb (kp1 Z) ?_))))
   refine Qv (Qx Z ?_)
   rw [QcL (by omega) (by omega), List.length_map, QqJ]
theorem Qbd {w : Qn} (hw : WSm w) {c : List Int} {u : Int} : Ok Try.prog 17 [XV w, ZJ c, .int .i64 u] (.int .i64 (QcQ w c u)) := by
 refine Ok.ofT Yi Try.func17 Qq7 (Nat.le_of_ble_eq_true Z) ?_
 show TW _ _ tf17.body _ _
 refine Qf fun K hK => Z1 Z Z Z (Qa Z (hK _ _ (Qb (kp3 Z Z Z) ?_)))
 refine QH ?_ -- 0
 refine Qf fun K hK => Qa Z (YY Z Z (Qa Z ?_))
 refine QA (g := 9) Z (fun h1 => ?_) (fun h1 => ?_)
 ·try rw [h1]
  try simp only [qA] at h1
  refine Qo Z (Qo Z (Qo Z (Qo Z (Qo Z (Qj Z Z (Qa Z (Qo Z (Qo Z (Qo Z (Qo Z (Qj Z Z ?_)))))))))))
  refine hK _ _ (Qb (kp4 Z Z Z Z) ?_)
  refine ZD Z (Qf fun K hK => Qa Z (hK _ _ (Qb (kp1 Z) ?_)))
  refine Qv (Qm (Qx Z ?_))
  first | rw [XL (by omega)] | rw [XK (by omega) (by omega) (by omega) (by first | exact .inl (by assumption) | exact .inr (by simpa using h5))] | rw [QaA (by omega) (by omega) (by omega) (by assumption) (by simpa using h5)]
 ·try rw [h1]
  try simp only [qA] at h1
  refine Qg Z (Qa Z (Qg Z (Qk Z Z (Qg Z (QE Z Z Z (Qg Z (Q5 Z Z (Qg Z (Qhc Z Z (Qj Z Z (Qa Z ?_)))))))))))
  refine QA (g := 16) Z (fun h2 => ?_) (fun h2 => ?_)
  ·try rw [h2]
   try simp only [qA] at h2
   refine Qo Z (Qo Z (Qo Z (Qo Z (Qj Z Z (hK _ _ (Qb (kp4 Z Z Z Z) ?_))))))
   refine ZD Z (Qf fun K hK => Qa Z (hK _ _ (Qb (kp1 Z) ?_)))
   refine Qv (Qm (Qx Z ?_))
   first | rw [XL (by omega)] | rw [XK (by omega) (by omega) (by omega) (by first | exact .inl (by assumption) | exact .inr (by simpa using h5))] | rw [QaA (by omega) (by omega) (by omega) (by assumption) (by simpa using h5)]
  ·try rw [h2]
   try simp only [qA] at h2
   refine Qg Z (Qa Z (Qg Z (Qa Z (Qg Z (Q5 Z Z (Qg Z (Qhc Z Z (Qj Z Z (hK _ _ (Qb (kp4 Z Z Z Z) ?_))))))))))
   refine QC Z (fun h3 => ?_) (fun h3 => ?_)
   ·try rw [h3]
    try simp only [qA] at h3
    refine Qf fun K hK => Qa Z (hK _ _ (Qb (kp1 Z) ?_))
    refine Qv (Qm (Qx Z ?_))
    first | rw [XL (by omega)] | rw [XK (by omega) (by omega) (by omega) (by first | exact .inl (by assumption) | exact .inr (by simpa using h5))] | rw [QaA (by omega) (by omega) (by omega) (by assumption) (by simpa using h5)]
   ·try rw [h3]
    try simp only [qA] at h3
    refine Qy (Qe (kp3 Z Z Z) ?_)
    refine QH ?_ -- 1
    refine Qf fun K hK => Qa Z (Qa Z (QV Z Z Z (by omega) (ZW (by omega) (by omega)) Z (Zr (ds0 := [15, 14, 13, 12, 11, 10, 9, 8, 7, 6, 5, 4, 3, 2, 1, 0]) Z Z Z Z Z (YY Z Z (Qa Z ?_)))))
    refine QA (g := 27) Z (fun h4 => ?_) (fun h4 => ?_)
    ·try rw [h4]
     try simp only [qA] at h4
     refine Qo Z (Qo Z (Qo Z (Qo Z (Qo Z (Qo Z (Qo Z (Qo Z (Qo Z (Qo Z (Qo Z (Qo Z ?_)))))))))))
     refine Qo Z (Qj Z Z (hK _ _ (Qb (kp3 Z Z Z) ?_)))
     refine ZD Z (Qf fun K hK => Qa Z (hK _ _ (Qb (kp1 Z) ?_)))
     refine Qv (Qm (Qx Z ?_))
     first | rw [XL (by omega)] | rw [XK (by omega) (by omega) (by omega) (by first | exact .inl (by assumption) | exact .inr (by simpa using h5))] | rw [QaA (by omega) (by omega) (by omega) (by assumption) (by simpa using h5)]
    ·try rw [h4]
     try simp only [qA] at h4
     refine Qg Z (Qa Z (Qg Z (Qa Z (Qg Z (QV Z Z Z (by omega) (ZW (by omega) (by omega)) Z (Qg Z (Zr (ds0 := [1, 0]) Z Z Z Z Z (Qg Z (Qk Z Z (Qg Z (Zr (ds0 := [6, 5, 4, 3, 2, 1, 0]) Z Z Z Z Z ?_)))))))))))
     refine Qg Z (Qa Z (Qg Z (QV Z Z Z (by omega) (ZW (by omega) (by omega)) Z (Qg Z (ZV Z Z (Qg Z (Zr (ds0 := [3, 2, 1, 0]) Z Z Z Z Z (Qg Z (Q5 Z Z (Qg Z (Qpq Z Z ?_)))))))))))
     refine Qg Z (Qhc Z Z (Qj Z Z (hK _ _ (Qb (kp3 Z Z Z) ?_))))
     refine QC Z (fun h5 => ?_) (fun h5 => ?_)
     ·try rw [h5]
      try simp only [qA] at h5
      refine Qf fun K hK => Qa Z (hK _ _ (Qb (kp1 Z) ?_))
      refine Qv (Qm (Qx Z ?_))
      first | rw [XL (by omega)] | rw [XK (by omega) (by omega) (by omega) (by first | exact .inl (by assumption) | exact .inr (by simpa using h5))] | rw [QaA (by omega) (by omega) (by omega) (by assumption) (by simpa using h5)]
     ·try rw [h5]
      try simp only [qA] at h5
      refine Qy (Qe (kp2 Z Z) (Qf fun K hK => Qa Z (Qa Z (QV Z Z Z (by omega) (ZW (by omega) (by omega)) Z (QE Z Z Z (Zb Z Z (by first | exact Qr (by omega) (by omega) | rfl) (QB (XP (by omega) (by omega)) Z Z (.inr Z) (Qa Z (hK _ _ (Qb (kp1 Z) ?_))))))))))
      refine Qv (Qx Z ?_)
      first | rw [XL (by omega)] | rw [XK (by omega) (by omega) (by omega) (by first | exact .inl (by assumption) | exact .inr (by simpa using h5))] | rw [QaA (by omega) (by omega) (by omega) (by assumption) (by simpa using h5)]
end Go.Proofs
namespace M25
open Go Go.Abs M3
def IncOk (w : Qn) (l : List Zo) : Prop := l.Pairwise (fun a b => a.u < b.u) /\ ∀ t ∈ l, 0 <= t.u /\ t.u < w.length
theorem Qf1 : ∀ (l : List Zo) (a b : Int), l.Pairwise (fun x y => x.u < y.u) -> (∀ t ∈ l, a <= t.u /\ t.u < b) -> a <= b -> (l.length : Int) <= b - a
 | [], a, b, _, _, h => by simp; omega
 | t :: l, a, b, hp, hb, h => by
  rw [List.pairwise_cons] at hp
  have h1 := hb t (by simp)
  have := Qf1 l (t.u + 1) b hp.2 (fun s hs => ⟨by have := hp.1 s hs; omega, (hb s (by simp [hs])).2⟩) (by omega)
  simp only [List.length_cons]; omega
theorem IncOk.len {w : Qn} {l : List Zo} (h : IncOk w l) : l.length <= w.length := by
 have := Qf1 l 0 w.length h.1 h.2 (by omega)
 omega
theorem QhW (w : Qn) (ms : List Int) : ∀ n, (QfU w ms n).Pairwise (fun a b => a.u < b.u) /\ ∀ t ∈ QfU w ms n, 0 <= t.u /\ t.u < n
 | 0 => ⟨List.Pairwise.nil, by simp [QfU]⟩
 | n + 1 => by
  obtain ⟨h1, h2⟩ := QhW w ms n
  rw [QfU]
  split
  ·rw [List.append_nil]; exact ⟨h1, fun t ht => by have := h2 t ht; omega⟩
  ·refine ⟨List.pairwise_append.2 ⟨h1, List.pairwise_singleton _ _, fun a ha b hb => ?_⟩, fun t ht => ?_⟩
   ·simp only [List.mem_singleton] at hb; subst hb; exact (h2 a ha).2
   ·rcases List.mem_append.1 ht with ht | ht
    ·have := h2 t ht; omega
    ·simp only [List.mem_singleton] at ht; subst ht; simp only; omega
theorem QhS {w : Qn} {l t : List Zo} (h : QlY w l = some t) : IncOk w t := by
 unfold QlY at h
 split at h
 ·unfold QpV at h
  split at h
  ·cases h
   obtain ⟨h1, h2⟩ := QhW w (QfS (QhP w) l) (QfS (QhP w) l).length
   refine ⟨h1, fun t ht => ?_⟩
   have := h2 t ht
   rw [Qly] at this
   exact this
  ·cases h
 ·cases h
theorem IncOk.ne {w : Qn} {l : List Zo} (h : IncOk w l) : l.Pairwise (fun a b => a.u ≠ b.u) := h.1.imp fun h => by omega
theorem Qe9 {l : List Zo} (hl : l.Pairwise (fun a b => a.u ≠ b.u)) : ∀ n, (QbN l n).Pairwise (fun a b => a.u < b.u) /\ ∀ t ∈ QbN l n, t ∈ l /\ 0 <= t.u /\ t.u < n
 | 0 => ⟨List.Pairwise.nil, by simp [QbN]⟩
 | n + 1 => by
  obtain ⟨h1, h2⟩ := Qe9 hl n
  rw [QbN]
  have hf : ∀ t ∈ l.filter (fun t => decide (t.u = ((n : Nat) : Int))), t ∈ l /\ t.u = n := fun t ht => by
   simpa using List.mem_filter.1 ht
  refine ⟨List.pairwise_append.2 ⟨h1, ?_, fun a ha b hb => ?_⟩, fun t ht => ?_⟩
  ·refine List.Pairwise.imp_of_mem (fun {a b} ha hb hab => ?_) (hl.filter _)
   have := (hf a ha).2
   have := (hf b hb).2
   omega
  ·rw [(hf b hb).2]; exact (h2 a ha).2.2
  ·rcases List.mem_append.1 ht with ht | ht
   ·have := h2 t ht; exact ⟨this.1, by omega, by omega⟩
   ·have := hf t ht; exact ⟨this.1, by omega, by omega⟩
theorem QkH {w : Qn} {l : List Zo} (hl : l.Pairwise (fun a b => a.u ≠ b.u)) (hb : ∀ t ∈ l, 0 <= t.u /\ t.u < w.length) : IncOk w (Ql2 l) := by
 obtain ⟨h1, h2⟩ := Qe9 hl 48
 exact ⟨h1, fun t ht => hb t (h2 t ht).1⟩
theorem Qm5 {w : Qn} {r x : RowT} (hx : IncOk w x.t) (h0 : 0 <= r.u) (h1 : r.u < w.length) : IncOk w (QpK w r x).t := by
 refine QkH (List.pairwise_cons.2 ⟨fun t ht => ?_, hx.ne.filter _⟩) fun t ht => ?_
 ·have := (List.mem_filter.1 ht).2
  simp only [Bool.not_eq_true', decide_eq_false_iff_not] at this
  exact fun e => this e.symm
 ·rcases List.mem_cons.1 ht with rfl | ht
  ·exact ⟨h0, h1⟩
  ·exact hx.2 t (List.mem_filter.1 ht).1
def Qcl (w : Qn) (rows : List RowT) : Prop := ∀ x ∈ rows, IncOk w x.t
theorem Qi2 {w : Qn} {r : RowT} (hr : IncOk w r.t) (h0 : 0 <= r.u) (h1 : r.u < w.length) : ∀ {rows : List RowT}, Qcl w rows -> Qcl w (QgF w r rows)
 | [], _ => fun x hx => by
  simp only [QgF, List.mem_singleton] at hx; subst hx; exact hr
 | y :: rows, h => fun x hx => by
  rw [QgF] at hx
  split at hx
  ·rcases List.mem_cons.1 hx with rfl | hx
   ·exact Qm5 (h y (by simp)) h0 h1
   ·exact h x (by simp [hx])
  ·rcases List.mem_cons.1 hx with rfl | hx
   ·exact h x (by simp)
   ·exact Qi2 hr h0 h1 (fun z hz => h z (by simp [hz])) x hx
theorem QgO (w : Qn) (r : RowT) : ∀ rows : List RowT, (QgF w r rows).length <= rows.length + 1
 | [] => by simp [QgF]
 | x :: rows => by
  have := QgO w r rows
  rw [QgF]; split <;> simp <;> omega
theorem QeV {w : Qn} {u : Int} {p : Nat} (h0 : 0 <= u) (h1 : u < w.length) : ∀ {l : List (List WantT)} {rows : List RowT}, Qcl w rows -> Qcl w (Qh0 w u p l rows) /\ (Qh0 w u p l rows).length <= rows.length + l.length
 | [], rows, h => ⟨h, Nat.le_refl _⟩
 | x :: l, rows, h => by
  rw [Qh0, List.foldl_cons]
  cases hc : QgD w u p x false with
  | none =>
   obtain ⟨q1, q2⟩ := QeV h0 h1 (l := l) h
   exact ⟨q1, Nat.le_trans q2 (by simp)⟩
  | some t =>
   obtain ⟨q1, q2⟩ := QeV (p := p) h0 h1 (l := l) (Qi2 (r := ⟨2, u, 0, 0, t⟩) (QhS hc) h0 h1 h)
   have := QgO w ⟨2, u, 0, 0, t⟩ rows
   exact ⟨q1, Nat.le_trans q2 (by simp only [List.length_cons]; omega)⟩
theorem Qge {w : Qn} {u : Int} {p : Nat} (h0 : 0 <= u) (h1 : u < w.length) : ∀ {l : List WantT} {rows : List RowT}, Qcl w rows -> Qcl w (Qk9 w u p l rows) /\ (Qk9 w u p l rows).length <= rows.length + l.length
 | [], rows, h => ⟨h, Nat.le_refl _⟩
 | x :: l, rows, h => by
  rw [Qk9, List.foldl_cons]
  cases hc : QgD w u p [x] true with
  | none =>
   obtain ⟨q1, q2⟩ := Qge h0 h1 (l := l) h
   exact ⟨q1, Nat.le_trans q2 (by simp)⟩
  | some t =>
   obtain ⟨q1, q2⟩ := Qge (p := p) h0 h1 (l := l) (Qi2 (r := ⟨3, u, 0, 0, t⟩) (QhS hc) h0 h1 h)
   have := QgO w ⟨3, u, 0, 0, t⟩ rows
   exact ⟨q1, Nat.le_trans q2 (by simp only [List.length_cons]; omega)⟩
theorem QmL {w : Qn} {u : Int} {cs : List CandT} {n : Nat} {rows : List RowT} (h : n < cs.length) : QbZ w u cs (n + 1) rows = Qk9 w u n cs[n].bs (Qh0 w u n cs[n].ns (QbZ w u cs n rows)) := by
 rw [QbZ, List.getElem?_eq_getElem h]
theorem Qhr {w : Qn} {u : Int} {cs : List CandT} (h0 : 0 <= u) (h1 : u < w.length) (hc : ∀ c ∈ cs, c.ns.length <= 1000 /\ c.bs.length <= 1000) {rows : List RowT} (h : Qcl w rows) : ∀ n, n <= cs.length -> Qcl w (QbZ w u cs n rows) /\ (QbZ w u cs n rows).length <= rows.length + n * 2000
 | 0, _ => ⟨h, by simp [QbZ]⟩
 | n + 1, hn => by
  obtain ⟨q1, q2⟩ := Qhr h0 h1 hc h n (by omega)
  rw [QmL (by omega)]
  obtain ⟨q3, q4⟩ := QeV (p := n) h0 h1 (l := cs[n].ns) q1
  obtain ⟨q5, q6⟩ := Qge (p := n) h0 h1 (l := cs[n].bs) q3
  have := hc cs[n] (List.getElem_mem _)
  exact ⟨q5, by omega⟩
theorem QoZ {w : Qn} {n : Nat} (h : n < w.length) : Qb4 w (n + 1) = QbZ w n w[n].cs w[n].cs.length (Qb4 w n) := by
 rw [Qb4, List.getElem?_eq_getElem h]
theorem Qe4 {w : Qn} (hw : WSm w) (h0 : 0 < w.length) : ∀ n, n <= w.length -> Qcl w (Qb4 w n) /\ (Qb4 w n).length <= 1 + n * 32000
 | 0, _ => ⟨fun x hx => by
   simp only [Qb4, List.mem_singleton] at hx; subst hx
   exact ⟨List.pairwise_singleton _ _, fun t ht => by simp only [List.mem_singleton] at ht; subst ht; exact ⟨Int.le_refl _, by simp only; omega⟩⟩, by simp [Qb4]⟩
 | n + 1, hn => by
  obtain ⟨q1, q2⟩ := Qe4 hw h0 n (by omega)
  rw [QoZ (by omega)]
  obtain ⟨q3, q4⟩ := Qhr (u := n) (by omega) (by omega) (fun c hc => hw.ns w[n] (List.getElem_mem _) c hc) q1 w[n].cs.length (Nat.le_refl _)
  have := hw.cs w[n] (List.getElem_mem _)
  refine ⟨q3, ?_⟩
  have h5 : w[n].cs.length * 2000 <= 16 * 2000 := Nat.mul_le_mul_right _ this
  omega
theorem QpS {w : Qn} (hw : WSm w) (h0 : 0 < w.length) : ∀ t ∈ mDB w, IncOk w t := fun t ht => by
 obtain ⟨r, hr, rfl⟩ := List.mem_map.1 ht
 exact (Qe4 hw h0 w.length (Nat.le_refl _)).1 r hr
theorem QoO {w : Qn} (hw : WSm w) (h0 : 0 < w.length) : (mDB w).length <= 1600000 := by
 have := (Qe4 hw h0 w.length (Nat.le_refl _)).2
 have := hw.len
 rw [mDB, List.length_map, QpR]; omega
theorem QoY {l : List QD} : ∀ r ∈ l.map Qeo, r.length = 4 := fun r hr => by obtain ⟨x, _, rfl⟩ := List.mem_map.1 hr; rfl
end M25
namespace M25
open Go Go.Abs M3
/-! ### Bits of numbers -/
theorem QgY (e : Int) : IntKind.i64.wrap e = (BitVec.ofInt 64 e).toInt := by
 have hb : (BitVec.ofInt 64 e).toInt = if e % 18446744073709551616 < 9223372036854775808 then e % 18446744073709551616 else e % 18446744073709551616 - 18446744073709551616 := by
  rw [BitVec.toInt_ofInt]; rfl
 rw [hb]
 unfold IntKind.wrap
 simp only [IntKind.bits, IntKind.signed, Bool.true_and]
 split
 ·rename_i h
  have := of_decide_eq_true h
  split <;> omega
 ·rename_i h
  have : ¬ (e % 2 ^ 64 >= 2 ^ (64 - 1)) := fun hh => h (decide_eq_true hh)
  split <;> omega
theorem QeX (b : BitVec 64) : BitVec.ofInt 64 (b.toNat : Int) = b := by
 rw [BitVec.ofInt_natCast, BitVec.ofNat_toNat, BitVec.setWidth_eq]
theorem QnM (x y : Int) : BitVec.ofInt 64 (Y9 x y) = BitVec.ofInt 64 x &&& BitVec.ofInt 64 y := by
 show BitVec.ofInt 64 (IntKind.i64.wrap ((BitVec.ofInt 64 x &&& BitVec.ofInt 64 y).toNat : Int)) = _
 rw [QgY, BitVec.ofInt_toInt, QeX]
theorem QnN (x y : Int) : BitVec.ofInt 64 (Qiq x y) = BitVec.ofInt 64 x &&& ~~~ BitVec.ofInt 64 y := by
 show BitVec.ofInt 64 (IntKind.i64.wrap ((BitVec.ofInt 64 x &&& ~~~ BitVec.ofInt 64 y).toNat : Int)) = _
 rw [QgY, BitVec.ofInt_toInt, QeX]
theorem QjK {x : Int} (h : I64 x) : IntKind.i64.wrap x = x := Qr h.1 h.2
theorem Qju {x : Int} (h : I64 x) : (BitVec.ofInt 64 x).toInt = x := by rw [<- QgY, QjK h]
theorem Qgt (x y : Int) : I64 (Y9 x y) := Qfe _
theorem QiO (x y : Int) : I64 (Qiq x y) := Qfe _
def tb (x : Int) (i : Nat) : Bool := (BitVec.ofInt 64 x).getLsbD i
theorem Qil (x y : Int) (i : Nat) : tb (Y9 x y) i = (tb x i && tb y i) := by rw [tb, QnM, BitVec.getLsbD_and]; rfl
theorem Qmx (x y : Int) {i : Nat} : tb (Qiq x y) i = (tb x i && !tb y i) := by
 rw [tb, QnN, BitVec.getLsbD_and, BitVec.getLsbD_not]
 by_cases h : i < 64
 ·simp [h, tb]
 ·simp [tb, BitVec.getLsbD_of_ge _ i (by omega : 64 <= i)]
theorem QkR (x : Int) {i : Nat} (h : 64 <= i) : tb x i = false := BitVec.getLsbD_of_ge _ i h
theorem Qf3 {x y : Int} (hx : I64 x) (hy : I64 y) (h : ∀ i, tb x i = tb y i) : x = y := by
 rw [<- Qju hx, <- Qju hy]
 congr 1
 exact BitVec.eq_of_getLsbD_eq fun i _ => h i
theorem Qjf (i : Nat) : tb 0 i = false := by
 show (BitVec.ofInt 64 0).getLsbD i = false
 rw [show BitVec.ofInt 64 0 = 0#64 from rfl, BitVec.getLsbD_zero]
theorem Qce {x : Int} (hx : I64 x) : x = 0 ↔ ∀ i, tb x i = false := by
 constructor
 ·rintro rfl i; exact Qjf i
 ·intro h; exact Qf3 hx ⟨by omega, by omega⟩ fun i => by rw [h i, Qjf]
theorem Qfd (n : Nat) {i : Nat} (h : i < 64) : tb (n : Int) i = n.testBit i := by
 rw [tb, BitVec.ofInt_natCast, BitVec.getLsbD_ofNat]; simp [h]
theorem Qby {k : Nat} (hk : k < 64) (i : Nat) : tb ((2 : Int) ^ k) i = decide (i = k) := by
 have e : ((2 ^ k : Nat) : Int) = (2 : Int) ^ k := by simp
 by_cases h : i < 64
 ·rw [<- e, Qfd _ h, Nat.testBit_two_pow]
  exact decide_eq_decide.2 eq_comm
 ·rw [QkR _ (by omega)]; exact (decide_eq_false (by omega)).symm
theorem Qfb (x m : Int) : IntKind.i64.wrap (x - Y9 x m) = Qiq x m := by
 have h : BitVec.ofInt 64 (x - Y9 x m) = BitVec.ofInt 64 x &&& ~~~ BitVec.ofInt 64 m := by
  rw [Int.sub_eq_add_neg, BitVec.ofInt_add, BitVec.ofInt_neg, <- BitVec.sub_eq_add_neg, QnM]
  generalize BitVec.ofInt 64 x = a
  generalize BitVec.ofInt 64 m = b
  have h1 : (a &&& ~~~b) + (a &&& b) = a := by
   rw [BitVec.add_eq_or_of_and_eq_zero]
   ·ext i hi; simp; cases a[i] <;> cases b[i] <;> rfl
   ·ext i hi; simp
    cases a[i] <;> cases b[i] <;> simp
  exact (BitVec.sub_eq_iff_eq_add).2 h1.symm
 have e : Qiq x m = (BitVec.ofInt 64 (Qiq x m)).toInt := (Qju (QiO x m)).symm
 rw [e, QgY, h, QnN]
theorem Qcm {x m : Int} : Y9 x m = 0 ↔ ∀ i, tb x i = true -> tb m i = false := by
 rw [Qce (Qgt x m)]
 refine forall_congr' fun i => ?_
 rw [Qil]; cases tb x i <;> cases tb m i <;> simp
theorem not_zero {x m : Int} : Qiq x m = 0 ↔ ∀ i, tb x i = true -> tb m i = true := by
 rw [Qce (QiO x m)]
 refine forall_congr' fun i => ?_
 rw [Qmx]; cases tb x i <;> cases tb m i <;> simp
theorem Xk {x m : Int} (hx : I64 x) : Y9 x m = x ↔ ∀ i, tb x i = true -> tb m i = true := by
 constructor
 ·intro h i hi
  have := congrArg (fun z => tb z i) h
  simp only [Qil, hi, Bool.true_and] at this
  exact this
 ·intro h
  refine Qf3 (Qgt x m) hx fun i => ?_
  rw [Qil]
  cases hx2 : tb x i
  ·rfl
  ·rw [h i hx2]; rfl
theorem QdG {x m : Int} (hx : I64 x) : Qiq x m = x ↔ ∀ i, tb x i = true -> tb m i = false := by
 constructor
 ·intro h i hi
  have := congrArg (fun z => tb z i) h
  simp only [Qmx, hi, Bool.true_and] at this
  simpa using this
 ·intro h
  refine Qf3 (QiO x m) hx fun i => ?_
  rw [Qmx]
  cases hx2 : tb x i
  ·rfl
  ·rw [h i hx2]; rfl
def Lo (x : Int) : Prop := 0 <= x /\ x < 131072
theorem Lo.i64 {x : Int} (h : Lo x) : I64 x := ⟨by have := h.1; omega, by have := h.2; omega⟩
theorem Lo.hi {x : Int} (h : Lo x) {i : Nat} (hi : 17 <= i) : tb x i = false := by
 obtain ⟨n, rfl⟩ := Int.eq_ofNat_of_zero_le h.1
 by_cases h6 : i < 64
 ·rw [Qfd _ h6, Nat.testBit_lt_two_pow]
  have h1 : (2 : Nat) ^ 17 <= 2 ^ i := Nat.pow_le_pow_right (by omega) hi
  have h2 : (2 : Nat) ^ 17 = 131072 := by decide
  have := h.2
  omega
 ·exact QkR _ (by omega)
theorem Lo.of {x : Int} (hx : I64 x) (h : ∀ i, 17 <= i -> tb x i = false) : Lo x := by
 have hb : (BitVec.ofInt 64 x).toNat < 2 ^ 17 := by
  refine Nat.lt_pow_two_of_testBit _ fun i hi => ?_
  exact h i hi
 have h2 : (2 : Nat) ^ 17 = 131072 := by decide
 have e := Qju hx
 rw [BitVec.toInt_eq_toNat_of_lt (by omega)] at e
 exact ⟨by omega, by omega⟩
theorem QjT {k : Nat} (h : k <= 16) : Lo ((2 : Int) ^ k) := by
 have := Qp3 (n := k) (by omega)
 refine ⟨by omega, ?_⟩
 have h1 : (2 : Nat) ^ k <= 2 ^ 16 := Nat.pow_le_pow_right (by omega) h
 have h2 : (2 : Nat) ^ 16 = 65536 := by decide
 have h3 : ((2 ^ k : Nat) : Int) = (2 : Int) ^ k := by simp
 omega
theorem QoN (w : Qn) (u : Int) : Lo (YB w u) := ⟨(QjV w u).1, by have := (QjV w u).2; omega⟩
theorem Qnx {x : Int} (hx : I64 x) (m : Int) : Qcg x m = QeT x m := by
 unfold QeT Qcg
 have : (Qal .andNot .i64 x m = 0) ↔ (Qal .and .i64 x m = x) := (not_zero (x := x) (m := m)).trans (Xk hx).symm
 by_cases h : Qal .andNot .i64 x m = 0
 ·rw [if_pos h, if_pos (this.1 h)]
 ·rw [if_neg h, if_neg (fun e => h (this.2 e))]
theorem Qgd {x : Int} {k : Nat} (hk : k < 64) : Y9 x (2 ^ k) = 0 ↔ tb x k = false := by
 rw [Qcm]
 constructor
 ·intro h
  cases hx : tb x k
  ·rfl
  ·have := h k hx; rw [Qby hk] at this; simp at this
 ·intro h i hi
  rw [Qby hk]
  by_cases e : i = k
  ·subst e; rw [h] at hi; cases hi
  ·exact decide_eq_false e
end M25
namespace M25
open Go Go.Abs M3
/-! ### Trails: the loops' laws -/
theorem Qay (w : Qn) (l : List QD) (s : QD) (u : Int) : Q7 w (l ++ [s]) u = if s.u = u /\ inW w u = true then s.m else Q7 w l u := by
 rw [Q7, List.foldl_append]; rfl
theorem Qfc {α : Type} {l : List α} {i k : Nat} (hk : k + 1 = i) (h : k < l.length) : l.take i = l.take k ++ [l[k]] := by
 subst hk; rw [List.take_succ_eq_append_getElem h]
theorem QgB {w : Qn} {l : List QD} {u : Int} (h : inW w u = false) : Q7 w l u = 0 := by
 have hf : YB w u = 0 := QcM (by
  refine Classical.byContradiction fun hn => ?_
  rw [QjM (by omega) (by omega)] at h; cases h)
 suffices hs : ∀ a, l.foldl (fun a s => if s.u = u /\ inW w u = true then s.m else a) a = a by rw [Q7, hs, hf]
 induction l with
 | nil => intro a; rfl
 | cons s l ih => intro a; rw [List.foldl_cons, if_neg (by rw [h]; simp), ih]
def Qaf (w : Qn) (l : List QD) (u : Int) : Int := l.foldl (fun a s => if s.u = u then s.m else a) (YB w u)
theorem QgA {w : Qn} {l : List QD} {u : Int} (h : inW w u = true) : Qaf w l u = Q7 w l u := by
 unfold Qaf Q7
 simp only [h, and_true]
theorem QfM (w : Qn) (l : List QD) (s : QD) (u : Int) : Qaf w (l ++ [s]) u = if s.u = u then s.m else Qaf w l u := by
 rw [Qaf, List.foldl_append]; rfl
theorem QlS {w : Qn} {l : List QD} {u : Int} {i k : Nat} (hk : k + 1 = i) (h : k < l.length) (hu : l[k].u = u) : Qaf w (l.take i) u = l[k].m := by
 rw [Qfc hk h, QfM, if_pos hu]
theorem QkF {w : Qn} {l : List QD} {u : Int} {i k : Nat} (hk : k + 1 = i) (h : k < l.length) (hu : ¬ l[k].u = u) : Qaf w (l.take i) u = Qaf w (l.take (i - 1)) u := by
 rw [Qfc hk h, QfM, if_neg hu, show i - 1 = k by omega]
theorem Xo {w : Qn} {u : Int} : YB w u = 0 ↔ inW w u = false := by
 constructor
 ·intro h
  cases hw : inW w u
  ·rfl
  ·rw [Qcf] at hw
   rw [QcL hw.1 hw.2] at h
   have h2 : 2 <= (2 : Int) ^ (min (w[u.toNat]'(by omega)).cs.length 16 + 1) := by
    rw [Int.pow_succ]
    have := Qp3 (n := min (w[u.toNat]'(by omega)).cs.length 16) (by omega)
    omega
   omega
 ·intro h
  refine QcM (Classical.byContradiction fun hn => ?_)
  rw [QjM (by omega) (by omega)] at h; cases h
theorem QlU {l : List QD} (h : (l.length : Int) = 0) : Yw l = 0 := by
 have e : l = [] := List.eq_nil_of_length_eq_zero (by omega)
 subst e; rfl
theorem Qm8 {l : List QD} {k : Nat} (hk : k + 1 = l.length) : Yw l = (l[k]'(by omega)).l := by
 rw [Yw, List.getLast?_eq_getElem?, show l.length - 1 = k by omega, List.getElem?_eq_getElem (by omega)]
theorem QkO {α : Type} {f : α -> List D} {l : List α} {i : Nat} : ((l.map f).take ((i : Nat) : Int).toNat).drop (((0 : Nat) : Int)).toNat = (l.take i).map f := by simp [List.map_take]
def QoR (w : Qn) (l : List QD) (i : Nat) : Bool := match l[i]? with
 | some s => Qaz w (l.take i) s
 | none => true
theorem QcS {w : Qn} {l : List QD} {i : Nat} (h : i < l.length) : QoR w l i = Qaz w (l.take i) l[i] := by
 rw [QoR, List.getElem?_eq_getElem h]
theorem QjX (w : Qn) (l : List QD) : YH w l = (List.range l.length).all (QoR w l) := rfl
theorem Qns {w : Qn} {l : List QD} {s : QD} (h : s.u < 0 \/ (w.length : Int) <= s.u \/ s.c < -1) : Qaz w l s = false := by
 unfold Qaz
 rcases h with h | h | h
 ·rw [QeC (.inl h)]; rfl
 ·rw [QeC (.inr h)]; rfl
 ·rw [decide_eq_false (show ¬ -1 <= s.c by omega)]; simp
theorem Qmv {w : Qn} {l : List QD} {s : QD} (h0 : 0 <= s.u) (h1 : s.u < w.length) (h2 : -1 <= s.c) : Qaz w l s = (decide (Y9 s.m (Q7 w l s.u) = s.m) &&
  if s.c = -1 then decide (0 <= Yx s.m) && !ZX l s.u && decide (s.l = IntKind.i64.wrap (Yw l + 1))
  else !decide (s.m = 0) && !decide (s.m = Q7 w l s.u) && decide (s.l = Yw l)) := by
 rw [Qaz, QjM h0 h1, decide_eq_true h2]; rfl
theorem Qku {w : Qn} {l : List QD} {t : Zo} {c : Int} (h : c < 0 \/ t.u < 0 \/ (w.length : Int) <= t.u) : XZ w l t c = none := by
 rw [XZ, if_pos]
 rcases h with h | h
 ·exact .inl h
 ·exact .inr (QeC h)
theorem Qep {w : Qn} {l : List QD} {t : Zo} {c : Int} (h : IntKind.i64.wrap (Q7 w l t.u - Y9 (Q7 w l t.u) t.m) = 0 \/ IntKind.i64.wrap (Q7 w l t.u - Y9 (Q7 w l t.u) t.m) = Q7 w l t.u) : XZ w l t c = none := by
 rw [XZ]
 split
 ·rfl
 ·first | rfl | rw [if_pos h]
theorem Qkv {w : Qn} {l : List QD} {t : Zo} {c : Int} (h0 : ¬ c < 0) (h1 : inW w t.u = true) (h2 : ¬ IntKind.i64.wrap (Q7 w l t.u - Y9 (Q7 w l t.u) t.m) = 0) (h3 : ¬ IntKind.i64.wrap (Q7 w l t.u - Y9 (Q7 w l t.u) t.m) = Q7 w l t.u) :
  XZ w l t c = some (l ++ [⟨t.u, IntKind.i64.wrap (Q7 w l t.u - Y9 (Q7 w l t.u) t.m), Yw l, c⟩]) := by
 rw [XZ, if_neg (by rw [h1]; simp [h0]), if_neg (by simp [h2, h3])]
def Qc6 (w : Qn) (l : List QD) : Prop := ∀ s ∈ l, Lo s.m
theorem Qdh {w : Qn} {l : List QD} (h : Qc6 w l) (u : Int) : Lo (Q7 w l u) := by
 suffices hs : ∀ (l : List QD) a, (∀ s ∈ l, Lo s.m) -> Lo a -> Lo (l.foldl (fun a s => if s.u = u /\ inW w u = true then s.m else a) a) from hs l _ h (QoN w u)
 intro l
 induction l with
 | nil => intro a _ h; exact h
 | cons s l ih =>
  intro a hl ha
  rw [List.foldl_cons]
  refine ih _ (fun t ht => hl t (by simp [ht])) ?_
  split
  ·exact hl s (by simp)
  ·exact ha
theorem Qlh {w : Qn} {l : List QD} {t : Zo} {c : Int} (hl : Qc6 w l) (h : Y9 (Q7 w l t.u) t.m = 0) : XZ w l t c = none :=
 Qep (.inr (by rw [Qfb, QdG (Qdh hl _).i64, <- Qcm]; exact h))
theorem Qli {w : Qn} {l : List QD} {t : Zo} {c : Int} (h : Qiq (Q7 w l t.u) t.m = 0) : XZ w l t c = none :=
 Qep (.inl (by rw [Qfb]; exact h))
theorem Qlj {w : Qn} {l : List QD} {t : Zo} {c : Int} (hl : Qc6 w l) (h0 : ¬ c < 0) (h1 : ¬ Y9 (Q7 w l t.u) t.m = 0) (h2 : ¬ Qiq (Q7 w l t.u) t.m = 0) : XZ w l t c = some (l ++ [⟨t.u, Qiq (Q7 w l t.u) t.m, Yw l, c⟩]) := by
 have hin : inW w t.u = true := by
  cases hw : inW w t.u
  ·rw [QgB hw] at h1
   exact absurd (Qcm.2 fun i hi => by rw [Qjf] at hi; cases hi) h1
  ·rfl
 rw [Qkv h0 hin (by rw [Qfb]; exact h2) (by rw [Qfb, QdG (Qdh hl _).i64, <- Qcm]; exact h1), Qfb]
end M25
namespace Go.Proofs
open Go Go.Abs M3 M25
set_option linter.unusedVariables false
set_option linter.unusedSimpArgs false
end Go.Proofs
namespace M25
open Go Go.Abs M3
theorem Qio {v : Int} (h : (v + 1).toNat <= 61) : IntKind.i64.wrap ((1 : Int) * 2 ^ min (v + 1).toNat IntKind.i64.bits) = 2 ^ (v + 1).toNat := by
 rw [show min (v + 1).toNat IntKind.i64.bits = (v + 1).toNat from by simp only [IntKind.bits]; omega, Int.one_mul]
 have := Qi1 (i := (v + 1).toNat) (by omega)
 exact Qr (by omega) (by omega)
theorem Qmr {α : Type} {f : α -> List D} {l : List α} {k : Int} (h : k = (l.length : Int)) : ((l.map f).take k.toNat).drop (((0 : Nat) : Int)).toNat = l.map f := by
 subst h; rw [Int.toNat_natCast, List.take_of_length_le (by simp)]; rfl
end M25
namespace Go.Proofs
open Go Go.Abs M3 M25
set_option linter.unusedVariables false
set_option linter.unusedSimpArgs false
theorem Qfw {v : Int} (h0 : -1 <= v) (h1v : v <= 60) : Ok Try.prog 50 [.int .i64 v] (.int .i64 (2 ^ (v + 1).toNat)) := by
 refine Ok.ofT Yi Try.func50 Qrz (Nat.le_of_ble_eq_true Z) ?_
 show TW _ _ tf50.body _ _
 refine Qf fun K hK => Qa Z (hK _ _ (Qb (kp1 Z) ?_))
 refine Qf fun K hK => Qa Z (Zb Z Z (by first | exact Qr (by omega) (by omega) | rfl) (Qps Z Z (by omega) (Qio (by omega)) (Qa Z (hK _ _ (Qb (kp1 Z) ?_)))))
 refine Qv (Qx Z ?_)
 rfl
theorem Qkr {w : Qn} (hw : WSm w) {u : Int} : Ok Try.prog 49 [XV w, .int .i64 u] (.bool (inW w u)) := by
 refine Ok.ofT Yi Try.func49 Qry (Nat.le_of_ble_eq_true Z) ?_
 show TW _ _ tf49.body _ _
 refine Qf fun K hK => Z1 Z Z Z (Qa Z (hK _ _ (Qb (kp2 Z Z) ?_)))
 refine Qf fun K hK => Qa Z (Qhc Z Z (Qa Z ?_))
 refine QA (g := 7) Z (fun h1 => ?_) (fun h1 => ?_)
 ·try rw [h1]
  try simp only [qA] at h1
  refine Qg Z (Qa Z (Qg Z (Qk Z Z (Qg Z (QE Z Z Z (Qg Z ?_))))))
  first | refine Q5 rfl Zd ?_ | refine Q5 rfl rfl ?_
  refine Qg Z (YY Z Z (Qj Z Z (Qa Z (hK _ _ (Qb (kp1 Z) ?_)))))
  refine Qv (Qt Z ?_)
  first | rfl | (rw [QeC (by omega)]; done) | (rw [inW, decide_eq_true h1, Bool.true_and])
 ·try rw [h1]
  try simp only [qA] at h1
  refine Qo Z (Qo Z (Qo Z (Qo Z (Qo Z (Qj Z Z (Qa Z (hK _ _ (Qb (kp1 Z) ?_))))))))
  refine Qv (Qt Z ?_)
  first | rfl | (rw [QeC (by omega)]; done) | (rw [inW, decide_eq_true h1, Bool.true_and])
theorem XU {w : Qn} (hw : WSm w) {u : Int} : Ok Try.prog 31 [XV w, .int .i64 u] (.int .i64 (YB w u)) := by
 refine Ok.ofT Yi Try.func31 Qri (Nat.le_of_ble_eq_true Z) ?_
 show TW _ _ tf31.body _ _
 refine Qf fun K hK => Z1 Z Z Z (Qa Z (hK _ _ (Qb (kp2 Z Z) ?_)))
 refine QH ?_ -- 0
 refine Qf fun K hK => QF (cs := [_]) Z Z Z Z (Qa Z (QB (Qkr hw) Z Z (.inr Z) (Yn Z (hK _ _ (Qb (kp3 Z Z Z) ?_)))))
 refine QC Z (fun h1 => ?_) (fun h1 => ?_)
 ·try rw [h1]
  try simp only [qA] at h1
  try have h1b := Qcf.1 h1
  refine Qf fun K hK => Qa Z (hK _ _ (Qb (kp1 Z) ?_))
  refine Qv (Qm (Qx Z ?_))
  rw [Xo.2 h1]
 ·try rw [h1]
  try simp only [qA] at h1
  try have h1b := Qcf.1 h1
  refine Qy (Qe (kp2 Z Z) (Qf fun K hK => Qk Z Z (QE Z Z Z (Qa Z (QV Z Z Z (by omega) (ZW (by omega) (by omega)) Z (ZV Z Z (QE Z Z Z ?_)))))))
  first | refine Q5 rfl Zd ?_ | refine Q5 rfl rfl ?_
  refine QB (Qfw (by omega) (by have := hw.cs _ (List.getElem_mem (show u.toNat < w.length by omega)); omega)) Z Z (.inr Z) (Qa9 Z Z (Qin (by have := hw.cs _ (List.getElem_mem (show u.toNat < w.length by omega)); omega)) (Qa Z (hK _ _ (Qb (kp1 Z) ?_))))
  refine Qv (Qx Z ?_)
  rw [QcL h1b.1 h1b.2, show min (w[u.toNat]'(by omega)).cs.length 16 = (w[u.toNat]'(by omega)).cs.length from Nat.min_eq_left (hw.cs _ (List.getElem_mem _)), Qqb]
theorem Qbh {w : Qn} (hw : WSm w) {l : List QD} (hl : l.length <= 10000000) {u : Int} : Ok Try.prog 32 [XV w, Z7 l, .int .i64 u] (.int .i64 (Qaf w l u)) := by
 refine Ok.ofT Yi Try.func32 Qrj (Nat.le_of_ble_eq_true Z) ?_
 show TW _ _ tf32.body _ _
 refine Qf fun K hK => Z1 Z Z Z (Qa Z (hK _ _ (Qb (kp3 Z Z Z) ?_)))
 refine QH ?_ -- 0
 refine Qf fun K hK => Qa Z ?_
 first | refine Q5 rfl Zd ?_ | refine Q5 rfl rfl ?_
 refine Qa9 Z Z (by first | exact Qr (by omega) (by omega) | rfl) (Qa Z (hK _ _ (Qb (kp4 Z Z Z Z) ?_)))
 refine QJ ?_
 refine Yb (ι := Nat) (fun i => ⟨[(1, Z7 l), (2, .int .i64 u), (3, .ref 3 0 0), (7, .int .i64 ((i : Int) - 1))], [(3, ⟨[[.sl ((w).map Qcc)]], 1, 27, true⟩)]⟩) (fun i => i <= l.length /\ Qaf w l u = Qaf w (l.take i) u) (fun i => i) l.length ?_ ?_ ?_
 ·exact ZH (l := [1, 2, 3, 7]) (lH := [3]) (kp4 rfl rfl rfl rfl) (Qq rfl Qz) rfl rfl rfl
 ·exact ⟨Nat.le_refl _, by rw [List.take_length]⟩
 intro i hI
 try dsimp only
 refine QH ?_ -- 1
 refine Qf fun K hK => Qa Z (Qhc Z Z (hK _ _ (Qb (kp5 Z Z Z Z Z) ?_)))
 refine QC Z (fun h1 => ?_) (fun h1 => ?_)
 ·try rw [h1]
  try simp only [qA] at h1
  refine Qy (Qe (kp4 Z Z Z Z) ?_)
  refine QH ?_ -- 2
  refine QJ (Qf fun K hK => Qa Z (Qa Z (QV Z Z Z (by omega) (ZW (by omega) (by omega)) Z (ZV Z Z (QE Z Z Z (Qa Z (Z5 Z Z (hK _ _ (Qb (kp5 Z Z Z Z Z) ?_)))))))))
  refine QC Z (fun h2 => ?_) (fun h2 => ?_)
  ·try rw [h2]
   try simp only [qA] at h2
   refine Qf fun K hK => Qa Z (Qa Z (QV Z Z Z (by omega) (ZW (by omega) (by omega)) Z (ZV Z Z (QE Z Z Z (Qa Z (hK _ _ (Qb (kp1 Z) ?_)))))))
   refine Qv (Qw (Qm (Zw (Qw (Qm (Qx Z ?_))))))
   rw [hI.2, QlS (k := ((i : Int) - 1).toNat) (by omega) (by omega) h2]
  ·try rw [h2]
   try simp only [qA] at h2
   refine Qy (Ql (Qe (kp4 Z Z Z Z) (Q4 fun K hK => Qa Z (Qa9 Z Z (by first | exact Qr (by omega) (by omega) | rfl) (Qa Z (hK _ ?_))))))
   refine Qp (i - 1) ?_ ?_ ?_
   ·exact ZH (l := [1, 2, 3, 7]) (lH := [3]) (kp4 rfl rfl rfl rfl) (Qq rfl Qz) (by simp only [List.cons.injEq, Prod.mk.injEq, D.int.injEq, and_true, true_and]; omega) rfl rfl
   ·exact ⟨by omega, by rw [hI.2, QkF (k := ((i : Int) - 1).toNat) (by omega) (by omega) h2]⟩
   ·first | omega | (simp only; omega) | (dsimp only; omega)
 ·try rw [h1]
  try simp only [qA] at h1
  refine Z0 (Q6 (QM (QU (Qe (kp2 Z Z) (Qf fun K hK => QF (cs := [_]) Z Z Z Z (Qa Z (QB (XU hw) Z Z (.inr Z) (Qa Z (hK _ _ (Qb (kp1 Z) ?_))))))))))
  refine Qv (Qx Z ?_)
  rw [hI.2, show i = 0 by omega]; rfl
theorem X9 {w : Qn} (hw : WSm w) {l : List QD} (hl : l.length <= 10000000) {u : Int} : Ok Try.prog 16 [XV w, Z7 l, .int .i64 u] (.int .i64 (Q7 w l u)) := by
 refine Ok.ofT Yi Try.func16 Qq6 (Nat.le_of_ble_eq_true Z) ?_
 show TW _ _ tf16.body _ _
 refine Qf fun K hK => Z1 Z Z Z (Qa Z (hK _ _ (Qb (kp3 Z Z Z) ?_)))
 refine QH ?_ -- 0
 refine Qf fun K hK => QF (cs := [_]) Z Z Z Z (Qa Z (QB (XU hw) Z Z (.inr Z) (Z5 Z Z (hK _ _ (Qb (kp4 Z Z Z Z) ?_)))))
 refine QC Z (fun h1 => ?_) (fun h1 => ?_)
 ·try rw [h1]
  try simp only [qA] at h1
  refine Qf fun K hK => Qa Z (hK _ _ (Qb (kp1 Z) ?_))
  refine Qv (Qm (Qx Z ?_))
  rw [QgB (Xo.1 h1)]
 ·try rw [h1]
  try simp only [qA] at h1
  refine Qy (Qe (kp3 Z Z Z) (Qf fun K hK => QF (cs := [_]) Z Z Z Z (Qa Z (Qa Z (QB (Qbh hw hl) Z Z (.inr Z) (Qa Z (hK _ _ (Qb (kp1 Z) ?_))))))))
  refine Qv (Qx Z ?_)
  rw [QgA (by simpa using fun e => h1 (Xo.2 e))]
theorem XD {l : List QD} (hl : l.length <= 10000000) : Ok Try.prog 10 [Z7 l] (.int .i64 (Yw l)) := by
 refine Ok.ofT Yi Try.func10 Qq1 (Nat.le_of_ble_eq_true Z) ?_
 show TW _ _ tf10.body _ _
 refine Qf fun K hK => Qa Z (hK _ _ (Qb (kp1 Z) ?_))
 refine QH ?_ -- 0
 refine Qf fun K hK => Qa Z ?_
 first | refine Q5 rfl Zd ?_ | refine Q5 rfl rfl ?_
 refine Z5 Z Z (hK _ _ (Qb (kp2 Z Z) ?_))
 refine QC Z (fun h1 => ?_) (fun h1 => ?_)
 ·try rw [h1]
  try simp only [qA] at h1
  refine Qf fun K hK => Qa Z (hK _ _ (Qb (kp1 Z) ?_))
  refine Qv (Qm (Qx Z ?_))
  rw [QlU h1]
 ·try rw [h1]
  try simp only [qA] at h1
  refine Qy (Qe (kp1 Z) (Qf fun K hK => Qa Z (Qa Z ?_)))
  first | refine Q5 rfl Zd ?_ | refine Q5 rfl rfl ?_
  refine Qa9 Z Z (by first | exact Qr (by omega) (by omega) | rfl) (QV Z Z Z (by omega) (ZW (by omega) (by omega)) Z (ZV Z Z (QE Z Z Z (Qa Z (hK _ _ (Qb (kp1 Z) ?_))))))
  refine Qv (Qx Z ?_)
  rw [Qm8 (k := ((l.length : Int) - 1).toNat) (by omega)]
theorem Qfx {l : List QD} (hl : l.length <= 10000000) {s : QD} : Ok Try.prog 34 [Z7 l, .agg (Qeo s)] (Z7 (l ++ [s])) := by
 refine Ok.ofT Yi Try.func34 Qrl (Nat.le_of_ble_eq_true Z) ?_
 show TW _ _ tf34.body _ _
 refine Qf fun K hK => Z1 Z Z Z (Qa Z (hK _ _ (Qb (kp2 Z Z) ?_)))
 refine Qf fun K hK => Qa Z (Qa Z ?_)
 first | refine Q5 rfl Zd ?_ | refine Q5 rfl rfl ?_
 refine Qa Z ?_
 first | refine Q5 rfl Zd ?_ | refine Q5 rfl rfl ?_
 refine Qjr Z Z Z Z Z (by omega) (by omega) (by simp) QoY (Qmr Z) (QY (ds0 := [2, 1, 0]) (cs := [_, _, _, _]) Z Z Z Z Z Z (QG Z Z (Qf8 (ds0 := [0]) Z Z (fun _ h => Qb5 Z Z Z h) Z (.inr (by simp)) QoY (by simp; omega) (by simp; omega) Z Z (Qa Z (hK _ _ (Qb (kp1 Z) ?_))))))
 refine Qv ?_
 exact Qj8 rfl rfl rfl (by simp) (by simp [Z7, Qeo])
theorem Qfi {w : Qn} (hw : WSm w) {l : List QD} (hl : l.length <= 10000000) (hp : Qc6 w l) {t : Zo} {c : Int} : Ok Try.prog 20 [XV w, Z7 l, .agg (QoA t), .int .i64 c] (dOS (XZ w l t c)) := by
 refine Ok.ofT Yi Try.func20 Qra (Nat.le_of_ble_eq_true Z) ?_
 show TW _ _ tf20.body _ _
 refine Qf fun K hK => Z1 Z Z Z (Z1 Z Z Z (Qa Z (Qa Z (hK _ _ (Qb (kp4 Z Z Z Z) ?_)))))
 refine Qf fun K hK => QF (cs := [_]) Z Z Z Z (Qa Z (Qk Z Z (QE Z Z Z (QB (X9 hw hl) Z Z (.inr Z) (Qa Z (hK _ _ (Qb (kp4 Z Z Z Z) ?_)))))))
 refine QH ?_ -- 0
 refine Qf fun K hK => Qa Z (YY Z Z (Qa Z ?_))
 refine QA (g := 18) Z (fun h1 => ?_) (fun h1 => ?_)
 ·try rw [h1]
  try simp only [qA] at h1
  refine Qo Z (Qo Z (Qo Z (Qo Z (Qo Z (Qj Z Z (Qa Z (Qo Z (Qo Z (Qo Z (Qo Z (Qo Z ?_)))))))))))
  refine Qj Z Z (hK _ _ (Qb (kp5 Z Z Z Z Z) ?_))
  refine ZD Z (Qf fun K hK => Qa Z (Qa Z (hK _ _ (Qb (kp2 Z Z) ?_))))
  refine Qv (Qm ?_)
  rw [Qku (.inl h1)]
  exact Zz rfl rfl ⟨rfl, rfl⟩
 ·try rw [h1]
  try simp only [qA] at h1
  refine Qg Z (Qa Z (Qg Z (Qk Z Z (Qg Z (QE Z Z Z (Qg Z (Qf7 Z Z (Qg Z (Z5 Z Z (Qj Z Z (Qa Z ?_)))))))))))
  refine QA (g := 25) Z (fun h2 => ?_) (fun h2 => ?_)
  ·try rw [h2]
   try simp only [qA] at h2
   refine Qo Z (Qo Z (Qo Z (Qo Z (Qo Z (Qj Z Z (hK _ _ (Qb (kp5 Z Z Z Z Z) ?_)))))))
   refine ZD Z (Qf fun K hK => Qa Z (Qa Z (hK _ _ (Qb (kp2 Z Z) ?_))))
   refine Qv (Qm ?_)
   rw [Qlh hp h2]
   exact Zz rfl rfl ⟨rfl, rfl⟩
  ·try rw [h2]
   try simp only [qA] at h2
   refine Qg Z (Qa Z (Qg Z (Qk Z Z (Qg Z (QE Z Z Z (Qg Z (QdR Z Z (Qg Z (Z5 Z Z (Qj Z Z (hK _ _ (Qb (kp5 Z Z Z Z Z) ?_))))))))))))
   refine QC Z (fun h3 => ?_) (fun h3 => ?_)
   ·try rw [h3]
    try simp only [qA] at h3
    refine Qf fun K hK => Qa Z (Qa Z (hK _ _ (Qb (kp2 Z Z) ?_)))
    refine Qv (Qm ?_)
    rw [Qli h3]
    exact Zz rfl rfl ⟨rfl, rfl⟩
   ·try rw [h3]
    try simp only [qA] at h3
    refine Qy (Qe (kp4 Z Z Z Z) (Qf fun K hK => Qa Z (Qk Z Z (Zr (ds0 := [3, 2, 1]) Z Z Z Z Z (Qa Z (Qk Z Z (Zr (ds0 := [7, 3, 2, 1]) Z Z Z Z Z (QdR Z Z (Qa Z (Zh (ds0 := [3, 2, 1]) (XD hl) Z Z (.inr Z) Z Z ?_))))))))))
    refine Qa Z (QS Z Z (Zh (ds0 := [1]) (Qfx (s := ⟨t.u, Qiq (Q7 w l t.u) t.m, Yw l, c⟩) hl) Z Z (.inl Z) Z Z (Qa Z (Qa Z (hK _ _ (Qb (kp2 Z Z) ?_))))))
    refine Qv ?_
    rw [Qlj hp (by omega) h2 h3]
    exact Zz rfl rfl ⟨rfl, rfl⟩
end Go.Proofs
namespace M25
open Go Go.Abs M3
/-! ### prop: what is left of each unit, scans -/
structure Qpn (w : Qn) (db : List (List Zo)) (l : List QD) (a : Nat) (k : Nat) : Prop where
  ha : a < db.length
  hk : k < db[a].length
  eq : QqI w db l = ((a : Int), db[a][k].u)
  one : QeT (Q7 w l db[a][k].u) db[a][k].m = 1
  two : ∀ j, ∀ hj : j < db[a].length, j ≠ k -> QeT (Q7 w l db[a][j].u) db[a][j].m = 2
theorem QkJ {w : Qn} {l : List QD} {s : QD} (hp : Qc6 w l) (hs : Lo s.m) : Qc6 w (l ++ [s]) := fun t ht => by
  rcases List.mem_append.1 ht with ht | ht
  · exact hp t ht
  · simp only [List.mem_singleton] at ht; subst ht; exact hs
def QqV (w : Qn) (l : List QD) (t : Zo) (c : Int) : QD := ⟨t.u, Qiq (Q7 w l t.u) t.m, Yw l, c⟩
end M25
namespace M25
open Go Go.Abs M3
/-! ### Sets that are made: moderate sizes -/
theorem Qm1 (l : List (Cu × Cu)) (x y : Cu) : (Qbq l x y).length <= l.length + 1 := QhR l x y
theorem Qgl (f : Cu -> Cu -> Bool) : ∀ (c : List Cu) (out : List (Cu × Cu)), (∀ x ∈ c, Cu.sm x) -> (∀ s ∈ out, Cu.sm s.1 /\ Cu.sm s.2) -> (Qbp f c out).length <= out.length + c.length /\ ∀ s ∈ Qbp f c out, Cu.sm s.1 /\ Cu.sm s.2
 | [], out, _, h => ⟨by simp [Qbp], by simpa [Qbp] using h⟩
 | [x], out, _, h => ⟨by simp [Qbp], by simpa [Qbp] using h⟩
 | x :: y :: r, out, hc, h => by
  rw [Qbp]
  have hxy := Qm1 out x y
  split
  ·obtain ⟨h1, h2⟩ := Qgl f (y :: r) (Qbq out x y) (fun z hz => hc z (by simp at hz ⊢; exact .inr hz)) (QjW h (hc x (by simp)) (hc y (by simp)))
   exact ⟨by simp only [List.length_cons] at h1 ⊢; omega, h2⟩
  ·obtain ⟨h1, h2⟩ := Qgl f (y :: r) out (fun z hz => hc z (by simp at hz ⊢; exact .inr hz)) h
   exact ⟨by simp only [List.length_cons] at h1 ⊢; omega, h2⟩
def SmN (n : Nat) (l : List (Cu × Cu)) : Prop := l.length <= n /\ ∀ s ∈ l, Cu.sm s.1 /\ Cu.sm s.2
theorem SmN.sm {n : Nat} {l : List (Cu × Cu)} (h : SmN n l) (hn : n <= 1000000) : Sm l := ⟨Nat.le_trans h.1 hn, h.2⟩
theorem SmN.up {n m : Nat} {l : List (Cu × Cu)} (h : SmN n l) (hn : n <= m) : SmN m l := ⟨Nat.le_trans h.1 hn, h.2⟩
theorem SmN.nil (n : Nat) : SmN n [] := ⟨Nat.zero_le _, by simp⟩
theorem Qn1 {a b : List (Cu × Cu)} {n m : Nat} (ha : SmN n a) (hb : SmN m b) (h : n + m <= 1000000) : SmN (2 + 2 * (n + m)) (QnY a b) := by
 unfold QnY
 split
 ·have hab : Sm (a ++ b) := (ha.sm (by omega)).app (hb.sm (by omega)) (by have := ha.1; have := hb.1; omega)
  unfold QiS
  split
  ·obtain ⟨h1, h2⟩ := Qgl (mIn (a ++ b)) (YA (a ++ b)) [] (Yj hab) (by simp)
   have := Qbo (a ++ b)
   have := ha.1
   have := hb.1
   exact ⟨by simp only [List.length_nil, List.length_append] at *; omega, h2⟩
  ·exact SmN.nil _
 ·exact SmN.nil _
theorem Ql6 {a : List (Cu × Cu)} {n : Nat} (ha : SmN n a) (h : n <= 1000000) : SmN (2 + 2 * n) (QiT a) := by
 unfold QiT
 split
 ·obtain ⟨h1, h2⟩ := Qgl (fun x y => !mIn a x y) (YA a) [] (Yj (ha.sm h)) (by simp)
  have := Qbo a
  have := ha.1
  exact ⟨by simp only [List.length_nil] at *; omega, h2⟩
 ·exact SmN.nil _
def Qkq (n : Nat) (s : Qg1) : Prop := SmN n s.1 /\ SmN n s.2
theorem Qp1 {a b : Qg1} {n m : Nat} (ha : Qkq n a) (hb : Qkq m b) (h : n + m <= 1000000) : Qkq (2 + 2 * (n + m)) (QnZ a b) := by
 unfold QnZ
 split
 ·exact ⟨Qn1 ha.1 hb.1 h, Qn1 ha.2 hb.2 h⟩
 ·exact ⟨SmN.nil _, SmN.nil _⟩
theorem Ql7 {a : Qg1} {n : Nat} (ha : Qkq n a) (h : n <= 1000000) : Qkq (2 + 2 * n) (QgE a) := by
 unfold QgE
 split
 ·exact ⟨Ql6 ha.1 h, Ql6 ha.2 h⟩
 ·exact ⟨SmN.nil _, SmN.nil _⟩
theorem QbM (e a b c : Int) (f : Bool) : Cu.sm ⟨e, a, b, c, [], [], f⟩ := ⟨Nat.zero_le _, Nat.zero_le _⟩
theorem QbC {a b c : Int} {p q : List UInt8} (hp : p.length <= 1000000) : Qkq 1 (YV a b c p q) := by
 unfold YV
 split
 ·exact ⟨SmN.nil _, SmN.nil _⟩
 ·split
  ·refine ⟨SmN.nil _, ⟨Nat.le_refl _, fun s hs => ?_⟩⟩
   simp only [List.mem_singleton] at hs; subst hs
   exact ⟨⟨hp, Nat.zero_le _⟩, ⟨hp, Nat.zero_le _⟩⟩
  ·refine ⟨⟨Nat.le_refl _, fun s hs => ?_⟩, SmN.nil _⟩
   simp only [List.mem_singleton] at hs; subst hs
   constructor
   ·unfold QeO; split
    ·exact QbM ..
    ·exact QbM ..
   ·unfold QcK; split
    ·exact QbM ..
    ·exact QbM ..
def Qk6 : Qg1 := ([(Qb0, Qfn)], [(Qb0, Qfn)])
theorem QnI : Qkq 1 Qk6 := by
 have h : SmN 1 [(Qb0, Qfn)] := ⟨Nat.le_refl _, fun s hs => by simp only [List.mem_singleton] at hs; subst hs; exact ⟨QbM .., QbM ..⟩⟩
 exact ⟨h, h⟩
def bnd (i : Nat) : Nat := 4 * 2 ^ i
theorem QnL {i : Nat} (h : i <= 16) : bnd i <= 262144 := by
 have : 2 ^ i <= 2 ^ 16 := Nat.pow_le_pow_right (by omega) h
 have e : (2 : Nat) ^ 16 = 65536 := by decide
 unfold bnd; omega
theorem Qp7 {s : Qg1} {i : Nat} (h : Qkq (bnd i - 4) s) {a b c : Int} {p q : List UInt8} (hp : p.length <= 1000000) (hi : i <= 16) : Qkq (bnd (i + 1) - 4) (QnZ s (YV a b c p q)) := by
 have h1 := QnL hi
 have h4 : 4 <= bnd i := by unfold bnd; have := Nat.one_le_two_pow (n := i); omega
 have := Qp1 h (QbC (a := a) (b := b) (c := c) (q := q) hp) (by omega)
 have e : bnd (i + 1) = 2 * bnd i := by unfold bnd; rw [Nat.pow_succ]; omega
 exact ⟨this.1.up (by omega), this.2.up (by omega)⟩
theorem Qno {s : Qg1} {i : Nat} (h : Qkq (bnd i - 4) s) : Qkq (bnd (i + 1) - 4) s := by
 have e : bnd (i + 1) = 2 * bnd i := by unfold bnd; rw [Nat.pow_succ]; omega
 exact ⟨h.1.up (by omega), h.2.up (by omega)⟩
def SetOk (s : Qg1) : Prop := Qkq 600000 s
theorem SetOk.sm {s : Qg1} (h : SetOk s) : Sm s.1 /\ Sm s.2 := ⟨h.1.sm (by omega), h.2.sm (by omega)⟩
structure CR where
 v : Vr
 x : D
 y : D
 z : D
def dCR (r : CR) : List D := [.int .i64 r.v.a, .int .i64 r.v.b, .int .i64 r.v.c, .str r.v.p, .str r.v.q, r.x, r.y, r.z]
def CR.ren (r : CR) : CR := ⟨r.v, r.x.renS upN, r.y.renS upN, r.z.renS upN⟩
theorem Qle (l : List CR) : (l.map dCR).map (fun r => r.map (D.renS upN)) = (l.map CR.ren).map dCR := by
 rw [List.map_map, List.map_map]; rfl
structure UR where
 n : List UInt8
 f : List UInt8
 k : Nat
 cs : List CR
def dUR (u : UR) : List D := [.str u.n, .str u.f, .osl u.k u.cs.length]
def UR.ren (u : UR) : UR := ⟨u.n, u.f, upN u.k, u.cs.map CR.ren⟩
theorem QoB (l : List UR) : (l.map dUR).map (fun r => r.map (D.renS upN)) = (l.map UR.ren).map dUR := by
 rw [List.map_map, List.map_map]
 refine List.map_congr_left fun u _ => ?_
 simp [dUR, UR.ren, D.renS]
structure Fam (H : List (Nat × Box)) (kg ku eu ec : Nat) (us : List UR) : Prop where
 ne : ku ≠ kg
 u : ∃ pr, lk H ku = some ⟨us.map dUR, 3, eu, pr⟩
 c : ∀ y ∈ us, y.k ≠ kg /\ ∃ pr, lk H y.k = some ⟨y.cs.map dCR, 8, ec, pr⟩
 v : ∀ y ∈ us, y.cs.length <= 16 /\ ∀ z ∈ y.cs, Qfu z.v
theorem Fam.up {H : List (Nat × Box)} {kg ku eu ec : Nat} {us : List UR} (h : Fam H kg ku eu ec us) : Fam (upH H) (upN kg) (upN ku) eu ec (us.map UR.ren) := by
 obtain ⟨h1, ⟨pu, h2⟩, h3, h4⟩ := h
 refine ⟨fun e => h1 (Qjj e), ⟨pu, ?_⟩, fun y hy => ?_, fun y hy => ?_⟩
 ·rw [Qae, h2, Option.map_some, Box.ren, QoB]
 ·obtain ⟨u, hu, rfl⟩ := List.mem_map.1 hy
  obtain ⟨q1, pr, q2⟩ := h3 u hu
  refine ⟨fun e => q1 (Qjj e), pr, ?_⟩
  show lk (upH H) (upN u.k) = _
  rw [Qae, q2, Option.map_some, Box.ren, Qle]; rfl
 ·obtain ⟨u, hu, rfl⟩ := List.mem_map.1 hy
  obtain ⟨q1, q2⟩ := h4 u hu
  refine ⟨by simpa [UR.ren] using q1, fun z hz => ?_⟩
  obtain ⟨z0, hz0, rfl⟩ := List.mem_map.1 hz
  exact q2 z0 hz0
theorem Fam.cons {H : List (Nat × Box)} {kg ku eu ec : Nat} {us : List UR} (h : Fam H kg ku eu ec us) {b : Box} : Fam ((kg, b) :: H) kg ku eu ec us := by
 obtain ⟨h1, ⟨pu, h2⟩, h3, h4⟩ := h
 exact ⟨h1, ⟨pu, Qh (Ne.symm h1) h2⟩, fun y hy => let ⟨q1, pr, q2⟩ := h3 y hy; ⟨q1, pr, Qh (Ne.symm q1) q2⟩, h4⟩
def WantIn (n : Nat) (x : WantT) : Prop := 1 <= x.u /\ x.u < n /\ SetOk x.s
def Qhd (n : Nat) (r : List WantT) : Prop := r.length <= 2 /\ ∀ x ∈ r, WantIn n x
def Qec (n : Nat) (m : Int) (ns : List (List WantT)) : Prop := (ns.length : Int) <= m /\ ∀ r ∈ ns, Qhd n r
theorem QoW {n : Nat} {x : WantT} (h : WantIn n x) : Qhd n [x] := ⟨by simp, by intro y hy; simp only [List.mem_singleton] at hy; subst hy; exact h⟩
theorem QoX {n : Nat} {x y : WantT} (h : WantIn n x) (h' : WantIn n y) : Qhd n [x, y] := ⟨by simp, by
 intro z hz
 simp only [List.mem_cons, List.not_mem_nil, or_false] at hz
 rcases hz with rfl | rfl
 ·exact h
 ·exact h'⟩
theorem Qmm {n : Nat} {ns : List (List WantT)} {r : List WantT} (h : ∀ r ∈ ns, Qhd n r) (hr : Qhd n r) : ∀ x ∈ ns ++ [r], Qhd n x := fun x hx => by
 rcases List.mem_append.1 hx with hx | hx
 ·exact h x hx
 ·simp only [List.mem_singleton] at hx; subst hx; exact hr
end M25
namespace Go.Proofs
open Go Go.Abs M3 M25
set_option linter.unusedVariables false
set_option linter.unusedSimpArgs false
theorem Qbu {s : St} {args : List Opd} {kg : Nat} {L : List Int} {I n : Int} {et : Nat} (ha : Zn s args = some [.ref kg 0 0, .int .i64 n]) (hg : lk s.H kg = some (gB L I et)) (hL : ∀ x ∈ L, I64 x) (hn : n <= 9223372036854775807) : Qa5 Try.prog 25 args s [(kg, gB L I et)] [] [(kg, gB L (nxI I) et)] (.int .i64 (nx L I n)) := by
 refine Qjv (b' := gB L (nxI I) et) (ds' := [.ref (upN kg) 0 0, .int .i64 n]) ha (fun j x h => ?_) (fun k b hk j hj => ?_) (fun x hx j hj => ?_) ?_ Z Z Z Z ?_
 ·obtain ⟨rfl, rfl⟩ := XA h; exact hg
 ·obtain ⟨rfl, rfl⟩ := XA hk; simp [Box.ids, gB] at hj
 ·simp only [List.mem_cons, List.not_mem_nil, or_false] at hx
  rcases hx with rfl | rfl
  ·simp [D.ids, D.sid] at hj; subst hj; rw [Qs]; rfl
  ·simp [D.ids, D.sid] at hj
 ·rw [Qs]; rfl
 ·exact Xm (by unfold upN; omega) hL hn et
theorem Qcr {H : List (Nat × Box)} {kg kc : Nat} {L : List Int} {I : Int} {eg ec : Nat} {pr : Bool} {zs : List CR} (hkg : 1000000 <= kg) (hg : lk H kg = some (gB L I eg)) (hc : lk H kc = some ⟨zs.map dCR, 8, ec, pr⟩) (hne : kg ≠ kc) (hB : Big H) (hC : Closed H) (hL : ∀ x ∈ L, I64 x) (hz : ∀ z ∈ zs, Qfu z.v) (hn : zs.length <= 16) : ∃ d H2, (∃ s I2, SetOk s /\ d = Qg3 s /\ H2 = (kg, gB L I2 eg) :: H) /\ OkH Try.prog 45 [.ref kg 0 0, .osl kc zs.length] H d H2 := by
 have hkc := hB _ _ hc
 refine OkH.ofX (R := fun d H2 => ∃ s I2, SetOk s /\ d = Qg3 s /\ H2 = (kg, gB L I2 eg) :: H) Yi Try.func45 Qrw (Nat.le_of_ble_eq_true Z) ?_
 show TX _ _ tf45.body _ _
 refine Q9 fun K hK => ?_
 refine ZC (by repeat (first | exact hB.none (by decide) | refine Zj (by first | decide | omega) ?_)) ?_
 refine hK _ _ (QR (kp3 Z Z Z) ?_)
 refine Q9 fun K hK => Qa Z (Yr (Qbu (I := I) Z (Qh (by omega) hg) hL (by omega)) (Qa Z (hK _ _ (QR (kp4 Z Z Z Z) ?_))))
 refine Q9 fun K hK => QB (ZS) Z Z (.inl Z) ?_
 refine ZC (by repeat (first | exact hB.none (by decide) | refine Zj (by first | decide | omega) ?_)) ?_
 refine QT Z Z Z Z Z Z Z Z (hK _ _ (QR (kp5 Z Z Z Z Z) ?_))
 refine X2 ?_ -- 0
 refine Q9 fun K hK => Qa Z (hK _ _ (QR (kp6 Z Z Z Z Z Z) ?_))
 refine YQ ?_
 refine Qef (ι := Nat × Qg1) (fun ⟨i, s⟩ => ⟨[(0, .ref kg 0 0), (1, .osl kc zs.length), (4, .ref 4 0 0), (5, .int .i64 (nx L I 8)), (6, .ref 6 0 0), (7, .int .i64 i)], [(4, ⟨[[.fsl [], .fsl []]], 2, 67, true⟩), (6, ⟨[[ZF s.1, ZF s.2]], 2, 67, true⟩), (kg, gB L (nxI I) eg)] ++ H⟩) (fun ⟨i, s⟩ => i <= zs.length /\ Qkq (bnd i - 4) s) (fun ⟨i, s⟩ => zs.length - i) (0, ([], [])) ?_ ?_ ?_
 ·exact QeF (l := [0, 1, 4, 5, 6, 7]) (B := [_, _, _, _]) (kp6 rfl rfl rfl rfl rfl rfl) rfl (by intro p hp; simp only [List.mem_cons, List.not_mem_nil, or_false] at hp; rcases hp with rfl | rfl | rfl <;> exact ⟨by repeat (first | exact Qs | refine Qh (by first | decide | omega) ?_), rfl⟩) rfl (by intro p hp h; simp only [List.mem_cons, List.not_mem_nil, or_false] at hp; rcases hp with rfl | rfl | rfl | rfl <;> first | (simp only at h; omega) | (repeat (first | exact QP | refine QN ?_))) hB hC (by intro p hp k hk; simp only [List.mem_cons, List.not_mem_nil, or_false] at hp; rcases hp with rfl | rfl | rfl | rfl | rfl | rfl <;> first | (simp [D.ids, D.sid, QX, QL, ZJ] at hk; done) | (simp [D.ids, D.sid, QX, QL, ZJ] at hk; subst hk; repeat (first | exact QP | exact Zi hg | exact Zi hc | refine QN ?_)))
 ·exact ⟨Nat.zero_le _, SmN.nil _, SmN.nil _⟩
 intro ⟨i, s⟩ hI
 try dsimp only at hI
 have hb16 := QnL (i := i) (by omega)
 try dsimp only
 refine X2 ?_ -- 1
 refine Q9 fun K hK => Qa Z (Qa Z ?_)
 first | refine Q5 rfl Zd ?_ | refine Q5 rfl rfl ?_
 refine YY Z Z (hK _ _ (QR (kp7 Z Z Z Z Z Z Z) ?_))
 refine Y8 Z (fun h1 => ?_) (fun h1 => ?_)
 ·try rw [h1]
  try simp only [qA] at h1
  refine Xj (Q3 (kp6 Z Z Z Z Z Z) ?_)
  refine X2 ?_ -- 2
  refine YQ (Q9 fun K hK => Qa Z (Qa Z (Qk1 Z (Qkl (by omega) (by omega)) (Qpt Z Z (by omega) (Qf7 Z Z (Z5 Z Z (hK _ _ (QR (kp7 Z Z Z Z Z Z Z) ?_))))))))
  refine Y8 Z (fun h2 => ?_) (fun h2 => ?_)
  ·try rw [h2]
   try simp only [qA] at h2
   have hvp := (hz _ (List.getElem_mem (show i < zs.length by omega))).1
   refine ZQ fun K hK => QY (ds0 := [1, 0]) (cs := [_, _]) Z Z Z Z (by simp [Dr.ok, Qbi]) Z (Qa Z (Qa Z (Qar (ds0 := [4, 3, 2, 1, 0]) Z Z (Qh (by omega) (Qh (by omega) (Qh (by omega) hc))) (by simp) (by omega) (by omega) Z (by simp [Dr.ok, Qbi]) Z (Qk Z (Zi (Qh (by omega) (Qh (by omega) (Qh (by omega) hc)))) (QY (ds0 := [2, 1, 0]) (cs := [_, _, _, _, _]) Z (Z2 (Qh (by omega) (Qh (by omega) (Qh (by omega) hc))) (Zs (by omega))) Z Z (by simp [Dr.ok, Qbi]) Z (Zh (ds0 := [1, 0]) (Xw (hz _ (List.getElem_mem (by omega))).1 (hz _ (List.getElem_mem (by omega))).2) Z Z (.inl Z) (by simp [Dr.ok, Qbi]) Z (Zh (ds0 := [0]) (Qc7 (a := s) (b := (YV (zs[i]'(by omega)).v.a (zs[i]'(by omega)).v.b (zs[i]'(by omega)).v.c (zs[i]'(by omega)).v.p (zs[i]'(by omega)).v.q)) (hI.2.1.sm (by omega)) (hI.2.2.sm (by omega)) ((QbC hvp).1.sm (by omega)) ((QbC hvp).2.sm (by omega)) (by have := hI.2.1.1; have := (QbC (a := (zs[i]'(by omega)).v.a) (b := (zs[i]'(by omega)).v.b) (c := (zs[i]'(by omega)).v.c) (q := (zs[i]'(by omega)).v.q) hvp).1.1; omega) (by have := hI.2.2.1; have := (QbC (a := (zs[i]'(by omega)).v.a) (b := (zs[i]'(by omega)).v.b) (c := (zs[i]'(by omega)).v.c) (q := (zs[i]'(by omega)).v.q) hvp).2.1; omega)) Z Z (.inl Z) (by simp [Dr.ok, Qbi]) Z (XB (ds0 := []) Z Z Z Z Z Z Z Z (by simp [Dr.ok, Qbi]) Z (hK _ ?_)))))))))
   refine Ql (Q3 (kp6 Z Z Z Z Z Z) (ZQ fun K hK => Qa Z (Zb Z Z (by first | exact Qr (by omega) (by omega) | rfl) (Qa Z (hK _ ?_)))))
   refine Qp (i + 1, QnZ s (YV (zs[i]'(by omega)).v.a (zs[i]'(by omega)).v.b (zs[i]'(by omega)).v.c (zs[i]'(by omega)).v.p (zs[i]'(by omega)).v.q)) ?_ ?_ ?_
   ·exact QeF (l := [0, 1, 4, 5, 6, 7]) (B := [_, _, _, _]) (kp6 rfl rfl rfl rfl rfl rfl) rfl (by intro p hp; simp only [List.mem_cons, List.not_mem_nil, or_false] at hp; rcases hp with rfl | rfl | rfl <;> exact ⟨by repeat (first | exact Qs | refine Qh (by first | decide | omega) ?_), rfl⟩) rfl (by intro p hp h; simp only [List.mem_cons, List.not_mem_nil, or_false] at hp; rcases hp with rfl | rfl | rfl | rfl <;> first | (simp only at h; omega) | (repeat (first | exact QP | refine QN ?_))) hB hC (by intro p hp k hk; simp only [List.mem_cons, List.not_mem_nil, or_false] at hp; rcases hp with rfl | rfl | rfl | rfl | rfl | rfl <;> first | (simp [D.ids, D.sid, QX, QL, ZJ] at hk; done) | (simp [D.ids, D.sid, QX, QL, ZJ] at hk; subst hk; repeat (first | exact QP | exact Zi hg | exact Zi hc | refine QN ?_)))
   ·exact ⟨by show i + 1 <= _; omega, Qp7 hI.2 (hz _ (List.getElem_mem (by omega))).1 (by omega)⟩
   ·show zs.length - (i + 1) < zs.length - i; omega
  ·try rw [h2]
   try simp only [qA] at h2
   have hvp := (hz _ (List.getElem_mem (show i < zs.length by omega))).1
   refine Xj (Ql (Q3 (kp6 Z Z Z Z Z Z) (ZQ fun K hK => Qa Z (Zb Z Z (by first | exact Qr (by omega) (by omega) | rfl) (Qa Z (hK _ ?_))))))
   refine Qp (i + 1, s) ?_ ?_ ?_
   ·exact QeF (l := [0, 1, 4, 5, 6, 7]) (B := [_, _, _]) (kp6 rfl rfl rfl rfl rfl rfl) rfl (by intro p hp; simp only [List.mem_cons, List.not_mem_nil, or_false] at hp; rcases hp with rfl | rfl | rfl <;> exact ⟨by repeat (first | exact Qs | refine Qh (by first | decide | omega) ?_), rfl⟩) rfl (by intro p hp h; simp only [List.mem_cons, List.not_mem_nil, or_false] at hp; rcases hp with rfl | rfl | rfl <;> first | (simp only at h; omega) | (repeat (first | exact QP | refine QN ?_))) hB hC (by intro p hp k hk; simp only [List.mem_cons, List.not_mem_nil, or_false] at hp; rcases hp with rfl | rfl | rfl | rfl | rfl | rfl <;> first | (simp [D.ids, D.sid, QX, QL, ZJ] at hk; done) | (simp [D.ids, D.sid, QX, QL, ZJ] at hk; subst hk; repeat (first | exact QP | exact Zi hg | exact Zi hc | refine QN ?_)))
   ·exact ⟨by show i + 1 <= _; omega, Qno hI.2⟩
   ·show zs.length - (i + 1) < zs.length - i; omega
 ·try rw [h1]
  try simp only [qA] at h1
  refine QdB (Xr (QM (QU (Q3 (kp3 Z Z Z) ?_))))
  refine X2 ?_ -- 3
  refine Q9 fun K hK => Qa Z (Yr (Qbu (I := nxI I) Z (Qh (by omega) (Qh (by omega) Qs)) hL (by omega)) (hK _ _ (QR (kp3 Z Z Z) ?_)))
  refine YQ (Q9 fun K hK => Z5 Z Z (Qa Z (hK _ _ (QR (kp4 Z Z Z Z) ?_))))
  refine Y8 Z (fun h3 => ?_) (fun h3 => ?_)
  ·try rw [h3]
   try simp only [qA] at h3
   refine Q9 fun K hK => QB (Qcu) Z Z (.inl Z) (QT Z (Qh (by omega) Z) Z Z Z Z Z Z (hK _ _ (QR (kp1 Z) ?_)))
   refine Qhe (Qw (Qkf ?_))
   refine ⟨Qg3 Qk6, (kg, gB L (nxI (nxI I)) eg) :: H, ⟨Qk6, _, ⟨QnI.1.up (by omega), QnI.2.up (by omega)⟩, rfl, rfl⟩, (Xi hB hC hkg rfl).1, (Xi hB hC hkg rfl).2, ?_⟩
   refine QbI (cs := [ZF Qk6.1, ZF Qk6.2]) Z (Z2 (by repeat (first | exact Qs | refine Qh (by first | decide | omega) ?_)) Z) Z Z Z ?_
   exact Qad (B := [_, _, _, _, _]) hB (by repeat (first | exact Qs | refine Qh (by first | decide | omega) ?_)) (by intro p hp h; simp only [List.mem_cons, List.not_mem_nil, or_false] at hp; rcases hp with rfl | rfl | rfl | rfl | rfl <;> first | rfl | (simp only at h; omega))
  ·try rw [h3]
   try simp only [qA] at h3
   refine Q9 fun K hK => Z5 Z Z (Qa Z (hK _ _ (QR (kp3 Z Z Z) ?_)))
   refine Y8 Z (fun h4 => ?_) (fun h4 => ?_)
   ·try rw [h4]
    try simp only [qA] at h4
    refine Q9 fun K hK => QF (cs := [_, _]) Z (Z2 (Qh (by omega) Z) Z) Z Z (QB (Qcv (a := s) (hI.2.1.sm (by omega)) (hI.2.2.sm (by omega))) Z Z (.inl Z) (QT Z (Qh (by omega) Z) Z Z Z Z Z Z (hK _ _ (QR (kp1 Z) ?_))))
    refine Qhe (Qw (Qkf ?_))
    refine ⟨Qg3 (QgE s), (kg, gB L (nxI (nxI I)) eg) :: H, ⟨(QgE s), _, ⟨(Ql7 hI.2 (by omega)).1.up (by omega), (Ql7 hI.2 (by omega)).2.up (by omega)⟩, rfl, rfl⟩, (Xi hB hC hkg rfl).1, (Xi hB hC hkg rfl).2, ?_⟩
    refine QbI (cs := [ZF (QgE s).1, ZF (QgE s).2]) Z (Z2 (by repeat (first | exact Qs | refine Qh (by first | decide | omega) ?_)) Z) Z Z Z ?_
    exact Qad (B := [_, _, _, _, _]) hB (by repeat (first | exact Qs | refine Qh (by first | decide | omega) ?_)) (by intro p hp h; simp only [List.mem_cons, List.not_mem_nil, or_false] at hp; rcases hp with rfl | rfl | rfl | rfl | rfl <;> first | rfl | (simp only at h; omega))
   ·try rw [h4]
    try simp only [qA] at h4
    refine Xj (Ql (Q3 (kp2 Z Z) (Q9 fun K hK => QF (cs := [_, _]) Z (Z2 (Qh (by omega) Z) Z) Z Z (QT Z (Qh (by omega) Z) Z Z Z Z Z Z (hK _ _ (QR (kp1 Z) ?_))))))
    refine Qhe ?_
    refine ⟨Qg3 s, (kg, gB L (nxI (nxI I)) eg) :: H, ⟨s, _, ⟨hI.2.1.up (by omega), hI.2.2.up (by omega)⟩, rfl, rfl⟩, (Xi hB hC hkg rfl).1, (Xi hB hC hkg rfl).2, ?_⟩
    refine QbI (cs := [ZF s.1, ZF s.2]) Z (Z2 (by repeat (first | exact Qs | refine Qh (by first | decide | omega) ?_)) Z) Z Z Z ?_
    exact Qad (B := [_, _, _, _, _]) hB (by repeat (first | exact Qs | refine Qh (by first | decide | omega) ?_)) (by intro p hp h; simp only [List.mem_cons, List.not_mem_nil, or_false] at hp; rcases hp with rfl | rfl | rfl | rfl | rfl <;> first | rfl | (simp only at h; omega))
end Go.Proofs
namespace Go.Proofs
open Go Go.Abs M3 M25
set_option linter.unusedVariables false
set_option linter.unusedSimpArgs false
/-- The call of 'set', over boxes that are lent. -/
theorem QqK {H : List (Nat × Box)} {kg kc : Nat} {L : List Int} {I : Int} {eg ec : Nat} {pr : Bool} {zs : List CR} (hg : lk H kg = some (gB L I eg)) (hc : lk H kc = some ⟨zs.map dCR, 8, ec, pr⟩) (hne : kg ≠ kc) (hC : Closed H) (hL : ∀ x ∈ L, I64 x) (hz : ∀ z ∈ zs, Qfu z.v) (hn : zs.length <= 16) :
  ∃ s I2, SetOk s /\ ∀ (st : St) (args : List Opd), Zn st args = some [.ref kg 0 0, .osl kc zs.length] -> (∀ j x, lk H j = some x -> lk st.H j = some x) -> Qa5 Try.prog 45 args st H [] [(kg, gB L I2 eg)] (Qg3 s) := by
 obtain ⟨d, H2, ⟨s, I2, hs, rfl, rfl⟩, hok⟩ := Qcr (H := upH H) (kg := upN kg) (kc := upN kc) (L := L) (I := I) (eg := eg) (ec := ec) (pr := pr) (zs := zs.map CR.ren) (by unfold upN; omega) (by rw [Qae, hg]; rfl) (by rw [Qae, hc, Option.map_some, Box.ren, Qle]) (fun e => hne (Qjj e)) Qji (Qdy hC) hL
  (fun z hz' => by obtain ⟨z0, h0, rfl⟩ := List.mem_map.1 hz'; exact hz z0 h0) (by simpa using hn)
 refine ⟨s, I2, hs, fun st args ha hF => Qjv (b' := gB L I2 eg) (ds' := [.ref (upN kg) 0 0, .osl (upN kc) zs.length]) ha hF hC (fun x hx j hj => ?_) (Zi hg) Z Z Z Z ?_⟩
 ·simp only [List.mem_cons, List.not_mem_nil, or_false] at hx
  rcases hx with rfl | rfl
  ·simp [D.ids, D.sid] at hj; subst hj; exact Zi hg
  ·simp [D.ids, D.sid] at hj; subst hj; exact Zi hc
 ·rw [List.length_map] at hok; exact hok
theorem Qb7 {H : List (Nat × Box)} {kg ku : Nat} {L : List Int} {I : Int} {eg eu ec : Nat} {us : List UR} (hkg : 1000000 <= kg) (hg : lk H kg = some (gB L I eg)) (hU : Fam H kg ku eu ec us) (hB : Big H) (hC : Closed H) (hL : ∀ x ∈ L, I64 x) (h2n : 2 <= us.length) (hn : us.length <= 48) : ∃ d H2, (∃ x I2, WantIn us.length x /\ d = .agg (Qfj x) /\ H2 = (kg, gB L I2 eg) :: H) /\ OkH Try.prog 26 [.ref kg 0 0, .osl ku us.length] H d H2 := by
 obtain ⟨pu, hu⟩ := hU.u
 have hku := hB _ _ hu
 have hne := hU.ne
 have hx0 := QjZ (v := QhN L (IntKind.i64.wrap (nxI I - 1))) (n := (us.length : Int) - 1)
 have hx1 := QjY (v := QhN L (IntKind.i64.wrap (nxI I - 1))) (n := (us.length : Int) - 1) (by omega)
 change 0 <= nx L I ((us.length : Int) - 1) at hx0
 change nx L I ((us.length : Int) - 1) < _ at hx1
 obtain ⟨hyk, pr, hy⟩ := hU.c (us[(1 + nx L I ((us.length : Int) - 1)).toNat]'(by omega)) (List.getElem_mem _)
 obtain ⟨hv1, hv2⟩ := hU.v (us[(1 + nx L I ((us.length : Int) - 1)).toNat]'(by omega)) (List.getElem_mem _)
 obtain ⟨s, I2, hs, hcall⟩ := QqK (H := (kg, gB L (nxI I) eg) :: H) Qs (Qh (Ne.symm hyk) hy) (Ne.symm hyk) (hC.pr rfl) hL hv2 hv1
 refine OkH.ofX (R := fun d H2 => ∃ x I2, WantIn us.length x /\ d = .agg (Qfj x) /\ H2 = (kg, gB L I2 eg) :: H) Yi Try.func26 Qrg (Nat.le_of_ble_eq_true Z) ?_
 show TX _ _ tf26.body _ _
 refine Q9 fun K hK => ?_
 refine ZC (by repeat (first | exact hB.none (by decide) | refine Zj (by first | decide | omega) ?_)) ?_
 refine hK _ _ (QR (kp3 Z Z Z) ?_)
 refine Q9 fun K hK => Qa Z (Qa Z ?_)
 first | refine Q5 rfl Zd ?_ | refine Q5 rfl rfl ?_
 refine Qa9 Z Z (by first | exact Qr (by omega) (by omega) | rfl) (Yr (Qbu (I := I) Z (Qh (by omega) hg) hL (by omega)) (Zb Z Z (by first | exact Qr (by omega) (by omega) | rfl) (Qa Z (hK _ _ (QR (kp4 Z Z Z Z) ?_)))))
 refine Q9 fun K hK => Qa rfl (Qa rfl (Qa rfl (Qa rfl (YX rfl rfl (Qh (by omega) (Qh (by omega) hu)) (by simp) (by omega) (by omega) rfl (Qk rfl (Zi (Qh (by omega) (Qh (by omega) hu))) (QE rfl (Z2 (Qh (by omega) (Qh (by omega) hu)) (ZW (by omega) (by omega))) rfl (Yr (hcall _ _ rfl (Qad (B := [_, _]) hB Qs (by intro p hp h; simp only [List.mem_cons, List.not_mem_nil, or_false] at hp; rcases hp with rfl | rfl <;> first | rfl | (simp only at h; omega)))) (QS rfl rfl (QT rfl (Qh (by omega) (Qh (by omega) rfl)) rfl rfl rfl rfl rfl rfl (hK _ _ (QR (kp1 rfl) ?_)))))))))))
 refine Qhe ?_
 refine ⟨.agg (Qfj ⟨1 + nx L I ((us.length : Int) - 1), s⟩), (kg, gB L I2 eg) :: H, ⟨⟨1 + nx L I ((us.length : Int) - 1), s⟩, _, ⟨by show 1 <= 1 + _; omega, by show 1 + _ < (us.length : Int); omega, hs⟩, rfl, rfl⟩, (Xi hB hC hkg rfl).1, (Xi hB hC hkg rfl).2, ?_⟩
 refine QbI (cs := Qfj ⟨1 + nx L I ((us.length : Int) - 1), s⟩) Z (Z2 (by repeat (first | exact Qs | refine Qh (by first | decide | omega) ?_)) Z) Z Z Z ?_
 exact Qad (B := [_, _, _, _]) hB (by repeat (first | exact Qs | refine Qh (by first | decide | omega) ?_)) (by intro p hp h; simp only [List.mem_cons, List.not_mem_nil, or_false] at hp; rcases hp with rfl | rfl | rfl | rfl <;> first | rfl | (simp only at h; omega))
/-- The call of 'want'. -/
theorem Qj7 {H : List (Nat × Box)} {kg ku : Nat} {L : List Int} {I : Int} {eg eu ec : Nat} {us : List UR} (hg : lk H kg = some (gB L I eg)) (hU : Fam H kg ku eu ec us) (hC : Closed H) (hL : ∀ x ∈ L, I64 x) (h2 : 2 <= us.length) (hn : us.length <= 48) :
  ∃ x I2, WantIn us.length x /\ ∀ (st : St) (args : List Opd), Zn st args = some [.ref kg 0 0, .osl ku us.length] -> (∀ j x, lk H j = some x -> lk st.H j = some x) -> Qa5 Try.prog 26 args st H [] [(kg, gB L I2 eg)] (.agg (Qfj x)) := by
 obtain ⟨d, H2, ⟨x, I2, hx, rfl, rfl⟩, hok⟩ := Qb7 (H := upH H) (kg := upN kg) (ku := upN ku) (L := L) (I := I) (eg := eg) (eu := eu) (ec := ec) (us := us.map UR.ren) (by unfold upN; omega) (by rw [Qae, hg]; rfl) hU.up Qji (Qdy hC) hL (by simpa using h2) (by simpa using hn)
 obtain ⟨pu, hu⟩ := hU.u
 rw [List.length_map] at hx hok
 refine ⟨x, I2, hx, fun st args ha hF => Qjv (b' := gB L I2 eg) (ds' := [.ref (upN kg) 0 0, .osl (upN ku) us.length]) ha hF hC (fun x hx j hj => ?_) (Zi hg) Z Z Z Z hok⟩
 simp only [List.mem_cons, List.not_mem_nil, or_false] at hx
 rcases hx with rfl | rfl
 ·simp [D.ids, D.sid] at hj; subst hj; exact Zi hg
 ·simp [D.ids, D.sid] at hj; subst hj; exact Zi hu
end Go.Proofs
namespace Go.Proofs
open Go Go.Abs M3 M25
set_option linter.unusedVariables false
set_option linter.unusedSimpArgs false
theorem QbP {H : List (Nat × Box)} {kg ku : Nat} {L : List Int} {I most : Int} {eg eu ec : Nat} {us : List UR} (hkg : 1000000 <= kg) (hg : lk H kg = some (gB L I eg)) (hU : Fam H kg ku eu ec us) (hB : Big H) (hC : Closed H) (hL : ∀ x ∈ L, I64 x) (h2n : 2 <= us.length) (hn : us.length <= 48) (hm0 : 0 <= most) (hm1 : most <= 10) : ∃ d H2, (∃ ns I2, Qec us.length most ns /\ d = QL ns /\ H2 = (kg, gB L I2 eg) :: H) /\ OkH Try.prog 23 [.ref kg 0 0, .osl ku us.length, .int .i64 most] H d H2 := by
 obtain ⟨pu, hu⟩ := hU.u
 have hku := hB _ _ hu
 have hne := hU.ne
 have hk0 : 0 <= nx L I (most + 1) := QjZ
 have hk1 : nx L I (most + 1) < most + 1 := QjY (by omega)
 refine OkH.ofX (R := fun d H2 => ∃ ns I2, Qec us.length most ns /\ d = QL ns /\ H2 = (kg, gB L I2 eg) :: H) Yi Try.func23 Qrd (Nat.le_of_ble_eq_true Z) ?_
 show TX _ _ tf23.body _ _
 refine Q9 fun K hK => Qa Z (hK _ _ (QR (kp3 Z Z Z) ?_))
 refine Q9 fun K hK => Qa Z (hK _ _ (QR (kp4 Z Z Z Z) ?_))
 refine X2 ?_ -- 0
 refine Q9 fun K hK => Qa Z (Qa Z (Zb Z Z (by first | exact Qr (by omega) (by omega) | rfl) (Yr (Qbu (I := I) Z hg hL (by omega)) (Qa Z (hK _ _ (QR (kp4 Z Z Z Z) ?_))))))
 refine YQ ?_
 refine Qef (ι := Nat × List (List WantT) × Int) (fun ⟨k, ns, J⟩ => ⟨[(0, .ref kg 0 0), (1, .osl ku us.length), (7, .osl 7 ns.length), (8, .int .i64 k)], [(7, ⟨(ns).map (fun r => [QX r]), 1, 61, true⟩), (kg, gB L J eg)] ++ H⟩) (fun ⟨k, ns, J⟩ => (ns.length : Int) + k <= most /\ ∀ r ∈ ns, Qhd us.length r) (fun ⟨k, ns, J⟩ => k) ((nx L I (most + 1)).toNat, [], nxI I) ?_ ?_ ?_
 ·exact le_trans (Qax 7 7 1 61 rfl (by repeat (first | exact hB.none (by decide) | refine Zj (by first | decide | omega) ?_))) (QeF (l := [0, 1, 7, 8]) (B := [_, _]) (kp4 rfl rfl rfl rfl) (by simp only [Int.toNat_of_nonneg hk0] <;> rfl) (by intro p hp; simp only [List.mem_cons, List.not_mem_nil, or_false] at hp; rcases hp with rfl | rfl <;> exact ⟨by repeat (first | exact Qs | refine Qh (by first | decide | omega) ?_), rfl⟩) rfl (by intro p hp h; simp only [List.mem_cons, List.not_mem_nil, or_false] at hp; rcases hp with rfl | rfl <;> first | (simp only at h; omega) | (repeat (first | exact QP | refine QN ?_))) hB hC (by intro p hp k hk; simp only [List.mem_cons, List.not_mem_nil, or_false] at hp; rcases hp with rfl | rfl | rfl | rfl <;> first | (simp [D.ids, D.sid, QX, QL, ZJ] at hk; done) | (simp [D.ids, D.sid, QX, QL, ZJ] at hk; subst hk; repeat (first | exact QP | exact Zi hg | exact Zi hu | refine QN ?_))))
 ·exact ⟨by simp only [List.length_nil]; omega, by simp⟩
 intro ⟨k, ns, J⟩ hI
 try dsimp only at hI
 try dsimp only
 refine X2 ?_ -- 1
 refine Q9 fun K hK => Qa Z (Qg0 Z Z (hK _ _ (QR (kp5 Z Z Z Z Z) ?_)))
 refine Y8 Z (fun h1 => ?_) (fun h1 => ?_)
 ·try rw [h1]
  try simp only [qA] at h1
  refine Xj (Q3 (kp4 Z Z Z Z) ?_)
  refine X2 ?_ -- 2
  refine YQ (Q9 fun K hK => Qa Z (Qa Z ?_))
  obtain ⟨x1, J1, hx1, hc1⟩ := Qj7 (I := J) (H := (kg, gB L (J) eg) :: H) Qs hU.cons (hC.pr rfl) hL h2n hn
  refine Yr (hc1 _ _ rfl (Qad (B := [_, _]) hB (by repeat (first | exact Qs | refine Qh (by first | decide | omega) ?_)) (by intro p hp h; simp only [List.mem_cons, List.not_mem_nil, or_false] at hp; rcases hp with rfl | rfl <;> first | rfl | (simp only at h; omega)))) ?_
  refine QG Z (by repeat (first | exact hB.none (by decide) | refine Zj (by first | decide | omega) ?_)) ?_
  refine Qa Z (hK _ _ (QR (kp5 Z Z Z Z Z) ?_))
  refine Qpx (ι := List WantT × Int) (fun ⟨r, J4⟩ => ⟨[(0, .ref kg 0 0), (1, .osl ku us.length), (7, .osl 7 ns.length), (8, .int .i64 k), (9, QX r)], [(7, ⟨(ns).map (fun r => [QX r]), 1, 61, true⟩), (kg, gB L J4 eg)] ++ H⟩) (fun ⟨r, J4⟩ => Qhd us.length r) ?_ ?_
  ·skip
   refine Q9 fun K hK => Qa Z (Yr (Qbu (I := J1) Z (Qh (by omega) Qs) hL (by omega)) (Z5 Z Z (hK _ _ (QR (kp6 Z Z Z Z Z Z) ?_))))
   refine Y8 Z (fun h2 => ?_) (fun h2 => ?_)
   ·try rw [h2]
    try simp only [qA] at h2
    refine ZQ fun K hK => Qa Z (Qa Z (Qa Z ?_))
    obtain ⟨x2, J2, hx2, hc2⟩ := Qj7 (I := nxI J1) (H := (kg, gB L (nxI J1) eg) :: H) Qs hU.cons (hC.pr rfl) hL h2n hn
    refine Yr (hc2 _ _ rfl (Qad (B := [_, _, _, _, _]) hB (by repeat (first | exact Qs | refine Qh (by first | decide | omega) ?_)) (by intro p hp h; simp only [List.mem_cons, List.not_mem_nil, or_false] at hp; rcases hp with rfl | rfl | rfl | rfl | rfl <;> first | rfl | (simp only at h; omega)))) ?_
    refine QG Z (by repeat (first | exact hB.none (by decide) | refine Zj (by first | decide | omega) ?_)) ?_
    refine Qog Z Z (by simp [D.ids, D.sid]) ⟨_, rfl, rfl, rfl, rfl, rfl⟩ (by repeat (first | exact hB.none (by decide) | refine Zj (by first | decide | omega) ?_)) (Qh (by decide) (Qh (by omega) (Qh (by omega) Z))) Z Z Z (by simp) (by simp) ?_
    refine Qa Z (hK _ ?_)
    refine Yu ([x1, x2], J2) ?_ ?_
    ·exact le_trans (QiP (l := [0, 1, 7, 8]) (B := [_, _, _, _, _, _, _, _, _]) (A := [(7, ⟨(ns).map (fun r => [QX r]), 1, 61, true⟩), (kg, gB L J2 eg)]) 30 9 (kp4 rfl rfl rfl rfl) rfl rfl rfl (by first | (simp; done) | (simp; omega)) (by intro p hp hk; simp only [List.mem_cons, List.not_mem_nil, or_false] at hp; rcases hp with rfl | rfl | rfl | rfl <;> first | (simp [D.ids, D.sid, QX, QL, ZJ] at hk; done) | (simp [D.ids, D.sid, QX, QL, ZJ] at hk; omega)) (by intro p hp; simp only [List.mem_cons, List.not_mem_nil, or_false] at hp; rcases hp with rfl | rfl <;> exact ⟨by first | decide | (simp only; omega), by repeat (first | exact Qs | refine Qh (by first | decide | omega) ?_), rfl⟩) (by intro p hp h; simp only [List.mem_cons, List.not_mem_nil, or_false] at hp; rcases hp with rfl | rfl | rfl | rfl | rfl | rfl | rfl | rfl | rfl <;> first | (simp only at h; omega) | (repeat (first | exact QP | refine QN ?_))) hB hC (by intro p hp k hk; simp only [List.mem_cons, List.not_mem_nil, or_false] at hp; rcases hp with rfl | rfl | rfl | rfl <;> first | (simp [D.ids, D.sid, QX, QL, ZJ] at hk; done) | (simp [D.ids, D.sid, QX, QL, ZJ] at hk; subst hk; repeat (first | exact QP | exact Zi hg | exact Zi hu | refine QN ?_)))) (QeF (l := [0, 1, 7, 8, 9]) (B := [_, _]) (kp5 rfl rfl rfl rfl rfl) rfl (by intro p hp; simp only [List.mem_cons, List.not_mem_nil, or_false] at hp; rcases hp with rfl | rfl <;> exact ⟨by repeat (first | exact Qs | refine Qh (by first | decide | omega) ?_), rfl⟩) rfl (by intro p hp h; simp only [List.mem_cons, List.not_mem_nil, or_false] at hp; rcases hp with rfl | rfl <;> first | (simp only at h; omega) | (repeat (first | exact QP | refine QN ?_))) hB hC (by intro p hp k hk; simp only [List.mem_cons, List.not_mem_nil, or_false] at hp; rcases hp with rfl | rfl | rfl | rfl | rfl <;> first | (simp [D.ids, D.sid, QX, QL, ZJ] at hk; done) | (simp [D.ids, D.sid, QX, QL, ZJ] at hk; subst hk; repeat (first | exact QP | exact Zi hg | exact Zi hu | refine QN ?_))))
    ·exact QoX hx1 hx2
   ·try rw [h2]
    try simp only [qA] at h2
    refine Xj ?_
    refine Yu ([x1], nxI J1) ?_ ?_
    ·exact le_trans (QiP (l := [0, 1, 7, 8]) (B := [_, _, _, _, _]) (A := [(7, ⟨(ns).map (fun r => [QX r]), 1, 61, true⟩), (kg, gB L (nxI J1) eg)]) 21 9 (kp4 rfl rfl rfl rfl) rfl (Qh (by omega) rfl) rfl (by first | (simp; done) | (simp; omega)) (by intro p hp hk; simp only [List.mem_cons, List.not_mem_nil, or_false] at hp; rcases hp with rfl | rfl | rfl | rfl <;> first | (simp [D.ids, D.sid, QX, QL, ZJ] at hk; done) | (simp [D.ids, D.sid, QX, QL, ZJ] at hk; omega)) (by intro p hp; simp only [List.mem_cons, List.not_mem_nil, or_false] at hp; rcases hp with rfl | rfl <;> exact ⟨by first | decide | (simp only; omega), by repeat (first | exact Qs | refine Qh (by first | decide | omega) ?_), rfl⟩) (by intro p hp h; simp only [List.mem_cons, List.not_mem_nil, or_false] at hp; rcases hp with rfl | rfl | rfl | rfl | rfl <;> first | (simp only at h; omega) | (repeat (first | exact QP | refine QN ?_))) hB hC (by intro p hp k hk; simp only [List.mem_cons, List.not_mem_nil, or_false] at hp; rcases hp with rfl | rfl | rfl | rfl <;> first | (simp [D.ids, D.sid, QX, QL, ZJ] at hk; done) | (simp [D.ids, D.sid, QX, QL, ZJ] at hk; subst hk; repeat (first | exact QP | exact Zi hg | exact Zi hu | refine QN ?_)))) (QeF (l := [0, 1, 7, 8, 9]) (B := [_, _]) (kp5 rfl rfl rfl rfl rfl) rfl (by intro p hp; simp only [List.mem_cons, List.not_mem_nil, or_false] at hp; rcases hp with rfl | rfl <;> exact ⟨by repeat (first | exact Qs | refine Qh (by first | decide | omega) ?_), rfl⟩) rfl (by intro p hp h; simp only [List.mem_cons, List.not_mem_nil, or_false] at hp; rcases hp with rfl | rfl <;> first | (simp only at h; omega) | (repeat (first | exact QP | refine QN ?_))) hB hC (by intro p hp k hk; simp only [List.mem_cons, List.not_mem_nil, or_false] at hp; rcases hp with rfl | rfl | rfl | rfl | rfl <;> first | (simp [D.ids, D.sid, QX, QL, ZJ] at hk; done) | (simp [D.ids, D.sid, QX, QL, ZJ] at hk; subst hk; repeat (first | exact QP | exact Zi hg | exact Zi hu | refine QN ?_))))
    ·exact QoW hx1
  intro ⟨r, J4⟩ hJ
  try dsimp only at hJ
  try dsimp only
  refine ZQ fun K hK => Qa Z (Qa Z ?_)
  refine QG Z (by repeat (first | exact hB.none (by decide) | refine Zj (by first | decide | omega) ?_)) ?_
  refine QdA Z Z (fun _ h => Qb5 Z Z Z h) Z (by simp) Z Z Z (by simp; omega) (by simp; omega) (Qa Z (hK _ ?_))
  refine Ql (Q3 (kp4 Z Z Z Z) (ZQ fun K hK => Qa Z (Qa9 Z Z (by first | exact Qr (by omega) (by omega) | rfl) (Qa Z (hK _ ?_)))))
  refine Qp (k - 1, ns ++ [r], J4) ?_ ?_ ?_
  ·exact le_trans (QpP (B := [_, _, _, _]) 7 hB hC) (QeF (l := [0, 1, 7, 8]) (A := [(7, ⟨ns.map (fun r => [QX r]) ++ [[QX r]], 1, 61, true⟩), (kg, gB L J4 eg)]) (B := [_, _, _, _]) (kp4 rfl rfl rfl rfl) (by simp [D.scrub, show ¬ kg = 7 by omega, show ¬ ku = 7 by omega] <;> omega) (by intro p hp; simp only [List.mem_cons, List.not_mem_nil, or_false] at hp; rcases hp with rfl | rfl <;> exact ⟨by repeat (first | exact Qs | refine Qh (by first | decide | omega) ?_), rfl⟩) (by simp) (by intro p hp h; simp only [List.mem_cons, List.not_mem_nil, or_false] at hp; rcases hp with rfl | rfl | rfl | rfl <;> first | (simp only at h; omega) | (repeat (first | exact QP | refine QN ?_))) hB hC (by intro p hp k hk; simp only [List.mem_cons, List.not_mem_nil, or_false] at hp; rcases hp with rfl | rfl | rfl | rfl <;> first | (simp [D.ids, D.sid, QX, QL, ZJ] at hk; done) | (simp [D.ids, D.sid, QX, QL, ZJ] at hk; subst hk; repeat (first | exact QP | exact Zi hg | exact Zi hu | refine QN ?_))))
  ·exact ⟨by simp only [List.length_append, List.length_singleton]; omega, Qmm hI.2 hJ⟩
  ·show k - 1 < k; omega
 ·try rw [h1]
  try simp only [qA] at h1
  refine QdB (Xr (QM (QU (Q3 (kp1 Z) (Q9 fun K hK => Qa Z (Qa Z (hK _ _ (QR (kp1 Z) ?_))))))))
  refine Qhe ?_
  refine ⟨QL ns, (kg, gB L J eg) :: H, ⟨ns, _, ⟨by omega, hI.2⟩, rfl, rfl⟩, (Xi hB hC hkg rfl).1, (Xi hB hC hkg rfl).2, ?_⟩
  refine X0 Z (by simp [QmA, D.fz, D.fzS, Qfq, lk, D.can, D.canS, QL]) ?_
  exact Qad (B := [_, _]) hB (by repeat (first | exact Qs | refine Qh (by first | decide | omega) ?_)) (by intro p hp h; simp only [List.mem_cons, List.not_mem_nil, or_false] at hp; rcases hp with rfl | rfl <;> first | rfl | (simp only at h; omega))
end Go.Proofs
namespace M25
open Go Go.Abs M3
/-! ### The boxes of a world under way -/
def fbx (ec : Nat) (us : List UR) : List (Nat × Box) := us.map fun u => (u.k, ⟨u.cs.map dCR, 8, ec, true⟩)
def ZZ (us : List UR) : Prop := ∀ j, ∀ h : j < us.length, us[j].k = 500001 + j
theorem QhI {us : List UR} {u : UR} (h : ZZ us) (hu : u.k = 500001 + us.length) : ZZ (us ++ [u]) := fun j hj => by
 rw [List.length_append, List.length_singleton] at hj
 by_cases e : j < us.length
 ·rw [List.getElem_append_left e]; exact h j e
 ·have : j = us.length := by omega
  subst this
  rw [List.getElem_append_right (Nat.le_refl _)]; simpa using hu
theorem Qet (ec : Nat) (us : List UR) : QmC (fbx ec us) := fun p hp => by
 obtain ⟨u, _, rfl⟩ := List.mem_map.1 hp; rfl
theorem QfO {ec : Nat} : ∀ {us : List UR} {k : Nat} {b : Box}, lk (fbx ec us) k = some b -> ∃ u ∈ us, k = u.k /\ b = ⟨u.cs.map dCR, 8, ec, true⟩
 | [], _, _, h => by cases h
 | u :: us, k, b, h => by
  simp only [fbx, List.map_cons] at h
  rw [Qi] at h
  split at h
  ·rename_i e; cases h; exact ⟨u, by simp, e.symm, rfl⟩
  ·obtain ⟨v, hv, q⟩ := QfO (us := us) h
   exact ⟨v, by simp [hv], q⟩
theorem QaO {us : List UR} (h : ZZ us) {u : UR} (hu : u ∈ us) : 500001 <= u.k /\ u.k < 500001 + us.length := by
 obtain ⟨j, hj, rfl⟩ := List.getElem_of_mem hu
 have := h j hj
 omega
theorem Qgj {ec : Nat} {us : List UR} (h : ZZ us) : QqP 500001 (fbx ec us) := fun k b hk => by
 obtain ⟨u, hu, rfl, _⟩ := QfO hk
 exact (QaO h hu).1
theorem Yy {ec : Nat} {us : List UR} (h : ZZ us) {k : Nat} (hk : k < 500001 \/ 500001 + us.length <= k) : lk (fbx ec us) k = none := by
 cases hh : lk (fbx ec us) k with
 | none => rfl
 | some b =>
  obtain ⟨u, hu, rfl, _⟩ := QfO hh
  have := QaO h hu
  omega
theorem Qlq {ec : Nat} : ∀ {us : List UR} {n : Nat}, (∀ j, ∀ h : j < us.length, us[j].k = n + j) -> ∀ j, ∀ h : j < us.length, lk (fbx ec us) (n + j) = some ⟨us[j].cs.map dCR, 8, ec, true⟩
 | [], _, _, j, hj => by simp at hj
 | u :: us, n, hk, 0, _ => by
  have := hk 0 (by simp)
  simp only [List.getElem_cons_zero, Nat.add_zero] at this
  simp only [fbx, List.map_cons, Nat.add_zero]
  rw [Qi, if_pos this]; rfl
 | u :: us, n, hk, j + 1, hj => by
  have h0 := hk 0 (by simp)
  simp only [List.getElem_cons_zero, Nat.add_zero] at h0
  simp only [fbx, List.map_cons]
  rw [Qi, if_neg (by omega)]
  have := Qlq (ec := ec) (us := us) (n := n + 1) (fun i hi => by
   have := hk (i + 1) (by simpa using hi)
   simp only [List.getElem_cons_succ] at this
   omega) j (by simpa using hj)
  rw [show n + 1 + j = n + (j + 1) by omega] at this
  simp only [List.getElem_cons_succ]
  exact this
theorem Qlp {ec : Nat} {us : List UR} (h : ZZ us) {j : Nat} (hj : j < us.length) : lk (fbx ec us) (500001 + j) = some ⟨us[j].cs.map dCR, 8, ec, true⟩ := Qlq h j hj
theorem QjE (ec : Nat) (us : List UR) (u : UR) : fbx ec (us ++ [u]) = fbx ec us ++ [(u.k, ⟨u.cs.map dCR, 8, ec, true⟩)] := by simp [fbx]
theorem QmS {ec : Nat} {us : List UR} (h : ZZ us) {kg : Nat} {x y : Box} {u : UR} (hu : u.k = 500001 + us.length) (hkg : u.k ≠ kg) (k : Nat) :
  lk ((u.k, ⟨u.cs.map dCR, 8, ec, true⟩) :: (500000, x) :: (kg, y) :: fbx ec us) k = lk ((500000, x) :: (kg, y) :: fbx ec (us ++ [u])) k := by
 rw [QjE]
 by_cases e : u.k = k
 ·subst e
  rw [Qs, Qi, if_neg (by omega), Qi, if_neg (Ne.symm hkg), Yz (Yy h (.inr (by omega))), Qs]
 ·rw [Qi, if_neg e, Qi, Qi, Qi, Qi]
  split
  ·rfl
  ·split
   ·rfl
   ·rw [ZM]
    cases h2 : lk (fbx ec us) k with
    | some v => rfl
    | none => rw [Qi, if_neg e]; rfl
def zr (v : Vr) (sh : Int) : CR := ⟨v, .int .i64 sh, .fsl [], .fsl []⟩
def Qpk (u : UR) : Prop := u.cs.length <= 4 /\ ∀ z ∈ u.cs, ∃ v sh, z = zr v sh /\ Qfu v
theorem QnR {u : UR} : (dUR u).flatMap D.sid = [u.k] := by simp [dUR, D.sid]
theorem QaW {us : List UR} {e et : Nat} {k : Nat} (h : k ∈ (Box.ids ⟨us.map dUR, e, et, false⟩)) : ∃ u ∈ us, k = u.k := by
 simp only [Box.ids, Bool.false_eq_true, if_false, List.mem_flatMap, List.mem_map] at h
 obtain ⟨r, ⟨u, hu, rfl⟩, hk⟩ := h
 have : k ∈ (dUR u).flatMap D.sid := List.mem_flatMap.2 hk
 rw [QnR] at this
 exact ⟨u, hu, by simpa using this⟩
theorem Qo6 {us : List UR} (h : ZZ us) : ∀ r ∈ us.map dUR, ∀ d ∈ r, 500000 ∉ d.sid := fun r hr d hd hk => by
 obtain ⟨u, hu, rfl⟩ := List.mem_map.1 hr
 have : 500000 ∈ (dUR u).flatMap D.sid := List.mem_flatMap.2 ⟨d, hd, hk⟩
 rw [QnR] at this
 have h2 := QaO h hu
 simp only [List.mem_singleton] at this
 omega
theorem Qga {B F : List (Nat × Box)} {j : Nat} (h : (lk F j).isSome = true) : (lk (B ++ F) j).isSome = true := by
 rw [ZM]; split
 ·rfl
 ·exact h
theorem QcA {ec : Nat} {us : List UR} (h : ZZ us) {u : UR} (hu : u ∈ us) : (lk (fbx ec us) u.k).isSome = true := by
 obtain ⟨j, hj, rfl⟩ := List.getElem_of_mem hu
 rw [h j hj, Qlp h hj]; rfl
theorem Qgk {ec : Nat} {us : List UR} {u : UR} (h : ZZ us) (hu : u.k = 500001 + us.length) : lk (fbx ec (us ++ [u])) (500001 + us.length) = some ⟨u.cs.map dCR, 8, ec, true⟩ := by
 rw [QjE, Yz (Yy h (.inr (Nat.le_refl _))), <- hu, Qs]
section
variable {l : List Nat} {fr fr1 fr' : List (Nat × D)} {B : List (Nat × Box)} {kg eg eu ec : Nat} {L : List Int} {J : Int} {us : List UR}
theorem QqT (hf : Q1 l fr = fr1) (ef : fr1 = fr') (hK : ZZ us) (hu : lk B 500000 = some ⟨us.map dUR, 3, eu, false⟩) (hg : lk B kg = some (gB L J eg)) (hB : ∀ p ∈ B, 500001 <= p.1 -> p.1 = kg) (hkg : kg ≠ 500000)
  (hfr : ∀ p ∈ fr', ∀ k ∈ p.2.ids, k = 500000 \/ k = kg \/ ∃ u ∈ us, k = u.k) : St.le ⟨fr, B ++ fbx ec us⟩ ⟨fr', [(500000, ⟨us.map dUR, 3, eu, false⟩), (kg, gB L J eg)] ++ fbx ec us⟩ := by
 have s0 : ∀ k, (k = 500000 \/ k = kg \/ ∃ u ∈ us, k = u.k) -> (lk ([(500000, (⟨us.map dUR, 3, eu, false⟩ : Box)), (kg, gB L J eg)] ++ fbx ec us) k).isSome = true := fun k hk => by
  rcases hk with rfl | rfl | ⟨u, hu, rfl⟩
  ·exact QP
  ·exact QN QP
  ·exact Qga (QcA hK hu)
 refine QiR (N := 500001) hf ef (fun p hp => ?_) rfl (fun p hp j hj => s0 j ?_) (fun p hp h => ?_) (Qgj hK) (Qet ec us) (fun p hp k hk => s0 k (hfr p hp k hk))
 ·simp only [List.mem_cons, List.not_mem_nil, or_false] at hp
  rcases hp with rfl | rfl
  ·exact hu
  ·exact hg
 ·simp only [List.mem_cons, List.not_mem_nil, or_false] at hp
  rcases hp with rfl | rfl
  ·exact .inr (.inr (QaW hj))
  ·simp [Box.ids, gB] at hj
 ·rw [hB p hp h]; exact QN QP
theorem Qpi {cs : List CR} (hf : Q1 l fr = fr1) (ef : fr1 = fr') (hK : ZZ us) (hc : lk B (500001 + us.length) = some ⟨cs.map dCR, 8, ec, true⟩) (hu : lk B 500000 = some ⟨us.map dUR, 3, eu, false⟩) (hg : lk B kg = some (gB L J eg)) (hB : ∀ p ∈ B, 500001 <= p.1 -> p.1 = kg \/ p.1 = 500001 + us.length)
  (hfr : ∀ p ∈ fr', ∀ k ∈ p.2.ids, k = 500000 \/ k = kg \/ k = 500001 + us.length \/ ∃ u ∈ us, k = u.k) : St.le ⟨fr, B ++ fbx ec us⟩ ⟨fr', [(500001 + us.length, ⟨cs.map dCR, 8, ec, true⟩), (500000, ⟨us.map dUR, 3, eu, false⟩), (kg, gB L J eg)] ++ fbx ec us⟩ := by
 have s0 : ∀ k, (k = 500000 \/ k = kg \/ k = 500001 + us.length \/ ∃ u ∈ us, k = u.k) -> (lk ([(500001 + us.length, (⟨cs.map dCR, 8, ec, true⟩ : Box)), (500000, (⟨us.map dUR, 3, eu, false⟩ : Box)), (kg, gB L J eg)] ++ fbx ec us) k).isSome = true := fun k hk => by
  rcases hk with rfl | rfl | rfl | ⟨u, hu, rfl⟩
  ·exact QN QP
  ·exact QN (QN QP)
  ·exact QP
  ·exact Qga (QcA hK hu)
 refine QiR (N := 500001) hf ef (fun p hp => ?_) rfl (fun p hp j hj => s0 j ?_) (fun p hp h => ?_) (Qgj hK) (Qet ec us) (fun p hp k hk => s0 k (hfr p hp k hk))
 ·simp only [List.mem_cons, List.not_mem_nil, or_false] at hp
  rcases hp with rfl | rfl | rfl
  ·exact hc
  ·exact hu
  ·exact hg
 ·simp only [List.mem_cons, List.not_mem_nil, or_false] at hp
  rcases hp with rfl | rfl | rfl
  ·simp [Box.ids] at hj
  ·exact .inr (.inr (.inr (QaW hj)))
  ·simp [Box.ids, gB] at hj
 ·rcases hB p hp h with e | e
  ·rw [e]; exact QN (QN QP)
  ·rw [e]; exact QP
theorem Qqa {u : UR} (hf : Q1 l fr = fr1) (ef : fr1 = fr') (hK : ZZ us) (huk : u.k = 500001 + us.length) (hc : lk B (500001 + us.length) = some ⟨u.cs.map dCR, 8, ec, true⟩) (hu : lk B 500000 = some ⟨(us ++ [u]).map dUR, 3, eu, false⟩) (hg : lk B kg = some (gB L J eg)) (hB : ∀ p ∈ B, 500001 <= p.1 -> p.1 = kg \/ p.1 = 500001 + us.length) (hkg : 1000000 <= kg) (hlen : us.length <= 100)
  (hfr : ∀ p ∈ fr', ∀ k ∈ p.2.ids, k = 500000 \/ k = kg \/ ∃ v ∈ us ++ [u], k = v.k) : St.le ⟨fr, B ++ fbx ec us⟩ ⟨fr', [(500000, ⟨(us ++ [u]).map dUR, 3, eu, false⟩), (kg, gB L J eg)] ++ fbx ec (us ++ [u])⟩ := by
 have hK1 := QhI hK huk
 have mv := fun k => QmS (ec := ec) hK (kg := kg) (x := ⟨(us ++ [u]).map dUR, 3, eu, false⟩) (y := gB L J eg) huk (by omega) k
 have s0 : ∀ k, (k = 500000 \/ k = kg \/ ∃ v ∈ us ++ [u], k = v.k) -> (lk ([(u.k, (⟨u.cs.map dCR, 8, ec, true⟩ : Box)), (500000, (⟨(us ++ [u]).map dUR, 3, eu, false⟩ : Box)), (kg, gB L J eg)] ++ fbx ec us) k).isSome = true := fun k hk => by
  show (lk ((u.k, _) :: (500000, _) :: (kg, _) :: fbx ec us) k).isSome = true
  rw [mv]
  rcases hk with rfl | rfl | ⟨v, hv, rfl⟩
  ·exact QP
  ·exact QN QP
  ·exact QN (QN (QcA hK1 hv))
 refine le_trans (QiR (N := 500001) (A' := [(u.k, ⟨u.cs.map dCR, 8, ec, true⟩), (500000, ⟨(us ++ [u]).map dUR, 3, eu, false⟩), (kg, gB L J eg)]) hf ef (fun p hp => ?_) rfl (fun p hp j hj => s0 j ?_) (fun p hp h => ?_) (Qgj hK) (Qet ec us) (fun p hp k hk => s0 k (hfr p hp k hk))) (Qgy ⟨fun _ => rfl, mv⟩)
 ·simp only [List.mem_cons, List.not_mem_nil, or_false] at hp
  rcases hp with rfl | rfl | rfl
  ·rw [huk]; exact hc
  ·exact hu
  ·exact hg
 ·simp only [List.mem_cons, List.not_mem_nil, or_false] at hp
  rcases hp with rfl | rfl | rfl
  ·simp [Box.ids] at hj
  ·exact .inr (.inr (QaW hj))
  ·simp [Box.ids, gB] at hj
 ·rcases hB p hp h with e | e
  ·rw [e]; exact QN (QN QP)
  ·rw [e, <- huk]; exact QP
end
def u0 (v : Vr) : UR := ⟨[], [], 500001, [zr v (-1)]⟩
def v0 : Vr := ⟨0, 0, 0, [], []⟩
theorem Qnw {kg a b : Nat} (h : 1000000 <= kg) (ha : a < 1000000) (hb : b < 1000000) : Qa7 a b kg = kg := by
 unfold Qa7; rw [if_neg (by omega), if_neg (by omega)]
theorem QlR {l : List Nat} {fr fr1 fr' : List (Nat × D)} {kg eg eu ec : Nat} {L : List Int} {I : Int} (hkg : 1000000 <= kg) (hf : Q1 l fr = fr1) (ef : fr1.map (fun p => (p.1, (p.2.ren (Qa7 18 500000)).ren (Qa7 16 500001))) = fr') :
  St.le ⟨fr, [(18, ⟨[[.str [], .str [], .osl 16 1]], 3, eu, false⟩), (16, ⟨[dCR (zr v0 (-1))], 8, ec, true⟩), (kg, gB L I eg)]⟩ ⟨fr', [(500000, ⟨[u0 v0].map dUR, 3, eu, false⟩), (kg, gB L I eg)] ++ fbx ec [u0 v0]⟩ := by
 subst hf ef
 have k1 := Qnw (a := 18) (b := 500000) hkg (by decide) (by decide)
 have k2 := Qnw (a := 16) (b := 500001) hkg (by decide) (by decide)
 refine le_trans (Qbm l fr _) (le_trans (QiQ 18 500000 (by decide) (by decide) _) (le_trans (QiQ 16 500001 (by decide) (by decide) _) ?_))
 have hH : ∀ k, lk ([(500000, (⟨[u0 v0].map dUR, 3, eu, false⟩ : Box)), (kg, gB L I eg)] ++ fbx ec [u0 v0]) k = lk (QbX (Qa7 16 500001) (QbX (Qa7 18 500000) [(18, ⟨[[.str [], .str [], .osl 16 1]], 3, eu, false⟩), (16, ⟨[dCR (zr v0 (-1))], 8, ec, true⟩), (kg, gB L I eg)])) k := fun k => by
  have e : QbX (Qa7 16 500001) (QbX (Qa7 18 500000) [(18, (⟨[[.str [], .str [], .osl 16 1]], 3, eu, false⟩ : Box)), (16, ⟨[dCR (zr v0 (-1))], 8, ec, true⟩), (kg, gB L I eg)]) = [(500000, ⟨[u0 v0].map dUR, 3, eu, false⟩), (500001, ⟨[dCR (zr v0 (-1))], 8, ec, true⟩), (kg, gB L I eg)] := by
   simp only [QbX, List.map_cons, List.map_nil, k1, k2]; rfl
  rw [e]
  show lk ((500000, _) :: (kg, _) :: (500001, _) :: []) k = _
  rw [Qi, Qi, Qi, Qi, Qi, Qi]
  by_cases h1 : 500000 = k
  ·rw [if_pos h1, if_pos h1]
  ·rw [if_neg h1, if_neg h1]
   by_cases h2 : kg = k
   ·rw [if_pos h2, if_neg (by omega), if_pos h2]
   ·rw [if_neg h2, if_neg h2]; rfl
 refine QaP (by simp only [St.ren, List.map_map]; rfl) fun k => (hH k).symm
def names5 : List (List UInt8) := [[97, 110, 116], [98, 101, 101], [99, 111, 119], [100, 111, 103], [101, 108, 107]]
theorem Q0 : names5.length = 5 := rfl
theorem Qo7 : versions.length = 4 := rfl
theorem Qqd {i : Nat} (h : i < versions.length) : Qfu versions[i] := by
 have := Qjl _ (List.getElem_mem h)
 exact ⟨Nat.le_trans this.1 (by omega), Nat.le_trans this.2 (by omega)⟩
structure UnitsIn (us : List UR) : Prop where
 keys : ZZ us
 fresh : ∀ u ∈ us, Qpk u
 first : ∃ z rest, us = ⟨[], [], 500001, [z]⟩ :: rest
theorem UnitsIn.zero : UnitsIn [u0 v0] := by
 refine ⟨fun j hj => ?_, fun u hu => ?_, ⟨zr v0 (-1), [], rfl⟩⟩
 ·have : j = 0 := by simp at hj; exact hj
  subst this; rfl
 ·simp only [List.mem_singleton] at hu; subst hu
  refine ⟨by simp [u0], fun z hz => ?_⟩
  simp only [u0, List.mem_singleton] at hz; subst hz
  exact ⟨v0, -1, rfl, ⟨Nat.zero_le _, Nat.zero_le _⟩⟩
theorem UnitsIn.snoc {us : List UR} (h : UnitsIn us) {n f : List UInt8} {cs : List CR} (hc : cs.length <= 4) (hz : ∀ z ∈ cs, ∃ v sh, z = zr v sh /\ Qfu v) : UnitsIn (us ++ [⟨n, f, 500001 + us.length, cs⟩]) := by
 obtain ⟨h1, h2, z, rest, h3⟩ := h
 refine ⟨QhI h1 rfl, fun u hu => ?_, z, rest ++ [⟨n, f, 500001 + us.length, cs⟩], by rw [h3]; rfl⟩
 rcases List.mem_append.1 hu with hu | hu
 ·exact h2 u hu
 ·simp only [List.mem_singleton] at hu; subst hu; exact ⟨hc, hz⟩
def CsIn (n : Nat) (cs : List CR) : Prop := cs.length <= n /\ ∀ z ∈ cs, ∃ v sh, z = zr v sh /\ Qfu v
theorem CsIn.nil (n : Nat) : CsIn n [] := ⟨Nat.zero_le _, by simp⟩
theorem CsIn.keep {n : Nat} {cs : List CR} (h : CsIn n cs) : CsIn (n + 1) cs := ⟨Nat.le_succ_of_le h.1, h.2⟩
theorem CsIn.snoc {n : Nat} {cs : List CR} (h : CsIn n cs) {v : Vr} (hv : Qfu v) {sh : Int} : CsIn (n + 1) (cs ++ [zr v sh]) := by
 refine ⟨by simp; exact h.1, fun z hz => ?_⟩
 rcases List.mem_append.1 hz with hz | hz
 ·exact h.2 z hz
 ·simp only [List.mem_singleton] at hz; subst hz; exact ⟨v, sh, rfl, hv⟩
theorem CsIn.at {n : Nat} {cs : List CR} (h : CsIn n cs) {i : Nat} (hi : i < cs.length) : Qfu cs[i].v := by
 obtain ⟨v, sh, e, hv⟩ := h.2 _ (List.getElem_mem hi)
 rw [e]; exact hv
theorem QjS {α : Type} {k : Nat} {v v' : α} {l : List (Nat × α)} (h : v = v') : lk ((k, v) :: l) k = some v' := by rw [Qs, h]
theorem Qid {us : List UR} {e et : Nat} (h : ZZ us) : Box.scrub (500001 + us.length) ⟨us.map dUR, e, et, false⟩ = ⟨us.map dUR, e, et, false⟩ := Qic fun hk => by
 obtain ⟨u, hu, e⟩ := QaW hk
 have := QaO h hu
 omega
theorem Qki {us : List UR} (h : ZZ us) {n f : List UInt8} {k m : Nat} (hk : k ≠ 500000) : ∀ r ∈ us.map dUR ++ [[D.str n, D.str f, D.osl k m]], ∀ d ∈ r, 500000 ∉ d.sid := fun r hr d hd => by
 rcases List.mem_append.1 hr with hr | hr
 ·exact Qo6 h r hr d hd
 ·simp only [List.mem_singleton] at hr; subst hr
  simp only [List.mem_cons, List.not_mem_nil, or_false] at hd
  rcases hd with rfl | rfl | rfl <;> simp [D.sid]
  exact Ne.symm hk
theorem Qo5 {us : List UR} {u : UR} : (us ++ [u]).map dUR = us.map dUR ++ [dUR u] := by simp
theorem Qoz {cs : List CR} {z : CR} : (cs ++ [z]).map dCR = cs.map dCR ++ [dCR z] := by simp
theorem QaG {us : List UR} (h : ZZ us) {kg eu ec : Nat} {g1 g2 g3 : Box} (hkg : 1000000 <= kg) (h1 : g1.pr = true) (h2 : g2.pr = true) (hlen : us.length <= 100) :
  (∀ k, 1000000 <= k -> (lk [(kg, g1)] k).isSome = true -> (lk (((500000, (⟨us.map dUR, 3, eu, false⟩ : Box)) :: fbx ec us) ++ [(kg, g2), (kg, g1)]) k).isSome = true) /\
  (∀ k b, lk (((500000, (⟨us.map dUR, 3, eu, false⟩ : Box)) :: fbx ec us) ++ [(kg, g2), (kg, g1)]) k = some b -> 500000 <= k /\ ∀ j ∈ b.ids, (lk (((500000, (⟨us.map dUR, 3, eu, false⟩ : Box)) :: fbx ec us) ++ [(kg, g2), (kg, g1)]) j).isSome = true) /\
  (∀ k b, lk (((500000, (⟨us.map dUR, 3, eu, false⟩ : Box)) :: fbx ec us) ++ [(kg, g2), (kg, g1)]) k = some b -> lk ((kg, g2) :: (500000, ⟨us.map dUR, 3, eu, false⟩) :: (kg, g3) :: fbx ec us) k = some b) := by
 have cs : ∀ k b, lk (((500000, (⟨us.map dUR, 3, eu, false⟩ : Box)) :: fbx ec us) ++ [(kg, g2), (kg, g1)]) k = some b -> (k = 500000 /\ b = ⟨us.map dUR, 3, eu, false⟩) \/ (∃ u ∈ us, k = u.k /\ b = ⟨u.cs.map dCR, 8, ec, true⟩) \/ (k = kg /\ b = g2) := fun k b hk => by
  rw [List.cons_append, Qi] at hk
  split at hk
  ·rename_i e; cases hk; exact .inl ⟨e.symm, rfl⟩
  ·rw [ZM] at hk
   cases hh : lk (fbx ec us) k with
   | some v =>
    rw [hh] at hk; cases hk
    exact .inr (.inl (QfO hh))
   | none =>
    rw [hh] at hk
    simp only at hk
    rw [Qi] at hk
    split at hk
    ·rename_i e; cases hk; exact .inr (.inr ⟨e.symm, rfl⟩)
    ·rename_i e
     rw [Qi, if_neg e] at hk; cases hk
 refine ⟨fun k _ hk => ?_, fun k b hk => ?_, fun k b hk => ?_⟩
 ·obtain ⟨b, hb⟩ := Option.isSome_iff_exists.1 hk
  obtain ⟨rfl, _⟩ := XA hb
  exact Qga QP
 ·rcases cs k b hk with ⟨rfl, rfl⟩ | ⟨u, hu, rfl, rfl⟩ | ⟨rfl, rfl⟩
  ·refine ⟨Nat.le_refl _, fun j hj => ?_⟩
   obtain ⟨u, hu, rfl⟩ := QaW hj
   rw [List.cons_append]
   refine QN ?_
   obtain ⟨b, hb⟩ := Option.isSome_iff_exists.1 (QcA (ec := ec) h hu)
   rw [Yg hb]; rfl
  ·have := QaO h hu
   exact ⟨by omega, fun j hj => by simp [Box.ids] at hj⟩
  ·exact ⟨by omega, fun j hj => by rw [XG h2] at hj; cases hj⟩
 ·rcases cs k b hk with ⟨rfl, rfl⟩ | ⟨u, hu, rfl, rfl⟩ | ⟨rfl, rfl⟩
  ·exact Qh (by omega) Qs
  ·have hm := QaO h hu
   obtain ⟨j, hj, rfl⟩ := List.getElem_of_mem hu
   refine Qh (by omega) (Qh (by omega) (Qh (by omega) ?_))
   rw [h j hj]; exact Qlp h hj
  ·exact Qs
end M25
namespace Go.Proofs
open Go Go.Abs M3 M25
set_option linter.unusedVariables false
set_option linter.unusedSimpArgs false
theorem QbQ {kg : Nat} {L : List Int} {I most : Int} {eg eu ec : Nat} (heu : eu = 37) (hec : ec = 63) (hkg : 1000000 <= kg) (hL : ∀ x ∈ L, I64 x) (hm0 : 1 <= most) (hm1 : most <= 5) : ∃ d H2, (∃ us I2, (UnitsIn us /\ 2 <= us.length /\ us.length <= 11) /\ d = .osl 500000 us.length /\ H2 = ((500000, ⟨us.map dUR, 3, eu, false⟩) :: fbx ec us) ++ [(kg, gB L I2 eg), (kg, gB L I eg)]) /\ OkH Try.prog 22 [.ref kg 0 0, .int .i64 most] [(kg, gB L I eg)] d H2 := by
 subst heu hec
 have e3 : ¬ kg = 500000 := by omega
 have k1 := Qnw (a := 18) (b := 500000) hkg (by decide) (by decide)
 have k2 := Qnw (a := 16) (b := 500001) hkg (by decide) (by decide)
 refine OkH.ofX (R := fun d H2 => ∃ us I2, (UnitsIn us /\ 2 <= us.length /\ us.length <= 11) /\ d = .osl 500000 us.length /\ H2 = ((500000, ⟨us.map dUR, 3, 37, false⟩) :: fbx 63 us) ++ [(kg, gB L I2 eg), (kg, gB L I eg)]) Yi Try.func22 Qrc (Nat.le_of_ble_eq_true Z) ?_
 show TX _ _ tf22.body _ _
 refine Q9 fun K hK => Qa Z (hK _ _ (QR (kp2 Z Z) ?_))
 refine Q9 fun K hK => ?_
 refine QG Z (by repeat (first | exact Z | refine Zj (by first | decide | omega) ?_)) ?_
 refine Qa Z (hK _ _ (QR (kp3 Z Z Z) ?_))
 refine Qk5 (QiP (l := [0, 1]) (B := [_]) (A := []) (H0 := [(kg, gB L I eg)]) 14 5 (kp2 rfl rfl) rfl rfl rfl rfl (by intro p hp hk; simp only [List.mem_cons, List.not_mem_nil, or_false] at hp; rcases hp with rfl | rfl <;> first | (simp [D.ids, D.sid, QX, QL, ZJ] at hk; done) | (simp [D.ids, D.sid, QX, QL, ZJ] at hk; omega)) (by intro p hp; cases hp) (by intro p hp h; simp only [List.mem_singleton] at hp; subst hp; simp only at h; omega) (fun k b h => by obtain ⟨rfl, rfl⟩ := XA h; exact hkg) (fun k b h j hj => by obtain ⟨rfl, rfl⟩ := XA h; simp [Box.ids, gB] at hj) (by intro p hp k hk; simp only [List.mem_cons, List.not_mem_nil, or_false] at hp; rcases hp with rfl | rfl <;> first | (simp [D.ids, D.sid, QX, QL, ZJ] at hk; done) | (simp [D.ids, D.sid, QX, QL, ZJ] at hk; subst hk; repeat (first | exact QP | refine QN ?_)))) ?_
 refine Q9 fun K hK => QS Z Z ?_
 refine QG Z (by repeat (first | exact Z | refine Zj (by first | decide | omega) ?_)) ?_
 refine QS Z Z ?_
 refine QG Z (by repeat (first | exact Z | refine Zj (by first | decide | omega) ?_)) ?_
 refine Qa Z (hK _ _ (QR (kp4 Z Z Z Z) ?_))
 refine Q9 fun K hK => QB (Y0) Z Z (.inl Z) (Qa Z (hK _ _ (QR (kp5 Z Z Z Z Z) ?_)))
 refine X2 ?_ -- 0
 refine Q9 fun K hK => Qa Z (hK _ _ (QR (kp6 Z Z Z Z Z Z) ?_))
 refine YQ ?_
 refine Qef (ι := List UR × Int × Nat) (fun ⟨us, J, n⟩ => ⟨[(0, .ref kg 0 0), (1, .int .i64 most), (5, .sl (Qav names5)), (6, .osl 500000 us.length), (7, .sl (versions.map dVr)), (8, .int .i64 n)], [(500000, ⟨(us).map dUR, 3, 37, false⟩), (kg, gB L (J) eg)] ++ fbx 63 (us)⟩) (fun ⟨us, J, n⟩ => UnitsIn us /\ us.length <= 1 + 2 * n /\ n <= 5 /\ 1 + n <= us.length) (fun ⟨us, J, n⟩ => 5 - n) ([u0 v0], I, 0) ?_ ?_ ?_
 ·refine QlR (l := [0, 1, 5, 6, 7, 8]) hkg (kp6 Z Z Z Z Z Z) ?_; simp only [List.map_cons, List.map_nil, D.ren, D.renS, k1, k2]; rfl
 ·exact ⟨UnitsIn.zero, by simp, by omega, by simp⟩
 intro ⟨us, J, n⟩ hI
 try dsimp only at hI
 have e1 : ¬ kg = 500001 + us.length := by omega
 have e2 : ¬ 500000 = 500001 + us.length := by omega
 have e4 : ¬ 500001 + us.length = 500000 := by omega
 have hx0 : 0 <= nx L J most := QjZ
 have hx1 : nx L J most < most := QjY (by omega)
 have hn5 := Q0
 have hv4 := Qo7
 try dsimp only
 refine X2 ?_ -- 1
 refine Q9 fun K hK => Qa Z (Qa Z (Qa Z ?_))
 refine Yr (Qbu (I := J) Z (by repeat (first | exact Qs | refine Qh (by omega) ?_)) hL (by omega)) ?_
 refine Zb Z Z (by first | exact Qr (by omega) (by omega) | rfl) (YY Z Z (Qa Z ?_))
 refine QA (g := 26) Z (fun h1 => ?_) (fun h1 => ?_)
 ·try rw [h1]
  try simp only [qA] at h1
  refine Qg Z (Qa Z (Qg Z (Qa Z (Qg Z ?_))))
  first | refine Q5 rfl Zd ?_ | refine Q5 rfl rfl ?_
  refine Qg Z (YY Z Z (Qj Z Z (hK _ _ (QR (kp7 Z Z Z Z Z Z Z) ?_))))
  refine Y8 Z (fun h2 => ?_) (fun h2 => ?_)
  ·try rw [h2]
   try simp only [qA] at h2
   refine Xj (Q3 (kp6 Z Z Z Z Z Z) ?_)
   refine X2 ?_ -- 2
   refine YQ (Q9 fun K hK => Qa Z (hK _ _ (QR (kp7 Z Z Z Z Z Z Z) ?_)))
   refine Q9 fun K hK => Qa Z ?_
   refine Yr (Qbu (I := nxI J) Z (by repeat (first | exact Qs | refine Qh (by omega) ?_)) hL (by omega)) ?_
   refine Qa Z (hK _ _ (QR (kp8 Z Z Z Z Z Z Z Z) ?_))
   refine X2 ?_ -- 3
   refine Q9 fun K hK => Qa Z (hK _ _ (QR (kp9 Z Z Z Z Z Z Z Z Z) ?_))
   refine YQ ?_
   refine Qef (ι := List CR × Nat) (fun ⟨cs, i⟩ => ⟨[(0, .ref kg 0 0), (1, .int .i64 most), (5, .sl (Qav names5)), (6, .osl 500000 us.length), (7, .sl (versions.map dVr)), (8, .int .i64 n), (9, .osl (500001 + us.length) cs.length), (10, .int .i64 (nx L (nxI J) 16)), (11, .int .i64 i)], [(500001 + (us).length, ⟨(cs).map dCR, 8, 63, true⟩), (500000, ⟨(us).map dUR, 3, 37, false⟩), (kg, gB L (nxI (nxI J)) eg)] ++ fbx 63 (us)⟩) (fun ⟨cs, i⟩ => i <= 4 /\ CsIn i cs) (fun ⟨cs, i⟩ => 4 - i) ([], 0) ?_ ?_ ?_
   ·exact le_trans (Qax 9 (500001 + us.length) 8 63 rfl (by repeat (first | exact Yy hI.1.keys (.inr (by omega)) | refine Zj (by omega) ?_))) (Qpi (l := [0, 1, 5, 6, 7, 8, 9, 10, 11]) (B := [_, _, _, _, _]) (kp9 rfl rfl rfl rfl rfl rfl rfl rfl rfl) rfl hI.1.keys (by repeat (first | exact Qs | refine Qh (by omega) ?_)) (by repeat (first | exact Qs | refine Qh (by omega) ?_)) (by repeat (first | exact Qs | refine Qh (by omega) ?_)) (by intro p hp h; simp only [List.mem_cons, List.not_mem_nil, or_false] at hp; rcases hp with rfl | rfl | rfl | rfl | rfl <;> first | (simp only at h; omega) | exact .inl rfl | exact .inr rfl) (by intro p hp k hk; simp only [List.mem_cons, List.not_mem_nil, or_false] at hp; rcases hp with rfl | rfl | rfl | rfl | rfl | rfl | rfl | rfl | rfl <;> first | (simp [D.ids, D.sid, QX, QL, ZJ] at hk; done) | (simp [D.ids, D.sid, QX, QL, ZJ] at hk; subst hk; first | exact .inl rfl | exact .inr (.inl rfl) | exact .inr (.inr (.inl rfl)) | (refine .inr (.inr (.inl ?_)); simp; done) | (first | exact .inr (.inr ⟨_, List.mem_append_right _ (List.mem_singleton.2 rfl), rfl⟩) | exact .inr (.inr (.inr ⟨_, List.mem_append_right _ (List.mem_singleton.2 rfl), rfl⟩))))))
   ·exact ⟨by omega, CsIn.nil _⟩
   intro ⟨cs, i⟩ hC
   try dsimp only at hC
   have hcl := hC.2.1
   try dsimp only
   refine X2 ?_ -- 4
   refine Q9 fun K hK => Qa Z (Qa Z ?_)
   first | refine Q5 rfl Zd ?_ | refine Q5 rfl rfl ?_
   refine YY Z Z (hK _ _ (QR (QlM Z Z Z Z Z Z Z Z Z Z) ?_))
   refine Y8 Z (fun h3 => ?_) (fun h3 => ?_)
   ·try rw [h3]
    try simp only [qA] at h3
    refine Xj (Q3 (kp9 Z Z Z Z Z Z Z Z Z) ?_)
    refine X2 ?_ -- 5
    refine YQ (Q9 fun K hK => Qa Z (Qa Z (Qk1 Z (Qkl (by omega) (by omega)) (Qpt Z Z (by omega) (Qf7 Z Z (Z5 Z Z (hK _ _ (QR (QlM Z Z Z Z Z Z Z Z Z Z) ?_))))))))
    refine Y8 Z (fun h4 => ?_) (fun h4 => ?_)
    ·try rw [h4]
     try simp only [qA] at h4
     refine ZQ fun K hK => Qa Z (Qa Z (Qa Z (QV Z Z Z (by omega) (Zs (by omega)) Z (QF (cs := [_, _, _, _, _]) Z Z Z Z (QS Z Z ?_)))))
     refine QG Z (by repeat (first | exact Yy hI.1.keys (.inl (by omega)) | exact Yy hK1.keys (.inl (by omega)) | refine Zj (by first | decide | omega) ?_)) ?_
     refine QdA (hk0 := by omega) Z Z (fun _ h => Qb5 Z Z Z h) (Qh (by omega) Qs) (by simp) Z Z Z (by simp; omega) (by simp; omega) (Qa Z (hK _ ?_))
     refine Ql (Q3 (kp9 Z Z Z Z Z Z Z Z Z) (ZQ fun K hK => Qa Z (Zb Z Z (by first | exact Qr (by omega) (by omega) | rfl) (Qa Z (hK _ ?_)))))
     refine Qp (cs ++ [zr (versions[i]'(by omega)) 0], i + 1) ?_ ?_ ?_
     ·exact le_trans (Qgz (B := [_, _, _, _, _]) (500001 + us.length) (Qet _ _)) (Qpi (l := [0, 1, 5, 6, 7, 8, 9, 10, 11]) (B := [_, _, _, _, _]) (kp9 rfl rfl rfl rfl rfl rfl rfl rfl rfl) (by simp [D.scrub, e1, e2, e3, e4] <;> omega) hI.1.keys (by rw [List.map_append]; exact Qs) (by repeat (first | exact Qs | exact QjS (Qid hI.1.keys) | refine Qh (by omega) ?_)) (by repeat (first | exact Qs | refine Qh (by omega) ?_)) (by intro p hp h; simp only [List.mem_cons, List.not_mem_nil, or_false] at hp; rcases hp with rfl | rfl | rfl | rfl | rfl <;> first | (simp only at h; omega) | exact .inl rfl | exact .inr rfl) (by intro p hp k hk; simp only [List.mem_cons, List.not_mem_nil, or_false] at hp; rcases hp with rfl | rfl | rfl | rfl | rfl | rfl | rfl | rfl | rfl <;> first | (simp [D.ids, D.sid, QX, QL, ZJ] at hk; done) | (simp [D.ids, D.sid, QX, QL, ZJ] at hk; subst hk; first | exact .inl rfl | exact .inr (.inl rfl) | exact .inr (.inr (.inl rfl)) | (refine .inr (.inr (.inl ?_)); simp; done) | (first | exact .inr (.inr ⟨_, List.mem_append_right _ (List.mem_singleton.2 rfl), rfl⟩) | exact .inr (.inr (.inr ⟨_, List.mem_append_right _ (List.mem_singleton.2 rfl), rfl⟩))))))
     ·try dsimp only
      exact ⟨by omega, hC.2.snoc (Qqd (by omega))⟩
     ·show 4 - (i + 1) < 4 - i; omega
    ·try rw [h4]
     try simp only [qA] at h4
     refine Xj (Ql (Q3 (kp9 Z Z Z Z Z Z Z Z Z) (ZQ fun K hK => Qa Z (Zb Z Z (by first | exact Qr (by omega) (by omega) | rfl) (Qa Z (hK _ ?_))))))
     refine Qp (cs, i + 1) ?_ ?_ ?_
     ·exact Qpi (l := [0, 1, 5, 6, 7, 8, 9, 10, 11]) (B := [_, _, _]) (kp9 rfl rfl rfl rfl rfl rfl rfl rfl rfl) rfl hI.1.keys (by repeat (first | exact Qs | refine Qh (by omega) ?_)) (by repeat (first | exact Qs | refine Qh (by omega) ?_)) (by repeat (first | exact Qs | refine Qh (by omega) ?_)) (by intro p hp h; simp only [List.mem_cons, List.not_mem_nil, or_false] at hp; rcases hp with rfl | rfl | rfl <;> first | (simp only at h; omega) | exact .inl rfl | exact .inr rfl) (by intro p hp k hk; simp only [List.mem_cons, List.not_mem_nil, or_false] at hp; rcases hp with rfl | rfl | rfl | rfl | rfl | rfl | rfl | rfl | rfl <;> first | (simp [D.ids, D.sid, QX, QL, ZJ] at hk; done) | (simp [D.ids, D.sid, QX, QL, ZJ] at hk; subst hk; first | exact .inl rfl | exact .inr (.inl rfl) | exact .inr (.inr (.inl rfl)) | (refine .inr (.inr (.inl ?_)); simp; done) | (first | exact .inr (.inr ⟨_, List.mem_append_right _ (List.mem_singleton.2 rfl), rfl⟩) | exact .inr (.inr (.inr ⟨_, List.mem_append_right _ (List.mem_singleton.2 rfl), rfl⟩)))))
     ·try dsimp only
      exact ⟨by omega, hC.2.keep⟩
     ·show 4 - (i + 1) < 4 - i; omega
   ·try rw [h3]
    try simp only [qA] at h3
    refine QdB (Xr (QM (QU (Q3 (kp7 Z Z Z Z Z Z Z) (Q9 fun K hK => Qa Z (Qa Z (Qa Z (QV Z Z Z (by omega) (Zs (by omega)) Z (QE Z Z Z (Qa Z ?_))))))))))
    refine QS Z Z ?_
    refine QG Z (by repeat (first | exact Yy hI.1.keys (.inl (by omega)) | exact Yy hK1.keys (.inl (by omega)) | refine Zj (by first | decide | omega) ?_)) ?_
    refine Qiu (hk0 := by decide) Z Z (fun _ h => Qb5 Z Z Z h) (Qh (by omega) (Qh (by omega) Qs)) (by simp) Z Z (.inr (Qki hI.1.keys (by omega))) (by simp; omega) (by simp; omega) (Qa Z (hK _ _ (QR (kp7 Z Z Z Z Z Z Z) ?_)))
    have hc4 : CsIn 4 cs := ⟨by omega, hC.2.2⟩
    refine Qk5 (le_trans (Qgz (B := [_, _, _, _, _]) 500000 (Qet _ _)) (Qqa (u := (UR.mk (names5[n]'(by have := Q0; omega)) [] (500001 + us.length) cs)) (l := [0, 1, 5, 6, 7, 8, 9]) (fr' := [(0, .ref kg 0 0), (1, .int .i64 most), (5, .sl (Qav names5)), (6, .osl 500000 (us ++ [(UR.mk (names5[n]'(by have := Q0; omega)) [] (500001 + us.length) cs)]).length), (7, .sl (versions.map dVr)), (8, .int .i64 n), (9, .osl (500001 + us.length) cs.length)]) (B := [_, _, _, _, _]) (kp7 rfl rfl rfl rfl rfl rfl rfl) (by simp [D.scrub, e1, e2, e3, e4]) hI.1.keys rfl (by repeat (first | exact Qs | refine Qh (by omega) ?_)) (by rw [List.map_append]; exact Qs) (by repeat (first | exact Qs | refine Qh (by omega) ?_)) (by intro p hp h; simp only [List.mem_cons, List.not_mem_nil, or_false] at hp; rcases hp with rfl | rfl | rfl | rfl | rfl <;> first | (simp only at h; omega) | exact .inl rfl | exact .inr rfl) hkg (by omega) (by intro p hp k hk; simp only [List.mem_cons, List.not_mem_nil, or_false] at hp; rcases hp with rfl | rfl | rfl | rfl | rfl | rfl | rfl <;> first | (simp [D.ids, D.sid, QX, QL, ZJ] at hk; done) | (simp [D.ids, D.sid, QX, QL, ZJ] at hk; subst hk; first | exact .inl rfl | exact .inr (.inl rfl) | (first | exact .inr (.inr ⟨_, List.mem_append_right _ (List.mem_singleton.2 rfl), rfl⟩) | exact .inr (.inr (.inr ⟨_, List.mem_append_right _ (List.mem_singleton.2 rfl), rfl⟩))))))) ?_
    have hK1 := hI.1.snoc (n := (names5[n]'(by have := Q0; omega))) (f := []) hc4.1 hc4.2
    have hl1 : (us ++ [(UR.mk (names5[n]'(by have := Q0; omega)) [] (500001 + us.length) cs)]).length = us.length + 1 := by simp
    have f1 : ¬ kg = 500001 + (us ++ [(UR.mk (names5[n]'(by have := Q0; omega)) [] (500001 + us.length) cs)]).length := by omega
    have f2 : ¬ 500000 = 500001 + (us ++ [(UR.mk (names5[n]'(by have := Q0; omega)) [] (500001 + us.length) cs)]).length := by omega
    have f4 : ¬ 500001 + (us ++ [(UR.mk (names5[n]'(by have := Q0; omega)) [] (500001 + us.length) cs)]).length = 500000 := by omega
    have f5 : ¬ 500001 + us.length = 500001 + (us ++ [(UR.mk (names5[n]'(by have := Q0; omega)) [] (500001 + us.length) cs)]).length := by omega
    refine Q9 fun K hK => Qa Z (YY Z Z (Qa Z ?_))
    refine QA (g := 67) Z (fun h5 => ?_) (fun h5 => ?_)
    ·try rw [h5]
     try simp only [qA] at h5
     refine Qg Z (Qa Z (Qg Z ?_))
     refine Yr (Qbu (I := nxI (nxI J)) Z (by repeat (first | exact Qs | refine Qh (by omega) ?_)) hL (by omega)) ?_
     refine Qg Z (Z5 Z Z (Qj Z Z (hK _ _ (QR (kp8 Z Z Z Z Z Z Z Z) ?_))))
     refine Y8 Z (fun h6 => ?_) (fun h6 => ?_)
     ·try rw [h6]
      try simp only [qA] at h6
      refine Q9 fun K hK => Qa Z (hK _ _ (QR (kp8 Z Z Z Z Z Z Z Z) ?_))
      refine X2 ?_ -- 6
      refine Q9 fun K hK => Qa Z (hK _ _ (QR (kp9 Z Z Z Z Z Z Z Z Z) ?_))
      refine YQ ?_
      refine Qef (ι := List CR × Nat × Int) (fun ⟨c2, m, J3⟩ => ⟨[(0, .ref kg 0 0), (1, .int .i64 most), (5, .sl (Qav names5)), (6, .osl 500000 (us ++ [(UR.mk (names5[n]'(by have := Q0; omega)) [] (500001 + us.length) cs)]).length), (7, .sl (versions.map dVr)), (8, .int .i64 n), (9, .osl (500001 + us.length) cs.length), (12, .osl (500001 + (us ++ [(UR.mk (names5[n]'(by have := Q0; omega)) [] (500001 + us.length) cs)]).length) c2.length), (13, .int .i64 m)], [(500001 + (us ++ [(UR.mk (names5[n]'(by have := Q0; omega)) [] (500001 + us.length) cs)]).length, ⟨(c2).map dCR, 8, 63, true⟩), (500000, ⟨(us ++ [(UR.mk (names5[n]'(by have := Q0; omega)) [] (500001 + us.length) cs)]).map dUR, 3, 37, false⟩), (kg, gB L (J3) eg)] ++ fbx 63 (us ++ [(UR.mk (names5[n]'(by have := Q0; omega)) [] (500001 + us.length) cs)])⟩) (fun ⟨c2, m, J3⟩ => m <= cs.length /\ CsIn m c2) (fun ⟨c2, m, J3⟩ => cs.length - m) ([], 0, nxI (nxI (nxI J))) ?_ ?_ ?_
      ·exact le_trans (Qax 12 (500001 + (us ++ [(UR.mk (names5[n]'(by have := Q0; omega)) [] (500001 + us.length) cs)]).length) 8 63 rfl (by repeat (first | exact Yy hK1.keys (.inr (by omega)) | refine Zj (by omega) ?_))) (Qpi (l := [0, 1, 5, 6, 7, 8, 9, 12, 13]) (B := [_, _, _, _]) (kp9 rfl rfl rfl rfl rfl rfl rfl rfl rfl) rfl hK1.keys (by repeat (first | exact Qs | refine Qh (by omega) ?_)) (by repeat (first | exact Qs | refine Qh (by omega) ?_)) (by repeat (first | exact Qs | refine Qh (by omega) ?_)) (by intro p hp h; simp only [List.mem_cons, List.not_mem_nil, or_false] at hp; rcases hp with rfl | rfl | rfl | rfl <;> first | (simp only at h; omega) | exact .inl rfl | exact .inr rfl) (by intro p hp k hk; simp only [List.mem_cons, List.not_mem_nil, or_false] at hp; rcases hp with rfl | rfl | rfl | rfl | rfl | rfl | rfl | rfl | rfl <;> first | (simp [D.ids, D.sid, QX, QL, ZJ] at hk; done) | (simp [D.ids, D.sid, QX, QL, ZJ] at hk; subst hk; first | exact .inl rfl | exact .inr (.inl rfl) | exact .inr (.inr (.inl rfl)) | (refine .inr (.inr (.inl ?_)); simp; done) | (first | exact .inr (.inr ⟨_, List.mem_append_right _ (List.mem_singleton.2 rfl), rfl⟩) | exact .inr (.inr (.inr ⟨_, List.mem_append_right _ (List.mem_singleton.2 rfl), rfl⟩))))))
      ·exact ⟨by omega, CsIn.nil _⟩
      intro ⟨c2, m, J3⟩ hM
      try dsimp only at hM
      have hcl2 := hM.2.1
      try dsimp only
      refine X2 ?_ -- 7
      refine Q9 fun K hK => Qa Z (Qa Z ?_)
      first | refine Q5 rfl Zd ?_ | refine Q5 rfl rfl ?_
      refine YY Z Z (hK _ _ (QR (QlM Z Z Z Z Z Z Z Z Z Z) ?_))
      refine Y8 Z (fun h7 => ?_) (fun h7 => ?_)
      ·try rw [h7]
       try simp only [qA] at h7
       refine Xj (Q3 (kp9 Z Z Z Z Z Z Z Z Z) ?_)
       refine X2 ?_ -- 8
       refine YQ (Q9 fun K hK => Qa Z ?_)
       refine Yr (Qbu (I := J3) Z (by repeat (first | exact Qs | refine Qh (by omega) ?_)) hL (by omega)) ?_
       refine Qg0 Z Z (hK _ _ (QR (QlM Z Z Z Z Z Z Z Z Z Z) ?_))
       refine Y8 Z (fun h8 => ?_) (fun h8 => ?_)
       ·try rw [h8]
        try simp only [qA] at h8
        refine ZQ fun K hK => Qa Z (Qa Z (Qa Z (YX Z Z (Qh (by omega) (Qh (by omega) (Qh (by omega) (Qh (by omega) (Qgk (u := (UR.mk (names5[n]'(by have := Q0; omega)) [] (500001 + us.length) cs)) hI.1.keys Z))))) (by simp) (by omega) (by omega) Z (Qk Z (Zi (Qh (by omega) (Qh (by omega) (Qh (by omega) (Qh (by omega) (Qgk (u := (UR.mk (names5[n]'(by have := Q0; omega)) [] (500001 + us.length) cs)) hI.1.keys Z)))))) (QF (cs := [_, _, _, _, _]) Z (Z2 (Qh (by omega) (Qh (by omega) (Qh (by omega) (Qh (by omega) (Qgk (u := (UR.mk (names5[n]'(by have := Q0; omega)) [] (500001 + us.length) cs)) hI.1.keys Z))))) (Zs (l := cs) (by omega))) Z Z (QS Z Z ?_))))))
        refine QG Z (by repeat (first | exact Yy hI.1.keys (.inl (by omega)) | exact Yy hK1.keys (.inl (by omega)) | refine Zj (by first | decide | omega) ?_)) ?_
        refine QdA (hk0 := by omega) Z Z (fun _ h => Qb5 Z Z Z h) (Qh (by omega) (Qh (by omega) Qs)) (by simp) Z Z Z (by simp; omega) (by simp; omega) (Qa Z (hK _ ?_))
        refine Ql (Q3 (kp9 Z Z Z Z Z Z Z Z Z) (ZQ fun K hK => Qa Z (Zb Z Z (by first | exact Qr (by omega) (by omega) | rfl) (Qa Z (hK _ ?_)))))
        refine Qp (c2 ++ [zr (cs[m]'(by omega)).v 0], m + 1, nxI J3) ?_ ?_ ?_
        ·exact le_trans (Qgz (B := [_, _, _, _, _, _]) (500001 + (us ++ [(UR.mk (names5[n]'(by have := Q0; omega)) [] (500001 + us.length) cs)]).length) (Qet _ _)) (Qpi (l := [0, 1, 5, 6, 7, 8, 9, 12, 13]) (B := [_, _, _, _, _, _]) (kp9 rfl rfl rfl rfl rfl rfl rfl rfl rfl) (by simp [D.scrub, f1, f2, f4, f5] <;> omega) hK1.keys (by rw [Qoz (cs := c2)]; exact Qs) (by repeat (first | exact Qs | exact QjS (Qid hK1.keys) | refine Qh (by omega) ?_)) (by repeat (first | exact Qs | refine Qh (by omega) ?_)) (by intro p hp h; simp only [List.mem_cons, List.not_mem_nil, or_false] at hp; rcases hp with rfl | rfl | rfl | rfl | rfl | rfl <;> first | (simp only at h; omega) | exact .inl rfl | exact .inr rfl) (by intro p hp k hk; simp only [List.mem_cons, List.not_mem_nil, or_false] at hp; rcases hp with rfl | rfl | rfl | rfl | rfl | rfl | rfl | rfl | rfl <;> first | (simp [D.ids, D.sid, QX, QL, ZJ] at hk; done) | (simp [D.ids, D.sid, QX, QL, ZJ] at hk; subst hk; first | exact .inl rfl | exact .inr (.inl rfl) | exact .inr (.inr (.inl rfl)) | (refine .inr (.inr (.inl ?_)); simp; done) | (first | exact .inr (.inr ⟨_, List.mem_append_right _ (List.mem_singleton.2 rfl), rfl⟩) | exact .inr (.inr (.inr ⟨_, List.mem_append_right _ (List.mem_singleton.2 rfl), rfl⟩))))))
        ·try dsimp only
         exact ⟨by omega, hM.2.snoc (hC.2.at (by omega))⟩
        ·show cs.length - (m + 1) < cs.length - m; omega
       ·try rw [h8]
        try simp only [qA] at h8
        refine Xj (Ql (Q3 (kp9 Z Z Z Z Z Z Z Z Z) (ZQ fun K hK => Qa Z (Zb Z Z (by first | exact Qr (by omega) (by omega) | rfl) (Qa Z (hK _ ?_))))))
        refine Qp (c2, m + 1, nxI J3) ?_ ?_ ?_
        ·exact Qpi (l := [0, 1, 5, 6, 7, 8, 9, 12, 13]) (B := [_, _, _, _]) (kp9 rfl rfl rfl rfl rfl rfl rfl rfl rfl) rfl hK1.keys (by repeat (first | exact Qs | refine Qh (by omega) ?_)) (by repeat (first | exact Qs | refine Qh (by omega) ?_)) (by repeat (first | exact Qs | refine Qh (by omega) ?_)) (by intro p hp h; simp only [List.mem_cons, List.not_mem_nil, or_false] at hp; rcases hp with rfl | rfl | rfl | rfl <;> first | (simp only at h; omega) | exact .inl rfl | exact .inr rfl) (by intro p hp k hk; simp only [List.mem_cons, List.not_mem_nil, or_false] at hp; rcases hp with rfl | rfl | rfl | rfl | rfl | rfl | rfl | rfl | rfl <;> first | (simp [D.ids, D.sid, QX, QL, ZJ] at hk; done) | (simp [D.ids, D.sid, QX, QL, ZJ] at hk; subst hk; first | exact .inl rfl | exact .inr (.inl rfl) | exact .inr (.inr (.inl rfl)) | (refine .inr (.inr (.inl ?_)); simp; done) | (first | exact .inr (.inr ⟨_, List.mem_append_right _ (List.mem_singleton.2 rfl), rfl⟩) | exact .inr (.inr (.inr ⟨_, List.mem_append_right _ (List.mem_singleton.2 rfl), rfl⟩)))))
        ·try dsimp only
         exact ⟨by omega, hM.2.keep⟩
        ·show cs.length - (m + 1) < cs.length - m; omega
      ·try rw [h7]
       try simp only [qA] at h7
       refine QdB (Xr (QM (QU (Q3 (kp7 Z Z Z Z Z Z Z) (ZQ fun K hK => Qa Z (Qa Z (Qa Z (QV Z Z Z (by omega) (Zs (by omega)) Z (QE Z Z Z (Qa Z ?_))))))))))
       refine QS Z Z ?_
       refine QG Z (by repeat (first | exact Yy hI.1.keys (.inl (by omega)) | exact Yy hK1.keys (.inl (by omega)) | refine Zj (by first | decide | omega) ?_)) ?_
       refine Qiu (hk0 := by decide) Z Z (fun _ h => Qb5 Z Z Z h) (Qh (by omega) (Qh (by omega) Qs)) (by simp) Z Z (.inr (Qki hK1.keys (by omega))) (by simp; omega) (by simp; omega) (Qa Z (hK _ ?_))
       refine Ql (Q3 (kp6 Z Z Z Z Z Z) (ZQ fun K hK => Qa Z (Zb Z Z (by first | exact Qr (by omega) (by omega) | rfl) (Qa Z (hK _ ?_)))))
       refine Qp (us ++ [(UR.mk (names5[n]'(by have := Q0; omega)) [] (500001 + us.length) cs)] ++ [(UR.mk (names5[n]'(by have := Q0; omega)) [102] (500001 + (us ++ [(UR.mk (names5[n]'(by have := Q0; omega)) [] (500001 + us.length) cs)]).length) c2)], J3, n + 1) ?_ ?_ ?_
       ·exact le_trans (Qgz (B := [_, _, _, _, _]) 500000 (Qet _ _)) (Qqa (u := (UR.mk (names5[n]'(by have := Q0; omega)) [102] (500001 + (us ++ [(UR.mk (names5[n]'(by have := Q0; omega)) [] (500001 + us.length) cs)]).length) c2)) (l := [0, 1, 5, 6, 7, 8]) (B := [_, _, _, _, _]) (kp6 rfl rfl rfl rfl rfl rfl) (by simp [D.scrub, f1, f2, e3, f4, e4] <;> omega) hK1.keys rfl (by repeat (first | exact Qs | refine Qh (by omega) ?_)) (by rw [Qo5 (u := (UR.mk (names5[n]'(by have := Q0; omega)) [102] (500001 + (us ++ [(UR.mk (names5[n]'(by have := Q0; omega)) [] (500001 + us.length) cs)]).length) c2))]; exact Qs) (by repeat (first | exact Qs | refine Qh (by omega) ?_)) (by intro p hp h; simp only [List.mem_cons, List.not_mem_nil, or_false] at hp; rcases hp with rfl | rfl | rfl | rfl | rfl <;> first | (simp only at h; omega) | exact .inl rfl | exact .inr rfl) hkg (by omega) (by intro p hp k hk; simp only [List.mem_cons, List.not_mem_nil, or_false] at hp; rcases hp with rfl | rfl | rfl | rfl | rfl | rfl <;> first | (simp [D.ids, D.sid, QX, QL, ZJ] at hk; done) | (simp [D.ids, D.sid, QX, QL, ZJ] at hk; subst hk; first | exact .inl rfl | exact .inr (.inl rfl) | (first | exact .inr (.inr ⟨_, List.mem_append_right _ (List.mem_singleton.2 rfl), rfl⟩) | exact .inr (.inr (.inr ⟨_, List.mem_append_right _ (List.mem_singleton.2 rfl), rfl⟩))))))
       ·try dsimp only
        exact ⟨hK1.snoc (by omega) hM.2.2, by simp; omega, by omega, by simp; omega⟩
       ·show 5 - (n + 1) < 5 - n; omega
     ·try rw [h6]
      try simp only [qA] at h6
      refine Xj (Ql (Q3 (kp6 Z Z Z Z Z Z) (ZQ fun K hK => Qa Z (Zb Z Z (by first | exact Qr (by omega) (by omega) | rfl) (Qa Z (hK _ ?_))))))
      refine Qp (us ++ [(UR.mk (names5[n]'(by have := Q0; omega)) [] (500001 + us.length) cs)], nxI (nxI (nxI J)), n + 1) ?_ ?_ ?_
      ·exact QqT (l := [0, 1, 5, 6, 7, 8]) (B := [_, _, _]) (kp6 rfl rfl rfl rfl rfl rfl) rfl hK1.keys (by repeat (first | exact Qs | refine Qh (by omega) ?_)) (by repeat (first | exact Qs | refine Qh (by omega) ?_)) (by intro p hp h; simp only [List.mem_cons, List.not_mem_nil, or_false] at hp; rcases hp with rfl | rfl | rfl <;> first | (simp only at h; omega) | rfl) (by omega) (by intro p hp k hk; simp only [List.mem_cons, List.not_mem_nil, or_false] at hp; rcases hp with rfl | rfl | rfl | rfl | rfl | rfl <;> first | (simp [D.ids, D.sid, QX, QL, ZJ] at hk; done) | (simp [D.ids, D.sid, QX, QL, ZJ] at hk; subst hk; first | exact .inl rfl | exact .inr (.inl rfl) | (first | exact .inr (.inr ⟨_, List.mem_append_right _ (List.mem_singleton.2 rfl), rfl⟩) | exact .inr (.inr (.inr ⟨_, List.mem_append_right _ (List.mem_singleton.2 rfl), rfl⟩)))))
      ·try dsimp only
       exact ⟨hK1, by simp; omega, by omega, by simp; omega⟩
      ·show 5 - (n + 1) < 5 - n; omega
    ·try rw [h5]
     try simp only [qA] at h5
     refine Qo Z (Qo Z (Qo Z (Qj Z Z (hK _ _ (QR (kp8 Z Z Z Z Z Z Z Z) ?_)))))
     refine Qk4 Z (Xj (Ql (Q3 (kp6 Z Z Z Z Z Z) (ZQ fun K hK => Qa Z (Zb Z Z (by first | exact Qr (by omega) (by omega) | rfl) (Qa Z (hK _ ?_)))))))
     refine Qp (us ++ [(UR.mk (names5[n]'(by have := Q0; omega)) [] (500001 + us.length) cs)], nxI (nxI J), n + 1) ?_ ?_ ?_
     ·exact QqT (l := [0, 1, 5, 6, 7, 8]) (B := [_, _]) (kp6 rfl rfl rfl rfl rfl rfl) rfl hK1.keys (by repeat (first | exact Qs | refine Qh (by omega) ?_)) (by repeat (first | exact Qs | refine Qh (by omega) ?_)) (by intro p hp h; simp only [List.mem_cons, List.not_mem_nil, or_false] at hp; rcases hp with rfl | rfl <;> first | (simp only at h; omega) | rfl) (by omega) (by intro p hp k hk; simp only [List.mem_cons, List.not_mem_nil, or_false] at hp; rcases hp with rfl | rfl | rfl | rfl | rfl | rfl <;> first | (simp [D.ids, D.sid, QX, QL, ZJ] at hk; done) | (simp [D.ids, D.sid, QX, QL, ZJ] at hk; subst hk; first | exact .inl rfl | exact .inr (.inl rfl) | (first | exact .inr (.inr ⟨_, List.mem_append_right _ (List.mem_singleton.2 rfl), rfl⟩) | exact .inr (.inr (.inr ⟨_, List.mem_append_right _ (List.mem_singleton.2 rfl), rfl⟩)))))
     ·try dsimp only
      exact ⟨hK1, by simp; omega, by omega, by simp; omega⟩
     ·show 5 - (n + 1) < 5 - n; omega
  ·try rw [h2]
   try simp only [qA] at h2
   refine QdB (Xr (QM (QU (Q3 (kp1 Z) (Q9 fun K hK => Qa Z (Qa Z (hK _ _ (QR (kp1 Z) ?_))))))))
   refine Qhe ?_
   refine ⟨.osl 500000 us.length, ((500000, ⟨us.map dUR, 3, 37, false⟩) :: fbx 63 us) ++ [(kg, gB L (nxI J) eg), (kg, gB L I eg)], ⟨us, _, ⟨hI.1, by omega, by omega⟩, rfl, rfl⟩, (QaG (g3 := gB L J eg) hI.1.keys hkg Z Z (by omega)).1, (QaG (g3 := gB L J eg) hI.1.keys hkg Z Z (by omega)).2.1, X0 Z Z (QaG (g3 := gB L J eg) hI.1.keys hkg Z Z (by omega)).2.2⟩
 ·try rw [h1]
  try simp only [qA] at h1
  refine Qo Z (Qo Z (Qo Z (Qo Z (Qj Z Z (hK _ _ (QR (kp7 Z Z Z Z Z Z Z) ?_))))))
  refine Qk4 Z (QdB (Xr (QM (QU (Q3 (kp1 Z) (Q9 fun K hK => Qa Z (Qa Z (hK _ _ (QR (kp1 Z) ?_)))))))))
  refine Qhe ?_
  refine ⟨.osl 500000 us.length, ((500000, ⟨us.map dUR, 3, 37, false⟩) :: fbx 63 us) ++ [(kg, gB L (nxI J) eg), (kg, gB L I eg)], ⟨us, _, ⟨hI.1, by omega, by omega⟩, rfl, rfl⟩, (QaG (g3 := gB L J eg) hI.1.keys hkg Z Z (by omega)).1, (QaG (g3 := gB L J eg) hI.1.keys hkg Z Z (by omega)).2.1, X0 Z Z (QaG (g3 := gB L J eg) hI.1.keys hkg Z Z (by omega)).2.2⟩
end Go.Proofs
namespace M25
open Go Go.Abs M3
/-! ### A world under way: one candidate after the other is filled -/
def PureC (z : CR) : Prop := z.x.sid = [] /\ z.y.sid = [] /\ z.z.sid = []
theorem PureC.all {z : CR} (h : PureC z) : ∀ d ∈ dCR z, d.sid = [] := fun d hd => by
 simp only [dCR, List.mem_cons, List.not_mem_nil, or_false] at hd
 rcases hd with rfl | rfl | rfl | rfl | rfl | rfl | rfl | rfl
 ·rfl
 ·rfl
 ·rfl
 ·rfl
 ·rfl
 ·exact h.1
 ·exact h.2.1
 ·exact h.2.2
def Qdw (u : UR) (k : Nat) (z : CR) : UR := { u with cs := u.cs.set k z }
def QbL (us : List UR) (i k : Nat) (z : CR) : List UR := us.modify i fun u => Qdw u k z
theorem Zk (us : List UR) (i k : Nat) (z : CR) : (QbL us i k z).length = us.length := List.length_modify ..
theorem Qkg (us : List UR) (i k : Nat) (z : CR) : (QbL us i k z).map dUR = us.map dUR := by
 refine List.ext_getElem (by simp [QbL]) fun j h1 h2 => ?_
 simp only [List.getElem_map, QbL, List.getElem_modify]
 split <;> simp [dUR, Qdw]
theorem Qao {us : List UR} {i k : Nat} {z : CR} {j : Nat} (h : j < us.length) : (QbL us i k z)[j]'(by rw [Zk]; exact h) = if i = j then Qdw us[j] k z else us[j] := by
 simp only [QbL, List.getElem_modify]
theorem Qc0 {us : List UR} {i k : Nat} {z : CR} (h : ZZ us) : ZZ (QbL us i k z) := fun j hj => by
 rw [Zk] at hj
 rw [Qao hj]
 split
 ·exact h j hj
 ·exact h j hj
def wA (us : List UR) (eu ec eg : Nat) (L : List Int) (J : Int) (b4 : Box) : List (Nat × Box) := [(500000, ⟨us.map dUR, 3, eu, false⟩), (12, gB L J eg), (4, b4)] ++ fbx ec us
theorem QaX {us : List UR} {eu ec eg : Nat} {L : List Int} {J : Int} {b4 : Box} (h : ZZ us) {k : Nat} {b : Box} (hk : lk (wA us eu ec eg L J b4) k = some b) : (k = 500000 /\ b = ⟨us.map dUR, 3, eu, false⟩) \/ (k = 12 /\ b = gB L J eg) \/ (k = 4 /\ b = b4) \/ ∃ j, ∃ hj : j < us.length, k = 500001 + j /\ b = ⟨us[j].cs.map dCR, 8, ec, true⟩ := by
 unfold wA at hk
 rcases QeJ hk with hk | ⟨_, hk⟩
 ·simp only [List.mem_cons, List.not_mem_nil, or_false, Prod.mk.injEq] at hk
  rcases hk with h | h | h
  ·exact .inl h
  ·exact .inr (.inl h)
  ·exact .inr (.inr (.inl h))
 ·obtain ⟨u, hu, e1, e2⟩ := QfO hk
  obtain ⟨j, hj, rfl⟩ := List.getElem_of_mem hu
  exact .inr (.inr (.inr ⟨j, hj, e1.trans (h j hj), e2⟩))
section
variable {us : List UR} {eu ec eg : Nat} {L : List Int} {J : Int} {b4 : Box}
theorem Qd8 : lk (wA us eu ec eg L J b4) 500000 = some ⟨us.map dUR, 3, eu, false⟩ := rfl
theorem QdJ : lk (wA us eu ec eg L J b4) 12 = some (gB L J eg) := rfl
theorem Qfh : lk (wA us eu ec eg L J b4) 4 = some b4 := rfl
theorem Qck (h : ZZ us) {j : Nat} (hj : j < us.length) : lk (wA us eu ec eg L J b4) (500001 + j) = some ⟨us[j].cs.map dCR, 8, ec, true⟩ := by
 show lk ((500000, _) :: (12, _) :: (4, _) :: fbx ec us) _ = _
 rw [Qi, if_neg (by omega), Qi, if_neg (by omega), Qi, if_neg (by omega)]
 exact Qlp h hj
theorem ZN (h : ZZ us) {k : Nat} (h1 : k ≠ 500000) (h2 : k ≠ 12) (h3 : k ≠ 4) (h4 : k < 500001 \/ 500001 + us.length <= k) : lk (wA us eu ec eg L J b4) k = none := by
 show lk ((500000, _) :: (12, _) :: (4, _) :: fbx ec us) _ = _
 rw [Qi, if_neg (Ne.symm h1), Qi, if_neg (Ne.symm h2), Qi, if_neg (Ne.symm h3)]
 exact Yy h h4
theorem Qjm (h : ZZ us) {k : Nat} (hk : k = 500000 \/ k = 12 \/ k = 4 \/ ∃ u ∈ us, k = u.k) : (lk (wA us eu ec eg L J b4) k).isSome = true := by
 rcases hk with rfl | rfl | rfl | ⟨u, hu, rfl⟩
 ·rfl
 ·rfl
 ·rfl
 ·obtain ⟨j, hj, rfl⟩ := List.getElem_of_mem hu
  rw [h j hj, Qck h hj]; rfl
theorem X1 (h : ZZ us) (h4 : b4.pr = true) : Closed (wA us eu ec eg L J b4) := fun k b hk j hj => by
 rcases QaX h hk with ⟨rfl, rfl⟩ | ⟨rfl, rfl⟩ | ⟨rfl, rfl⟩ | ⟨i, hi, rfl, rfl⟩
 ·exact Qjm h (.inr (.inr (.inr (QaW hj))))
 ·simp [Box.ids, gB] at hj
 ·rw [XG h4] at hj; cases hj
 ·simp [Box.ids] at hj
theorem Qdm {α : Type} : ∀ {l : List α} {k : Nat} {a x : α}, x ∈ l.set k a -> x = a \/ x ∈ l
 | [], k, a, x, h => by simp at h
 | b :: l, 0, a, x, h => by
  simp only [List.set_cons_zero, List.mem_cons] at h ⊢
  rcases h with h | h
  ·exact .inl h
  ·exact .inr (.inr h)
 | b :: l, k + 1, a, x, h => by
  simp only [List.set_cons_succ, List.mem_cons] at h ⊢
  rcases h with h | h
  ·exact .inr (.inl h)
  ·rcases Qdm h with h | h
   ·exact .inl h
   ·exact .inr (.inr h)
theorem QeE {l : List Nat} {fr fr1 fr' : List (Nat × D)} {H : List (Nat × Box)} {i k : Nat} {row : List D} {p : Bool} (kk : Nat) (z' : CR) (hf : Q1 l fr = fr1) (ef : fr1 = fr') (hK : ZZ us) (hi : i < us.length) (hk : k < us[i].cs.length)
  (hKi : lk H (500001 + i) = some ⟨(us[i].cs.map dCR).set k row, 8, ec, p⟩) (hp : p = true -> row.map (D.fzS H (· == kk)) = row) (hrow : (row.map (D.fzS H (· == kk))).map D.canS = dCR z') (hoth : ∀ z ∈ us[i].cs, PureC z) (hz : PureC z')
  (hF : ∀ j, ∀ hj : j < us.length, j ≠ i -> lk H (500001 + j) = some ⟨us[j].cs.map dCR, 8, ec, true⟩) (hu : lk H 500000 = some ⟨us.map dUR, 3, eu, false⟩) (hg : lk H 12 = some (gB L J eg)) (h4 : lk H 4 = some b4) (hb4 : b4.pr = true) (hkk : kk < 500000 /\ kk ≠ 12 /\ kk ≠ 4) (hsm : ∀ j, 1000000 <= j -> lk H j = none) (hlen : us.length <= 100)
  (hfr : ∀ p ∈ fr', ∀ j ∈ p.2.ids, j = 500000 \/ j = 12 \/ j = 4 \/ ∃ u ∈ us, j = u.k) : St.le ⟨fr, H⟩ ⟨fr', wA (QbL us i k z') eu ec eg L J b4⟩ := by
 subst hf ef
 have nokk : ∀ j, (j = 500000 \/ j = 12 \/ j = 4 \/ ∃ u ∈ us, j = u.k) -> j ≠ kk := fun j hj e => by
  subst e
  rcases hj with rfl | rfl | rfl | ⟨u, hu, rfl⟩
  ·omega
  ·exact hkk.2.1 rfl
  ·exact hkk.2.2 rfl
  ·have := (QaO hK hu).1; omega
 have eqkk : ∀ j, j ≠ kk -> (j == kk) = false := fun j hj => by simp [hj]
 have some1 : ∀ b j, (j = 500000 \/ j = 12 \/ j = 4 \/ ∃ u ∈ us, j = u.k) -> (lk ((500001 + i, b) :: wA us eu ec eg L J b4) j).isSome = true := fun b j hj => QN (Qjm hK hj)
 have rowsz : ∀ r ∈ us[i].cs.map dCR, r.map (D.fzS H (· == kk)) = r := fun r hr => by
  obtain ⟨z, hzm, rfl⟩ := List.mem_map.1 hr
  exact YJ fun d hd => Qdf fun j hj => by rw [(hoth z hzm).all d hd] at hj; cases hj
 have mapz : ((us[i].cs.map dCR).set k row).map (fun r => r.map (D.fzS H (· == kk))) = (us[i].cs.map dCR).set k (row.map (D.fzS H (· == kk))) := by
  refine List.ext_getElem (by simp) fun j h1 h2 => ?_
  simp only [List.getElem_map, List.getElem_set]
  split
  ·rfl
  ·exact rowsz _ (List.mem_map_of_mem (List.getElem_mem _))
 refine le_trans (Qbm l fr H) (le_trans (QlQ kk (H' := (500001 + i, ⟨(us[i].cs.map dCR).set k (row.map (D.fzS H (· == kk))), 8, ec, p⟩) :: wA us eu ec eg L J b4) (by omega) (fr' := Q1 l fr) (fun t d h => ⟨d, h, QhB fun j hj => eqkk j (nokk j (hfr (t, d) (ZT h) j hj))⟩) (fun j b h => ?_) (fun t d h j hj => some1 _ j (hfr (t, d) (ZT h) j hj)) (fun j b h j2 hj2 => ?_) fun j hj hs => ?_) ?_)
 ·rw [Qi] at h
  split at h
  ·rename_i e; cases h; subst e
   refine ⟨by omega, _, hKi, ?_⟩
   cases p with
   | true => rw [hp rfl]; rfl
   | false => show Box.mk _ _ _ _ = _; rw [mapz]
  ·rename_i e
   rcases QaX hK h with ⟨rfl, rfl⟩ | ⟨rfl, rfl⟩ | ⟨rfl, rfl⟩ | ⟨i2, hi2, rfl, rfl⟩
   ·refine ⟨by omega, _, hu, Xl (.inr fun j hj => eqkk j (nokk j (.inr (.inr (.inr (QaW hj))))))⟩
   ·exact ⟨Ne.symm hkk.2.1, _, hg, rfl⟩
   ·exact ⟨Ne.symm hkk.2.2, _, h4, Xl (.inl hb4)⟩
   ·exact ⟨by omega, _, hF i2 hi2 (fun e2 => e (by omega)), rfl⟩
 ·rw [Qi] at h
  split at h
  ·cases h
   cases hpp : p with
   | true => rw [XG hpp] at hj2; cases hj2
   | false =>
   simp only [Box.ids, hpp, Bool.false_eq_true, if_false, List.mem_flatMap] at hj2
   obtain ⟨r, hr, d, hd, hj3⟩ := hj2
   rcases Qdm hr with rfl | hr
   ·have : (d.canS).sid = [] := hz.all _ (by rw [<- hrow]; exact List.mem_map_of_mem hd)
    rw [Qbz] at this
    rw [this] at hj3; cases hj3
   ·obtain ⟨z, hzm, rfl⟩ := List.mem_map.1 hr
    rw [(hoth z hzm).all d hd] at hj3; cases hj3
  ·exact QN (X1 hK hb4 j b h j2 hj2)
 ·rw [hsm j hj] at hs; cases hs
 ·refine le_trans (QdW k Qs) (le_trans (Qgx Qs (fun e => ?_) (fun r hr d hd => ?_)) (QaP rfl fun j => ?_))
  ·have := congrArg List.length e
   simp only [List.length_modify, List.length_set, List.length_map, List.length_nil] at this
   omega
  ·rcases QaC hr with h | ⟨y, hy, rfl⟩
   ·rcases Qdm h with rfl | h
    ·have : (d.canS).sid = [] := hz.all _ (by rw [<- hrow]; exact List.mem_map_of_mem hd)
     rwa [Qbz] at this
    ·obtain ⟨z, hzm, rfl⟩ := List.mem_map.1 h
     exact (hoth z hzm).all d hd
   ·obtain ⟨d0, hd0, rfl⟩ := List.mem_map.1 hd
    rw [Qbz]
    rcases Qdm hy with rfl | h
    ·have : (d0.canS).sid = [] := hz.all _ (by rw [<- hrow]; exact List.mem_map_of_mem hd0)
     rwa [Qbz] at this
    ·obtain ⟨z, hzm, rfl⟩ := List.mem_map.1 h
     exact (hoth z hzm).all d0 hd0
  ·have erows : ((us[i].cs.map dCR).set k (row.map (D.fzS H (· == kk)))).modify k (fun r => r.map D.canS) = ((us[i].cs.set k z').map dCR) := by
    refine List.ext_getElem (by simp) fun m h1 h2 => ?_
    simp only [List.getElem_modify, List.getElem_set, List.getElem_map]
    by_cases e : k = m
    ·subst e
     simp only [if_true]
     exact hrow
    ·simp only [if_neg e]
   have hK' := Qc0 (i := i) (k := k) (z := z') hK
   by_cases e : 500001 + i = j
   ·subst e
    rw [Qs, Qck hK' (by rw [Zk]; exact hi)]
    simp only [Qao hi, if_true, erows]; rfl
   ·rw [Qi, if_neg e, Qi, if_neg e, Qi, if_neg e]
    cases h : lk (wA us eu ec eg L J b4) j with
    | none =>
     cases h' : lk (wA (QbL us i k z') eu ec eg L J b4) j with
     | none => rfl
     | some b =>
      have : (lk (wA us eu ec eg L J b4) j).isSome = true := by
       rcases QaX hK' h' with ⟨rfl, _⟩ | ⟨rfl, _⟩ | ⟨rfl, _⟩ | ⟨m, hm, rfl, _⟩
       ·rfl
       ·rfl
       ·rfl
       ·rw [Zk] at hm; rw [Qck hK hm]; rfl
      rw [h] at this; cases this
    | some b =>
     rcases QaX hK h with ⟨rfl, rfl⟩ | ⟨rfl, rfl⟩ | ⟨rfl, rfl⟩ | ⟨m, hm, rfl, rfl⟩
     ·rw [Qd8, Qkg]
     ·rfl
     ·rfl
     ·rw [Qck hK' (by rw [Zk]; exact hm)]
      simp only [Qao hm, if_neg (show ¬ i = m by omega)]
end
theorem QcI : ∀ {H : List (Nat × Box)} {j : Nat}, j ∈ H.map Prod.fst -> (lk H j).isSome = true
 | [], _, h => by cases h
 | (k, b) :: H, j, h => by
  by_cases e : k = j
  ·subst e; exact QP
  ·refine QN (QcI ?_)
   simp only [List.map_cons, List.mem_cons] at h
   exact h.resolve_left (Ne.symm e)
theorem QnA {us : List UR} (h : ZZ us) {i : Nat} (hi : i < us.length) : (us.map dUR)[((i : Nat) : Int).toNat]? = some [.str us[i].n, .str us[i].f, .osl (500001 + i) us[i].cs.length] := by
 rw [Int.toNat_natCast, List.getElem?_map, List.getElem?_eq_getElem hi, Option.map_some, dUR, h i hi]
theorem Qqz {cs : List CR} {k : Nat} (hk : k < cs.length) : (cs.map dCR)[((k : Nat) : Int).toNat]? = some (dCR cs[k]) := by
 rw [Int.toNat_natCast, List.getElem?_map, List.getElem?_eq_getElem hk]; rfl
theorem Qjh {us : List UR} {eu ec eg : Nat} {L : List Int} {J : Int} {b4 g1 : Box} (h : ZZ us) (k : Nat) : lk (((500000, (⟨us.map dUR, 3, eu, false⟩ : Box)) :: fbx ec us) ++ ([(12, gB L J eg)] ++ [(12, g1), (4, b4)])) k = lk (wA us eu ec eg L J b4) k := by
 show lk ((500000, _) :: (fbx ec us ++ [(12, gB L J eg), (12, g1), (4, b4)])) k = lk ((500000, _) :: (12, _) :: (4, _) :: fbx ec us) k
 rw [Qi, Qi]
 split
 ·rfl
 ·rw [ZM]
  cases hh : lk (fbx ec us) k with
  | some v =>
   have := Qgj h k v hh
   simp only
   rw [Qi, if_neg (by omega), Qi, if_neg (by omega), hh]
  | none =>
   simp only [Qi, hh]
   by_cases e : 12 = k
   ·rw [if_pos e, if_pos e]
   ·rw [if_neg e, if_neg e, if_neg e]; rfl
theorem Qkk {us : List UR} {eu ec eg : Nat} {L : List Int} {J : Int} {b4 : Box} (h : ZZ us) (hv : ∀ y ∈ us, y.cs.length <= 16 /\ ∀ z ∈ y.cs, Qfu z.v) : Fam (wA us eu ec eg L J b4) 12 500000 eu ec us := by
 refine ⟨by decide, ⟨false, rfl⟩, fun y hy => ?_, hv⟩
 obtain ⟨j, hj, rfl⟩ := List.getElem_of_mem hy
 refine ⟨by rw [h j hj]; omega, true, by rw [h j hj]; exact Qck h hj⟩
/-! ### Filled candidates -/
def Qon (n : Nat) (x : WantT) : Prop := 0 <= x.u /\ x.u < n /\ SetOk x.s
theorem WantIn.w {n : Nat} {x : WantT} (h : WantIn n x) : Qon n x := ⟨by have := h.1; omega, h.2.1, h.2.2⟩
structure X4 (n : Nat) (c : CandT) : Prop where
 v : Qfu c.v
 nl : c.ns.length <= 10
 nr : ∀ r ∈ c.ns, r.length <= 2 /\ ∀ x ∈ r, Qon n x
 bl : c.bs.length <= 1
 bw : ∀ x ∈ c.bs, Qon n x
def Qg2 (c : CandT) : CR := ⟨c.v, .int .i64 c.sh, QL c.ns, QX c.bs⟩
def DoneC (n : Nat) (z : CR) : Prop := ∃ c, z = Qg2 c /\ X4 n c
def FreshC (z : CR) : Prop := ∃ v sh, z = zr v sh /\ Qfu v
theorem DoneC.pure {n : Nat} {z : CR} (h : DoneC n z) : PureC z := by obtain ⟨c, rfl, _⟩ := h; exact ⟨rfl, rfl, rfl⟩
theorem FreshC.pure {z : CR} (h : FreshC z) : PureC z := by obtain ⟨v, sh, rfl, _⟩ := h; exact ⟨rfl, rfl, rfl⟩
theorem DoneC.vr {n : Nat} {z : CR} (h : DoneC n z) : Qfu z.v := by obtain ⟨c, rfl, q⟩ := h; exact q.v
theorem FreshC.vr {z : CR} (h : FreshC z) : Qfu z.v := by obtain ⟨v, sh, rfl, q⟩ := h; exact q
structure Prog (n : Nat) (us : List UR) (i k : Nat) : Prop where
 keys : ZZ us
 len : us.length = n /\ 2 <= n /\ n <= 11
 cl : ∀ u ∈ us, u.cs.length <= 4
 done : ∀ j, ∀ hj : j < us.length, ∀ m, ∀ hm : m < us[j].cs.length, (j < i \/ (j = i /\ m < k)) -> DoneC n us[j].cs[m]
 fresh : ∀ j, ∀ hj : j < us.length, ∀ m, ∀ hm : m < us[j].cs.length, ¬ (j < i \/ (j = i /\ m < k)) -> FreshC us[j].cs[m]
theorem Prog.pure {n : Nat} {us : List UR} {i k : Nat} (h : Prog n us i k) {j : Nat} (hj : j < us.length) : ∀ z ∈ us[j].cs, PureC z /\ Qfu z.v := fun z hz => by
 obtain ⟨m, hm, rfl⟩ := List.getElem_of_mem hz
 by_cases hd : j < i \/ (j = i /\ m < k)
 ·exact ⟨(h.done j hj m hm hd).pure, (h.done j hj m hm hd).vr⟩
 ·exact ⟨(h.fresh j hj m hm hd).pure, (h.fresh j hj m hm hd).vr⟩
theorem Prog.fam {n : Nat} {us : List UR} {i k : Nat} (h : Prog n us i k) : ∀ y ∈ us, y.cs.length <= 16 /\ ∀ z ∈ y.cs, Qfu z.v := fun y hy => by
 obtain ⟨j, hj, rfl⟩ := List.getElem_of_mem hy
 exact ⟨Nat.le_trans (h.cl _ hy) (by omega), fun z hz => (h.pure hj z hz).2⟩
theorem Prog.put {n : Nat} {us : List UR} {i k : Nat} (h : Prog n us i k) (hi : i < us.length) (hk : k < us[i].cs.length) {z : CR} (hz : DoneC n z) : Prog n (QbL us i k z) i (k + 1) := by
 have at' := fun (j : Nat) (hj : j < us.length) => Qao (i := i) (k := k) (z := z) hj
 refine ⟨Qc0 h.keys, by rw [Zk]; exact h.len, fun u hu => ?_, fun j hj m hm hd => ?_, fun j hj m hm hd => ?_⟩
 ·obtain ⟨j, hj, rfl⟩ := List.getElem_of_mem hu
  rw [Zk] at hj
  rw [at' j hj]
  split
  ·simp only [Qdw, List.length_set]; exact h.cl _ (List.getElem_mem _)
  ·exact h.cl _ (List.getElem_mem _)
 ·rw [Zk] at hj
  have e := at' j hj
  by_cases hij : i = j
  ·subst hij
   rw [if_pos rfl] at e
   have hm' : m < (Qdw us[i] k z).cs.length := by rw [<- e]; exact hm
   have e2 : (QbL us i k z)[i].cs[m] = (Qdw us[i] k z).cs[m]'hm' := by congr 1; rw [e]
   rw [e2]
   simp only [Qdw, List.getElem_set]
   split
   ·exact hz
   ·simp only [Qdw, List.length_set] at hm'
    exact h.done i hi m hm' (by omega)
  ·rw [if_neg hij] at e
   have hm' : m < us[j].cs.length := by rw [<- e]; exact hm
   have e2 : (QbL us i k z)[j].cs[m] = us[j].cs[m]'hm' := by congr 1; rw [e]
   rw [e2]; exact h.done j hj m hm' (by omega)
 ·rw [Zk] at hj
  have e := at' j hj
  by_cases hij : i = j
  ·subst hij
   rw [if_pos rfl] at e
   have hm' : m < (Qdw us[i] k z).cs.length := by rw [<- e]; exact hm
   have e2 : (QbL us i k z)[i].cs[m] = (Qdw us[i] k z).cs[m]'hm' := by congr 1; rw [e]
   rw [e2]
   simp only [Qdw, List.length_set] at hm'
   simp only [Qdw, List.getElem_set]
   rw [if_neg (by omega)]
   exact h.fresh i hi m hm' (by omega)
  ·rw [if_neg hij] at e
   have hm' : m < us[j].cs.length := by rw [<- e]; exact hm
   have e2 : (QbL us i k z)[j].cs[m] = us[j].cs[m]'hm' := by congr 1; rw [e]
   rw [e2]; exact h.fresh j hj m hm' (by omega)
theorem Prog.next {n : Nat} {us : List UR} {i k : Nat} (h : Prog n us i k) (hi : i < us.length) (hk : us[i].cs.length <= k) : Prog n us (i + 1) 0 := by
 refine ⟨h.keys, h.len, h.cl, fun j hj m hm hd => h.done j hj m hm ?_, fun j hj m hm hd => h.fresh j hj m hm (by omega)⟩
 by_cases e : j = i
 ·subst e; exact .inr ⟨rfl, by omega⟩
 ·exact .inl (by omega)
theorem Prog.again {n : Nat} {us : List UR} {i k : Nat} (h : Prog n us i (k + 1)) (hi : i < us.length) (hk : k < us[i].cs.length) {z : CR} (hz : DoneC n z) : Prog n (QbL us i k z) i (k + 1) := by
 have at' := fun (j : Nat) (hj : j < us.length) => Qao (i := i) (k := k) (z := z) hj
 refine ⟨Qc0 h.keys, by rw [Zk]; exact h.len, fun u hu => ?_, fun j hj m hm hd => ?_, fun j hj m hm hd => ?_⟩
 ·obtain ⟨j, hj, rfl⟩ := List.getElem_of_mem hu
  rw [Zk] at hj
  rw [at' j hj]
  split
  ·simp only [Qdw, List.length_set]; exact h.cl _ (List.getElem_mem _)
  ·exact h.cl _ (List.getElem_mem _)
 ·rw [Zk] at hj
  have e := at' j hj
  by_cases hij : i = j
  ·subst hij
   rw [if_pos rfl] at e
   have hm' : m < (Qdw us[i] k z).cs.length := by rw [<- e]; exact hm
   have e2 : (QbL us i k z)[i].cs[m] = (Qdw us[i] k z).cs[m]'hm' := by congr 1; rw [e]
   rw [e2]
   simp only [Qdw, List.getElem_set]
   split
   ·exact hz
   ·simp only [Qdw, List.length_set] at hm'
    exact h.done i hi m hm' (by omega)
  ·rw [if_neg hij] at e
   have hm' : m < us[j].cs.length := by rw [<- e]; exact hm
   have e2 : (QbL us i k z)[j].cs[m] = us[j].cs[m]'hm' := by congr 1; rw [e]
   rw [e2]; exact h.done j hj m hm' (by omega)
 ·rw [Zk] at hj
  have e := at' j hj
  by_cases hij : i = j
  ·subst hij
   rw [if_pos rfl] at e
   have hm' : m < (Qdw us[i] k z).cs.length := by rw [<- e]; exact hm
   have e2 : (QbL us i k z)[i].cs[m] = (Qdw us[i] k z).cs[m]'hm' := by congr 1; rw [e]
   rw [e2]
   simp only [Qdw, List.length_set] at hm'
   simp only [Qdw, List.getElem_set]
   rw [if_neg (by omega)]
   exact h.fresh i hi m hm' (by omega)
  ·rw [if_neg hij] at e
   have hm' : m < us[j].cs.length := by rw [<- e]; exact hm
   have e2 : (QbL us i k z)[j].cs[m] = us[j].cs[m]'hm' := by congr 1; rw [e]
   rw [e2]; exact h.fresh j hj m hm' (by omega)
theorem QlO {l : List Nat} {fr fr1 fr' : List (Nat × D)} {us : List UR} {eu ec eg e1 e3 : Nat} {L : List Int} {J : Int} {b4 bK : Box} {i : Nat} {x : WantT} (hf : Q1 l fr = fr1) (ef : fr1 = fr') (hK : ZZ us) (hi : i < us.length) (hb4 : b4.pr = true) (hbK : ∀ j ∈ bK.ids, j = 64)
  (hfr : ∀ p ∈ fr', ∀ j ∈ p.2.ids, j = 500000 \/ j = 12 \/ j = 4 \/ ∃ u ∈ us, j = u.k) :
  St.le ⟨fr, (500001 + i, bK) :: (64, ⟨[[.osl 63 1]], 1, e1, false⟩) :: (63, ⟨[Qfj x], 3, e3, true⟩) :: wA us eu ec eg L J b4⟩ ⟨fr', (500001 + i, bK) :: (64, ⟨[[QX [x]]], 1, e1, true⟩) :: wA us eu ec eg L J b4⟩ := by
 subst hf ef
 have no63 : ∀ j, (j = 500000 \/ j = 12 \/ j = 4 \/ ∃ u ∈ us, j = u.k) -> j ≠ 63 := fun j hj e => by
  subst e
  rcases hj with h | h | h | ⟨u, hu, h⟩
  ·cases h
  ·cases h
  ·cases h
  ·have := (QaO hK hu).1; omega
 have eq63 : ∀ j, j ≠ 63 -> (j == 63) = false := fun j hj => by simp [hj]
 have up : ∀ b b' j, (lk (wA us eu ec eg L J b4) j).isSome = true -> (lk ((500001 + i, b) :: (64, b') :: wA us eu ec eg L J b4) j).isSome = true := fun b b' j hj => QN (QN hj)
 refine le_trans (Qbm l fr _) (le_trans (QlQ 63 (H' := (500001 + i, bK) :: (64, ⟨[[QX [x]]], 1, e1, false⟩) :: wA us eu ec eg L J b4) (by decide) (fr' := Q1 l fr) (fun t d h => ⟨d, h, QhB fun j hj => eq63 j (no63 j (hfr (t, d) (ZT h) j hj))⟩) (fun j b h => ?_) (fun t d h j hj => up _ _ j (Qjm hK (hfr (t, d) (ZT h) j hj))) (fun j b h j2 hj2 => ?_) fun j hj hs => ?_) ?_)
 ·rw [Qi] at h
  split at h
  ·rename_i e; cases h; subst e
   refine ⟨by omega, _, Qs, Xl (.inr fun j hj => ?_)⟩
   rw [hbK j hj]; rfl
  ·rename_i e
   rw [Qi] at h
   split at h
   ·rename_i e2; cases h; subst e2
    refine ⟨by decide, _, Qh e Qs, ?_⟩
    have h63 : lk ((500001 + i, bK) :: (64, (⟨[[.osl 63 1]], 1, e1, false⟩ : Box)) :: (63, ⟨[Qfj x], 3, e3, true⟩) :: wA us eu ec eg L J b4) 63 = some ⟨[Qfj x], 3, e3, true⟩ := Qh (by omega) (Qh (by decide) Qs)
    simp only [Box.fz, Bool.false_eq_true, if_false, List.map_cons, List.map_nil, D.fzS, beq_self_eq_true, if_true, h63, List.length_singleton, and_self, QX]
   ·rename_i e2
    have h2 : lk ((500001 + i, bK) :: (64, (⟨[[.osl 63 1]], 1, e1, false⟩ : Box)) :: (63, ⟨[Qfj x], 3, e3, true⟩) :: wA us eu ec eg L J b4) j = some b := by
     have hj : j ≠ 63 := by
      rcases QaX hK h with ⟨rfl, _⟩ | ⟨rfl, _⟩ | ⟨rfl, _⟩ | ⟨m, _, rfl, _⟩ <;> omega
     exact Qh e (Qh e2 (Qh (Ne.symm hj) h))
    rcases QaX hK h with ⟨rfl, rfl⟩ | ⟨rfl, rfl⟩ | ⟨rfl, rfl⟩ | ⟨m, hm, rfl, rfl⟩
    ·exact ⟨by decide, _, h2, Xl (.inr fun j hj => eq63 j (no63 j (.inr (.inr (.inr (QaW hj))))))⟩
    ·exact ⟨by decide, _, h2, rfl⟩
    ·exact ⟨by decide, _, h2, Xl (.inl hb4)⟩
    ·exact ⟨by omega, _, h2, rfl⟩
 ·rw [Qi] at h
  split at h
  ·cases h
   rw [hbK j2 hj2]; exact QN QP
  ·rw [Qi] at h
   split at h
   ·cases h; simp [Box.ids, D.sid, QX] at hj2
   ·exact up _ _ j2 (X1 hK hb4 j b h j2 hj2)
 ·by_cases e : 500001 + i = j
  ·subst e; exact QP
  ·rw [Qi, if_neg e, Qi, if_neg (by omega), Qi, if_neg (by omega)] at hs
   exact up _ _ j hs
 ·have h64 : lk ((500001 + i, bK) :: (64, (⟨[[QX [x]]], 1, e1, false⟩ : Box)) :: wA us eu ec eg L J b4) 64 = some ⟨[[QX [x]]], 1, e1, false⟩ := Qh (by omega) Qs
  refine le_trans (Qgx h64 (by simp) (by intro r hr d hd; simp only [List.mem_singleton] at hr; subst hr; simp only [List.mem_singleton] at hd; subst hd; rfl)) (QaP rfl fun j => ?_)
  by_cases e : 64 = j
  ·subst e; rw [Qs, Qi, if_neg (by omega), Qs]
  ·by_cases eK : 500001 + i = j
   ·subst eK; rw [Qi, if_neg e, Qs, Qs]
   ·rw [Qi, if_neg e, Qi, if_neg eK, Qi, if_neg e, Qi, if_neg eK, Qi, if_neg e]
theorem Qlk {n : Nat} : ∀ {cs : List CR}, (∀ z ∈ cs, DoneC n z) -> ∃ l : List CandT, cs = l.map Qg2 /\ ∀ c ∈ l, X4 n c
 | [], _ => ⟨[], rfl, by simp⟩
 | z :: cs, h => by
  obtain ⟨l, h1, h2⟩ := Qlk (cs := cs) fun y hy => h y (by simp [hy])
  obtain ⟨c, rfl, hc⟩ := h z (by simp)
  exact ⟨c :: l, by rw [h1]; rfl, fun y hy => by
   rcases List.mem_cons.1 hy with rfl | hy
   ·exact hc
   ·exact h2 y hy⟩
def Qpw (n : Nat) (u : UR) (x : QmF) : Prop := x.n = u.n /\ x.f = u.f /\ u.cs = x.cs.map Qg2 /\ ∀ c ∈ x.cs, X4 n c
theorem Qll {n : Nat} : ∀ {us : List UR}, (∀ u ∈ us, ∀ z ∈ u.cs, DoneC n z) -> ∃ w : Qn, w.length = us.length /\ ∀ j, ∀ h : j < us.length, ∀ h' : j < w.length, Qpw n us[j] w[j]
 | [], _ => ⟨[], rfl, fun j h => by simp at h⟩
 | u :: us, h => by
  obtain ⟨w, h1, h2⟩ := Qll (us := us) fun y hy => h y (by simp [hy])
  obtain ⟨l, q1, q2⟩ := Qlk (h u (by simp))
  refine ⟨⟨u.n, u.f, l⟩ :: w, by simp [h1], fun j hj hj' => ?_⟩
  cases j with
  | zero => exact ⟨rfl, rfl, q1, q2⟩
  | succ j => simp only [List.getElem_cons_succ]; exact h2 j (by simpa using hj) (by simpa using hj')
structure QmG (w : Qn) : Prop where
 sm : WSm w
 len : 2 <= w.length /\ w.length <= 11
 cs : ∀ u ∈ w, u.cs.length <= 4
 cand : ∀ u ∈ w, ∀ c ∈ u.cs, X4 w.length c
theorem QoQ {w : Qn} (h2 : 2 <= w.length) (h11 : w.length <= 11) (hc : ∀ u ∈ w, u.cs.length <= 4) (hd : ∀ u ∈ w, ∀ c ∈ u.cs, X4 w.length c) : QmG w := by
 refine ⟨⟨by omega, fun u hu => Nat.le_trans (hc u hu) (by omega), fun u hu c hcm => (hd u hu c hcm).v, fun u hu c hcm => ⟨Nat.le_trans (hd u hu c hcm).nl (by omega), Nat.le_trans (hd u hu c hcm).bl (by omega)⟩, fun u hu c hcm r hr => Nat.le_trans ((hd u hu c hcm).nr r hr).1 (by omega), fun u hu c hcm r hr x hx => (((hd u hu c hcm).nr r hr).2 x hx).2.2.sm, fun u hu c hcm x hx => ((hd u hu c hcm).bw x hx).2.2.sm⟩, ⟨h2, h11⟩, hc, hd⟩
theorem Qm7 {n : Nat} {us : List UR} {eu ec eg : Nat} {L : List Int} {J : Int} {b4 : Box} {k : Nat} (h : Prog n us us.length k) (hb4 : b4.pr = true) :
  ∃ w : Qn, w.length = us.length /\ QmG w /\ ∀ {l : List Nat} {fr fr1 fr' : List (Nat × D)}, Q1 l fr = fr1 -> fr1 = fr' -> (∀ p ∈ fr', ∀ j ∈ p.2.ids, j = 500000 \/ j = 4) -> St.le ⟨fr, wA us eu ec eg L J b4⟩ ⟨fr', [(500000, ⟨w.map Qcc, 3, eu, true⟩), (4, b4)]⟩ := by
 obtain ⟨w, hw1, hw2⟩ := Qll (n := n) (us := us) fun u hu z hz => by
  obtain ⟨j, hj, rfl⟩ := List.getElem_of_mem hu
  obtain ⟨m, hm, rfl⟩ := List.getElem_of_mem hz
  exact h.done j hj m hm (.inl hj)
 have hcs : ∀ u ∈ w, u.cs.length <= 4 /\ ∀ c ∈ u.cs, X4 n c := fun u hu => by
  obtain ⟨j, hj, rfl⟩ := List.getElem_of_mem hu
  obtain ⟨_, _, q3, q4⟩ := hw2 j (by omega) hj
  have := h.cl us[j] (List.getElem_mem _)
  rw [q3, List.length_map] at this
  exact ⟨this, q4⟩
 have hlen := h.len
 refine ⟨w, hw1, QoQ (by omega) (by omega) (fun u hu => (hcs u hu).1) (fun u hu c hc => by have := (hcs u hu).2 c hc; rwa [show w.length = n by omega]), ?_⟩
 intro l fr fr1 fr' hf ef hfr
 subst hf ef
 have hK := h.keys
 let S : Nat -> Bool := fun k => decide (500001 <= k) && decide (k < 1000000)
 have hS1 : ∀ k, k < 500001 -> S k = false := fun k hk => by
  show (decide (500001 <= k) && decide (k < 1000000)) = false
  rw [decide_eq_false (by omega)]; rfl
 have hS2 : ∀ k, 500001 <= k -> k < 1000000 -> S k = true := fun k h1 h2 => by
  show (decide (500001 <= k) && decide (k < 1000000)) = true
  rw [decide_eq_true h1, decide_eq_true h2]; rfl
 have hrow : ∀ j, ∀ h1 : j < us.length, ∀ h2 : j < w.length, (dUR us[j]).map (D.fzS (wA us eu ec eg L J b4) S) = Qcc w[j] := fun j h1 h2 => by
  obtain ⟨q1, q2, q3, q4⟩ := hw2 j h1 h2
  have hk := hK j h1
  have hc := Qck (eu := eu) (ec := ec) (eg := eg) (L := L) (J := J) (b4 := b4) hK h1
  generalize us[j] = u at q1 q2 q3 hk hc
  generalize w[j] = x at q1 q2 q3 q4
  obtain ⟨un, uf, uk, ucs⟩ := u
  simp only at q1 q2 q3 hk hc
  subst hk q3
  simp only [dUR, Qcc, List.map_cons, List.map_nil, D.fzS]
  rw [hS2 _ (by omega) (by omega), hc]
  simp only [if_true, true_and, List.length_map, q1, q2, Qlf, List.map_map]
  rfl
 have hrows : (us.map dUR).map (fun r => r.map (D.fzS (wA us eu ec eg L J b4) S)) = w.map Qcc := by
  refine List.ext_getElem (by simp [hw1]) fun j h1 h2 => ?_
  simp only [List.getElem_map]
  exact hrow j (by simpa using h1) (by simpa using h2)
 refine le_trans (Qbm l fr _) (le_trans (QoK S (fun k hk => by
  simp only [S, Bool.and_eq_true, decide_eq_true_eq] at hk; exact hk.2) (fr' := Q1 l fr) (H' := [(500000, ⟨w.map Qcc, 3, eu, false⟩), (4, b4)]) (fun t d hd => ⟨d, hd, QhB fun j hj => ?_⟩) (fun j b hj => ?_) (fun t d hd j hj => ?_) (fun j b hb i hi => ?_) fun j hj hs => ?_) (le_trans (Qgx (k := 500000) (b := ⟨w.map Qcc, 3, eu, false⟩) rfl (fun e => ?_) (fun r hr d hd => ?_)) (QaP rfl fun j => ?_)))
 ·rcases hfr (t, d) (ZT hd) j hj with rfl | rfl
  ·exact hS1 _ (by decide)
  ·exact hS1 _ (by decide)
 ·rw [Qi] at hj
  split at hj
  ·rename_i e; cases hj; subst e
   refine ⟨hS1 _ (by decide), _, Qd8, ?_⟩
   simp only [Box.fz, Bool.false_eq_true, if_false, hrows]
  ·rw [Qi] at hj
   split at hj
   ·rename_i e; cases hj; subst e
    exact ⟨hS1 _ (by decide), _, Qfh, Xl (.inl hb4)⟩
   ·cases hj
 ·rcases hfr (t, d) (ZT hd) j hj with rfl | rfl
  ·rfl
  ·rfl
 ·rw [Qi] at hb
  split at hb
  ·cases hb
   simp only [Box.ids, Bool.false_eq_true, if_false, List.mem_flatMap, List.mem_map] at hi
   obtain ⟨r, ⟨u, _, rfl⟩, d, hd, hi⟩ := hi
   simp only [Qcc, List.mem_cons, List.not_mem_nil, or_false] at hd
   rcases hd with rfl | rfl | rfl <;> simp [D.sid, Qlf] at hi
  ·rw [Qi] at hb
   split at hb
   ·cases hb; rw [XG hb4] at hi; cases hi
   ·cases hb
 ·obtain ⟨b, hb⟩ := Option.isSome_iff_exists.1 hs
  rcases QaX hK hb with ⟨rfl, _⟩ | ⟨rfl, _⟩ | ⟨rfl, _⟩ | ⟨m, hm, rfl, _⟩ <;> omega
 ·have := congrArg List.length e
  simp only [List.length_map, List.length_nil] at this
  omega
 ·obtain ⟨u, _, rfl⟩ := List.mem_map.1 hr
  simp only [Qcc, List.mem_cons, List.not_mem_nil, or_false] at hd
  rcases hd with rfl | rfl | rfl <;> rfl
 ·by_cases e : 500000 = j
  ·subst e; rfl
  ·rw [Qi, if_neg e, Qi, if_neg e]; rw [Qi (k := 500000), if_neg e]
def QiH (us : List UR) (i : Nat) : Nat := match us[i]? with
 | some u => u.cs.length
 | none => 0
theorem Qak {us : List UR} {i : Nat} (h : i < us.length) : QiH us i = us[i].cs.length := by rw [QiH, List.getElem?_eq_getElem h]
theorem Qaa (us : List UR) (i k : Nat) (z : CR) : QiH (QbL us i k z) i = QiH us i := by
 by_cases h : i < us.length
 ·rw [Qak h, Qak (by rw [Zk]; exact h), Qao h, if_pos rfl]
  simp [Qdw]
 ·have e : (QbL us i k z).length = us.length := Zk ..
  rw [QiH, QiH, List.getElem?_eq_none (show us.length <= i by omega), List.getElem?_eq_none (show (QbL us i k z).length <= i by omega)]
theorem Qie {us : List UR} {i k : Nat} {z : CR} (hi : i < us.length) (hk : k < us[i].cs.length) {us2 : List UR} (e : us2 = QbL us i k z) (hi2 : i < us2.length) (hk2 : k < us2[i].cs.length) : us2[i].cs[k] = z := by
 subst e
 have e1 := Qao (i := i) (k := k) (z := z) hi
 rw [if_pos rfl] at e1
 have e2 : (QbL us i k z)[i].cs[k] = (Qdw us[i] k z).cs[k]'(by simpa [Qdw] using hk) := by congr 1; rw [e1]
 rw [e2]; simp [Qdw]
theorem Qoy {cs : List CR} {k : Nat} {z : CR} (hk : k < cs.length) (hz : cs[k] = z) : (cs.map dCR)[((k : Nat) : Int).toNat]? = some (dCR z) := by rw [Qqz hk, hz]
theorem Qn7 {cs : List CR} {k : Nat} {row : List D} (hk : k < cs.length) : ((cs.map dCR).set ((k : Nat) : Int).toNat row)[((k : Nat) : Int).toNat]? = some row := by
 rw [Int.toNat_natCast, List.getElem?_set_self (by simpa using hk)]
theorem QhL {K k e t : Nat} {L : List (List D)} {r1 r2 : List D} {p : Bool} {H : List (Nat × Box)} : lk ((K, (⟨(L.set k r1).set k r2, e, t, p⟩ : Box)) :: H) K = some ⟨L.set k r2, e, t, p⟩ := by rw [Qs, List.set_set]
theorem QdV {H : List (Nat × Box)} {kk m e t : Nat} {ys : List (List D)} {v : Vr} {sh : Int} (h : lk H kk = some ⟨ys, e, t, true⟩) (hm : m = ys.length) : ([D.int .i64 v.a, .int .i64 v.b, .int .i64 v.c, .str v.p, .str v.q, .int .i64 sh, .osl kk m, .fsl []].map (D.fzS H (· == kk))).map D.canS = [.int .i64 v.a, .int .i64 v.b, .int .i64 v.c, .str v.p, .str v.q, .int .i64 sh, .sl ys, .sl []] := by
 simp only [List.map_cons, List.map_nil, D.fzS, beq_self_eq_true, if_true, h, hm, and_self, D.canS]
theorem Qlz {H : List (Nat × Box)} {kk m e t : Nat} {ys : List (List D)} {v : Vr} {sh : Int} {ns : List (List WantT)} (h : lk H kk = some ⟨ys, e, t, true⟩) (hm : m = ys.length) : ([D.int .i64 v.a, .int .i64 v.b, .int .i64 v.c, .str v.p, .str v.q, .int .i64 sh, QL ns, .osl kk m].map (D.fzS H (· == kk))).map D.canS = [.int .i64 v.a, .int .i64 v.b, .int .i64 v.c, .str v.p, .str v.q, .int .i64 sh, QL ns, .sl ys] := by
 simp only [QL, List.map_cons, List.map_nil, D.fzS, beq_self_eq_true, if_true, h, hm, and_self, D.canS]
theorem Qqe {us : List UR} {eu ec eg : Nat} {L : List Int} {J J2 : Int} {b4 : Box} (k : Nat) : lk ((12, gB L J2 eg) :: wA us eu ec eg L J b4) k = lk (wA us eu ec eg L J2 b4) k := by
 show lk ((12, _) :: (500000, _) :: (12, _) :: (4, _) :: fbx ec us) k = lk ((500000, _) :: (12, _) :: (4, _) :: fbx ec us) k
 by_cases e : 12 = k
 ·subst e; rfl
 ·rw [Qi, if_neg e, Qi, Qi (k := 500000)]
  split
  ·rfl
  ·rw [Qi, if_neg e, Qi (k := 12), if_neg e]
theorem Qi6 {cs : List CR} {k e t : Nat} {row : List D} (h : ∀ z ∈ cs, PureC z) (hr : ∀ d ∈ row, ∀ j ∈ d.sid, j = 64) : ∀ j ∈ Box.ids ⟨(cs.map dCR).set k row, e, t, false⟩, j = 64 := fun j hj => by
 simp only [Box.ids, Bool.false_eq_true, if_false, List.mem_flatMap] at hj
 obtain ⟨r, hrm, d, hd, hj⟩ := hj
 rcases Qdm hrm with rfl | hrm
 ·exact hr d hd j hj
 ·obtain ⟨z, hz, rfl⟩ := List.mem_map.1 hrm
  rw [(h z hz).all d hd] at hj; cases hj
theorem QqW {us : List UR} {eu ec eg : Nat} {L : List Int} {J : Int} {b4 b64 : Box} {n i k : Nat} (h : Prog n us i k) (hi : i < us.length) (hk : k < us[i].cs.length) {zx : CR} (hv : Qfu zx.v) (hrow : zx.x.sid = [] /\ zx.y.sid = [64] /\ zx.z.sid = []) (hb4 : b4.pr = true) (h64 : b64.pr = true) :
  Fam ((500001 + i, ⟨(us[i].cs.map dCR).set k (dCR zx), 8, ec, false⟩) :: (64, b64) :: wA us eu ec eg L J b4) 12 500000 eu ec (QbL us i k zx) /\ Closed ((500001 + i, ⟨(us[i].cs.map dCR).set k (dCR zx), 8, ec, false⟩) :: (64, b64) :: wA us eu ec eg L J b4) := by
 refine ⟨⟨by decide, ⟨false, ?_⟩, fun y hy => ?_, fun y hy => ?_⟩, ?_⟩
 ·rw [Qi, if_neg (by omega), Qi, if_neg (by decide), Qd8, Qkg]
 ·obtain ⟨j, hj, rfl⟩ := List.getElem_of_mem hy
  have hK' := Qc0 (i := i) (k := k) (z := zx) h.keys
  have hj' := hj
  rw [Zk] at hj'
  refine ⟨by rw [hK' j hj]; omega, ?_⟩
  rw [hK' j hj]
  by_cases e : i = j
  ·subst e
   refine ⟨false, ?_⟩
   rw [Qs, Qao hj', if_pos rfl, Qdw, List.map_set]
  ·refine ⟨true, ?_⟩
   rw [Qi, if_neg (by omega), Qi, if_neg (by omega), Qck h.keys hj', Qao hj', if_neg e]
 ·obtain ⟨j, hj, rfl⟩ := List.getElem_of_mem hy
  have hj' := hj
  rw [Zk] at hj'
  rw [Qao hj']
  have hfam := h.fam us[j] (List.getElem_mem _)
  split
  ·refine ⟨by simpa [Qdw] using hfam.1, fun z hz => ?_⟩
   rcases Qdm hz with rfl | hz
   ·exact hv
   ·exact hfam.2 z hz
  ·exact hfam
 ·refine ((X1 h.keys hb4).pr h64).cons fun j hj => ?_
  have := Qi6 (e := 8) (t := ec) (k := k) (row := dCR zx) (fun z hz => (h.pure hi z hz).1) (fun d hd j hj => by
   simp only [dCR, List.mem_cons, List.not_mem_nil, or_false] at hd
   rcases hd with rfl | rfl | rfl | rfl | rfl | rfl | rfl | rfl
   ·cases hj
   ·cases hj
   ·cases hj
   ·cases hj
   ·cases hj
   ·rw [hrow.1] at hj; cases hj
   ·rw [hrow.2.1] at hj; simpa using hj
   ·rw [hrow.2.2] at hj; cases hj) j hj
  subst this; exact QP
theorem Prog.start {us : List UR} (h : UnitsIn us) (h2 : 2 <= us.length) (h11 : us.length <= 11) : Prog us.length us 0 0 := by
 refine ⟨h.keys, ⟨rfl, h2, h11⟩, fun u hu => (h.fresh u hu).1, fun j hj m hm hd => by omega, fun j hj m hm _ => ?_⟩
 obtain ⟨v, sh, e, hv⟩ := (h.fresh _ (List.getElem_mem hj)).2 _ (List.getElem_mem hm)
 exact ⟨v, sh, e, hv⟩
theorem Qdc {n : Nat} {m : Int} {v : Vr} {sh : Int} {ns : List (List WantT)} (hv : Qfu v) (h : Qec n m ns) (hm : m <= 3) : X4 n ⟨v, sh, ns, []⟩ :=
 ⟨hv, by show ns.length <= 10; have := h.1; omega, fun r hr => ⟨(h.2 r hr).1, fun x hx => ((h.2 r hr).2 x hx).w⟩, Nat.zero_le _, fun x hx => by cases hx⟩
theorem Qhq {n i : Nat} {m : Int} {v : Vr} {sh : Int} {ns : List (List WantT)} (hv : Qfu v) (h : Qec n m ns) (hm : m <= 3) (h1 : 1 <= i) (hi : i < n) : X4 n ⟨v, sh, [⟨(i : Int) - 1, YV v.a v.b v.c v.p v.q⟩] :: ns, []⟩ := by
 refine ⟨hv, by show (_ :: ns).length <= 10; have := h.1; simp only [List.length_cons]; omega, fun r hr => ?_, Nat.zero_le _, fun x hx => by cases hx⟩
 rcases List.mem_cons.1 hr with rfl | hr
 ·refine ⟨by simp, fun x hx => ?_⟩
  simp only [List.mem_singleton] at hx; subst hx
  have := QbC (a := v.a) (b := v.b) (c := v.c) (q := v.q) hv.1
  exact ⟨by show 0 <= (i : Int) - 1; omega, by show (i : Int) - 1 < n; omega, this.1.up (by omega), this.2.up (by omega)⟩
 ·exact ⟨(h.2 r hr).1, fun x hx => ((h.2 r hr).2 x hx).w⟩
theorem Qhp {n : Nat} {v : Vr} {sh : Int} {ns : List (List WantT)} (h : X4 n ⟨v, sh, ns, []⟩) {x : WantT} (hx : WantIn n x) : X4 n ⟨v, sh, ns, [x]⟩ := ⟨h.v, h.nl, h.nr, by simp, by intro y hy; simp only [List.mem_singleton] at hy; subst hy; exact hx.w⟩
theorem Qif {us : List UR} {i k : Nat} {z : CR} (hi : i < us.length) (hk : k < us[i].cs.length) {us2 : List UR} (e : QbL us i k z = us2) (hi2 : i < us2.length) : k < us2[i].cs.length := by
 rw [<- Qak hi2, <- e, Qaa, Qak hi]; exact hk
theorem Qn4 {l : List (List WantT)} : ∀ r ∈ l.map (fun r => [QX r]), r.length = 1 := fun r hr => by obtain ⟨x, _, rfl⟩ := List.mem_map.1 hr; rfl
end M25
namespace Go.Proofs
open Go Go.Abs M3 M25
set_option linter.unusedVariables false
set_option linter.unusedSimpArgs false
theorem QoV {kg : Nat} {L : List Int} {I most : Int} {eg eu ec : Nat} (heu : eu = 37) (hec : ec = 63) (hL : ∀ x ∈ L, I64 x) (hm0 : 1 <= most) (hm1 : most <= 5) :
  ∃ us I2, (UnitsIn us /\ 2 <= us.length /\ us.length <= 11) /\ ∀ (st : St) (args : List Opd), Zn st args = some [.ref kg 0 0, .int .i64 most] -> lk st.H kg = some (gB L I eg) -> (∀ j, 500000 <= j -> lk st.H j = none) -> Qa5 Try.prog 22 args st [(kg, gB L I eg)] ((500000, ⟨us.map dUR, 3, eu, false⟩) :: fbx ec us) [(kg, gB L I2 eg)] (.osl 500000 us.length) := by
 obtain ⟨d, H2, ⟨us, I2, hus, rfl, rfl⟩, hok⟩ := QbQ (kg := upN kg) (I := I) (eg := eg) heu hec (by unfold upN; omega) hL hm0 hm1
 refine ⟨us, I2, hus, fun st args ha hg hs => ⟨_, ha, fun k b h => ?_, fun k b h j hj => ?_, fun x hx j hj => ?_, fun k b h => ?_, fun k b h => ?_, fun k hk => ?_, hok⟩⟩
 ·obtain ⟨rfl, rfl⟩ := XA h; exact hg
 ·obtain ⟨rfl, rfl⟩ := XA h; simp [Box.ids, gB] at hj
 ·simp only [List.mem_cons, List.not_mem_nil, or_false] at hx
  rcases hx with rfl | rfl
  ·simp [D.ids, D.sid] at hj; subst hj; exact QP
  ·simp [D.ids, D.sid] at hj
 ·obtain ⟨rfl, rfl⟩ := XA h
  exact ⟨QP, fun j hj => by simp [Box.ids, gB] at hj⟩
 ·have hK := hus.1.keys
  rw [Qi] at h
  split at h
  ·rename_i e; cases h; subst e
   refine ⟨by decide, hs _ (Nat.le_refl _), fun j hj => ?_⟩
   obtain ⟨u, hu, rfl⟩ := QaW hj
   exact QN (QcA hK hu)
  ·obtain ⟨u, hu, rfl, rfl⟩ := QfO h
   have := QaO hK hu
   exact ⟨by omega, hs _ (by omega), fun j hj => by simp [Box.ids] at hj⟩
 ·simp [D.ids, D.sid] at hk; subst hk; exact QP
theorem QiY {H : List (Nat × Box)} {kg ku : Nat} {L : List Int} {I most : Int} {eg eu ec : Nat} {us : List UR} (hg : lk H kg = some (gB L I eg)) (hU : Fam H kg ku eu ec us) (hC : Closed H) (hL : ∀ x ∈ L, I64 x) (h2 : 2 <= us.length) (hn : us.length <= 48) (hm0 : 0 <= most) (hm1 : most <= 10) :
  ∃ ns I2, Qec us.length most ns /\ ∀ (st : St) (args : List Opd), Zn st args = some [.ref kg 0 0, .osl ku us.length, .int .i64 most] -> (∀ j x, lk H j = some x -> lk st.H j = some x) -> Qa5 Try.prog 23 args st H [] [(kg, gB L I2 eg)] (QL ns) := by
 obtain ⟨d, H2, ⟨ns, I2, hx, rfl, rfl⟩, hok⟩ := QbP (H := upH H) (kg := upN kg) (ku := upN ku) (L := L) (I := I) (most := most) (eg := eg) (eu := eu) (ec := ec) (us := us.map UR.ren) (by unfold upN; omega) (by rw [Qae, hg]; rfl) hU.up Qji (Qdy hC) hL (by simpa using h2) (by simpa using hn) hm0 hm1
 obtain ⟨pu, hu⟩ := hU.u
 rw [List.length_map] at hx hok
 refine ⟨ns, I2, hx, fun st args ha hF => Qjv (b' := gB L I2 eg) (ds' := [.ref (upN kg) 0 0, .osl (upN ku) us.length, .int .i64 most]) ha hF hC (fun x hx j hj => ?_) (Zi hg) Z Z Z Z hok⟩
 simp only [List.mem_cons, List.not_mem_nil, or_false] at hx
 rcases hx with rfl | rfl | rfl
 ·simp [D.ids, D.sid] at hj; subst hj; exact Zi hg
 ·simp [D.ids, D.sid] at hj; subst hj; exact Zi hu
 ·simp [D.ids, D.sid] at hj
theorem QbO {ws : List Int} (hL : ∀ x ∈ ws, I64 x) {most : Int} (hm0 : 1 <= most) (hm1 : most <= 5) : ∃ d, (∃ w, QmG w /\ d = XV w) /\ Ok Try.prog 6 [ZJ ws, .int .i64 most] d := by
 refine Ok.ofX (R := fun d => (∃ w, QmG w /\ d = XV w)) Yi Try.func6 tp6 (Nat.le_of_ble_eq_true Z) ?_
 show TX _ _ tf6.body _ _
 obtain ⟨us0, J0, ⟨hU, hu2, hu11⟩, hc0⟩ := QoV (kg := 12) (L := ws) (I := 0) (most := most) (eg := 55) rfl rfl hL hm0 hm1
 have hU0 := Prog.start hU hu2 hu11
 obtain ⟨z0, rest0, hfirst⟩ := hU.first
 have hi0 : 0 < us0.length := by omega
 have hcl0 : us0[0].cs = [z0] := by subst hfirst; rfl
 have hk0 : 0 < us0[0].cs.length := by rw [hcl0]; exact Nat.zero_lt_one
 obtain ⟨va, sha, hza, hva⟩ := hU0.fresh 0 hi0 0 hk0 (by omega)
 obtain ⟨ns0, J00, hns0, hc00⟩ := QiY (H := wA (us0) 37 63 55 ws (J0) ⟨[[.fsl []]], 1, 27, true⟩) (most := 3) QdJ (Qkk hU.keys hU0.fam) (X1 hU.keys rfl) hL hu2 (by omega) (by decide) (by decide)
 refine Q9 fun K hK => ZC Z (hK _ _ (QR (kp3 Z Z Z) ?_))
 refine Q9 fun K hK => Qa Z (QS Z Z (Z1 Z Z Z (Qa Z (hK _ _ (QR (kp3 Z Z Z) ?_)))))
 refine Q9 fun K hK => Qa rfl (Qa rfl (Yr (hc0 _ _ rfl rfl (by intro j hj; rw [Qi, if_neg (by omega), Qi, if_neg (by omega)]; rfl)) (Qa rfl (hK _ _ (QR (kp3 rfl rfl rfl) ?_)))))
 refine Qk5 (QaP Z (Qjh hU.keys)) (Q9 fun K hK => Qa Z (Qar (ds0 := [7, 6, 2, 1, 0]) Z Z Z (by simp) (by omega) (by omega) Z (by first | rfl | ((try simp only [QL, D.ids, D.sid]); simp only [Dr.ok, Ze, Zf, Zg, List.all_append, List.all_cons, List.all_nil, Bool.and_true, Bool.true_and]; (try rw [Zu (by rfl)]); simp [D.ids, D.sid]; done) | ((try simp only [QL, D.ids, D.sid]); simp only [Dr.ok, Ze, Zf, Zg, List.all_append, List.all_cons, List.all_nil, Bool.and_true, Bool.true_and]; (try rw [Zu (by rfl)]); simp [D.ids, D.sid]; omega)) Z (Qk Z Z (Zr (ds0 := [2, 1, 0]) Z (Z2 Z (QnA (i := 0) hU.keys hi0)) Z (by first | rfl | ((try simp only [QL, D.ids, D.sid]); simp only [Dr.ok, Ze, Zf, Zg, List.all_append, List.all_cons, List.all_nil, Bool.and_true, Bool.true_and]; (try rw [Zu (by rfl)]); simp [D.ids, D.sid]; done) | ((try simp only [QL, D.ids, D.sid]); simp only [Dr.ok, Ze, Zf, Zg, List.all_append, List.all_cons, List.all_nil, Bool.and_true, Bool.true_and]; (try rw [Zu (by rfl)]); simp [D.ids, D.sid]; omega)) Z (Qa Z (Qa Z (Qiv (ds0 := [0]) (hc00 _ _ Z (fun _ _ h => h)) (fun j hj => QcI hj) (by first | rfl | ((try simp only [QL, D.ids, D.sid]); simp only [Dr.ok, Ze, Zf, Zg, List.all_append, List.all_cons, List.all_nil, Bool.and_true, Bool.true_and]; (try rw [Zu (by rfl)]); simp [D.ids, D.sid]; done) | ((try simp only [QL, D.ids, D.sid]); simp only [Dr.ok, Ze, Zf, Zg, List.all_append, List.all_cons, List.all_nil, Bool.and_true, Bool.true_and]; (try rw [Zu (by rfl)]); simp [D.ids, D.sid]; omega)) Z (Qar (ds0 := [1, 0]) Z Z (Qh (by omega) (Qck (j := 0) hU.keys hi0)) (by simp) (by omega) (by omega) Z (by first | rfl | ((try simp only [QL, D.ids, D.sid]); simp only [Dr.ok, Ze, Zf, Zg, List.all_append, List.all_cons, List.all_nil, Bool.and_true, Bool.true_and]; (try rw [Zu (by rfl)]); simp [D.ids, D.sid]; done) | ((try simp only [QL, D.ids, D.sid]); simp only [Dr.ok, Ze, Zf, Zg, List.all_append, List.all_cons, List.all_nil, Bool.and_true, Bool.true_and]; (try rw [Zu (by rfl)]); simp [D.ids, D.sid]; omega)) Z (Qk Z (Zi (Qh (by omega) (Qck (j := 0) hU.keys hi0))) (XB (ds0 := []) Z (Qh (by omega) (Qck (j := 0) hU.keys hi0)) (Qoy (k := 0) hk0 hza) Z Z Z Z Z (by first | rfl | ((try simp only [QL, D.ids, D.sid]); simp only [Dr.ok, Ze, Zf, Zg, List.all_append, List.all_cons, List.all_nil, Bool.and_true, Bool.true_and]; (try rw [Zu (by rfl)]); simp [D.ids, D.sid]; done) | ((try simp only [QL, D.ids, D.sid]); simp only [Dr.ok, Ze, Zf, Zg, List.all_append, List.all_cons, List.all_nil, Bool.and_true, Bool.true_and]; (try rw [Zu (by rfl)]); simp [D.ids, D.sid]; omega)) Z ?_))))))))))
 refine hK _ _ (QR (kp3 Z Z Z) ?_)
 refine X2 ?_ -- 0
 refine Q9 fun K hK => Qa Z (hK _ _ (QR (kp4 Z Z Z Z) ?_))
 refine YQ ?_
 have hPs : Prog us0.length (QbL us0 0 0 (Qg2 (CandT.mk va sha ns0 []))) 1 0 := (hU0.put hi0 hk0 ⟨_, rfl, Qdc hva hns0 (by decide)⟩).next (by rw [Zk]; exact hi0) (by rw [<- Qak (by rw [Zk]; exact hi0), Qaa, Qak hi0, hcl0]; exact Nat.le_refl 1)
 refine Qef (ι := List UR × Int × Nat) (fun ⟨usA, JA, i⟩ => ⟨[(4, .ref 4 0 0), (5, .ref 12 0 0), (6, .osl 500000 usA.length), (7, .int .i64 i)], wA (usA) 37 63 55 ws (JA) ⟨[[.fsl []]], 1, 27, true⟩⟩) (fun ⟨usA, JA, i⟩ => Prog us0.length usA i 0 /\ 1 <= i /\ i <= us0.length) (fun ⟨usA, JA, i⟩ => us0.length - i) (QbL us0 0 0 (Qg2 (CandT.mk va sha ns0 [])), J00, 1) ?_ ?_ ?_
 ·exact QeE (l := [4, 5, 6, 7]) (i := 0) (k := 0) (row := [.int .i64 va.a, .int .i64 va.b, .int .i64 va.c, .str va.p, .str va.q, .int .i64 sha, QL ns0, .fsl []]) (p := true) 13 (Qg2 (CandT.mk va sha ns0 [])) (kp4 rfl rfl rfl rfl) (by rw [Zk] <;> rfl) hU.keys hi0 hk0 Qs (fun _ => rfl) rfl (fun z hz => (hU0.pure hi0 z hz).1) ⟨rfl, rfl, rfl⟩ (fun j hj hne => (Qh (by omega) (Qh (by omega) (Qck hU.keys hj)))) (by repeat (first | exact Qs | exact Qd8 | exact QdJ | exact Qfh | refine Qh (by omega) ?_)) (by repeat (first | exact Qs | exact Qd8 | exact QdJ | exact Qfh | refine Qh (by omega) ?_)) (by repeat (first | exact Qs | exact Qd8 | exact QdJ | exact Qfh | refine Qh (by omega) ?_)) rfl (by decide) (by intro j hj; repeat (first | exact ZN hU.keys (by omega) (by omega) (by omega) (.inr (by omega)) | refine Zj (by omega) ?_)) (by omega) (by intro p hp j hj; simp only [List.mem_cons, List.not_mem_nil, or_false] at hp; rcases hp with rfl | rfl | rfl | rfl <;> first | (simp [D.ids, D.sid] at hj; done) | (simp [D.ids, D.sid] at hj; subst hj; first | exact .inl rfl | exact .inr (.inl rfl) | exact .inr (.inr (.inl rfl)) | exact .inr (.inr (.inr ⟨us0[0], List.getElem_mem hi0, rfl⟩))))
 ·exact ⟨hPs, Nat.le_refl _, by omega⟩
 intro ⟨usA, JA, i⟩ hPA
 try dsimp only at hPA
 have hlA := hPA.1.len.1
 try dsimp only
 refine X2 ?_ -- 1
 refine Q9 fun K hK => Qa Z (Qa Z ?_)
 first | refine Q5 rfl Zd ?_ | refine Q5 rfl rfl ?_
 refine YY Z Z (hK _ _ (QR (kp5 Z Z Z Z Z) ?_))
 refine Y8 Z (fun h1 => ?_) (fun h1 => ?_)
 ·try rw [h1]
  try simp only [qA] at h1
  refine Xj (Q3 (kp4 Z Z Z Z) ?_)
  refine X2 ?_ -- 2
  refine YQ (Q9 fun K hK => Qa Z (hK _ _ (QR (kp5 Z Z Z Z Z) ?_)))
  refine YQ ?_
  refine Qef (ι := List UR × Int × Nat) (fun ⟨us, J, k⟩ => ⟨[(4, .ref 4 0 0), (5, .ref 12 0 0), (6, .osl 500000 us.length), (7, .int .i64 i), (8, .int .i64 k)], wA (us) 37 63 55 ws (J) ⟨[[.fsl []]], 1, 27, true⟩⟩) (fun ⟨us, J, k⟩ => Prog us0.length us i k) (fun ⟨us, J, k⟩ => QiH us i - k) (usA, JA, 0) ?_ ?_ ?_
  ·exact Zc (l := [4, 5, 6, 7, 8]) (kp5 rfl rfl rfl rfl rfl)
  ·exact hPA.1
  intro ⟨us, J, k⟩ hP
  try dsimp only at hP
  have hl := hP.len.1
  have hi : i < us.length := by omega
  have h1i := hPA.2.1
  have hcl4 := hP.cl us[i] (List.getElem_mem hi)
  try dsimp only
  refine X2 ?_ -- 3
  refine Q9 fun K hK => Qa Z (Qa Z (Qa Z (YX Z Z Z (by simp) (by omega) (by omega) Z (Qk Z Z (QE Z (Z2 Z (QnA hP.keys hi)) Z ?_)))))
  first | refine Q5 rfl Zd ?_ | refine Q5 rfl rfl ?_
  refine YY Z Z (hK _ _ (QR (kp6 Z Z Z Z Z Z) ?_))
  refine Y8 Z (fun h2 => ?_) (fun h2 => ?_)
  ·try rw [h2]
   try simp only [qA] at h2
   try (have hk : k < us[i].cs.length := (by omega); obtain ⟨v, sh, hz, hv⟩ := hP.fresh i hi k hk (by omega))
   refine Xj (Q3 (kp5 Z Z Z Z Z) ?_)
   refine X2 ?_ -- 4
   refine YQ (Q9 fun K hK => Qa Z (Qa Z (YX Z Z Z (by simp) (by omega) (by omega) Z (Qk Z Z (QE Z (Z2 Z (QnA hP.keys hi)) Z (Qa Z (YX Z Z (Qck hP.keys hi) (by simp) (by omega) (by omega) Z (Qa Z (hK _ _ (QR (kp6 Z Z Z Z Z Z) ?_))))))))))
   refine X2 ?_ -- 5
   refine Q9 fun K hK => Qa Z (Qa Z (YX Z Z Z (by simp) (by omega) (by omega) Z (Qk Z Z (QE Z (Z2 Z (QnA hP.keys hi)) Z (QmD Z Z (hK _ _ (QR (kp7 Z Z Z Z Z Z Z) ?_)))))))
   refine Y8 Z (fun h3 => ?_) (fun h3 => ?_)
   ·try rw [h3]
    try simp only [qA] at h3
    refine ZQ fun K hK => Qa Z (Qa Z (Qa9 Z Z (by first | exact Qr (by omega) (by omega) | rfl) (Qa Z (Z3 Z Z (Qk Z (Zi (Qck hP.keys hi)) (QF (cs := [_, _, _, _, _]) Z (Z2 (Qck hP.keys hi) (Qoy hk hz)) Z Z (QB (Xw hv.1 hv.2) Z Z (.inl Z) (QS Z Z ?_))))))))
    refine QG Z (by repeat (first | exact ZN hU.keys (by omega) (by omega) (by omega) (.inl (by omega)) | exact ZN hP.keys (by omega) (by omega) (by omega) (.inl (by omega)) | exact ZN hP2.keys (by omega) (by omega) (by omega) (.inl (by omega)) | refine Zj (by omega) ?_)) ?_
    refine QG Z (by repeat (first | exact ZN hU.keys (by omega) (by omega) (by omega) (.inl (by omega)) | exact ZN hP.keys (by omega) (by omega) (by omega) (.inl (by omega)) | exact ZN hP2.keys (by omega) (by omega) (by omega) (.inl (by omega)) | refine Zj (by omega) ?_)) ?_
    refine Z3 Z Z (Qk Z (Zi (Qh (by omega) (Qh (by omega) (Qck hP.keys hi)))) (QT Z (Qh (by omega) (Qh (by omega) (Qck hP.keys hi))) (Qoy hk hz) Z Z Z Z Z (hK _ ?_)))
    refine Q3 (kp6 Z Z Z Z Z Z) ?_
    first | (refine Qk5 (QlO (l := [4, 5, 6, 7, 8, 9]) (fr' := [(4, .ref 4 0 0), (5, .ref 12 0 0), (6, .osl 500000 us.length), (7, .int .i64 i), (8, .int .i64 k), (9, .ref (500001 + i) k 0)]) (x := (WantT.mk ((i : Int) - 1) (YV v.a v.b v.c v.p v.q))) (kp6 rfl rfl rfl rfl rfl rfl) rfl hP.keys hi rfl (Qi6 (fun z hz => (hP.pure hi z hz).1) (by intro d hd j hj; simp [dCR, setRow, zr] at hd; rcases hd with rfl | rfl | rfl | rfl | rfl | rfl | rfl | rfl <;> simp [D.sid] at hj <;> exact hj)) (by intro p hp j hj; simp only [List.mem_cons, List.not_mem_nil, or_false] at hp; rcases hp with rfl | rfl | rfl | rfl | rfl | rfl <;> first | (simp [D.ids, D.sid] at hj; done) | (simp [D.ids, D.sid] at hj; subst hj; first | exact .inl rfl | exact .inr (.inl rfl) | exact .inr (.inr (.inl rfl)) | exact .inr (.inr (.inr ⟨us[i], List.getElem_mem hi, (hP.keys i hi).symm⟩))))) ?_) | skip
    refine Q9 fun K hK => Qa Z (Qa Z (Z3 Z Z (Qk Z QP (Zr (ds0 := [3, 0]) Z (Z2 Qs (Qn7 hk)) Z (by first | rfl | ((try simp only [QL, D.ids, D.sid]); simp only [Dr.ok, Ze, Zf, Zg, List.all_append, List.all_cons, List.all_nil, Bool.and_true, Bool.true_and]; (try rw [Zu (by rfl)]); simp [D.ids, D.sid]; done) | ((try simp only [QL, D.ids, D.sid]); simp only [Dr.ok, Ze, Zf, Zg, List.all_append, List.all_cons, List.all_nil, Bool.and_true, Bool.true_and]; (try rw [Zu (by rfl)]); simp [D.ids, D.sid]; omega)) Z (Qa Z (Qa Z ?_))))))
    have hfx := QqW (eu := 37) (ec := 63) (eg := 55) (L := ws) (J := J) (b4 := ⟨[[.fsl []]], 1, 27, true⟩) (b64 := ⟨[[QX [(WantT.mk ((i : Int) - 1) (YV v.a v.b v.c v.p v.q))]]], 1, 61, true⟩) (zx := (CR.mk v (.int .i64 sh) (.osl 64 1) (.fsl []))) hP hi hk hv ⟨rfl, rfl, rfl⟩ rfl rfl
    obtain ⟨ns, J1, hns, hc1⟩ := QiY (H := (500001 + i, ⟨(us[i].cs.map dCR).set k (dCR (CR.mk v (.int .i64 sh) (.osl 64 1) (.fsl []))), 8, 63, false⟩) :: (64, ⟨[[QX [(WantT.mk ((i : Int) - 1) (YV v.a v.b v.c v.p v.q))]]], 1, 61, true⟩) :: wA (us) 37 63 55 ws (J) ⟨[[.fsl []]], 1, 27, true⟩) (most := 2) (Qh (by omega) (Qh (by omega) QdJ)) hfx.1 hfx.2 hL (by first | omega | (rw [Zk]; omega)) (by first | omega | (rw [Zk]; omega)) (by decide) (by decide)
    rw [Zk] at hns
    refine Qiv (ds0 := [3, 0]) (hc1 _ _ (by rw [Zk]; rfl) (fun _ _ h => h)) (fun j hj => QcI hj) (by first | rfl | ((try simp only [QL, D.ids, D.sid]); simp only [Dr.ok, Ze, Zf, Zg, List.all_append, List.all_cons, List.all_nil, Bool.and_true, Bool.true_and]; (try rw [Zu (by rfl)]); simp [D.ids, D.sid]; done) | ((try simp only [QL, D.ids, D.sid]); simp only [Dr.ok, Ze, Zf, Zg, List.all_append, List.all_cons, List.all_nil, Bool.and_true, Bool.true_and]; (try rw [Zu (by rfl)]); simp [D.ids, D.sid]; omega)) Z ?_
    refine Qee (ds0 := [0]) Z Z (by simp [D.ids, D.sid, QL]) ⟨rfl, Qn4, rfl⟩ (by repeat (first | exact ZN hU.keys (by omega) (by omega) (by omega) (.inl (by omega)) | exact ZN hP.keys (by omega) (by omega) (by omega) (.inl (by omega)) | exact ZN hP2.keys (by omega) (by omega) (by omega) (.inl (by omega)) | refine Zj (by omega) ?_)) (Qh (by omega) (Qh (by omega) Qs)) Z Z Z (by have := hns.1; simp; omega) (by have := hns.1; simp; omega) (by first | rfl | ((try simp only [QL, D.ids, D.sid]); simp only [Dr.ok, Ze, Zf, Zg, List.all_append, List.all_cons, List.all_nil, Bool.and_true, Bool.true_and]; (try rw [Zu (by rfl)]); simp [D.ids, D.sid]; done) | ((try simp only [QL, D.ids, D.sid]); simp only [Dr.ok, Ze, Zf, Zg, List.all_append, List.all_cons, List.all_nil, Bool.and_true, Bool.true_and]; (try rw [Zu (by rfl)]); simp [D.ids, D.sid]; omega)) Z ?_
    refine Z3 Z Z (Qk Z (Zi (Qh (by omega) (Qh (by omega) (Qh (by omega) Qs)))) (XB (ds0 := []) Z (Qh (by omega) (Qh (by omega) (Qh (by omega) Qs))) (Qn7 hk) Z Z Z Z Z (by first | rfl | ((try simp only [QL, D.ids, D.sid]); simp only [Dr.ok, Ze, Zf, Zg, List.all_append, List.all_cons, List.all_nil, Bool.and_true, Bool.true_and]; (try rw [Zu (by rfl)]); simp [D.ids, D.sid]; done) | ((try simp only [QL, D.ids, D.sid]); simp only [Dr.ok, Ze, Zf, Zg, List.all_append, List.all_cons, List.all_nil, Bool.and_true, Bool.true_and]; (try rw [Zu (by rfl)]); simp [D.ids, D.sid]; omega)) Z (hK _ _ (QR (kp6 Z Z Z Z Z Z) ?_))))
    first | (refine Qk5 (QeE (l := [4, 5, 6, 7, 8, 9]) (eu := 37) (ec := 63) (eg := 55) (L := ws) (J := J1) (b4 := ⟨[[.fsl []]], 1, 27, true⟩) (fr' := [(4, .ref 4 0 0), (5, .ref 12 0 0), (6, .osl 500000 us.length), (7, .int .i64 i), (8, .int .i64 k), (9, .ref (500001 + i) k 0)]) (row := [.int .i64 v.a, .int .i64 v.b, .int .i64 v.c, .str v.p, .str v.q, .int .i64 sh, .osl 75 (1 + (ns.map (fun r => [QX r])).length), .fsl []]) (p := false) 75 (Qg2 (CandT.mk v sh ([(WantT.mk ((i : Int) - 1) (YV v.a v.b v.c v.p v.q))] :: ns) [])) (kp6 rfl rfl rfl rfl rfl rfl) rfl hP.keys hi hk QhL (fun h => by cases h) (QdV (Qh (by omega) Qs) (by first | (simp; done) | (simp; omega))) (fun z hz => (hP.pure hi z hz).1) ⟨rfl, rfl, rfl⟩ (fun j hj hne => (Qh (by omega) (Qh (by omega) (Qh (by omega) (Qh (by omega) (Qh (by omega) (Qh (by omega) (Qck hP.keys hj)))))))) (by repeat (first | exact Qs | exact Qd8 | exact QdJ | exact Qfh | refine Qh (by omega) ?_)) (by repeat (first | exact Qs | exact Qd8 | exact QdJ | exact Qfh | refine Qh (by omega) ?_)) (by repeat (first | exact Qs | exact Qd8 | exact QdJ | exact Qfh | refine Qh (by omega) ?_)) rfl (by decide) (by intro j hj; repeat (first | exact ZN hP.keys (by omega) (by omega) (by omega) (.inr (by omega)) | refine Zj (by omega) ?_)) (by omega) (by intro p hp j hj; simp only [List.mem_cons, List.not_mem_nil, or_false] at hp; rcases hp with rfl | rfl | rfl | rfl | rfl | rfl <;> first | (simp [D.ids, D.sid] at hj; done) | (simp [D.ids, D.sid] at hj; subst hj; first | exact .inl rfl | exact .inr (.inl rfl) | exact .inr (.inr (.inl rfl)) | exact .inr (.inr (.inr ⟨us[i], List.getElem_mem hi, (hP.keys i hi).symm⟩))))) ?_; have hc2 : X4 us0.length (CandT.mk v sh ([(WantT.mk ((i : Int) - 1) (YV v.a v.b v.c v.p v.q))] :: ns) []) := (by rw [<- hl]; exact Qhq hv hns (by decide) h1i hi); generalize hns2 : ([(WantT.mk ((i : Int) - 1) (YV v.a v.b v.c v.p v.q))] :: ns) = ns2 at hc2 ⊢) | (refine Qk5 (QeE (l := [4, 5, 6, 7, 8, 9]) (eu := 37) (ec := 63) (eg := 55) (L := ws) (J := J1) (b4 := ⟨[[.fsl []]], 1, 27, true⟩) (fr' := [(4, .ref 4 0 0), (5, .ref 12 0 0), (6, .osl 500000 us.length), (7, .int .i64 i), (8, .int .i64 k), (9, .ref (500001 + i) k 0)]) (row := [.int .i64 v.a, .int .i64 v.b, .int .i64 v.c, .str v.p, .str v.q, .int .i64 sh, .osl 75 (0 + (ns.map (fun r => [QX r])).length), .fsl []]) (p := false) 75 (Qg2 (CandT.mk v sh ns [])) (kp6 rfl rfl rfl rfl rfl rfl) rfl hP.keys hi hk Qs (fun h => by cases h) (QdV (Qh (by omega) Qs) (by first | (simp; done) | (simp; omega))) (fun z hz => (hP.pure hi z hz).1) ⟨rfl, rfl, rfl⟩ (fun j hj hne => (Qh (by omega) (Qh (by omega) (Qh (by omega) (Qck hP.keys hj))))) (by repeat (first | exact Qs | exact Qd8 | exact QdJ | exact Qfh | refine Qh (by omega) ?_)) (by repeat (first | exact Qs | exact Qd8 | exact QdJ | exact Qfh | refine Qh (by omega) ?_)) (by repeat (first | exact Qs | exact Qd8 | exact QdJ | exact Qfh | refine Qh (by omega) ?_)) rfl (by decide) (by intro j hj; repeat (first | exact ZN hP.keys (by omega) (by omega) (by omega) (.inr (by omega)) | refine Zj (by omega) ?_)) (by omega) (by intro p hp j hj; simp only [List.mem_cons, List.not_mem_nil, or_false] at hp; rcases hp with rfl | rfl | rfl | rfl | rfl | rfl <;> first | (simp [D.ids, D.sid] at hj; done) | (simp [D.ids, D.sid] at hj; subst hj; first | exact .inl rfl | exact .inr (.inl rfl) | exact .inr (.inr (.inl rfl)) | exact .inr (.inr (.inr ⟨us[i], List.getElem_mem hi, (hP.keys i hi).symm⟩))))) ?_; have hc2 : X4 us0.length (CandT.mk v sh ns []) := (by rw [<- hl]; exact Qdc hv hns (by decide)); generalize hns2 : ns = ns2 at hc2 ⊢)
    generalize hus2 : QbL us i k (Qg2 (CandT.mk v sh ns2 [])) = us2
    have hP2 : Prog us0.length us2 i (k + 1) := hus2 ▸ hP.put hi hk ⟨_, rfl, hc2⟩
    have hl2 : us2.length = us.length := by rw [<- hus2, Zk]
    have hi2 : i < us2.length := by omega
    have hk2 : k < us2[i].cs.length := Qif hi hk hus2 hi2
    have hz2 : us2[i].cs[k] = Qg2 (CandT.mk v sh ns2 []) := Qie hi hk hus2.symm hi2 hk2
    refine Q9 fun K hK => Qa Z (Yr (Qbu (I := J1) Z QdJ hL (by omega)) (Z5 Z Z (hK _ _ (QR (kp7 Z Z Z Z Z Z Z) ?_))))
    refine Y8 Z (fun h4 => ?_) (fun h4 => ?_)
    ·try rw [h4]
     try simp only [qA] at h4
     refine ZQ fun K hK => Qa Z (Qa Z (Qa Z ?_))
     obtain ⟨xb, J3, hxb, hcb⟩ := Qj7 (H := (12, gB ws (nxI J1) 55) :: wA (us2) 37 63 55 ws (J1) ⟨[[.fsl []]], 1, 27, true⟩) Qs (Qkk hP2.keys hP2.fam).cons ((X1 hP2.keys rfl).pr rfl) hL (by omega) (by omega)
     refine Yr (hcb _ _ (by rw [hl2]; rfl) (fun _ _ h => h)) ?_
     refine QG Z (by repeat (first | exact ZN hU.keys (by omega) (by omega) (by omega) (.inl (by omega)) | exact ZN hP.keys (by omega) (by omega) (by omega) (.inl (by omega)) | exact ZN hP2.keys (by omega) (by omega) (by omega) (.inl (by omega)) | refine Zj (by omega) ?_)) ?_
     refine Z3 Z Z (Qk Z (Zi (Qh (by omega) (Qh (by omega) (Qh (by omega) (Qck hP2.keys hi2))))) (QT Z (Qh (by omega) (Qh (by omega) (Qh (by omega) (Qck hP2.keys hi2)))) (Qoy hk2 hz2) Z Z Z Z Z (hK _ ?_)))
     refine Ql (Q3 (kp5 Z Z Z Z Z) (ZQ fun K hK => Qa Z (Zb Z Z (by first | exact Qr (by omega) (by omega) | rfl) (Qa Z (hK _ ?_)))))
     refine Qp (QbL us2 i k (Qg2 (CandT.mk v sh ns2 [xb])), J3, k + 1) ?_ ?_ ?_
     ·exact QeE (l := [4, 5, 6, 7, 8]) (row := [.int .i64 v.a, .int .i64 v.b, .int .i64 v.c, .str v.p, .str v.q, .int .i64 sh, QL ns2, .osl 85 1]) (p := false) 85 (Qg2 (CandT.mk v sh ns2 [xb])) (kp5 rfl rfl rfl rfl rfl) (by rw [Zk, hl2] <;> rfl) hP2.keys hi2 hk2 Qs (fun h => by cases h) (Qlz (Qh (by omega) Qs) rfl) (fun z hz => (hP2.pure hi2 z hz).1) ⟨rfl, rfl, rfl⟩ (fun j hj hne => (Qh (by omega) (Qh (by omega) (Qh (by omega) (Qh (by omega) (Qck hP2.keys hj)))))) (by repeat (first | exact Qs | exact Qd8 | exact QdJ | exact Qfh | refine Qh (by omega) ?_)) (by repeat (first | exact Qs | exact Qd8 | exact QdJ | exact Qfh | refine Qh (by omega) ?_)) (by repeat (first | exact Qs | exact Qd8 | exact QdJ | exact Qfh | refine Qh (by omega) ?_)) rfl (by decide) (by intro j hj; repeat (first | exact ZN hP2.keys (by omega) (by omega) (by omega) (.inr (by omega)) | refine Zj (by omega) ?_)) (by omega) (by intro p hp j hj; simp only [List.mem_cons, List.not_mem_nil, or_false] at hp; rcases hp with rfl | rfl | rfl | rfl | rfl <;> first | (simp [D.ids, D.sid] at hj; done) | (simp [D.ids, D.sid] at hj; subst hj; first | exact .inl rfl | exact .inr (.inl rfl) | exact .inr (.inr (.inl rfl)) | exact .inr (.inr (.inr ⟨us2[i], List.getElem_mem hi2, (hP2.keys i hi2).symm⟩))))
     ·exact hP2.again hi2 hk2 ⟨_, rfl, Qhp hc2 (by have := hxb; rwa [hl2, hl] at this)⟩
     ·show QiH (QbL us2 i k _) i - (k + 1) < QiH us i - k; rw [Qaa, <- hus2, Qaa, Qak hi]; omega
    ·try rw [h4]
     try simp only [qA] at h4
     refine Xj (Ql (Q3 (kp5 Z Z Z Z Z) (ZQ fun K hK => Qa Z (Zb Z Z (by first | exact Qr (by omega) (by omega) | rfl) (Qa Z (hK _ ?_))))))
     refine Qp (us2, nxI J1, k + 1) ?_ ?_ ?_
     ·exact le_trans (Zc (l := [4, 5, 6, 7, 8]) (kp5 rfl rfl rfl rfl rfl)) (QaP (by rw [hl2] <;> rfl) Qqe)
     ·exact hP2
     ·show QiH us2 i - (k + 1) < QiH us i - k; rw [<- hus2, Qaa, Qak hi]; omega
   ·try rw [h3]
    try simp only [qA] at h3
    refine Xj (Q3 (kp6 Z Z Z Z Z Z) ?_)
    first | (refine Qk5 (QlO (l := [4, 5, 6, 7, 8, 9]) (fr' := [(4, .ref 4 0 0), (5, .ref 12 0 0), (6, .osl 500000 us.length), (7, .int .i64 i), (8, .int .i64 k), (9, .ref (500001 + i) k 0)]) (x := (WantT.mk ((i : Int) - 1) (YV v.a v.b v.c v.p v.q))) (kp6 rfl rfl rfl rfl rfl rfl) rfl hP.keys hi rfl (Qi6 (fun z hz => (hP.pure hi z hz).1) (by intro d hd j hj; simp [dCR, setRow, zr] at hd; rcases hd with rfl | rfl | rfl | rfl | rfl | rfl | rfl | rfl <;> simp [D.sid] at hj <;> exact hj)) (by intro p hp j hj; simp only [List.mem_cons, List.not_mem_nil, or_false] at hp; rcases hp with rfl | rfl | rfl | rfl | rfl | rfl <;> first | (simp [D.ids, D.sid] at hj; done) | (simp [D.ids, D.sid] at hj; subst hj; first | exact .inl rfl | exact .inr (.inl rfl) | exact .inr (.inr (.inl rfl)) | exact .inr (.inr (.inr ⟨us[i], List.getElem_mem hi, (hP.keys i hi).symm⟩))))) ?_) | skip
    refine Q9 fun K hK => Qa Z (Qa Z (Z3 Z Z (Qk Z (Zi (Qck hP.keys hi)) (Zr (ds0 := [3, 0]) Z (Z2 (Qck hP.keys hi) (Qoy hk hz)) Z (by first | rfl | ((try simp only [QL, D.ids, D.sid]); simp only [Dr.ok, Ze, Zf, Zg, List.all_append, List.all_cons, List.all_nil, Bool.and_true, Bool.true_and]; (try rw [Zu (by rfl)]); simp [D.ids, D.sid]; done) | ((try simp only [QL, D.ids, D.sid]); simp only [Dr.ok, Ze, Zf, Zg, List.all_append, List.all_cons, List.all_nil, Bool.and_true, Bool.true_and]; (try rw [Zu (by rfl)]); simp [D.ids, D.sid]; omega)) Z (Qa Z (Qa Z ?_))))))
    obtain ⟨ns, J1, hns, hc1⟩ := QiY (H := wA (us) 37 63 55 ws (J) ⟨[[.fsl []]], 1, 27, true⟩) (most := 2) QdJ (Qkk hP.keys hP.fam) (X1 hP.keys rfl) hL (by first | omega | (rw [Zk]; omega)) (by first | omega | (rw [Zk]; omega)) (by decide) (by decide)
    refine Qiv (ds0 := [3, 0]) (hc1 _ _ Z (fun _ _ h => h)) (fun j hj => QcI hj) (by first | rfl | ((try simp only [QL, D.ids, D.sid]); simp only [Dr.ok, Ze, Zf, Zg, List.all_append, List.all_cons, List.all_nil, Bool.and_true, Bool.true_and]; (try rw [Zu (by rfl)]); simp [D.ids, D.sid]; done) | ((try simp only [QL, D.ids, D.sid]); simp only [Dr.ok, Ze, Zf, Zg, List.all_append, List.all_cons, List.all_nil, Bool.and_true, Bool.true_and]; (try rw [Zu (by rfl)]); simp [D.ids, D.sid]; omega)) Z ?_
    refine Qf8 (ds0 := [0]) Z Z (fun _ h => ⟨Qn4, h⟩) (by repeat (first | exact ZN hU.keys (by omega) (by omega) (by omega) (.inl (by omega)) | exact ZN hP.keys (by omega) (by omega) (by omega) (.inl (by omega)) | exact ZN hP2.keys (by omega) (by omega) (by omega) (.inl (by omega)) | refine Zj (by omega) ?_)) (.inl Z) (by simp) (by have := hns.1; simp; omega) (by have := hns.1; simp; omega) (by first | rfl | ((try simp only [QL, D.ids, D.sid]); simp only [Dr.ok, Ze, Zf, Zg, List.all_append, List.all_cons, List.all_nil, Bool.and_true, Bool.true_and]; (try rw [Zu (by rfl)]); simp [D.ids, D.sid]; done) | ((try simp only [QL, D.ids, D.sid]); simp only [Dr.ok, Ze, Zf, Zg, List.all_append, List.all_cons, List.all_nil, Bool.and_true, Bool.true_and]; (try rw [Zu (by rfl)]); simp [D.ids, D.sid]; omega)) Z ?_
    refine Z3 Z Z (Qk Z (Zi (Qh (by omega) (Qh (by omega) (Qck hP.keys hi)))) (XB (ds0 := []) Z (Qh (by omega) (Qh (by omega) (Qck hP.keys hi))) (Qoy hk hz) Z Z Z Z Z (by first | rfl | ((try simp only [QL, D.ids, D.sid]); simp only [Dr.ok, Ze, Zf, Zg, List.all_append, List.all_cons, List.all_nil, Bool.and_true, Bool.true_and]; (try rw [Zu (by rfl)]); simp [D.ids, D.sid]; done) | ((try simp only [QL, D.ids, D.sid]); simp only [Dr.ok, Ze, Zf, Zg, List.all_append, List.all_cons, List.all_nil, Bool.and_true, Bool.true_and]; (try rw [Zu (by rfl)]); simp [D.ids, D.sid]; omega)) Z (hK _ _ (QR (kp6 Z Z Z Z Z Z) ?_))))
    first | (refine Qk5 (QeE (l := [4, 5, 6, 7, 8, 9]) (eu := 37) (ec := 63) (eg := 55) (L := ws) (J := J1) (b4 := ⟨[[.fsl []]], 1, 27, true⟩) (fr' := [(4, .ref 4 0 0), (5, .ref 12 0 0), (6, .osl 500000 us.length), (7, .int .i64 i), (8, .int .i64 k), (9, .ref (500001 + i) k 0)]) (row := [.int .i64 v.a, .int .i64 v.b, .int .i64 v.c, .str v.p, .str v.q, .int .i64 sh, .osl 75 (1 + (ns.map (fun r => [QX r])).length), .fsl []]) (p := false) 75 (Qg2 (CandT.mk v sh ([(WantT.mk ((i : Int) - 1) (YV v.a v.b v.c v.p v.q))] :: ns) [])) (kp6 rfl rfl rfl rfl rfl rfl) rfl hP.keys hi hk QhL (fun h => by cases h) (QdV (Qh (by omega) Qs) (by first | (simp; done) | (simp; omega))) (fun z hz => (hP.pure hi z hz).1) ⟨rfl, rfl, rfl⟩ (fun j hj hne => (Qh (by omega) (Qh (by omega) (Qh (by omega) (Qh (by omega) (Qh (by omega) (Qh (by omega) (Qck hP.keys hj)))))))) (by repeat (first | exact Qs | exact Qd8 | exact QdJ | exact Qfh | refine Qh (by omega) ?_)) (by repeat (first | exact Qs | exact Qd8 | exact QdJ | exact Qfh | refine Qh (by omega) ?_)) (by repeat (first | exact Qs | exact Qd8 | exact QdJ | exact Qfh | refine Qh (by omega) ?_)) rfl (by decide) (by intro j hj; repeat (first | exact ZN hP.keys (by omega) (by omega) (by omega) (.inr (by omega)) | refine Zj (by omega) ?_)) (by omega) (by intro p hp j hj; simp only [List.mem_cons, List.not_mem_nil, or_false] at hp; rcases hp with rfl | rfl | rfl | rfl | rfl | rfl <;> first | (simp [D.ids, D.sid] at hj; done) | (simp [D.ids, D.sid] at hj; subst hj; first | exact .inl rfl | exact .inr (.inl rfl) | exact .inr (.inr (.inl rfl)) | exact .inr (.inr (.inr ⟨us[i], List.getElem_mem hi, (hP.keys i hi).symm⟩))))) ?_; have hc2 : X4 us0.length (CandT.mk v sh ([(WantT.mk ((i : Int) - 1) (YV v.a v.b v.c v.p v.q))] :: ns) []) := (by rw [<- hl]; exact Qhq hv hns (by decide) h1i hi); generalize hns2 : ([(WantT.mk ((i : Int) - 1) (YV v.a v.b v.c v.p v.q))] :: ns) = ns2 at hc2 ⊢) | (refine Qk5 (QeE (l := [4, 5, 6, 7, 8, 9]) (eu := 37) (ec := 63) (eg := 55) (L := ws) (J := J1) (b4 := ⟨[[.fsl []]], 1, 27, true⟩) (fr' := [(4, .ref 4 0 0), (5, .ref 12 0 0), (6, .osl 500000 us.length), (7, .int .i64 i), (8, .int .i64 k), (9, .ref (500001 + i) k 0)]) (row := [.int .i64 v.a, .int .i64 v.b, .int .i64 v.c, .str v.p, .str v.q, .int .i64 sh, .osl 75 (0 + (ns.map (fun r => [QX r])).length), .fsl []]) (p := false) 75 (Qg2 (CandT.mk v sh ns [])) (kp6 rfl rfl rfl rfl rfl rfl) rfl hP.keys hi hk Qs (fun h => by cases h) (QdV (Qh (by omega) Qs) (by first | (simp; done) | (simp; omega))) (fun z hz => (hP.pure hi z hz).1) ⟨rfl, rfl, rfl⟩ (fun j hj hne => (Qh (by omega) (Qh (by omega) (Qh (by omega) (Qck hP.keys hj))))) (by repeat (first | exact Qs | exact Qd8 | exact QdJ | exact Qfh | refine Qh (by omega) ?_)) (by repeat (first | exact Qs | exact Qd8 | exact QdJ | exact Qfh | refine Qh (by omega) ?_)) (by repeat (first | exact Qs | exact Qd8 | exact QdJ | exact Qfh | refine Qh (by omega) ?_)) rfl (by decide) (by intro j hj; repeat (first | exact ZN hP.keys (by omega) (by omega) (by omega) (.inr (by omega)) | refine Zj (by omega) ?_)) (by omega) (by intro p hp j hj; simp only [List.mem_cons, List.not_mem_nil, or_false] at hp; rcases hp with rfl | rfl | rfl | rfl | rfl | rfl <;> first | (simp [D.ids, D.sid] at hj; done) | (simp [D.ids, D.sid] at hj; subst hj; first | exact .inl rfl | exact .inr (.inl rfl) | exact .inr (.inr (.inl rfl)) | exact .inr (.inr (.inr ⟨us[i], List.getElem_mem hi, (hP.keys i hi).symm⟩))))) ?_; have hc2 : X4 us0.length (CandT.mk v sh ns []) := (by rw [<- hl]; exact Qdc hv hns (by decide)); generalize hns2 : ns = ns2 at hc2 ⊢)
    generalize hus2 : QbL us i k (Qg2 (CandT.mk v sh ns2 [])) = us2
    have hP2 : Prog us0.length us2 i (k + 1) := hus2 ▸ hP.put hi hk ⟨_, rfl, hc2⟩
    have hl2 : us2.length = us.length := by rw [<- hus2, Zk]
    have hi2 : i < us2.length := by omega
    have hk2 : k < us2[i].cs.length := Qif hi hk hus2 hi2
    have hz2 : us2[i].cs[k] = Qg2 (CandT.mk v sh ns2 []) := Qie hi hk hus2.symm hi2 hk2
    refine Q9 fun K hK => Qa Z (Yr (Qbu (I := J1) Z QdJ hL (by omega)) (Z5 Z Z (hK _ _ (QR (kp7 Z Z Z Z Z Z Z) ?_))))
    refine Y8 Z (fun h5 => ?_) (fun h5 => ?_)
    ·try rw [h5]
     try simp only [qA] at h5
     refine ZQ fun K hK => Qa Z (Qa Z (Qa Z ?_))
     obtain ⟨xb, J3, hxb, hcb⟩ := Qj7 (H := (12, gB ws (nxI J1) 55) :: wA (us2) 37 63 55 ws (J1) ⟨[[.fsl []]], 1, 27, true⟩) Qs (Qkk hP2.keys hP2.fam).cons ((X1 hP2.keys rfl).pr rfl) hL (by omega) (by omega)
     refine Yr (hcb _ _ (by rw [hl2]; rfl) (fun _ _ h => h)) ?_
     refine QG Z (by repeat (first | exact ZN hU.keys (by omega) (by omega) (by omega) (.inl (by omega)) | exact ZN hP.keys (by omega) (by omega) (by omega) (.inl (by omega)) | exact ZN hP2.keys (by omega) (by omega) (by omega) (.inl (by omega)) | refine Zj (by omega) ?_)) ?_
     refine Z3 Z Z (Qk Z (Zi (Qh (by omega) (Qh (by omega) (Qh (by omega) (Qck hP2.keys hi2))))) (QT Z (Qh (by omega) (Qh (by omega) (Qh (by omega) (Qck hP2.keys hi2)))) (Qoy hk2 hz2) Z Z Z Z Z (hK _ ?_)))
     refine Ql (Q3 (kp5 Z Z Z Z Z) (ZQ fun K hK => Qa Z (Zb Z Z (by first | exact Qr (by omega) (by omega) | rfl) (Qa Z (hK _ ?_)))))
     refine Qp (QbL us2 i k (Qg2 (CandT.mk v sh ns2 [xb])), J3, k + 1) ?_ ?_ ?_
     ·exact QeE (l := [4, 5, 6, 7, 8]) (row := [.int .i64 v.a, .int .i64 v.b, .int .i64 v.c, .str v.p, .str v.q, .int .i64 sh, QL ns2, .osl 85 1]) (p := false) 85 (Qg2 (CandT.mk v sh ns2 [xb])) (kp5 rfl rfl rfl rfl rfl) (by rw [Zk, hl2] <;> rfl) hP2.keys hi2 hk2 Qs (fun h => by cases h) (Qlz (Qh (by omega) Qs) rfl) (fun z hz => (hP2.pure hi2 z hz).1) ⟨rfl, rfl, rfl⟩ (fun j hj hne => (Qh (by omega) (Qh (by omega) (Qh (by omega) (Qh (by omega) (Qck hP2.keys hj)))))) (by repeat (first | exact Qs | exact Qd8 | exact QdJ | exact Qfh | refine Qh (by omega) ?_)) (by repeat (first | exact Qs | exact Qd8 | exact QdJ | exact Qfh | refine Qh (by omega) ?_)) (by repeat (first | exact Qs | exact Qd8 | exact QdJ | exact Qfh | refine Qh (by omega) ?_)) rfl (by decide) (by intro j hj; repeat (first | exact ZN hP2.keys (by omega) (by omega) (by omega) (.inr (by omega)) | refine Zj (by omega) ?_)) (by omega) (by intro p hp j hj; simp only [List.mem_cons, List.not_mem_nil, or_false] at hp; rcases hp with rfl | rfl | rfl | rfl | rfl <;> first | (simp [D.ids, D.sid] at hj; done) | (simp [D.ids, D.sid] at hj; subst hj; first | exact .inl rfl | exact .inr (.inl rfl) | exact .inr (.inr (.inl rfl)) | exact .inr (.inr (.inr ⟨us2[i], List.getElem_mem hi2, (hP2.keys i hi2).symm⟩))))
     ·exact hP2.again hi2 hk2 ⟨_, rfl, Qhp hc2 (by have := hxb; rwa [hl2, hl] at this)⟩
     ·show QiH (QbL us2 i k _) i - (k + 1) < QiH us i - k; rw [Qaa, <- hus2, Qaa, Qak hi]; omega
    ·try rw [h5]
     try simp only [qA] at h5
     refine Xj (Ql (Q3 (kp5 Z Z Z Z Z) (ZQ fun K hK => Qa Z (Zb Z Z (by first | exact Qr (by omega) (by omega) | rfl) (Qa Z (hK _ ?_))))))
     refine Qp (us2, nxI J1, k + 1) ?_ ?_ ?_
     ·exact le_trans (Zc (l := [4, 5, 6, 7, 8]) (kp5 rfl rfl rfl rfl rfl)) (QaP (by rw [hl2] <;> rfl) Qqe)
     ·exact hP2
     ·show QiH us2 i - (k + 1) < QiH us i - k; rw [<- hus2, Qaa, Qak hi]; omega
  ·try rw [h2]
   try simp only [qA] at h2
   try (have hk : k < us[i].cs.length := (by omega); obtain ⟨v, sh, hz, hv⟩ := hP.fresh i hi k hk (by omega))
   refine QdB (Xr (QM (QU (Ql (Q3 (kp4 Z Z Z Z) (ZQ fun K hK => Qa Z (Zb Z Z (by first | exact Qr (by omega) (by omega) | rfl) (Qa Z (hK _ ?_)))))))))
   refine Qp (us, J, i + 1) ?_ ?_ ?_
   ·exact Zc (l := [4, 5, 6, 7]) (kp4 rfl rfl rfl rfl)
   ·try dsimp only
    exact ⟨hP.next hi (by omega), by omega, by omega⟩
   ·show us0.length - (i + 1) < us0.length - i; omega
 ·try rw [h1]
  try simp only [qA] at h1
  refine QdB (Xr (QM (QU (Q3 (kp2 Z Z) ?_))))
  have hend : i = usA.length := by have := hPA.1.len.1; omega
  obtain ⟨w, hwl, hwm, hle⟩ := Qm7 (eu := 37) (ec := 63) (eg := 55) (L := ws) (J := JA) (b4 := ⟨[[.fsl []]], 1, 27, true⟩) (hend ▸ hPA.1) rfl
  refine Qk5 (hle (fr' := [(4, .ref 4 0 0), (6, .osl 500000 usA.length)]) (l := [4, 6]) (kp2 rfl rfl) rfl (by intro p hp j hj; simp only [List.mem_cons, List.not_mem_nil, or_false] at hp; rcases hp with rfl | rfl <;> (simp [D.ids, D.sid] at hj; subst hj; first | exact .inl rfl | exact .inr rfl))) (Q9 fun K hK => Qa rfl (QS rfl rfl (QT rfl rfl rfl rfl rfl rfl rfl rfl (hK _ _ (QR (kp1 rfl) ?_)))))
  refine Qhe ?_
  refine ⟨_, ⟨w, hwm, rfl⟩, ?_⟩
  exact Zv (cs := [.osl 500000 usA.length]) (ds := [.sl (w.map Qcc)]) rfl rfl rfl rfl (by simp [QaY, D.fz, D.fzS, Qc5, lk, D.can, D.canS, hwl])
end Go.Proofs
namespace M25
open Go Go.Abs M3
/-! ### Trails that may be -/
theorem QaB {w : Qn} {l : List QD} {s : QD} : YH w (l ++ [s]) = (YH w l && Qaz w l s) := by
 rw [QjX, QjX, List.length_append, List.length_singleton, List.range_succ, List.all_append]
 congr 1
 ·rw [Bool.eq_iff_iff, List.all_eq_true, List.all_eq_true]
  refine forall_congr' fun i => ?_
  constructor
  ·intro h hi
   have := h hi
   rw [List.mem_range] at hi
   rw [QcS (by simp; omega)] at this
   rw [QcS hi]
   rw [List.take_append_of_le_length (by omega), List.getElem_append_left hi] at this
   exact this
  ·intro h hi
   have := h hi
   rw [List.mem_range] at hi
   rw [QcS hi] at this
   rw [QcS (by simp; omega), List.take_append_of_le_length (by omega), List.getElem_append_left hi]
   exact this
 ·simp only [List.all_cons, List.all_nil, Bool.and_true]
  rw [QcS (by simp), List.take_append_of_le_length (Nat.le_refl _), List.take_length, List.getElem_append_right (Nat.le_refl _)]
  simp
theorem Qij {w : Qn} {l : List QD} {s : QD} (h : Qaz w l s = true) : Y9 s.m (Q7 w l s.u) = s.m := by
 unfold Qaz at h
 simp only [Bool.and_eq_true, decide_eq_true_eq] at h
 exact h.1.2
theorem Qdk {x y : Int} (h : Y9 x y = x) (hy : Lo y) : Lo x := by
 have hx : I64 x := by rw [<- h]; exact Qgt x y
 refine Lo.of hx fun i hi => ?_
 cases ht : tb x i
 ·rfl
 ·have := (Xk hx).1 h i ht
  rw [hy.hi hi] at this; cases this
theorem Ym {w : Qn} : ∀ (n : Nat) (l : List QD), l.length = n -> YH w l = true -> Qc6 w l
 | 0, l, hl, _ => by rw [List.eq_nil_of_length_eq_zero hl]; intro s hs; cases hs
 | n + 1, l, hl, h => by
  have hne : l ≠ [] := by intro e; subst e; simp at hl
  have e := (List.dropLast_concat_getLast hne).symm
  rw [e, QaB, Bool.and_eq_true] at h
  have hp := Ym n l.dropLast (by simp [hl]) h.1
  rw [e]
  exact QkJ hp (Qdk (Qij h.2) (Qdh hp _))
theorem Qkt {w : Qn} {l l' : List QD} {u p : Int} (h : YH w l = true) (hd : XY w l u p = some l') : YH w l' = true := by
 unfold XY at hd
 split at hd
 ·cases hd
 ·split at hd
  ·cases hd
  ·split at hd
   ·rename_i hs
    cases hd
    rw [QaB, h, Bool.true_and]; exact hs
   ·cases hd
end M25
namespace M25
open Go Go.Abs M3
/-! ### What every program says -/
/-! ### A world's facts, and more -/
end M25
namespace M25
open Go Go.Abs M3
/-! ### Powers of two -/
theorem Qi0 : ∀ (n : Nat), n ≠ 0 -> n &&& (n - 1) = 0 -> ∃ k, n = 2 ^ k := by
 intro n
 induction n using Nat.strongRecOn with
 | ind n ih =>
  intro h0 h
  have hd : (n &&& (n - 1)) / 2 = n / 2 &&& (n - 1) / 2 := Nat.and_div_two
  rw [h] at hd
  rcases Nat.mod_two_eq_zero_or_one n with e | e
  ·have h1 : (n - 1) / 2 = n / 2 - 1 := by omega
   rw [h1] at hd
   obtain ⟨k, hk⟩ := ih (n / 2) (by omega) (by omega) hd.symm
   exact ⟨k + 1, by rw [Nat.pow_succ]; omega⟩
  ·have h1 : (n - 1) / 2 = n / 2 := by omega
   rw [h1, Nat.and_self] at hd
   exact ⟨0, by simp; omega⟩
theorem Qiw (k : Nat) : 2 ^ k &&& (2 ^ k - 1) = 0 := by
 refine Nat.eq_of_testBit_eq fun i => ?_
 rw [Nat.testBit_and, Nat.testBit_two_pow, Nat.testBit_two_pow_sub_one, Nat.zero_testBit]
 by_cases h : k = i
 ·subst h; simp
 ·simp [h]
theorem Qjt {n m : Nat} (hn : n < 9223372036854775808) (hm : m < 9223372036854775808) : Y9 (n : Int) (m : Int) = ((n &&& m : Nat) : Int) := by
 have h := Nat.and_le_left (n := n) (m := m)
 refine Qf3 (Qgt _ _) ⟨by omega, by omega⟩ fun i => ?_
 rw [Qil]
 by_cases hi : i < 64
 ·rw [Qfd _ hi, Qfd _ hi, Qfd _ hi, Nat.testBit_and]
 ·rw [QkR _ (by omega), QkR _ (by omega), QkR _ (by omega)]; rfl
def mOne (m : Int) : Bool := decide (1 < m) && decide (Y9 m (m - 1) = 0)
theorem QoU {m : Int} (h : Lo m) : mOne m = true ↔ ∃ k, 1 <= k /\ k < 17 /\ m = 2 ^ k := by
 obtain ⟨n, rfl⟩ := Int.eq_ofNat_of_zero_le h.1
 have h2 := h.2
 unfold mOne
 simp only [Bool.and_eq_true, decide_eq_true_eq]
 constructor
 ·rintro ⟨h1, hb⟩
  rw [show (n : Int) - 1 = ((n - 1 : Nat) : Int) by omega, Qjt (by omega) (by omega)] at hb
  obtain ⟨k, hk⟩ := Qi0 n (by omega) (by omega)
  have h17 : (2 : Nat) ^ 17 = 131072 := by decide
  refine ⟨k, ?_, ?_, by rw [hk]; simp⟩
  ·cases k with
   | zero => simp at hk; omega
   | succ k => omega
  ·refine Classical.byContradiction fun hn => ?_
   have := Nat.pow_le_pow_right (show 0 < 2 by omega) (show 17 <= k by omega)
   omega
 ·rintro ⟨k, h1, h3, hk⟩
  have e : n = 2 ^ k := by
   have : ((2 ^ k : Nat) : Int) = (2 : Int) ^ k := by simp
   omega
  have h4 : 2 ^ 1 <= 2 ^ k := Nat.pow_le_pow_right (by omega) h1
  refine ⟨by omega, ?_⟩
  rw [show (n : Int) - 1 = ((n - 1 : Nat) : Int) by omega, Qjt (by omega) (by omega), e, Qiw]; rfl
theorem Qfz {k : Nat} (hk : k < 64) : ∀ n, n <= 64 -> Yd (2 ^ k) n = if k < n then [(k : Int) - 1] else []
 | 0, _ => by rw [if_neg (by omega)]; rfl
 | n + 1, hn => by
  rw [Yd, Qfz hk n (by omega)]
  have hb := Qgd (x := (2 : Int) ^ k) (k := n) (by omega)
  rw [Qby hk] at hb
  by_cases e : n = k
  ·subst e
   rw [if_neg (by omega), if_neg (by rw [hb]; simp), if_pos (by omega)]; rfl
  ·rw [if_pos (hb.2 (decide_eq_false e)), List.append_nil]
   by_cases h : k < n
   ·rw [if_pos h, if_pos (by omega)]
   ·rw [if_neg h, if_neg (by omega)]
theorem Qe0 {k : Nat} (hk : k < 17) : Yx (2 ^ k) = (k : Int) - 1 := by
 rw [Yx, QdP, Qfz (by omega) 17 (by omega), if_pos hk]; rfl
theorem Qde {m x : Int} : ∀ n, n <= 64 -> (x ∈ Yd m n ↔ ∃ k, k < n /\ tb m k = true /\ x = (k : Int) - 1)
 | 0, _ => by simp [Yd]
 | n + 1, hn => by
  rw [Yd, List.mem_append, Qde n (by omega)]
  have hb := Qgd (x := m) (k := n) (by omega)
  constructor
  ·rintro (⟨k, h1, h2, h3⟩ | h)
   ·exact ⟨k, by omega, h2, h3⟩
   ·split at h
    ·cases h
    ·rename_i hn2
     simp only [List.mem_singleton] at h
     refine ⟨n, by omega, ?_, h⟩
     cases ht : tb m n
     ·exact absurd (hb.2 ht) hn2
     ·rfl
  ·rintro ⟨k, h1, h2, h3⟩
   by_cases e : k = n
   ·subst e
    right
    rw [if_neg (by rw [hb, h2]; simp), h3]; simp
   ·exact .inl ⟨k, by omega, h2, h3⟩
theorem Qj5 : ∀ {l : List Int}, 0 <= Qnf l -> ∃ x, l = [x] /\ 0 <= x
 | [], h => by simp [Qnf] at h
 | [x], h => ⟨x, rfl, h⟩
 | _ :: _ :: _, h => by simp [Qnf] at h
theorem Qh3 {m : Int} (h : Lo m) : 0 <= Yx m ↔ ∃ k, 1 <= k /\ k < 17 /\ m = 2 ^ k := by
 constructor
 ·intro hp
  obtain ⟨x, hx, h0⟩ := Qj5 hp
  have hm := Qde (m := m) (x := x) 17 (by omega)
  rw [<- QdP, hx] at hm
  obtain ⟨k, h1, h2, h3⟩ := hm.1 (by simp)
  refine ⟨k, by omega, h1, Qf3 h.i64 (QjT (by omega)).i64 fun i => ?_⟩
  rw [Qby (by omega)]
  by_cases e : i = k
  ·subst e; simp [h2]
  ·rw [decide_eq_false e]
   cases hi : tb m i
   ·rfl
   ·exfalso
    have hi17 : i < 17 := Classical.byContradiction fun hn => by rw [h.hi (by omega)] at hi; cases hi
    have := (Qde (m := m) (x := (i : Int) - 1) 17 (by omega)).2 ⟨i, hi17, hi, rfl⟩
    rw [<- QdP, hx, List.mem_singleton] at this
    omega
 ·rintro ⟨k, h1, h2, rfl⟩
  rw [Qe0 h2]; omega
theorem Qp0 {m : Int} (h : Lo m) : mOne m = decide (0 <= Yx m) := by
 rw [Bool.eq_iff_iff, QoU h, decide_eq_true_eq, Qh3 h]
/-! ### Qk2 that may be: the program's -/
def mFits (w : Qn) (l : List QD) (s : QD) : Bool :=
 if YB w s.u = 0 \/ s.c < -1 \/ s.m = 0 \/ ¬ Qiq s.m (Qaf w l s.u) = 0 then false
 else if s.c = -1 then mOne s.m && !ZX l s.u && decide (s.l = IntKind.i64.wrap (Yw l + 1))
 else !decide (s.m = Qaf w l s.u) && decide (s.l = Yw l)
theorem QoE {w : Qn} {l : List QD} {s : QD} (hl : Qc6 w l) (hs : I64 s.m) : mFits w l s = Qaz w l s := by
 unfold mFits
 by_cases h1 : YB w s.u = 0
 ·rw [if_pos (.inl h1)]
  rw [Xo] at h1
  unfold Qaz; rw [h1]; rfl
 ·have hin : inW w s.u = true := by
   cases e : inW w s.u
   ·exact absurd (Xo.2 e) h1
   ·rfl
  rw [QgA hin]
  have hi := Qcf.1 hin
  by_cases h2 : s.c < -1
  ·rw [if_pos (.inr (.inl h2)), Qns (.inr (.inr h2))]
  ·rw [Qmv hi.1 hi.2 (by omega)]
   have hlo := Qdh hl s.u
   have hb : Qiq s.m (Q7 w l s.u) = 0 ↔ Y9 s.m (Q7 w l s.u) = s.m := not_zero.trans (Xk hs).symm
   by_cases h4 : Qiq s.m (Q7 w l s.u) = 0
   ·have hlm : Lo s.m := Qdk (hb.1 h4) hlo
    rw [decide_eq_true (hb.1 h4), Bool.true_and]
    by_cases h3 : s.m = 0
    ·rw [if_pos (.inr (.inr (.inl h3)))]
     rw [h3]
     split
     ·have : Yx 0 = -1 := by decide
      rw [this]; rfl
     ·simp
    ·rw [if_neg (by simp [h1, h2, h3, h4])]
     split
     ·rw [Qp0 hlm]
     ·rw [decide_eq_false h3]; rfl
   ·rw [if_pos (.inr (.inr (.inr h4))), decide_eq_false (fun e => h4 (hb.2 e))]; rfl
def Qhz (w : Qn) (l : List QD) (i : Nat) : Bool := match l[i]? with
 | some s => mFits w (l.take i) s
 | none => true
theorem Qeu {w : Qn} {l : List QD} {i : Nat} (h : i < l.length) : Qhz w l i = mFits w (l.take i) l[i] := by
 rw [Qhz, List.getElem?_eq_getElem h]
def Qnc (w : Qn) (l : List QD) : Bool := (List.range l.length).all (Qhz w l)
theorem QhX {w : Qn} {l : List QD} (hI : ∀ s ∈ l, I64 s.m) : ∀ n, n <= l.length -> (List.range n).all (Qhz w l) = YH w (l.take n)
 | 0, _ => rfl
 | n + 1, hn => by
  have ih := QhX (w := w) hI n (by omega)
  rw [List.range_succ, List.all_append, ih, List.take_succ_eq_append_getElem (by omega), QaB]
  cases hm : YH w (l.take n)
  ·rfl
  ·simp only [List.all_cons, List.all_nil, Bool.and_true, Bool.true_and]
   rw [Qeu (by omega), QoE (Ym _ _ rfl hm) (hI _ (List.getElem_mem _))]
theorem Qj1 {w : Qn} {l : List QD} (hI : ∀ s ∈ l, I64 s.m) : Qnc w l = YH w l := by
 rw [Qnc, QhX hI l.length (Nat.le_refl _), List.take_length]
/-! ### Deciding -/
def YL (w : Qn) (l : List QD) (u p : Int) : Option (List QD) := match uAt w u with
 | none => none
 | some x => if p < 0 \/ (x.cs.length : Int) <= p then none
  else if Y9 (Q7 w l u) (2 ^ (p + 1).toNat) = 0 \/ ZX l u = true then none else some (l ++ [⟨u, 2 ^ (p + 1).toNat, IntKind.i64.wrap (Yw l + 1), -1⟩])
theorem QpD {p : Int} (h0 : 0 <= p) (h1 : p < 16) : IntKind.i64.wrap (2 * 2 ^ min p.toNat 64) = 2 ^ (p + 1).toNat := by
 rw [show min p.toNat 64 = p.toNat by omega, show (p + 1).toNat = p.toNat + 1 by omega, Int.pow_succ, Int.mul_comm]
 have := QjT (k := p.toNat + 1) (by omega)
 rw [Int.pow_succ] at this
 exact QjK this.i64
theorem Y3 {w : Qn} (hw : ∀ u ∈ w, u.cs.length <= 16) {l : List QD} (hl : Qc6 w l) (u p : Int) : YL w l u p = XY w l u p := by
 unfold YL XY
 cases hu : uAt w u with
 | none => rfl
 | some x =>
  simp only
  by_cases hp : p < 0 \/ (x.cs.length : Int) <= p
  ·rw [if_pos hp, if_pos hp]
  ·rw [if_neg hp, if_neg hp]
   have hux : 0 <= u /\ u < w.length /\ x ∈ w := by
    unfold uAt at hu
    split at hu
    ·cases hu
    ·have := (List.getElem?_eq_some_iff.1 hu).1
     exact ⟨by omega, by omega, List.mem_of_getElem? hu⟩
   have hx := hw x hux.2.2
   rw [QpD (by omega) (by omega)]
   have hk : (p + 1).toNat < 17 := by omega
   have hlm : Lo ((2 : Int) ^ (p + 1).toNat) := QjT (by omega)
   rw [Qmv hux.1 hux.2.1 (by show (-1 : Int) <= -1; omega)]
   simp only [if_true]
   have hb : Y9 (Q7 w l u) (2 ^ (p + 1).toNat) = 0 ↔ tb (Q7 w l u) (p + 1).toNat = false := Qgd (by omega)
   have hb2 : Y9 (2 ^ (p + 1).toNat) (Q7 w l u) = 2 ^ (p + 1).toNat ↔ tb (Q7 w l u) (p + 1).toNat = true := by
    rw [Xk hlm.i64]
    constructor
    ·intro h; exact h _ (by rw [Qby (by omega)]; simp)
    ·intro h i hi
     rw [Qby (by omega)] at hi
     rw [of_decide_eq_true hi]; exact h
   have hpl : decide (0 <= Yx (2 ^ (p + 1).toNat)) = true := by rw [decide_eq_true_eq, Qe0 hk]; omega
   rw [hpl]
   cases ht : tb (Q7 w l u) (p + 1).toNat
   ·rw [if_pos (.inl (hb.2 ht)), if_neg (by rw [decide_eq_false (by rw [hb2, ht]; simp)]; simp)]
   ·have h1 : ¬ Y9 (Q7 w l u) (2 ^ (p + 1).toNat) = 0 := by rw [hb, ht]; simp
    cases hd : ZX l u
    ·rw [if_neg (by simp [h1]), decide_eq_true (hb2.2 ht)]; simp
    ·rw [if_pos (.inr rfl)]; simp
end M25
namespace M25
open Go Go.Abs M3
/-! ### Back, Sure, When -/
/-! ### What valid trails are -/
theorem QiU {w : Qn} : ∀ (n : Nat) {l : List QD}, YH w l = true -> YH w (l.take n) = true := by
 intro n l
 by_cases hn : l.length <= n
 ·intro h; rw [List.take_of_length_le hn]; exact h
 ·intro h
  have hall : ∀ (k : Nat) (l : List QD), YH w l = true -> l.length <= n + k -> YH w (l.take n) = true := by
   intro k
   induction k with
   | zero => intro l h hl; rw [List.take_of_length_le (by omega)]; exact h
   | succ k ih =>
    intro l h hl
    by_cases hn : l.length <= n
    ·rw [List.take_of_length_le hn]; exact h
    ·have hne : l ≠ [] := by intro e; subst e; simp at hn
     have e := (List.dropLast_concat_getLast hne).symm
     rw [e, QaB, Bool.and_eq_true] at h
     have := ih l.dropLast h.1 (by simp; omega)
     rw [e, List.take_append_of_le_length (by simp; omega)]
     exact this
  exact hall l.length l h (by omega)
theorem Ql4 {w : Qn} {l : List QD} {i : Nat} (h : YH w l = true) (hi : i < l.length) : Qaz w (l.take i) l[i] = true := by
 have := QiU (i + 1) h
 rw [List.take_succ_eq_append_getElem hi, QaB, Bool.and_eq_true] at this
 exact this.2
theorem Qnt {w : Qn} {l : List QD} {s : QD} (h : Qaz w l s = true) {i : Nat} (hi : tb s.m i = true) : tb (Q7 w l s.u) i = true := by
 have h1 := Qij h
 have : tb (Y9 s.m (Q7 w l s.u)) i = true := by rw [h1]; exact hi
 rw [Qil, Bool.and_eq_true] at this
 exact this.2
theorem Qo2 {w : Qn} {l : List QD} {s : QD} (h : Qaz w l s = true) : s.m ≠ 0 := by
 intro h0
 unfold Qaz at h
 rw [Bool.and_eq_true] at h
 have h2 := h.2
 split at h2
 ·rw [h0, show Yx 0 = -1 from by decide] at h2; simp at h2
 ·rw [h0] at h2; simp at h2
theorem QlT {w : Qn} {l : List QD} (h : YH w l = true) {n k : Nat} (hnk : n <= k) {u : Int} {i : Nat} (hi : tb (Q7 w (l.take k) u) i = true) : tb (Q7 w (l.take n) u) i = true := by
 have key : ∀ d, tb (Q7 w (l.take (n + d)) u) i = true -> tb (Q7 w (l.take n) u) i = true := by
  intro d
  induction d with
  | zero => exact fun h => h
  | succ d ih =>
   intro hi
   refine ih ?_
   by_cases hl : n + d < l.length
   ·rw [show n + (d + 1) = n + d + 1 by omega, List.take_succ_eq_append_getElem hl, Qay] at hi
    split at hi
    ·rename_i hu
     have := Qnt (Ql4 h hl) hi
     rw [hu.1] at this; exact this
    ·exact hi
   ·rw [List.take_of_length_le (by omega)] at hi ⊢; exact hi
 exact key (k - n) (by rw [show n + (k - n) = k by omega]; exact hi)
theorem QoM {w : Qn} {l : List QD} (h : YH w l = true) {u : Int} (hu : inW w u = true) : Q7 w l u ≠ 0 := by
 have key : ∀ n, Q7 w (l.take n) u ≠ 0 := by
  intro n
  induction n with
  | zero =>
   show YB w u ≠ 0
   intro e; rw [Xo, hu] at e; cases e
  | succ n ih =>
   by_cases hl : n < l.length
   ·rw [List.take_succ_eq_append_getElem hl, Qay]
    split
    ·exact Qo2 (Ql4 h hl)
    ·exact ih
   ·rw [List.take_of_length_le (by omega)] at ih ⊢; exact ih
 have := key l.length
 rwa [List.take_length] at this
def Qb6 (w : Qn) (l : List QD) (inc : List Zo) : Nat -> Nat -> Int
 | 0, _ => -1
 | r + 1, n => if QhU w (l.take n) inc = true then n else Qb6 w l inc r (n + 1)
def QgI (w : Qn) (l : List QD) (inc : List Zo) : Int := Qb6 w l inc (l.length + 1) 0
theorem QnC {w : Qn} {l : List QD} {inc : List Zo} {n : Nat} (hn : n < l.length + 1) (hs : QhU w (l.take n) inc = true) (h : QgI w l inc = Qb6 w l inc (l.length + 1 - n) n) : QgI w l inc = n := by
 rw [h, show l.length + 1 - n = (l.length - n) + 1 by omega, Qb6, if_pos hs]
theorem Qo8 {w : Qn} {l : List QD} {inc : List Zo} {n : Nat} (hn : n < l.length + 1) (hs : QhU w (l.take n) inc = false) (h : QgI w l inc = Qb6 w l inc (l.length + 1 - n) n) : QgI w l inc = Qb6 w l inc (l.length + 1 - (n + 1)) (n + 1) := by
 rw [h, show l.length + 1 - n = (l.length - n) + 1 by omega, Qb6, if_neg (by rw [hs]; simp), show l.length + 1 - (n + 1) = l.length - n by omega]
theorem QnB {w : Qn} {l : List QD} {inc : List Zo} {n : Nat} (hn : l.length + 1 <= n) (h : QgI w l inc = Qb6 w l inc (l.length + 1 - n) n) : QgI w l inc = -1 := by
 rw [h, show l.length + 1 - n = 0 by omega, Qb6]
def Qac (w : Qn) (l : List QD) (inc : List Zo) (n : Nat) : List Int := inc.map fun t => Q7 w (l.take n) t.u
theorem Ye (w : Qn) (l : List QD) (inc : List Zo) (n : Nat) : (Qac w l inc n).length = inc.length := by simp [Qac]
def Qa8 (w : Qn) (l : List QD) (inc : List Zo) (n k : Nat) : List Int := (Qac w l inc n).take k ++ (Qac w l inc (n - 1)).drop k
theorem Qd3 {w : Qn} {l : List QD} {inc : List Zo} {n k : Nat} (hk : k <= inc.length) : (Qa8 w l inc n k).length = inc.length := by
 simp [Qa8, Ye]; omega
theorem QhZ (w : Qn) (l : List QD) (inc : List Zo) (n : Nat) : Qa8 w l inc n 0 = Qac w l inc (n - 1) := by simp [Qa8]
theorem Qj2 {w : Qn} {l : List QD} {inc : List Zo} {n k : Nat} (hk : inc.length <= k) : Qa8 w l inc n k = Qac w l inc n := by
 rw [Qa8, List.take_of_length_le (by rw [Ye]; exact hk), List.drop_eq_nil_of_le (by rw [Ye]; exact hk), List.append_nil]
theorem QiV {w : Qn} {l : List QD} {inc : List Zo} {n k : Nat} (hk : k < inc.length) (h : k < (Qa8 w l inc n k).length) : (Qa8 w l inc n k)[k] = Q7 w (l.take (n - 1)) inc[k].u := by
 simp only [Qa8]
 rw [List.getElem_append_right (by simp [Ye]; omega)]
 simp [Qac, Ye, List.length_take, Nat.min_eq_left (show k <= inc.length by omega)]
theorem Ql5 {w : Qn} {l : List QD} {inc : List Zo} {n k : Nat} (hk : k < inc.length) : Qa8 w l inc n (k + 1) = (Qa8 w l inc n k).set k (Q7 w (l.take n) inc[k].u) := by
 have h1 : k < (Qac w l inc n).length := by rw [Ye]; exact hk
 have h2 : k < (Qac w l inc (n - 1)).length := by rw [Ye]; exact hk
 rw [Qa8, Qa8, List.take_succ_eq_append_getElem h1, List.drop_eq_getElem_cons h2]
 rw [List.set_append_right _ _ (by simp [Ye]; omega)]
 simp [Ye, Nat.min_eq_left (show k <= inc.length by omega), Qac]
theorem QeU {w : Qn} {l : List QD} {inc : List Zo} {n k : Nat} (hk : k < inc.length) (h : Q7 w (l.take n) inc[k].u = Q7 w (l.take (n - 1)) inc[k].u) : Qa8 w l inc n (k + 1) = Qa8 w l inc n k := by
 rw [Ql5 hk, h, <- QiV hk (by rw [Qd3 (by omega)]; exact hk), List.set_getElem_self]
theorem QeH {w : Qn} {l : List QD} {n : Nat} (h0 : 0 < n) (hn : n <= l.length) (u : Int) : Q7 w (l.take n) u = if (l[n - 1]'(by omega)).u = u /\ inW w u = true then (l[n - 1]'(by omega)).m else Q7 w (l.take (n - 1)) u := by
 rw [Qfc (k := n - 1) (by omega) (by omega), Qay]
theorem Qmz {w : Qn} {l : List QD} (h : YH w l = true) {n : Nat} {u : Int} : Q7 w (l.take n) u = 0 ↔ inW w u = false := by
 constructor
 ·intro e
  cases hu : inW w u
  ·rfl
  ·exact absurd e (QoM (QiU n h) hu)
 ·exact QgB
/-! ### Levels -/
end M25
namespace M25
open Go Go.Abs M3
def QnW {α : Type} (p : α -> Bool) (l : List α) : Int := match l.findIdx? p with
 | some i => i
 | none => -1
theorem QcF {α : Type} {p : α -> Bool} {l : List α} {i : Nat} (h : i < l.length) (ha : (l.take i).any p = false) (hp : p l[i] = true) : QnW p l = i := by
 have e : l.findIdx? p = some i := by
  rw [List.findIdx?_eq_some_iff_getElem]
  refine ⟨h, hp, fun j hj => ?_⟩
  have := List.any_eq_false.1 ha l[j] (by
   rw [List.mem_take_iff_getElem]
   exact ⟨j, by omega, rfl⟩)
  simpa using this
 rw [QnW, e]
theorem QpH {α : Type} {p : α -> Bool} {l : List α} {i : Nat} (h : l.length <= i) (ha : (l.take i).any p = false) : QnW p l = -1 := by
 have e : l.findIdx? p = none := by
  rw [List.findIdx?_eq_none_iff]
  rw [List.take_of_length_le h] at ha
  intro x hx
  simpa using List.any_eq_false.1 ha x hx
 rw [QnW, e]
theorem QoG {α : Type} (p : α -> Bool) (l : List α) : decide (QnW p l >= 0) = l.any p := by
 cases e : l.findIdx? p with
 | none =>
  rw [QnW, e]
  rw [List.findIdx?_eq_none_iff] at e
  have : l.any p = false := List.any_eq_false.2 fun x hx => by simpa using e x hx
  rw [this]; rfl
 | some i =>
  rw [QnW, e]
  rw [List.findIdx?_eq_some_iff_getElem] at e
  obtain ⟨h, hp, _⟩ := e
  rw [Qix h hp]
  simp
theorem QgX {w : Qn} {u : Int} (h0 : 0 <= u) (h1 : u < w.length) : uAt w u = some (w[u.toNat]'(by omega)) := by
 rw [uAt, if_neg (by omega), List.getElem?_eq_getElem]
theorem QmN {w : Qn} {l : List QD} {u p : Int} (h : YB w u = 0) : YL w l u p = none := by
 have h2 : uAt w u = none := by
  have hi := Xo.1 h
  rw [uAt]
  split
  ·rfl
  ·refine List.getElem?_eq_none ?_
   apply Classical.byContradiction
   intro hn
   rw [QjM (by omega) (by omega)] at hi
   cases hi
 rw [YL, h2]
theorem Qjx {w : Qn} {l : List QD} {u p : Int} (h : p < 0) : YL w l u p = none := by
 rw [YL]
 split
 ·rfl
 ·rw [if_pos (.inl h)]
theorem QmM {w : Qn} {l : List QD} {u p : Int} (h0 : 0 <= u) (h1 : u < w.length) (h : ((w[u.toNat]'(by omega)).cs.length : Int) <= p) : YL w l u p = none := by
 rw [YL, QgX h0 h1]; exact if_pos (.inr h)
theorem QiI {w : Qn} {l : List QD} {u p : Int} (h0 : 0 <= u) (h1 : u < w.length) (h2 : 0 <= p) (h3 : p < (w[u.toNat]'(by omega)).cs.length) (h : Y9 (Q7 w l u) (2 ^ (p + 1).toNat) = 0 \/ ZX l u = true) : YL w l u p = none := by
 rw [YL, QgX h0 h1]; dsimp only; rw [if_neg (by omega), if_pos h]
theorem Qjy {w : Qn} {l : List QD} {u p : Int} (h0 : 0 <= u) (h1 : u < w.length) (h2 : 0 <= p) (h3 : p < (w[u.toNat]'(by omega)).cs.length) (h4 : ¬ Y9 (Q7 w l u) (2 ^ (p + 1).toNat) = 0) (h5 : ZX l u = false) :
  YL w l u p = some (l ++ [⟨u, 2 ^ (p + 1).toNat, IntKind.i64.wrap (Yw l + 1), -1⟩]) := by
 rw [YL, QgX h0 h1]; dsimp only; rw [if_neg (by omega), if_neg (by simp [h4, h5])]
theorem Qpy {w : Qn} {l : List QD} {u : Int} (h : inW w u = true) (m : Int) : Y9 (Qaf w l u) m = Y9 (Q7 w l u) m := by rw [QgA h]
theorem QoF {w : Qn} {u : Int} (h : ¬ YB w u = 0) : inW w u = true /\ 0 <= u /\ u < w.length := by
 have e : inW w u = true := by
  cases e : inW w u
  ·exact absurd (Xo.2 e) h
  ·rfl
 exact ⟨e, Qcf.1 e⟩
/-! ### The first row of lefts -/
def QdN (w : Qn) (inc : List Zo) (i : Nat) : List Int := (inc.take i).map (fun t => YB w t.u) ++ List.replicate (inc.length - i) 0
theorem Qlx (w : Qn) (inc : List Zo) {i : Nat} (h : i <= inc.length) : (QdN w inc i).length = inc.length := by simp [QdN]; omega
theorem QfE (w : Qn) (inc : List Zo) : QdN w inc 0 = List.replicate inc.length 0 := by simp [QdN]
theorem Qhy {w : Qn} {inc : List Zo} {i : Nat} (h : inc.length <= i) (l : List QD) : QdN w inc i = Qac w l inc 0 := by
 rw [QdN, List.take_of_length_le h, show inc.length - i = 0 by omega, List.replicate_zero, List.append_nil]
 refine List.map_congr_left fun t _ => ?_
 rw [List.take_zero]; rfl
theorem QjF {w : Qn} {inc : List Zo} {i : Nat} (h : i < inc.length) : QdN w inc (i + 1) = (QdN w inc i).set i (YB w inc[i].u) := by
 rw [QdN, QdN, List.set_append_right _ _ (by simp; omega), List.take_succ_eq_append_getElem h, List.map_append, show inc.length - i = (inc.length - (i + 1)) + 1 by omega, List.replicate_succ]
 simp [List.length_take, Nat.min_eq_left (Nat.le_of_lt h)]
end M25
namespace Go.Proofs
open Go Go.Abs M3 M25
set_option linter.unusedVariables false
set_option linter.unusedSimpArgs false
theorem ZO {l : List QD} {f : Nat} {caps : List D} {p : QD -> Bool} (hl : l.length <= 10000000) (hcc : caps.all D.capOk = true) (hca : ∀ s : St, caps.map (QaY s) = caps) (hcb : ∀ H, caps.map (D.fzS H Qc5) = caps) (hf : ∀ x ∈ l, Ok Try.prog f (.agg (Qeo x) :: caps) (.bool (p x))) : Ok Try.prog 64 [Z7 l, .clo f caps] (.int .i64 (QnW p l)) := by
 refine Ok.ofT Yi Try.func64 QrN (Nat.le_of_ble_eq_true Z) ?_
 show TW _ _ tf64.body _ _
 refine Qf fun K hK => Qa Z (hK _ _ (Qb (kp2 Z Z) ?_))
 refine QH ?_ -- 0
 refine Qf fun K hK => Qa Z ?_
 first | refine Q5 rfl Zd ?_ | refine Q5 rfl rfl ?_
 refine Qa Z (hK _ _ (Qb (kp4 Z Z Z Z) ?_))
 refine QJ ?_
 refine Yb (ι := Nat) (fun i => ⟨[(0, Z7 l), (1, .clo f caps), (7, .int .i64 l.length), (8, .int .i64 i)], []⟩) (fun i => i <= l.length /\ (l.take i).any p = false) (fun i => l.length - i) 0 ?_ ?_ ?_
 ·exact Zc (kp4 rfl rfl rfl rfl)
 ·exact ⟨Nat.zero_le _, by simp⟩
 intro i hI
 try dsimp only
 refine Qf fun K hK => YY Z Z (hK _ _ (Qb (kp5 Z Z Z Z Z) ?_))
 refine QH ?_ -- 1
 refine QC Z (fun h1 => ?_) (fun h1 => ?_)
 ·try rw [h1]
  try simp only [qA] at h1
  refine Qy (Qe (kp4 Z Z Z Z) ?_)
  refine QH ?_ -- 2
  refine QJ (Qf fun K hK => Qa Z (Qa Z (hK _ _ (Qb (kp5 Z Z Z Z Z) ?_))))
  refine Qf fun K hK => Qa Z (Qa Z (Qa Z (QV Z Z Z (by omega) (Zs (by omega)) Z (QF (cs := [_, _, _, _]) Z Z Z Z (Qoi Z hcc Z (hf _ (List.getElem_mem (show i < l.length by omega))) (by rw [List.map_append, hca]; rfl) (.inr Z) (hK _ _ (Qb (kp6 Z Z Z Z Z Z) ?_)))))))
  refine QC Z (fun h2 => ?_) (fun h2 => ?_)
  ·try rw [h2]
   try simp only [qA] at h2
   refine Qf fun K hK => Qa Z (Qa Z (hK _ _ (Qb (kp1 Z) ?_)))
   refine Qv (Qw (Qm (Zw (Qw (Qm (Qx Z ?_))))))
   rw [QcF (i := i) (by omega) hI.2 h2]
  ·try rw [h2]
   try simp only [qA] at h2
   refine Qy (Ql (Qe (kp4 Z Z Z Z) (Q4 fun K hK => Zb Z Z (by first | exact Qr (by omega) (by omega) | exact QW (by omega) (by omega) | exact Q8 (by omega) (by omega) | rfl) (Qa Z (hK _ ?_)))))
   refine Qp (i + 1) ?_ ?_ ?_
   ·exact Zc (kp4 rfl rfl rfl rfl)
   ·exact ⟨by omega, Qk7 (by omega) hI.2 h2⟩
   ·first | omega | (simp only; omega) | (dsimp only; omega)
 ·try rw [h1]
  try simp only [qA] at h1
  refine Z0 (Q6 (QM (QU (Qe (QZ) (Qf fun K hK => Qa Z (hK _ _ (Qb (kp1 Z) ?_)))))))
  refine Qv (Qx Z ?_)
  rw [QpH (i := i) (by omega) hI.2]
theorem ZL {l : List QD} {f : Nat} {caps : List D} (p : QD -> Bool) (hl : l.length <= 10000000) (hcc : caps.all D.capOk = true) (hca : ∀ s : St, caps.map (QaY s) = caps) (hcb : ∀ H, caps.map (D.fzS H Qc5) = caps) (hf : ∀ x ∈ l, Ok Try.prog f (.agg (Qeo x) :: caps) (.bool (p x))) : Ok Try.prog 51 [Z7 l, .clo f caps] (.bool (l.any p)) := by
 refine Ok.ofT Yi Try.func51 QrA (Nat.le_of_ble_eq_true Z) ?_
 show TW _ _ tf51.body _ _
 refine Qf fun K hK => Qa Z (hK _ _ (Qb (kp2 Z Z) ?_))
 refine Qf fun K hK => Qa Z (Qa Z (QB (ZO (p := p) hl hcc hca hcb hf) Z (by show [_, D.clo _ _] = _; simp only [hcb]; rfl) (.inr Z) (Qhc Z Z (Qa Z (hK _ _ (Qb (kp1 Z) ?_))))))
 refine Qv (Qt Z ?_)
 rw [<- QoG]
theorem Qc8 {s : QD} {u : Int} : Ok Try.prog 52 [.agg (Qeo s), .ptr [.int .i64 u]] (.bool (decide (s.u = u) && decide (s.c = -1))) := by
 refine Ok.ofT Yi Try.func52 QrB (Nat.le_of_ble_eq_true Z) ?_
 show TW _ _ tf52.body _ _
 refine Qf fun K hK => Z1 Z Z Z (Qa Z (hK _ _ (Qb (kp2 Z Z) ?_)))
 refine Qf fun K hK => Qk Z Z (QE Z Z Z (Z5 Z Z (Qa Z ?_)))
 refine QA (g := 7) Z (fun h1 => ?_) (fun h1 => ?_)
 ·try rw [h1]
  try simp only [qB] at h1
  refine Qg Z (Qk Z Z (Qg Z (QE Z Z Z (Qg Z (QE Z Z Z (Qg Z ?_))))))
  first | refine Z5 rfl rfl ?_ | refine Qhb rfl rfl ?_
  refine Qj Z Z (Qa Z (hK _ _ (Qb (kp1 Z) ?_)))
  refine Qv (Qt Z ?_)
  simp [h1]
 ·try rw [h1]
  try simp only [qB] at h1
  refine Qo Z (Qo Z (Qo Z (Qo Z (Qj Z Z (Qa Z (hK _ _ (Qb (kp1 Z) ?_)))))))
  refine Qv (Qt Z ?_)
  simp [h1]
theorem Qbg {l : List QD} (hl : l.length <= 10000000) {u : Int} : Ok Try.prog 33 [Z7 l, .int .i64 u] (.bool (ZX l u)) := by
 refine Ok.ofT Yi Try.func33 Qrk (Nat.le_of_ble_eq_true Z) ?_
 show TW _ _ tf33.body _ _
 refine Qf fun K hK => Z1 Z Z Z (Qa Z (hK _ _ (Qb (kp2 Z Z) ?_)))
 refine Qf fun K hK => Qa Z (QnG Z Z (QB (ZL (l := l) (fun s => decide (s.u = u) && decide (s.c = -1)) hl Z (fun _ => rfl) (fun _ => rfl) (fun s _ => Qc8)) Z Z (.inr Z) (Qa Z (hK _ _ (Qb (kp1 Z) ?_)))))
 refine Qv (Qt Z ?_)
 rfl
theorem QiC {m : Int} (hm : I64 m) : Ok Try.prog 46 [.int .i64 m] (.bool (mOne m)) := by
 refine Ok.ofT Yi Try.func46 Qrx (Nat.le_of_ble_eq_true Z) ?_
 show TW _ _ tf46.body _ _
 have hm1 := hm.1
 have hm2 := hm.2
 refine Qf fun K hK => Qa Z (hK _ _ (Qb (kp1 Z) ?_))
 refine Qf fun K hK => Qa Z (Qg0 Z Z (Qa Z ?_))
 refine QA (g := 5) Z (fun h1 => ?_) (fun h1 => ?_)
 ·try rw [h1]
  try simp only [qB] at h1
  refine Qg Z (Qa Z (Qg Z (Qa Z (Qg Z (Qa9 Z Z (by first | exact Qr (by omega) (by omega) | exact QW (by omega) (by omega) | exact Q8 (by omega) (by omega) | rfl) (Qg Z (Qf7 Z Z (Qg Z (Z5 Z Z (Qj Z Z (Qa Z ?_)))))))))))
  refine hK _ _ (Qb (kp1 Z) ?_)
  refine Qv (Qt Z ?_)
  simp [M25.mOne, h1]
 ·try rw [h1]
  try simp only [qB] at h1
  refine Qo Z (Qo Z (Qo Z (Qo Z (Qo Z (Qj Z Z (Qa Z (hK _ _ (Qb (kp1 Z) ?_))))))))
  refine Qv (Qt Z ?_)
  simp [M25.mOne, h1]
theorem Qho {w : Qn} (hw : WSm w) {l : List QD} (hl : l.length <= 10000000) {s : QD} (hs : I64 s.m) : Ok Try.prog 29 [XV w, Z7 l, .agg (Qeo s)] (.bool (mFits w l s)) := by
 refine Ok.ofT Yi Try.func29 Qrh (Nat.le_of_ble_eq_true Z) ?_
 show TW _ _ tf29.body _ _
 refine Qf fun K hK => Z1 Z Z Z (Z1 Z Z Z (Qa Z (hK _ _ (Qb (kp3 Z Z Z) ?_))))
 refine Qf fun K hK => QF (cs := [_]) Z Z Z Z (Qa Z (Qk Z Z (QE Z Z Z (QB (Qbh hw hl) Z Z (.inr Z) (Qa Z (hK _ _ (Qb (kp4 Z Z Z Z) ?_)))))))
 refine QH ?_ -- 0
 refine QJ (Qf fun K hK => QF (cs := [_]) Z Z Z Z (Qk Z Z (QE Z Z Z (QB (XU hw) Z Z (.inr Z) (Z5 Z Z (Qa Z ?_))))))
 refine QA (g := 19) Z (fun h1 => ?_) (fun h1 => ?_)
 ·try rw [h1]
  try simp only [qA] at h1
  refine Qo Z (Qo Z (Qo Z (Qj Z Z (Qa Z (Qo Z (Qo Z (Qo Z (Qj Z Z (Qa Z (Qo Z (Qo Z ?_)))))))))))
  refine Qo Z (Qo Z (Qo Z (Qj Z Z (Qa Z (hK _ _ (Qb (kp4 Z Z Z Z) ?_))))))
  refine ZD Z (Qf fun K hK => Qa Z (hK _ _ (Qb (kp1 Z) ?_)))
  refine Qv (Qw (Qm (Qt Z ?_)))
  rw [M25.mFits]; simp_all
 ·try rw [h1]
  try simp only [qA] at h1
  refine Qg Z (Qk Z Z (Qg Z (QE Z Z Z (Qg Z (YY Z Z (Qj Z Z (Qa Z ?_)))))))
  refine QA (g := 24) Z (fun h2 => ?_) (fun h2 => ?_)
  ·try rw [h2]
   try simp only [qA] at h2
   refine Qo Z (Qo Z (Qo Z (Qj Z Z (Qa Z (Qo Z (Qo Z (Qo Z (Qo Z (Qo Z (Qj Z Z (Qa Z ?_)))))))))))
   refine hK _ _ (Qb (kp4 Z Z Z Z) ?_)
   refine ZD Z (Qf fun K hK => Qa Z (hK _ _ (Qb (kp1 Z) ?_)))
   refine Qv (Qw (Qm (Qt Z ?_)))
   rw [M25.mFits]; simp_all
  ·try rw [h2]
   try simp only [qA] at h2
   refine Qg Z (Qk Z Z (Qg Z (QE Z Z Z (Qg Z (Z5 Z Z (Qj Z Z (Qa Z ?_)))))))
   refine QA (g := 29) Z (fun h3 => ?_) (fun h3 => ?_)
   ·try rw [h3]
    try simp only [qA] at h3
    refine Qo Z (Qo Z (Qo Z (Qo Z (Qo Z (Qj Z Z (Qa Z (hK _ _ (Qb (kp4 Z Z Z Z) ?_))))))))
    refine ZD Z (Qf fun K hK => Qa Z (hK _ _ (Qb (kp1 Z) ?_)))
    refine Qv (Qw (Qm (Qt Z ?_)))
    rw [M25.mFits]; simp_all
   ·try rw [h3]
    try simp only [qA] at h3
    refine Qg Z (Qk Z Z (Qg Z (QE Z Z Z (Qg Z (Qa Z (Qg Z (QdR Z Z (Qg Z (Qa3 Z Z (Qj Z Z (Qa Z ?_)))))))))))
    refine hK _ _ (Qb (kp4 Z Z Z Z) ?_)
    refine QC Z (fun h4 => ?_) (fun h4 => ?_)
    ·try rw [h4]
     try simp only [qA] at h4
     refine Qf fun K hK => Qa Z (hK _ _ (Qb (kp1 Z) ?_))
     refine Qv (Qw (Qm (Qt Z ?_)))
     rw [M25.mFits]; simp_all
    ·try rw [h4]
     try simp only [qA] at h4
     refine Qf fun K hK => Qk Z Z (QE Z Z Z (Z5 Z Z (Qa Z (hK _ _ (Qb (kp4 Z Z Z Z) ?_)))))
     refine QC Z (fun h5 => ?_) (fun h5 => ?_)
     ·try rw [h5]
      try simp only [qA] at h5
      refine Qf fun K hK => Qk Z Z (Zr (ds0 := [16, 15, 14, 13, 12, 11, 10, 9, 8, 7, 6, 5, 4, 3, 2, 1, 0]) Z Z Z Z Z (Zh (ds0 := [15, 14, 13, 12, 11, 10, 9, 8, 7, 6, 5, 4, 3, 2, 1, 0]) (QiC hs) Z Z (.inr Z) Z Z (Qa Z ?_)))
      refine QA (g := 43) Z (fun h6 => ?_) (fun h6 => ?_)
      ·try rw [h6]
       try simp only [qA] at h6
       refine Qg Z (Qa Z (Qg Z (Qk Z Z (Qg Z (Zr (ds0 := [11, 10, 9, 8, 7, 6, 5, 4, 3, 2, 1, 0]) Z Z Z Z Z (Qg Z (Zh (ds0 := [10, 9, 8, 7, 6, 5, 4, 3, 2, 1, 0]) (Qbg hl) Z Z (.inr Z) Z Z (Qg Z (Yn Z (Qj Z Z (Qa Z ?_)))))))))))
       refine QA (g := 50) Z (fun h7 => ?_) (fun h7 => ?_)
       ·try rw [h7]
        try simp only [qA] at h7
        refine Qg Z (Qk Z Z (Qg Z (Zr (ds0 := [2, 1, 0]) Z Z Z Z Z (Qg Z (Qa Z (Qg Z (Zh (ds0 := [3, 2, 1, 0]) (XD hl) Z Z (.inr Z) Z Z (Qg Z (Zb Z Z Z (Qg Z (Z5 Z Z ?_)))))))))))
        refine Qj Z Z (Qa Z (hK _ _ (Qb (kp1 Z) ?_)))
        refine Qv (Qw (Qm (Qt Z ?_)))
        rw [M25.mFits]; simp_all
       ·try rw [h7]
        try simp only [qA] at h7
        refine Qo Z (Qo Z (Qo Z (Qo Z (Qo Z (Qo Z (Qj Z Z (Qa Z (hK _ _ (Qb (kp1 Z) ?_)))))))))
        refine Qv (Qw (Qm (Qt Z ?_)))
        rw [M25.mFits]; simp_all
      ·try rw [h6]
       try simp only [qA] at h6
       refine Qo Z (Qo Z (Qo Z (Qo Z (Qo Z (Qj Z Z (Qa Z (Qo Z (Qo Z (Qo Z (Qo Z (Qo Z ?_)))))))))))
       refine Qo Z (Qj Z Z (Qa Z (hK _ _ (Qb (kp1 Z) ?_))))
       refine Qv (Qw (Qm (Qt Z ?_)))
       rw [M25.mFits]; simp_all
     ·try rw [h5]
      try simp only [qA] at h5
      refine Qy (Ql (Qe (kp3 Z Z Z) (Qf fun K hK => Qk Z Z (Zr (ds0 := [8, 7, 6, 5, 4, 3, 2, 1, 0]) Z Z Z Z Z (Qa Z (Qa3 Z Z (Qa Z ?_)))))))
      refine QA (g := 62) Z (fun h8 => ?_) (fun h8 => ?_)
      ·try rw [h8]
       try simp only [qA] at h8
       refine Qg Z (Qk Z Z (Qg Z (Zr (ds0 := [2, 1, 0]) Z Z Z Z Z (Qg Z (Qa Z (Qg Z (Zh (ds0 := [2, 1, 0]) (XD hl) Z Z (.inr Z) Z Z (Qg Z (Z5 Z Z (Qj Z Z (Qa Z ?_)))))))))))
       refine hK _ _ (Qb (kp1 Z) ?_)
       refine Qv (Qt Z ?_)
       rw [M25.mFits]; simp_all
      ·try rw [h8]
       try simp only [qA] at h8
       refine Qo Z (Qo Z (Qo Z (Qo Z (Qo Z (Qj Z Z (Qa Z (hK _ _ (Qb (kp1 Z) ?_))))))))
       refine Qv (Qt Z ?_)
       rw [M25.mFits]; simp_all
theorem Qel {w : Qn} (hw : WSm w) {l : List QD} (hl : l.length <= 10000000) (hm : ∀ s ∈ l, I64 s.m) : Ok Try.prog 8 [XV w, Z7 l] (.bool (YH w l)) := by
 refine Ok.ofT Yi Try.func8 tp8 (Nat.le_of_ble_eq_true Z) ?_
 show TW _ _ tf8.body _ _
 refine Qf fun K hK => Z1 Z Z Z (Qa Z (hK _ _ (Qb (kp2 Z Z) ?_)))
 refine QH ?_ -- 0
 refine Qf fun K hK => Qa Z ?_
 first | refine Q5 rfl Zd ?_ | refine Q5 rfl rfl ?_
 refine Qa Z (hK _ _ (Qb (kp5 Z Z Z Z Z) ?_))
 refine QJ ?_
 refine Yb (ι := Nat) (fun i => ⟨[(1, Z7 l), (2, .ref 2 0 0), (7, Z7 l), (8, .int .i64 l.length), (9, .int .i64 i)], [(2, ⟨[[.sl ((w).map Qcc)]], 1, 27, true⟩)]⟩) (fun i => i <= l.length /\ (List.range i).all (Qhz w l) = true) (fun i => l.length - i) 0 ?_ ?_ ?_
 ·exact ZH (l := [1, 2, 7, 8, 9]) (lH := [2]) (kp5 rfl rfl rfl rfl rfl) (Qq rfl Qz) rfl rfl rfl
 ·exact ⟨Nat.zero_le _, rfl⟩
 intro i hI
 try dsimp only
 refine Qf fun K hK => YY Z Z (hK _ _ (Qb (kp6 Z Z Z Z Z Z) ?_))
 refine QH ?_ -- 1
 refine QC Z (fun h1 => ?_) (fun h1 => ?_)
 ·try rw [h1]
  try simp only [qA] at h1
  refine Qy (Qe (kp5 Z Z Z Z Z) ?_)
  refine QH ?_ -- 2
  refine QJ (Qf fun K hK => Qa Z (QV Z Z Z (by omega) (Zs (by omega)) Z (QF (cs := [_, _, _, _]) Z Z Z Z (ZC Z (Qa Z (QT Z Z Z Z Z Z Z Z (hK _ _ (Qb (kp7 Z Z Z Z Z Z Z) ?_))))))))
  refine Qf fun K hK => QY (ds0 := [1, 0]) (cs := [_]) Z Z Z Z Z Z (Qa Z (Qa Z (Qa Z (Qjr Z Z Z Z Z (by omega) (by omega) (by simp; omega) QoY (QkO) (QY (ds0 := [1, 0]) (cs := [_, _, _, _]) Z Z Z Z Z Z (Zh (ds0 := [0]) (Qho (l := l.take i) hw (by have := List.length_take_le' i l; omega) (hm _ (List.getElem_mem (show i < l.length by omega)))) Z Z (.inr Z) Z Z (Yn Z (hK _ _ (Qb (kp6 Z Z Z Z Z Z) ?_)))))))))
  refine QC Z (fun h2 => ?_) (fun h2 => ?_)
  ·try rw [h2]
   try simp only [qA] at h2
   refine Qf fun K hK => Qa Z (hK _ _ (Qb (kp1 Z) ?_))
   refine Qv (Qw (Qm (Zw (Qw (Qm (Qt Z ?_))))))
   rw [<- Qj1 hm, Qnc, QaT (i := i) (by omega) (by rw [Qeu (by omega)]; exact h2)]
  ·try rw [h2]
   try simp only [qA] at h2
   refine Qy (Ql (Qe (kp5 Z Z Z Z Z) (Q4 fun K hK => Zb Z Z (by first | exact Qr (by omega) (by omega) | exact QW (by omega) (by omega) | exact Q8 (by omega) (by omega) | rfl) (Qa Z (hK _ ?_)))))
   refine Qp (i + 1) ?_ ?_ ?_
   ·exact ZH (l := [1, 2, 7, 8, 9]) (lH := [2]) (kp5 rfl rfl rfl rfl rfl) (Qq rfl Qz) rfl rfl rfl
   ·exact ⟨by omega, QgP hI.2 (by rw [Qeu (by omega)]; exact h2)⟩
   ·first | omega | (simp only; omega) | (dsimp only; omega)
 ·try rw [h1]
  try simp only [qA] at h1
  refine Z0 (Q6 (QM (QU (Qe (QZ) (Qf fun K hK => Qa Z (hK _ _ (Qb (kp1 Z) ?_)))))))
  refine Qv (Qt Z ?_)
  rw [<- Qj1 hm, Qnc, Qd7 hI.2 (by omega)]
theorem Qaj {w : Qn} (hw : WSm w) {l : List QD} (hl : l.length <= 10000000) (hp : Qc6 w l) {u p : Int} : Ok Try.prog 14 [XV w, Z7 l, .int .i64 u, .int .i64 p] (dOS (XY w l u p)) := by
 refine Ok.ofT Yi Try.func14 Qq4 (Nat.le_of_ble_eq_true Z) ?_
 show TW _ _ tf14.body _ _
 refine Qf fun K hK => Z1 Z Z Z (Qa Z (Qa Z (hK _ _ (Qb (kp4 Z Z Z Z) ?_))))
 refine QH ?_ -- 0
 refine Qf fun K hK => QF (cs := [_]) Z Z Z Z (Qa Z (QB (XU hw) Z Z (.inr Z) (Z5 Z Z (Qa Z ?_))))
 refine QA (g := 15) Z (fun h1 => ?_) (fun h1 => ?_)
 ·try rw [h1]
  try simp only [qA] at h1
  refine Qo Z (Qo Z (Qj Z Z (Qa Z (Qo Z (Qo Z (Qo Z (Qo Z (Qo Z (Qo Z (Qo Z (Qo Z ?_)))))))))))
  refine Qo Z (Qj Z Z (hK _ _ (Qb (kp5 Z Z Z Z Z) ?_)))
  refine ZD Z (Qf fun K hK => Qa Z (Qa Z (hK _ _ (Qb (kp2 Z Z) ?_))))
  refine Qv (Qm ?_)
  rw [<- Y3 hw.cs hp, QmN h1]
  exact Zz rfl rfl ⟨rfl, rfl⟩
 ·try rw [h1]
  try simp only [qA] at h1
  obtain ⟨hin, h1a, h1b⟩ := QoF h1; have hcs := hw.cs _ (List.getElem_mem (show u.toNat < w.length by omega))
  refine Qg Z (Qa Z (Qg Z (YY Z Z (Qj Z Z (Qa Z ?_)))))
  refine QA (g := 19) Z (fun h2 => ?_) (fun h2 => ?_)
  ·try rw [h2]
   try simp only [qA] at h2
   refine Qo Z (Qo Z (Qo Z (Qo Z (Qo Z (Qo Z (Qo Z (Qo Z (Qo Z (Qj Z Z (hK _ _ (Qb (kp5 Z Z Z Z Z) ?_)))))))))))
   refine ZD Z (Qf fun K hK => Qa Z (Qa Z (hK _ _ (Qb (kp2 Z Z) ?_))))
   refine Qv (Qm ?_)
   rw [<- Y3 hw.cs hp, Qjx h2]
   exact Zz rfl rfl ⟨rfl, rfl⟩
  ·try rw [h2]
   try simp only [qA] at h2
   refine Qg Z (Qa Z (Qg Z (Qk Z Z (Qg Z (QE Z Z Z (Qg Z (Qa Z (Qg Z (QV Z Z Z (by omega) (ZW (by omega) (by omega)) Z (Qg Z (ZV Z Z ?_)))))))))))
   refine Qg Z (QE Z Z Z (Qg Z ?_))
   first | refine Q5 rfl Zd ?_ | refine Q5 rfl rfl ?_
   refine Qg Z (Qhc Z Z (Qj Z Z (hK _ _ (Qb (kp5 Z Z Z Z Z) ?_))))
   refine QC Z (fun h3 => ?_) (fun h3 => ?_)
   ·try rw [h3]
    try simp only [qA] at h3
    refine Qf fun K hK => Qa Z (Qa Z (hK _ _ (Qb (kp2 Z Z) ?_)))
    refine Qv (Qm ?_)
    rw [<- Y3 hw.cs hp, QmM h1a h1b h3]
    exact Zz rfl rfl ⟨rfl, rfl⟩
   ·try rw [h3]
    try simp only [qA] at h3
    refine Qy (Qe (kp4 Z Z Z Z) (Qf fun K hK => Qa Z (Zb Z Z (by first | exact Qr (by omega) (by omega) | exact QW (by omega) (by omega) | exact Q8 (by omega) (by omega) | rfl) (Qps Z Z (by omega) (Qio (by omega)) (Qa Z (hK _ _ (Qb (kp4 Z Z Z Z) ?_)))))))
    refine QH ?_ -- 1
    refine Qf fun K hK => QF (cs := [_]) Z Z Z Z (Qa Z (Qa Z (QB (Qbh hw hl) Z Z (.inr Z) (Qa Z (Qf7 Z Z (Z5 Z Z (Qa Z ?_)))))))
    refine QA (g := 40) Z (fun h4 => ?_) (fun h4 => ?_)
    ·try rw [h4]
     try simp only [qA] at h4
     refine Qo Z (Qo Z (Qo Z (Qj Z Z (hK _ _ (Qb (kp4 Z Z Z Z) ?_)))))
     refine ZD Z (Qf fun K hK => Qa Z (Qa Z (hK _ _ (Qb (kp2 Z Z) ?_))))
     refine Qv (Qm ?_)
     rw [<- Y3 hw.cs hp, QiI h1a h1b (by omega) (by omega) (.inl (by rw [<- Qpy hin]; exact h4))]
     exact Zz rfl rfl ⟨rfl, rfl⟩
    ·try rw [h4]
     try simp only [qA] at h4
     refine Qg Z (Qa Z (Qg Z (Qa Z (Qg Z (QB (Qbg hl) Z Z (.inr Z) (Qj Z Z (hK _ _ (Qb (kp4 Z Z Z Z) ?_))))))))
     refine QC Z (fun h5 => ?_) (fun h5 => ?_)
     ·try rw [h5]
      try simp only [qA] at h5
      refine Qf fun K hK => Qa Z (Qa Z (hK _ _ (Qb (kp2 Z Z) ?_)))
      refine Qv (Qm ?_)
      rw [<- Y3 hw.cs hp, QiI h1a h1b (by omega) (by omega) (.inr h5)]
      exact Zz rfl rfl ⟨rfl, rfl⟩
     ·try rw [h5]
      try simp only [qA] at h5
      refine Qy (Qe (kp3 Z Z Z) (Qf fun K hK => Qa Z (Qa Z (Qa Z (Qa Z (QB (XD hl) Z Z (.inr Z) (Zb Z Z Z (QS Z Z (QB (Qfx (s := ⟨u, 2 ^ (p + 1).toNat, IntKind.i64.wrap (Yw l + 1), -1⟩) hl) Z Z (.inl Z) (Qa Z ?_))))))))))
      refine Qa Z (hK _ _ (Qb (kp2 Z Z) ?_))
      refine Qv ?_
      rw [<- Y3 hw.cs hp, Qjy h1a h1b (by omega) (by omega) (by rw [<- Qpy hin]; exact h4) h5]
      exact Zz rfl rfl ⟨rfl, rfl⟩
end Go.Proofs
namespace M25
open Go Go.Abs M3
/-! ### When, Qir by Qir -/
theorem Qdx {i : Nat} (h : (0 : Int) < i) : ((i : Int) - 1).toNat = i - 1 := by omega
theorem Qj3 {w : Qn} {l : List QD} {inc : List Zo} {i k : Nat} (hm : YH w l = true) (h0 : (0 : Int) < i) (hi : i <= l.length) (hk : k < inc.length) (hkl : k < (Qa8 w l inc i k).length)
  (hu : (l[((i : Int) - 1).toNat]'(by omega)).u = inc[k].u) (hz : ¬ (Qa8 w l inc i k)[k] = 0) : Qa8 w l inc i (k + 1) = (Qa8 w l inc i k).set k (l[((i : Int) - 1).toNat]'(by omega)).m := by
 rw [Ql5 hk, QeH (by omega) hi, if_pos]
 ·simp only [Qdx h0]
 ·refine ⟨by simpa only [Qdx h0] using hu, ?_⟩
  rw [QiV hk hkl] at hz
  cases e : inW w inc[k].u
  ·exact absurd ((Qmz hm).2 e) hz
  ·rfl
theorem Qj4 {w : Qn} {l : List QD} {inc : List Zo} {i k : Nat} (hm : YH w l = true) (h0 : (0 : Int) < i) (hi : i <= l.length) (hk : k < inc.length) (hkl : k < (Qa8 w l inc i k).length) (hz : (Qa8 w l inc i k)[k] = 0) : Qa8 w l inc i (k + 1) = Qa8 w l inc i k := by
 refine QeU hk ?_
 rw [QiV hk hkl] at hz
 have e := (Qmz hm).1 hz
 rw [QeH (by omega) hi, if_neg (by rw [e]; simp)]
theorem QhY {w : Qn} {l : List QD} {inc : List Zo} {i k : Nat} (h0 : (0 : Int) < i) (hi : i <= l.length) (hk : k < inc.length) (hu : ¬ (l[((i : Int) - 1).toNat]'(by omega)).u = inc[k].u) : Qa8 w l inc i (k + 1) = Qa8 w l inc i k := by
 refine QeU hk ?_
 rw [QeH (by omega) hi, if_neg]
 intro h
 exact hu (by simpa only [Qdx h0] using h.1)
theorem QfW {w : Qn} {l : List QD} {inc : List Zo} {i k : Nat} (h0 : ¬ (0 : Int) < i) (hk : k < inc.length) : Qa8 w l inc i (k + 1) = Qa8 w l inc i k := by
 have : i = 0 := by omega
 subst this
 exact QeU hk rfl
theorem Qne {w : Qn} {l : List QD} {inc : List Zo} {i k : Nat} (hk : k < inc.length) (hkl : k < (Qa8 w l inc i (k + 1)).length) : (Qa8 w l inc i (k + 1))[k] = Q7 w (l.take i) inc[k].u := by
 simp only [Qa8]
 rw [List.getElem_append_left (by simp [Ye]; omega)]
 simp [Qac]
def Qfr (w : Qn) (l : List QD) (inc : List Zo) (i k : Nat) : Bool := QhU w (l.take i) (inc.take k)
theorem Qnv {w : Qn} {l : List QD} {inc : List Zo} {i k : Nat} (hm : YH w l = true) (hk : k < inc.length) (hkl : k < (Qa8 w l inc i (k + 1)).length) (h : Qfr w l inc i k = true) : Qfr w l inc i (k + 1) = decide (Qcg (Qa8 w l inc i (k + 1))[k] inc[k].m = 2) := by
 rw [Qne hk hkl, Qnx (Qdh (Ym _ _ rfl (QiU i hm)) _).i64]
 unfold Qfr QhU at *
 rw [List.take_succ_eq_append_getElem hk, List.all_append, h]
 simp
theorem Qnu {w : Qn} {l : List QD} {inc : List Zo} {i k : Nat} (hk : k < inc.length) (h : Qfr w l inc i k = false) : Qfr w l inc i (k + 1) = false := by
 unfold Qfr QhU at *
 rw [List.take_succ_eq_append_getElem hk, List.all_append, h]
 simp
theorem Qik {w : Qn} {l : List QD} {inc : List Zo} {i k : Nat} (hk : inc.length <= k) : Qfr w l inc i k = QhU w (l.take i) inc := by
 rw [Qfr, List.take_of_length_le hk]
/-! ### The Qfq world -/
def XI : Qn := [⟨[], [], [⟨⟨0, 0, 0, [], []⟩, -1, [], []⟩]⟩, ⟨[97, 110, 116], [], [⟨versions.head (by decide), 0, [], []⟩, ⟨versions[1]'(by decide), 0, [], []⟩]⟩]
theorem QaF : WSm XI := by
 refine ⟨by decide, ?_, ?_, ?_, ?_, ?_, ?_⟩ <;> intro u hu <;> simp only [XI, List.mem_cons, List.not_mem_nil, or_false] at hu <;> rcases hu with rfl | rfl
 all_goals first | decide | (intro c hc; simp only [List.mem_cons, List.not_mem_nil, or_false] at hc; rcases hc with rfl | rfl <;> first | (constructor <;> decide) | decide | skip) | (intro c hc; simp only [List.mem_cons, List.not_mem_nil, or_false] at hc; subst hc; first | (constructor <;> decide) | decide | skip)
 all_goals (intro x hx; simp only [List.mem_cons, List.not_mem_nil, or_false] at hx; done)
theorem Qjb : XZ XI [] ⟨1, 1⟩ 4 = some [⟨1, 6, 0, 4⟩] := by decide +kernel
theorem Qja : XY XI [⟨1, 6, 0, 4⟩] 1 1 = some [⟨1, 6, 0, 4⟩, ⟨1, 4, 1, -1⟩] := by decide +kernel
theorem Qe8 : YH XI [⟨1, 6, 0, 4⟩, ⟨1, 4, 1, -1⟩] = true := by decide +kernel
theorem Qig : Q7 XI [⟨1, 6, 0, 4⟩, ⟨1, 4, 1, -1⟩] 1 = 4 := by decide +kernel
theorem Qih : QgI XI [⟨1, 6, 0, 4⟩, ⟨1, 4, 1, -1⟩] [⟨1, 4⟩] = 2 := by decide +kernel
theorem QgT : Qc6 XI [⟨1, 6, 0, 4⟩] := by
 intro s hs
 simp only [List.mem_cons, List.not_mem_nil, or_false] at hs
 subst hs
 constructor <;> decide
end M25
namespace Go.Proofs
open Go Go.Abs M3 M25
set_option linter.unusedVariables false
set_option linter.unusedSimpArgs false
theorem Qhn {w : Qn} (hw : WSm w) {l : List QD} (hl : l.length <= 10000000) (hm : YH w l = true) {inc : List Zo} (hi : inc.length <= 1000000) : Ok Try.prog 21 [XV w, Z7 l, QdC inc] (.int .i64 (QgI w l inc)) := by
 refine Ok.ofT Yi Try.func21 Qrb (Nat.le_of_ble_eq_true Z) ?_
 show TW _ _ tf21.body _ _
 refine Qf fun K hK => Z1 Z Z Z (Qa Z (hK _ _ (Qb (kp3 Z Z Z) ?_)))
 refine Qf fun K hK => Qa Z ?_
 first | refine Q5 rfl Zd ?_ | refine Q5 rfl rfl ?_
 refine QnF Z Z Z (by omega) (by simp; omega) (by simp; omega) (Qa Z (hK _ _ (Qb (kp4 Z Z Z Z) ?_)))
 refine QH ?_ -- 0
 refine Qf fun K hK => Qa Z ?_
 first | refine Q5 rfl Zd ?_ | refine Q5 rfl rfl ?_
 refine Qa Z (hK _ _ (Qb (kp7 Z Z Z Z Z Z Z) ?_))
 refine QJ ?_
 refine Yb (ι := Nat) (fun i => ⟨[(1, Z7 l), (2, QdC inc), (3, .ref 3 0 0), (7, .osl 16 (QdN w inc i).length), (17, QdC inc), (18, .int .i64 inc.length), (19, .int .i64 i)], [(3, ⟨[[.sl ((w).map Qcc)]], 1, 27, true⟩), (16, ⟨(QdN w inc i).map (fun x => [.int .i64 x]), 1, 3, true⟩)]⟩) (fun i => i <= inc.length) (fun i => inc.length - i) 0 ?_ ?_ ?_
 ·exact ZH (l := [1, 2, 3, 7, 17, 18, 19]) (lH := [3, 16]) (kp7 rfl rfl rfl rfl rfl rfl rfl) (Qq rfl (Qq rfl Qz)) (by rw [QfE]; simp) (by rw [QfE]; simp; rfl) rfl
 ·exact Nat.zero_le _
 intro i hI
 have hlen := Qlx w inc (i := i) hI
 try dsimp only
 refine Qf fun K hK => YY Z Z (hK _ _ (Qb (kp8 Z Z Z Z Z Z Z Z) ?_))
 refine QH ?_ -- 1
 refine QC Z (fun h1 => ?_) (fun h1 => ?_)
 ·try rw [h1]
  try simp only [qA] at h1
  refine Qy (Qe (kp7 Z Z Z Z Z Z Z) ?_)
  refine QH ?_ -- 2
  refine QJ (Qf fun K hK => Qa Z (QV Z Z Z (by omega) (Zs (by omega)) Z (QF (cs := [_, _]) Z Z Z Z (ZC Z (Qa Z (QT Z Z Z Z Z Z Z Z (hK _ _ (Qb (kp9 Z Z Z Z Z Z Z Z Z) ?_))))))))
  refine Q4 fun K hK => Qa Z (Qa Z (QF (cs := [_]) Z Z Z Z (Qk Z Z (QE Z Z Z (QB (XU hw) Z Z (.inr Z) (YX Z Z Z (by simp) (by omega) (by omega) Z (QT Z Z (Zs (by omega)) Z Z Z Z Z (hK _ ?_))))))))
  refine Ql (Qe (kp7 Z Z Z Z Z Z Z) (Q4 fun K hK => Zb Z Z (by first | exact Qr (by omega) (by omega) | exact QW (by omega) (by omega) | exact Q8 (by omega) (by omega) | rfl) (Qa Z (hK _ ?_))))
  refine Qp (i + 1) ?_ ?_ ?_
  ·exact ZH (l := [1, 2, 3, 7, 17, 18, 19]) (lH := [3, 16]) (kp7 rfl rfl rfl rfl rfl rfl rfl) (Qq rfl (Qq rfl Qz)) (by rw [QjF (by omega), List.length_set] <;> rfl) (by rw [QjF (by omega), List.map_set] <;> rfl) rfl
  ·omega
  ·first | omega | (simp only; omega) | (dsimp only; omega)
 ·try rw [h1]
  try simp only [qA] at h1
  refine Z0 (Q6 (QM (QU (Qe (kp3 Z Z Z) ?_))))
  refine QH ?_ -- 3
  refine Qf fun K hK => Qa Z ?_
  first | refine Q5 rfl Zd ?_ | refine Q5 rfl rfl ?_
  refine Zb Z Z (by first | exact Qr (by omega) (by omega) | exact QW (by omega) (by omega) | exact Q8 (by omega) (by omega) | rfl) (Qa Z (hK _ _ (Qb (kp5 Z Z Z Z Z) ?_)))
  refine QJ ?_
  refine Yb (ι := Nat) (fun i => ⟨[(1, Z7 l), (2, QdC inc), (7, .osl 16 (Qac w l inc (i - 1)).length), (34, .int .i64 ((l.length : Int) + 1)), (35, .int .i64 i)], [(16, ⟨(Qac w l inc (i - 1)).map (fun x => [.int .i64 x]), 1, 3, true⟩)]⟩) (fun i => i <= (l.length + 1) /\ QgI w l inc = Qb6 w l inc (l.length + 1 - i) i) (fun i => (l.length + 1) - i) 0 ?_ ?_ ?_
  ·exact ZH (l := [1, 2, 7, 34, 35]) (lH := [16]) (kp5 rfl rfl rfl rfl rfl) (Qq rfl Qz) (by rw [Qhy (by omega) l] <;> rfl) (by rw [Qhy (by omega) l] <;> rfl) rfl
  ·exact ⟨Nat.zero_le _, rfl⟩
  intro i hI
  have hlen := Ye w l inc (i - 1)
  try dsimp only
  refine Qf fun K hK => YY Z Z (hK _ _ (Qb (kp6 Z Z Z Z Z Z) ?_))
  refine QH ?_ -- 4
  refine QC Z (fun h2 => ?_) (fun h2 => ?_)
  ·try rw [h2]
   try simp only [qA] at h2
   refine Qy (Qe (kp5 Z Z Z Z Z) ?_)
   refine QH ?_ -- 5
   refine QJ (Qf fun K hK => Qa Z (Qa Z (hK _ _ (Qb (kp6 Z Z Z Z Z Z) ?_))))
   refine Qf fun K hK => Qa Z (hK _ _ (Qb (kp7 Z Z Z Z Z Z Z) ?_))
   refine QH ?_ -- 6
   refine Qf fun K hK => Qa Z ?_
   first | refine Q5 rfl Zd ?_ | refine Q5 rfl rfl ?_
   refine Qa Z (hK _ _ (Qb (QlM Z Z Z Z Z Z Z Z Z Z) ?_))
   refine QJ ?_
   refine Yb (ι := Nat) (fun k => ⟨[(1, Z7 l), (2, QdC inc), (7, .osl 16 (Qa8 w l inc i k).length), (10, .int .i64 i), (11, .bool (Qfr w l inc i k)), (34, .int .i64 ((l.length : Int) + 1)), (35, .int .i64 i), (38, QdC inc), (39, .int .i64 inc.length), (40, .int .i64 k)], [(16, ⟨(Qa8 w l inc i k).map (fun x => [.int .i64 x]), 1, 3, true⟩)]⟩) (fun k => k <= inc.length) (fun k => inc.length - k) 0 ?_ ?_ ?_
   ·exact ZH (l := [1, 2, 7, 10, 11, 34, 35, 38, 39, 40]) (lH := [16]) (QlM rfl rfl rfl rfl rfl rfl rfl rfl rfl rfl) (Qq rfl Qz) (by rw [QhZ] <;> rfl) (by rw [QhZ] <;> rfl) rfl
   ·exact Nat.zero_le _
   intro k hK
   have hlen := Qd3 (w := w) (l := l) (inc := inc) (n := i) (k := k) hK
   try dsimp only
   refine Qf fun K hK => YY Z Z (hK _ _ (Qb (QqY Z Z Z Z Z Z Z Z Z Z Z) ?_))
   refine QH ?_ -- 7
   refine QC Z (fun h3 => ?_) (fun h3 => ?_)
   ·try rw [h3]
    try simp only [qA] at h3
    refine Qy (Qe (QlM Z Z Z Z Z Z Z Z Z Z) ?_)
    refine QH ?_ -- 8
    refine QJ (Qf fun K hK => Qa Z (QV Z Z Z (by omega) (Zs (by omega)) Z (QF (cs := [_, _]) Z Z Z Z (ZC Z (Qa Z (QT Z Z Z Z Z Z Z Z (hK _ _ (Qb (QpM Z Z Z Z Z Z Z Z Z Z Z Z) ?_))))))))
    refine Qk3 (ι := Unit) (fun _ => ⟨[(1, Z7 l), (2, QdC inc), (7, .osl 16 (Qa8 w l inc i (k + 1)).length), (10, .int .i64 i), (11, .bool (Qfr w l inc i k)), (12, .int .i64 k), (13, .ref 13 0 0), (34, .int .i64 ((l.length : Int) + 1)), (35, .int .i64 i), (38, QdC inc), (39, .int .i64 inc.length), (40, .int .i64 k)], [(13, ⟨[QoA (inc[k]'(by omega))], 2, 48, true⟩), (16, ⟨(Qa8 w l inc i (k + 1)).map (fun x => [.int .i64 x]), 1, 3, true⟩)]⟩) (fun _ => True) ?_ ?_
    ·skip
     refine Qf fun K hK => Qa Z (Qg0 Z Z (Qa Z ?_))
     refine QA (g := 47) Z (fun h4 => ?_) (fun h4 => ?_)
     ·try rw [h4]
      try simp only [qA] at h4
      refine Qg Z (Qa Z (Qg Z (Qa Z (Qg Z (Qa9 Z Z (by first | exact Qr (by omega) (by omega) | exact QW (by omega) (by omega) | exact Q8 (by omega) (by omega) | rfl) (Qg Z (QV Z Z Z (by omega) (ZW (by omega) (by omega)) Z (Qg Z (ZV Z Z (Qg Z (Zr (ds0 := [8, 7, 6, 5, 4, 3, 2, 1, 0]) Z Z Z Z Z ?_)))))))))))
      refine Qg Z (Qk Z Z (Qg Z (Zr (ds0 := [8, 7, 6, 5, 4, 3, 2, 1, 0]) Z Z Z Z Z (Qg Z ?_))))
      first | refine Z5 rfl rfl ?_ | refine Qhb rfl rfl ?_
      refine Qj Z Z (Qa Z ?_)
      refine QA (g := 58) Z (fun h5 => ?_) (fun h5 => ?_)
      ·try rw [h5]
       try simp only [qA] at h5
       refine Qg Z (Qa Z (Qg Z (Qa Z (Qg Z (Qar (ds0 := [2, 1, 0]) Z Z Z (by simp) (by omega) (by omega) Z Z Z (Qg Z (Zr (ds0 := [1, 0]) Z (Z2 Z (Zs (by omega))) Z Z Z (Qg Z (Qa3 Z Z (Qj Z Z (hK _ _ (Qb (QqE Z Z Z Z Z Z Z Z Z Z Z Z Z) ?_))))))))))))
       refine QC Z (fun h6 => ?_) (fun h6 => ?_)
       ·try rw [h6]
        try simp only [qA] at h6
        refine Q4 fun K hK => Qa Z (Qa Z (Qa Z (Qa Z (Qa9 Z Z (by first | exact Qr (by omega) (by omega) | exact QW (by omega) (by omega) | exact Q8 (by omega) (by omega) | rfl) (QV Z Z Z (by omega) (ZW (by omega) (by omega)) Z (ZV Z Z (QE Z Z Z (YX Z Z Z (by simp) (by omega) (by omega) Z (QT Z Z (Zs (by omega)) Z Z Z Z Z (hK _ ?_))))))))))
        refine Yu () ?_ ?_
        ·exact ZH (l := [1, 2, 7, 10, 11, 12, 13, 34, 35, 38, 39, 40]) (lH := [13, 16]) (QpM rfl rfl rfl rfl rfl rfl rfl rfl rfl rfl rfl rfl) (Qq rfl (Qq rfl Qz)) (by rw [Qj3 hm h4 (by omega) (by omega) (by omega) h5 h6, List.length_set] <;> rfl) (by rw [Qj3 hm h4 (by omega) (by omega) (by omega) h5 h6, List.map_set] <;> rfl) rfl
        ·exact trivial
       ·try rw [h6]
        try simp only [qA] at h6
        refine Qy ?_
        refine Yu () ?_ ?_
        ·exact ZH (l := [1, 2, 7, 10, 11, 12, 13, 34, 35, 38, 39, 40]) (lH := [13, 16]) (QpM rfl rfl rfl rfl rfl rfl rfl rfl rfl rfl rfl rfl) (Qq rfl (Qq rfl Qz)) (by rw [Qj4 hm h4 (by omega) (by omega) (by omega) h6] <;> rfl) (by rw [Qj4 hm h4 (by omega) (by omega) (by omega) h6] <;> rfl) rfl
        ·exact trivial
      ·try rw [h5]
       try simp only [qA] at h5
       refine Qo Z (Qo Z (Qo Z (Qo Z (Qo Z (Qj Z Z (hK _ _ (Qb (QqE Z Z Z Z Z Z Z Z Z Z Z Z Z) ?_)))))))
       refine Ya Z (Qy ?_)
       refine Yu () ?_ ?_
       ·exact ZH (l := [1, 2, 7, 10, 11, 12, 13, 34, 35, 38, 39, 40]) (lH := [13, 16]) (QpM rfl rfl rfl rfl rfl rfl rfl rfl rfl rfl rfl rfl) (Qq rfl (Qq rfl Qz)) (by rw [QhY h4 (by omega) (by omega) h5] <;> rfl) (by rw [QhY h4 (by omega) (by omega) h5] <;> rfl) rfl
       ·exact trivial
     ·try rw [h4]
      try simp only [qA] at h4
      refine Qo Z (Qo Z (Qo Z (Qo Z (Qo Z (Qo Z (Qo Z (Qo Z (Qo Z (Qj Z Z (Qa Z (Qo Z ?_)))))))))))
      refine Qo Z (Qo Z (Qo Z (Qo Z (Qj Z Z (hK _ _ (Qb (QqE Z Z Z Z Z Z Z Z Z Z Z Z Z) ?_))))))
      refine Ya Z (Qy ?_)
      refine Yu () ?_ ?_
      ·exact ZH (l := [1, 2, 7, 10, 11, 12, 13, 34, 35, 38, 39, 40]) (lH := [13, 16]) (QpM rfl rfl rfl rfl rfl rfl rfl rfl rfl rfl rfl rfl) (Qq rfl (Qq rfl Qz)) (by rw [QfW h4 (by omega)] <;> rfl) (by rw [QfW h4 (by omega)] <;> rfl) rfl
      ·exact trivial
    intro _ hJ
    have hk : k < inc.length := by omega
    have hlen1 := Qd3 (w := w) (l := l) (inc := inc) (n := i) (k := k + 1) (by omega)
    try dsimp only
    refine Q4 fun K hK => Qa Z (Qa Z ?_)
    refine QA (g := 75) Z (fun h7 => ?_) (fun h7 => ?_)
    ·try rw [h7]
     try simp only [qA] at h7
     refine Qg Z (Qa Z (Qg Z (Qa Z (Qg Z (Qar (ds0 := [6, 3, 2, 1, 0]) Z Z Z (by simp) (by omega) (by omega) Z Z Z (Qg Z (Zr (ds0 := [3, 2, 1, 0]) Z (Z2 Z (Zs (by omega))) Z Z Z (Qg Z (Qk Z Z (Qg Z (Zr (ds0 := [3, 2, 1, 0]) Z Z Z Z Z ?_)))))))))))
     refine Qg Z (Zh (ds0 := [2, 1, 0]) (Qhl) Z Z (.inr Z) Z Z (Qg Z (Z5 Z Z (Qj Z Z (Qa Z (hK _ ?_))))))
     refine Ql (Qe (QlM Z Z Z Z Z Z Z Z Z Z) (Q4 fun K hK => Zb Z Z (by first | exact Qr (by omega) (by omega) | exact QW (by omega) (by omega) | exact Q8 (by omega) (by omega) | rfl) (Qa Z (hK _ ?_))))
     refine Qp (k + 1) ?_ ?_ ?_
     ·exact ZH (l := [1, 2, 7, 10, 11, 34, 35, 38, 39, 40]) (lH := [16]) (QlM rfl rfl rfl rfl rfl rfl rfl rfl rfl rfl) (Qq rfl Qz) (by rw [Qnv hm hk (by rw [Qd3 (by omega)]; exact hk) h7] <;> rfl) rfl rfl
     ·omega
     ·first | omega | (simp only; omega) | (dsimp only; omega)
    ·try rw [h7]
     try simp only [qA] at h7
     refine Qo Z (Qo Z (Qo Z (Qo Z (Qo Z (Qo Z (Qo Z (Qo Z (Qj Z Z (Qa Z (hK _ ?_))))))))))
     refine Ql (Qe (QlM Z Z Z Z Z Z Z Z Z Z) (Q4 fun K hK => Zb Z Z (by first | exact Qr (by omega) (by omega) | exact QW (by omega) (by omega) | exact Q8 (by omega) (by omega) | rfl) (Qa Z (hK _ ?_))))
     refine Qp (k + 1) ?_ ?_ ?_
     ·exact ZH (l := [1, 2, 7, 10, 11, 34, 35, 38, 39, 40]) (lH := [16]) (QlM rfl rfl rfl rfl rfl rfl rfl rfl rfl rfl) (Qq rfl Qz) (by rw [Qnu hk h7] <;> rfl) rfl rfl
     ·omega
     ·first | omega | (simp only; omega) | (dsimp only; omega)
   ·try rw [h3]
    try simp only [qA] at h3
    refine Z0 (Q6 (QM (QU (Qe (kp7 Z Z Z Z Z Z Z) (Qf fun K hK => Qa Z (hK _ _ (Qb (kp7 Z Z Z Z Z Z Z) ?_)))))))
    refine QC Z (fun h8 => ?_) (fun h8 => ?_)
    ·try rw [h8]
     try simp only [qA] at h8
     refine Qf fun K hK => Qa Z (Qa Z (hK _ _ (Qb (kp1 Z) ?_)))
     refine Qv (Qw (Qm (Zw (Qw (Qm (Qx Z ?_))))))
     rw [QnC (by omega) (by rw [<- Qik (k := k) (by omega)]; exact h8) hI.2]
    ·try rw [h8]
     try simp only [qA] at h8
     refine Qy (Ql (Qe (kp5 Z Z Z Z Z) (Q4 fun K hK => Zb Z Z (by first | exact Qr (by omega) (by omega) | exact QW (by omega) (by omega) | exact Q8 (by omega) (by omega) | rfl) (Qa Z (hK _ ?_)))))
     refine Qp (i + 1) ?_ ?_ ?_
     ·exact ZH (l := [1, 2, 7, 34, 35]) (lH := [16]) (kp5 rfl rfl rfl rfl rfl) (Qq rfl Qz) (by rw [Qj2 (by omega)] <;> rfl) (by rw [Qj2 (by omega)] <;> rfl) rfl
     ·exact ⟨by omega, Qo8 (by omega) (by rw [<- Qik (k := k) (by omega)]; exact h8) hI.2⟩
     ·first | omega | (simp only; omega) | (dsimp only; omega)
  ·try rw [h2]
   try simp only [qA] at h2
   refine Z0 (Q6 (QM (QU (Qe (QZ) (Qf fun K hK => Qa Z (hK _ _ (Qb (kp1 Z) ?_)))))))
   refine Qv (Qx Z ?_)
   rw [QnB (by omega) hI.2]
end Go.Proofs
namespace M25
open Go Go.Abs M3
/-! ### What a run is: steps, one open after the other -/
inductive Qk2 (w : Qn) (db : List (List Zo)) : List QD -> List QD -> Prop
 | nil (l : List QD) : Qk2 w db l l
 | cons {l x : List QD} (a k : Nat) (ho : Qpn w db l a k) (h : Qk2 w db (l ++ [QqV w l ((db[a]'ho.ha)[k]'ho.hk) a]) x) : Qk2 w db l x
section
variable {w : Qn} {db : List (List Zo)}
def Below (w : Qn) (b l : List QD) : Prop := ∀ u i, tb (Q7 w b u) i = true -> tb (Q7 w l u) i = true
theorem Below.refl (l : List QD) : Below w l l := fun _ _ h => h
/-! ### Sound: a choice stays -/
end
end M25
namespace M25
open Go Go.Abs M3
end M25
namespace M25
open Go Go.Abs M3
/-! ### More of runs -/
end M25
namespace M25
open Go Go.Abs M3
/-! ### The facts in another order -/
end M25
namespace M25
open Go Go.Abs M3
/-! ### How long a run is -/
structure Good (w : Qn) (l : List QD) : Prop where
 p : Qc6 w l
 nz : ∀ u, inW w u = true -> Q7 w l u ≠ 0
 le : ∀ u i, tb (Q7 w l u) i = true -> tb (YB w u) i = true
end M25
namespace M25
open Go Go.Abs M3
/-! ### Masks are of values that there are -/
/-! ### Each Qir of a run -/
end M25
namespace M25
open Go Go.Abs M3
end M25
namespace M25
open Go Go.Abs M3
/-! ### Derive again -/
theorem Qjc : ∀ s ∈ ([⟨1, 6, 0, 4⟩, ⟨1, 4, 1, -1⟩] : List QD), I64 s.m := by
 intro s hs
 simp only [List.mem_cons, List.not_mem_nil, or_false] at hs
 rcases hs with rfl | rfl <;> constructor <;> decide
/-! ### Sure, and what holds -/
end M25
namespace Go.Proofs
open Go Go.Abs M3 M25
set_option linter.unusedVariables false
set_option linter.unusedSimpArgs false
theorem Qnn {rows : List (List D)} (h : (rows.all fun r => r.all fun d => d.sid.isEmpty) = true) : ∀ r ∈ rows, ∀ d ∈ r, d.sid = [] := fun r hr d hd => by
  have := List.all_eq_true.1 (List.all_eq_true.1 h r hr) d hd
  simpa using this
theorem Qbc  : Ok Try.prog 19 [] (XV XI) := by
  refine Ok.ofT Yi Try.func19 Qq9 (Nat.le_of_ble_eq_true Z) ?_
  show TW _ _ tf19.body _ _
  refine Qf fun K hK => ZC Z (hK _ _ (Qb (kp1 Z) ?_))
  refine Qf fun K hK => QB (Y0) Z Z (.inl Z) (Qa Z (hK _ _ (Qb (kp2 Z Z) ?_)))
  refine Qf fun K hK => QS Z Z (QG Z Z (QS Z Z (Qa Z (QV Z Z Z (by decide) Z Z (QY (ds0 := [9, 4, 3, 2, 1, 0]) (cs := [_, _, _, _, _]) Z Z Z Z Z Z (QS Z Z (Qa Z (QV Z Z Z (by decide) Z Z (QY (ds0 := [5, 4, 3, 2, 1, 0]) (cs := [_, _, _, _, _]) Z Z Z Z Z Z (QS Z Z ?_))))))))))
  refine QG Z Z (QS Z Z (QG Z Z (QS Z Z (XB (ds0 := []) Z Z Z Z Z Z Z Z Z Z (hK _ _ (Qb (kp1 Z) ?_))))))
  refine Qom (QdW 0 (k := 4) Z) (Qom (QdW 0 (k := 14) Z) (Qom (QdW 1 (k := 14) Z) (Qom (QpO (l := [0]) (lH := [0, 14]) 16 4 false (kp1 Z) (Qq Z (Qq Z Qz)) Z Z Z Z Z (by simp) (by decide) Z Z Z Z) (Qom (QpO (l := [0]) (lH := [0]) 16 14 true (kp1 Z) (Qq Z Qz) Z Z Z Z Z (fun _ => ⟨List.cons_ne_nil _ _, Qnn rfl⟩) (by decide) Z Z Z Z) (Qv (Zv (cs := [_]) Z Z Z Z ?_))))))
  rfl
theorem Xn  : Ok Try.prog 5 [] (.bool true) := by
  refine Ok.ofT Yi Try.func5 tp5 (Nat.le_of_ble_eq_true Z) ?_
  show TW _ _ tf5.body _ _
  refine Qf fun K hK => Qa Z (hK _ _ (Qb (QZ) ?_))
  refine Qf fun K hK => QB (Qbc) Z Z (.inl Z) (ZC Z (QT Z Z Z Z Z Z Z Z (hK _ _ (Qb (kp1 Z) ?_))))
  refine Qf fun K hK => QF (cs := [_]) Z Z Z Z (QS Z Z ?_)
  have hc1 := Qfi QaF (l := []) (by decide) (fun _ h => by cases h) (t := ⟨1, 1⟩) (c := 4)
  rw [Qjb] at hc1
  refine QB (hc1) Z Z (.inl Z) (Qa Z (Zy Z Z (Zy Z Z (Qa Z (Qa Z (hK _ _ (Qb (kp3 Z Z Z) ?_)))))))
  refine Qf fun K hK => QF (cs := [_]) Z Z Z Z (Qa Z ?_)
  have hc2 := Qaj QaF (l := [⟨1, 6, 0, 4⟩]) (by decide) QgT (u := 1) (p := 1)
  rw [Qja] at hc2
  refine QB (hc2) Z Z (.inl Z) (Qa Z (Zy Z Z (Zy Z Z (Qa Z (Qa Z (hK _ _ (Qb (kp4 Z Z Z Z) ?_)))))))
  refine Qf fun K hK => Qa Z (Qa Z ?_)
  refine QA (g := 20) Z (fun h1 => ?_) (fun h1 => ?_)
  · try rw [h1]
    try simp only [qA] at h1
    first
      | exfalso; revert h1; decide
      | skip
        refine Qg Z (Qa Z (Qj Z Z (Qa Z ?_)))
        refine QA (g := 23) Z (fun h2 => ?_) (fun h2 => ?_)
        · try rw [h2]
          try simp only [qA] at h2
          first
            | exfalso; revert h2; decide
            | skip
              refine Qg Z (Qa Z (Qg Z ?_))
              first | refine Q5 rfl Zd ?_ | refine Q5 rfl rfl ?_
              refine Qg Z (Z5 Z Z (Qj Z Z (Qa Z ?_)))
              refine QA (g := 28) Z (fun h3 => ?_) (fun h3 => ?_)
              · try rw [h3]
                try simp only [qA] at h3
                first
                  | exfalso; revert h3; decide
                  | skip
                    refine Qg Z (Qa Z (Qg Z (QV Z Z Z (by decide) Z Z (Qg Z (QF (cs := [_, _, _, _]) Z Z Z Z (Qg Z (QS Z Z (Qg Z (Qjq Z Z Z (Qj Z Z (Qa Z ?_)))))))))))
                    refine QA (g := 35) Z (fun h4 => ?_) (fun h4 => ?_)
                    · try rw [h4]
                      try simp only [qA] at h4
                      first
                        | exfalso; revert h4; decide
                        | skip
                          refine Qg Z (Qa Z (Qg Z (QV Z Z Z (by decide) Z Z (Qg Z (QF (cs := [_, _, _, _]) Z Z Z Z (Qg Z (QS Z Z (Qg Z (Qjq Z Z Z (Qj Z Z (Qa Z ?_)))))))))))
                          refine QA (g := 42) Z (fun h5 => ?_) (fun h5 => ?_)
                          · try rw [h5]
                            try simp only [qA] at h5
                            first
                              | exfalso; revert h5; decide
                              | skip
                                refine Qg Z (QF (cs := [_]) Z Z Z Z (Qg Z (Qa Z (Qg Z ?_))))
                                have hc3 := Qel QaF (l := [⟨1, 6, 0, 4⟩, ⟨1, 4, 1, -1⟩]) (by decide) Qjc
                                rw [Qe8] at hc3
                                refine QB (hc3) Z Z (.inr Z) (Qj Z Z (Qa Z ?_))
                                refine QA (g := 47) Z (fun h6 => ?_) (fun h6 => ?_)
                                · try rw [h6]
                                  try simp only [qA] at h6
                                  first
                                    | exfalso; revert h6; decide
                                    | skip
                                      refine Qg Z (QF (cs := [_]) Z Z Z Z (Qg Z (Qa Z (Qg Z ?_))))
                                      have hc4 := X9 QaF (l := [⟨1, 6, 0, 4⟩, ⟨1, 4, 1, -1⟩]) (by decide) (u := 1)
                                      rw [Qig] at hc4
                                      refine QB (hc4) Z Z (.inr Z) (Qg Z (Z5 Z Z (Qj Z Z (Qa Z ?_))))
                                      refine QA (g := 53) Z (fun h7 => ?_) (fun h7 => ?_)
                                      · try rw [h7]
                                        try simp only [qA] at h7
                                        first
                                          | exfalso; revert h7; decide
                                          | skip
                                            refine Qg Z (QF (cs := [_]) Z Z Z Z (Qg Z (Qa Z (Qg Z (QS Z Z (Qg Z (QG Z Z (Qg Z ?_))))))))
                                            have hc5 := Qhn QaF (l := [⟨1, 6, 0, 4⟩, ⟨1, 4, 1, -1⟩]) (by decide) Qe8 (inc := [⟨1, 4⟩]) (by decide)
                                            rw [Qih] at hc5
                                            refine QB (hc5) Z Z (.inr Z) (Qg Z (Z5 Z Z (Qj Z Z (Qa Z (hK _ _ (Qb (kp1 Z) ?_))))))
                                            refine Qv (Qt Z ?_)
                                            rfl
                                      · try rw [h7]
                                        try simp only [qA] at h7
                                        first
                                          | exfalso; revert h7; decide
                                          | skip
                                            refine Qo Z (Qo Z (Qo Z (Qo Z (Qo Z (Qo Z (Qj Z Z (Qa Z (hK _ _ (Qb (kp1 Z) ?_)))))))))
                                            refine Qv (Qt Z ?_)
                                            rfl
                                · try rw [h6]
                                  try simp only [qA] at h6
                                  first
                                    | exfalso; revert h6; decide
                                    | skip
                                      refine Qo Z (Qo Z (Qo Z (Qo Z (Qj Z Z (Qa Z (Qo Z (Qo Z (Qo Z (Qo Z (Qo Z (Qo Z ?_)))))))))))
                                      refine Qj Z Z (Qa Z (hK _ _ (Qb (kp1 Z) ?_)))
                                      refine Qv (Qt Z ?_)
                                      rfl
                          · try rw [h5]
                            try simp only [qA] at h5
                            first
                              | exfalso; revert h5; decide
                              | skip
                                refine Qo Z (Qo Z (Qo Z (Qj Z Z (Qa Z (Qo Z (Qo Z (Qo Z (Qo Z (Qj Z Z (Qa Z (Qo Z ?_)))))))))))
                                refine Qo Z (Qo Z (Qo Z (Qo Z (Qo Z (Qj Z Z (Qa Z (hK _ _ (Qb (kp1 Z) ?_))))))))
                                refine Qv (Qt Z ?_)
                                rfl
                    · try rw [h4]
                      try simp only [qA] at h4
                      first
                        | exfalso; revert h4; decide
                        | skip
                          refine Qo Z (Qo Z (Qo Z (Qo Z (Qo Z (Qj Z Z (Qa Z (Qo Z (Qo Z (Qo Z (Qj Z Z (Qa Z ?_)))))))))))
                          refine Qo Z (Qo Z (Qo Z (Qo Z (Qj Z Z (Qa Z (Qo Z (Qo Z (Qo Z (Qo Z (Qo Z (Qo Z ?_)))))))))))
                          refine Qj Z Z (Qa Z (hK _ _ (Qb (kp1 Z) ?_)))
                          refine Qv (Qt Z ?_)
                          rfl
              · try rw [h3]
                try simp only [qA] at h3
                first
                  | exfalso; revert h3; decide
                  | skip
                    refine Qo Z (Qo Z (Qo Z (Qo Z (Qo Z (Qj Z Z (Qa Z (Qo Z (Qo Z (Qo Z (Qo Z (Qo Z ?_)))))))))))
                    refine Qj Z Z (Qa Z (Qo Z (Qo Z (Qo Z (Qj Z Z (Qa Z (Qo Z (Qo Z (Qo Z (Qo Z (Qj Z Z ?_)))))))))))
                    refine Qa Z (Qo Z (Qo Z (Qo Z (Qo Z (Qo Z (Qo Z (Qj Z Z (Qa Z (hK _ _ (Qb (kp1 Z) ?_))))))))))
                    refine Qv (Qt Z ?_)
                    rfl
        · try rw [h2]
          try simp only [qA] at h2
          first
            | exfalso; revert h2; decide
            | skip
              refine Qo Z (Qo Z (Qo Z (Qj Z Z (Qa Z (Qo Z (Qo Z (Qo Z (Qo Z (Qo Z (Qj Z Z (Qa Z ?_)))))))))))
              refine Qo Z (Qo Z (Qo Z (Qo Z (Qo Z (Qj Z Z (Qa Z (Qo Z (Qo Z (Qo Z (Qj Z Z (Qa Z ?_)))))))))))
              refine Qo Z (Qo Z (Qo Z (Qo Z (Qj Z Z (Qa Z (Qo Z (Qo Z (Qo Z (Qo Z (Qo Z (Qo Z ?_)))))))))))
              refine Qj Z Z (Qa Z (hK _ _ (Qb (kp1 Z) ?_)))
              refine Qv (Qt Z ?_)
              rfl
  · try rw [h1]
    try simp only [qA] at h1
    first
      | exfalso; revert h1; decide
      | skip
        refine Qo Z (Qj Z Z (Qa Z (Qo Z (Qo Z (Qo Z (Qj Z Z (Qa Z (Qo Z (Qo Z (Qo Z (Qo Z ?_)))))))))))
        refine Qo Z (Qj Z Z (Qa Z (Qo Z (Qo Z (Qo Z (Qo Z (Qo Z (Qj Z Z (Qa Z (Qo Z (Qo Z ?_)))))))))))
        refine Qo Z (Qj Z Z (Qa Z (Qo Z (Qo Z (Qo Z (Qo Z (Qj Z Z (Qa Z (Qo Z (Qo Z (Qo Z ?_)))))))))))
        refine Qo Z (Qo Z (Qo Z (Qj Z Z (Qa Z (hK _ _ (Qb (kp1 Z) ?_))))))
        refine Qv (Qt Z ?_)
        rfl
end Go.Proofs
namespace Go.Proofs
open Go Go.Abs M3 M25
set_option linter.unusedVariables false
set_option linter.unusedSimpArgs false
end Go.Proofs
namespace Go.Proofs
open Go Go.Abs M3 M25
set_option linter.unusedVariables false
set_option linter.unusedSimpArgs false
end Go.Proofs
