/- Part 4 of the means of the proof: a verified abstract evaluator, the prepared functions, and contracts of functions. It states nothing of the claim by itself. -/
import Derived.Test.YthcgjgfjoodliaaDoorB3
set_option maxRecDepth 4000
set_option linter.unusedSimpArgs false
set_option linter.unusedVariables false
namespace M25
open Go Go.Abs M3
def FL (a b c : Int) : Bool := decide (a = 0) && decide (b = 0) && decide (c = 0)
def X6 (a b c : Int) (p q : List UInt8) (part : Int) : Option (Int × Int × Int) :=
 if J8 a b c p q = false \/ part < 0 \/ 2 < part then none
 else
  let o := if part = 0 then (a + 1, 0, 0) else if part = 1 then (a, b + 1, 0) else (a, b, c + 1)
  if J8 o.1 o.2.1 o.2.2 [] [] = true then some o else none
def dOV (o : Option (Int × Int × Int)) : D := .tup [.agg [.int .i64 (o.getD (0, 0, 0)).1, .int .i64 (o.getD (0, 0, 0)).2.1, .int .i64 (o.getD (0, 0, 0)).2.2, .str [], .str []], .bool o.isSome]
def XI (a b c : Int) (p q : List UInt8) : Nat -> Option (Int × Int × Int)
 | 0 => none
 | n + 1 => if (X6 a b c p q n).isSome = true then X6 a b c p q n else XI a b c p q n
def RO (a b c : Int) (p q : List UInt8) : Option (Int × Int × Int) :=
 if J8 a b c p q = false then none else if p ≠ [] then some (a, b, c) else XI a b c p q 3
theorem HE {a b c : Int} {p q : List UInt8} (h : J8 a b c p q = true) : (0 <= a /\ a <= 9999) /\ (0 <= b /\ b <= 9999) /\ (0 <= c /\ c <= 9999) := by
 simp only [J8, My, QeL, decide_eq_true_eq] at h
 omega
theorem Ss {a b c : Int} {p q : List UInt8} {m : Nat} (hm : 0 < m) (h : (X6 a b c p q ((m : Int) - 1)).isSome = false) : XI a b c p q m = XI a b c p q (m - 1) := by
 obtain ⟨n, rfl⟩ : ∃ n, m = n + 1 := ⟨m - 1, Wa⟩
 rw [show ((n + 1 : Nat) : Int) - 1 = (n : Int) by omega] at h
 rw [XI, if_neg (by rw [h]; simp)]; rfl
theorem Rl {a b c : Int} {p q : List UInt8} {m : Nat} (hm : 0 < m) (h : (X6 a b c p q ((m : Int) - 1)).isSome = true) : XI a b c p q m = X6 a b c p q ((m : Int) - 1) := by
 obtain ⟨n, rfl⟩ : ∃ n, m = n + 1 := ⟨m - 1, Wa⟩
 rw [show ((n + 1 : Nat) : Int) - 1 = (n : Int) by omega] at h ⊢
 rw [XI, if_pos h]
def dCu (x : Cu) : List D := [.int .i64 x.e, .int .i64 x.a, .int .i64 x.b, .int .i64 x.c, .str x.p, .str x.q, .bool x.f]
def Ft (s : Cu × Cu) : List D := dCu s.1 ++ dCu s.2
def Q3 (l : List (Cu × Cu)) : D := .sl (l.map Ft)
def Gn (s : List (Cu × Cu) × List (Cu × Cu)) : D := .agg [Q3 s.1, Q3 s.2]
def H6 : Cu := ⟨-1, 0, 0, 0, [], [], false⟩
def Mx : Cu := ⟨1, 0, 0, 0, [], [], false⟩
def N5 (a b c : Int) : Cu := if FL a b c = true then H6 else ⟨0, a, b, c, [], [], false⟩
def G1 (a b c : Int) : Cu := match RO a b c [] [] with
 | none => Mx
 | some o => ⟨0, o.1, o.2.1, o.2.2, [], [], false⟩
def Yy (a b c : Int) (p q : List UInt8) : List (Cu × Cu) × List (Cu × Cu) :=
 if J8 a b c p q = false then ([], []) else if p ≠ [] then ([], [(⟨0, a, b, c, p, [], false⟩, ⟨0, a, b, c, p, [], true⟩)]) else ([(N5 a b c, G1 a b c)], [])
def FM (e a b c : Int) (p q : List UInt8) (f : Bool) : Bool := !decide (e = 0) || (!f && decide (p = []) && !FL a b c)
def Cu.sm (x : Cu) : Prop := x.p.length <= 1000000 /\ x.q.length <= 1000000
def Sm (l : List (Cu × Cu)) : Prop := l.length <= 1000000 /\ ∀ s ∈ l, Cu.sm s.1 /\ Cu.sm s.2
theorem Sm.at {l : List (Cu × Cu)} (h : Sm l) {i : Nat} (hi : i < l.length) : (l[i].1.p.length <= 1000000 /\ l[i].1.q.length <= 1000000) /\ (l[i].2.p.length <= 1000000 /\ l[i].2.q.length <= 1000000) := h.2 _ (QeM hi)
def Gc (s : Cu × Cu) : Bool := Hf s.1.e s.1.a s.1.b s.1.c s.1.p s.1.q s.1.f s.2.e s.2.a s.2.b s.2.c s.2.p s.2.q s.2.f
def KE (x y : Cu) : Int := Yt x.e x.a x.b x.c x.p x.q x.f y.e y.a y.b y.c y.p y.q y.f
def QaP (l : List (Cu × Cu)) (i : Nat) : Bool := match l[i]? with
 | none => true
 | some s => Gc s && (decide (i = 0) || match l[i - 1]? with | none => true | some r => decide (KE r.2 s.1 < 0))
theorem SV {l : List (Cu × Cu)} {i : Nat} (h : i < l.length) : QaP l i = (Gc l[i] && (decide (i = 0) || decide (KE (l[i - 1]'Wa).2 l[i].1 < 0))) := by
 unfold QaP
 rw [List.getElem?_eq_getElem h, List.getElem?_eq_getElem (Wa : i - 1 < l.length)]
theorem TQ {l : List (Cu × Cu)} {i : Nat} (h : i < l.length) (h1 : Gc l[i] = true) (h2 : i = 0 \/ KE (l[i - 1]'Wa).2 l[i].1 < 0) : QaP l i = true := by
 rw [SV h, h1]; simpa using h2
theorem KP {l : List (Cu × Cu)} {i : Nat} (h : i < l.length) (h1 : Gc l[i] = false \/ (i ≠ 0 /\ 0 <= KE (l[i - 1]'Wa).2 l[i].1)) : QaP l i = false := by
 rw [SV h]
 rcases h1 with h1 | ⟨h1, h2⟩
 ·rw [h1]; rfl
 ·simp only [QeU, Bool.or_eq_false_iff, decide_eq_false_iff_not]
  exact .inr ⟨h1, Wa⟩
def Kh (l : List (Cu × Cu)) : Bool := (List.range l.length).all (QaP l)
theorem Y5 {n i : Nat} {p : Nat -> Bool} (h : i < n) (hp : p i = false) : (List.range n).all p = false := by
 rw [Bool.eq_false_iff]; intro ha
 rw [QeR] at ha
 rw [ha i (Qe4.2 h)] at hp; cases hp
theorem Nf {i : Nat} {p : Nat -> Bool} (h : (List.range i).all p = true) (hp : p i = true) : (List.range (i + 1)).all p = true := by
 rw [List.range_succ, List.all_append, h]; simp [hp]
theorem HH {i : Nat} {p : Nat -> Bool} {n : Nat} (h : (List.range i).all p = true) (hn : n <= i) : (List.range n).all p = true := by
 rw [QeR] at h ⊢
 exact fun x hx => h x (Qe4.2 (Nat.lt_of_lt_of_le (Qe4.1 hx) hn))
def PG (s : Cu × Cu) (a b c : Int) (p q : List UInt8) : Bool := Gb s.1.e s.1.a s.1.b s.1.c s.1.p s.1.q s.1.f s.2.e s.2.a s.2.b s.2.c s.2.p s.2.q s.2.f a b c p q
def PF (l : List (Cu × Cu)) (a b c : Int) (p q : List UInt8) : Bool := Kh l && l.any fun s => PG s a b c p q
theorem Pu {l : List (Cu × Cu)} {a b c : Int} {p q : List UInt8} {i : Nat} (hi : l.length <= i) (h : (l.take i).any (fun s => PG s a b c p q) = false) : PF l a b c p q = false := by
 rw [QeX hi] at h; rw [PF, h, Bool.and_false]
theorem Pv {l : List (Cu × Cu)} {a b c : Int} {p q : List UInt8} (h : Kh l = false) : PF l a b c p q = false := by rw [PF, h]; rfl
theorem Pw {l : List (Cu × Cu)} {a b c : Int} {p q : List UInt8} {i : Nat} (h : Kh l = true) (hi : i < l.length) (hp : PG l[i] a b c p q = true) : PF l a b c p q = true := by
 rw [PF, h, Bool.true_and]; exact List.any_eq_true.2 ⟨_, QeM hi, hp⟩
def inC (x y : Cu) (s : Cu × Cu) : Bool := decide (KE s.1 x <= 0) && decide (KE y s.2 <= 0)
theorem QbT {x y : Cu} {s : Cu × Cu} (h1 : KE s.1 x <= 0) (h2 : KE y s.2 <= 0) : inC x y s = true := by simp [inC, h1, h2]
theorem QbS {x y : Cu} {s : Cu × Cu} (h : ¬ KE s.1 x <= 0 \/ ¬ KE y s.2 <= 0) : inC x y s = false := by
 simp only [inC, QeU, decide_eq_false_iff_not]; exact h
def mIn (l : List (Cu × Cu)) (x y : Cu) : Bool := l.any (inC x y)
theorem LN {α : Type} {s : List α} {p : α -> Bool} {i : Nat} (h : i < s.length) (hp : p s[i] = true) : s.any p = true := List.any_eq_true.2 ⟨_, QeM h, hp⟩
theorem Bx {α : Type} {s : List α} {p : α -> Bool} {i : Nat} (hi : s.length <= i) (h : (s.take i).any p = false) : s.any p = false := by rwa [QeX hi] at h
theorem LM {α : Type} {s : List α} {p : α -> Bool} {i : Nat} (h : i < s.length) (ha : (s.take i).any p = false) (hp : p s[i] = false) : (s.take (i + 1)).any p = false := by
 rw [List.take_succ_eq_append_getElem h, List.any_append, ha]; simp [hp]
def Xf (x : Cu) : Bool := FM x.e x.a x.b x.c x.p x.q x.f
def Xo (s : List (Cu × Cu) × List (Cu × Cu)) : Bool := Kh s.1 && Kh s.2 && s.1.all fun x => Xf x.1 && Xf x.2
def SQ (s : List (Cu × Cu) × List (Cu × Cu)) (a b c : Int) (p q : List UInt8) : Bool :=
 Xo s && J8 a b c p q && (if p = [] then PF s.1 a b c p q else PF s.2 a b c p q)
theorem J6 {s : List (Cu × Cu) × List (Cu × Cu)} (h : Kh s.1 = false \/ Kh s.2 = false) : Xo s = false := by
 rw [Xo]; rcases h with h | h <;> simp [h]
theorem Jm {s : List (Cu × Cu) × List (Cu × Cu)} {i : Nat} (hi : i < s.1.length) (h : Xf s.1[i].1 = false \/ Xf s.1[i].2 = false) : Xo s = false := by
 have : (s.1.all fun x => Xf x.1 && Xf x.2) = false := Yh hi (by rcases h with h | h <;> simp [h])
 rw [Xo, this, Bool.and_false]
theorem G6 {s : List (Cu × Cu) × List (Cu × Cu)} {i : Nat} (h1 : Kh s.1 = true) (h2 : Kh s.2 = true) (hi : s.1.length <= i) (h : (s.1.take i).all (fun x => Xf x.1 && Xf x.2) = true) : Xo s = true := by
 rw [QeX hi] at h
 rw [Xo, h1, h2, h]; rfl
def Ms (l : List Cu) : D := .sl (l.map dCu)
theorem R2 {l : List Cu} : ∀ r ∈ l.map dCu, r.length = 7 := fun r hr => by obtain ⟨x, _, rfl⟩ := QeV.1 hr; rfl
theorem Bh {l : List Cu} {a b : Nat} : ∀ r ∈ ((l.map dCu).take a).drop b, r.length = 7 := fun r hr => R2 r (Qe1 (List.mem_of_mem_drop hr))
def He : List Cu -> Cu -> List Cu
 | [], c => [c]
 | x :: r, c => if KE x c < 0 then x :: He r c else if KE x c = 0 then x :: r else c :: x :: r
theorem DJ {l : List Cu} {c : Cu} {k : Nat} (hk : k < l.length) (h : KE l[k] c < 0) (hi : He l c = l.take k ++ He (l.drop k) c) : He l c = l.take (k + 1) ++ He (l.drop (k + 1)) c := by
 rw [hi, QeY hk, He, if_pos h, List.take_succ_eq_append_getElem hk, List.append_assoc]; rfl
theorem DI {l : List Cu} {c : Cu} {k : Nat} (hk : k < l.length) (h : KE l[k] c = 0) (hi : He l c = l.take k ++ He (l.drop k) c) : He l c = l := by
 rw [hi, QeY hk, He, if_neg Wa, if_pos h, <- QeY hk, List.take_append_drop]
theorem TL {l : List Cu} {c : Cu} {k : Nat} (h : l.length <= k \/ ∃ hk : k < l.length, ¬ KE l[k] c < 0 /\ KE l[k] c ≠ 0) (hi : He l c = l.take k ++ He (l.drop k) c) : He l c = l.take k ++ c :: l.drop k := by
 rw [hi]
 rcases h with h | ⟨hk, h1, h2⟩
 ·rw [Qe2 h, He]
 ·rw [QeY hk, He, if_neg h1, if_neg h2]
theorem F7 : ∀ (l : List Cu) (c : Cu), (He l c).length <= l.length + 1
 | [], c => by simp [He]
 | x :: r, c => by
  have := F7 r c
  simp only [He]
  (repeat' split) <;> simp <;> omega
theorem PH : ∀ {l : List Cu} {c : Cu}, (∀ x ∈ l, Cu.sm x) -> Cu.sm c -> ∀ x ∈ He l c, Cu.sm x
 | [], c, _, hc, x, hx => by simp [He] at hx; exact hx ▸ hc
 | y :: r, c, hl, hc, x, hx => by
  simp only [He] at hx
  split at hx
  ·rcases QeJ.1 hx with rfl | hx
   ·exact hl _ Wg
   ·exact PH (fun z hz => hl z (by simp [hz])) hc x hx
  ·split at hx
   ·exact hl x hx
   ·rcases QeJ.1 hx with rfl | hx
    ·exact hc
    ·exact hl x hx
def Z2 (l : List (Cu × Cu)) : List Cu := l.foldl (fun out s => He (He out s.1) s.2) [H6, Mx]
theorem C0 {l : List (Cu × Cu)} {i : Nat} (h : i < l.length) : Z2 (l.take (i + 1)) = He (He (Z2 (l.take i)) l[i].1) l[i].2 := by
 rw [List.take_succ_eq_append_getElem h, Z2, List.foldl_append]; rfl
theorem MZ : ∀ (l : List (Cu × Cu)) (out : List Cu), (l.foldl (fun out s => He (He out s.1) s.2) out).length <= out.length + 2 * l.length
 | [], out => by simp
 | s :: l, out => by
  have h1 := F7 out s.1
  have h2 := F7 (He out s.1) s.2
  have := MZ l (He (He out s.1) s.2)
  simp only [List.foldl_cons, List.length_cons]; omega
theorem Jk (l : List (Cu × Cu)) : (Z2 l).length <= 2 + 2 * l.length := MZ l _
theorem RL : ∀ {l : List (Cu × Cu)} {out : List Cu}, (∀ s ∈ l, Cu.sm s.1 /\ Cu.sm s.2) -> (∀ x ∈ out, Cu.sm x) -> ∀ x ∈ l.foldl (fun out s => He (He out s.1) s.2) out, Cu.sm x
 | [], _, _, h => h
 | s :: l, out, hl, h => by
  rw [List.foldl_cons]
  exact RL (fun t ht => hl t (by simp [ht])) (PH (PH h (hl s Wg).1) (hl s Wg).2)
theorem TJ {l : List (Cu × Cu)} (hl : ∀ s ∈ l, Cu.sm s.1 /\ Cu.sm s.2) : ∀ x ∈ Z2 l, Cu.sm x := RL hl (by
 intro x hx
 simp only [QeJ, QeI, or_false] at hx
 rcases hx with rfl | rfl <;> exact ⟨QeT _, QeT _⟩)
theorem F6 {l : List (Cu × Cu)} (hl : Sm l) (i : Nat) : (Z2 (l.take i)).length <= 2000002 /\ ∀ x ∈ Z2 (l.take i), Cu.sm x := by
 refine ⟨?_, TJ fun s hs => hl.2 s (Qe1 hs)⟩
 have := Jk (l.take i)
 have h2 : (l.take i).length <= l.length := List.length_take_le' ..
 have := hl.1
 omega
def KT (l : List (Cu × Cu)) (x y : Cu) : List (Cu × Cu) := match l.getLast? with
 | some s => if KE s.2 x = 0 then l.dropLast ++ [(s.1, y)] else l ++ [(x, y)]
 | none => l ++ [(x, y)]
theorem RM {l : List (Cu × Cu)} {x y : Cu} {i : Nat} (hi : i + 1 = l.length) (h : KE (l[i]'Wa).2 x = 0) : KT l x y = l.set i ((l[i]'Wa).1, y) := by
 have hg : l.getLast? = some (l[i]'Wa) := by
  rw [List.getLast?_eq_getElem?, show l.length - 1 = i by omega, List.getElem?_eq_getElem]
 rw [KT, hg]
 simp only [h, if_true]
 rw [List.dropLast_eq_take, show l.length - 1 = i by omega, List.set_eq_take_append_cons_drop, if_pos Wa, Qe2 Wa]
theorem G4 {l : List (Cu × Cu)} {x y : Cu} (h : l = [] \/ ∃ i, ∃ hi : i + 1 = l.length, KE (l[i]'Wa).2 x ≠ 0) : KT l x y = l ++ [(x, y)] := by
 rcases h with rfl | ⟨i, hi, h⟩
 ·rfl
 ·have hg : l.getLast? = some (l[i]'Wa) := by
   rw [List.getLast?_eq_getElem?, show l.length - 1 = i by omega, List.getElem?_eq_getElem]
  rw [KT, hg]
  simp only [if_neg h]
theorem RN (l : List (Cu × Cu)) (x y : Cu) : (KT l x y).length <= l.length + 1 := by
 unfold KT
 split
 ·split
  ·simp
  ·simp
 ·simp
theorem TK {l : List (Cu × Cu)} {x y : Cu} (hl : ∀ s ∈ l, Cu.sm s.1 /\ Cu.sm s.2) (hx : Cu.sm x) (hy : Cu.sm y) : ∀ s ∈ KT l x y, Cu.sm s.1 /\ Cu.sm s.2 := by
 intro s hs
 unfold KT at hs
 split at hs
 ·rename_i t ht
  have ht' := List.mem_of_getLast? ht
  split at hs
  ·rcases QeS.1 hs with hs | hs
   ·exact hl s (List.dropLast_subset _ hs)
   ·simp at hs; subst hs; exact ⟨(hl t ht').1, hy⟩
  ·rcases QeS.1 hs with hs | hs
   ·exact hl s hs
   ·simp at hs; subst hs; exact ⟨hx, hy⟩
 ·rcases QeS.1 hs with hs | hs
  ·exact hl s hs
  ·simp at hs; subst hs; exact ⟨hx, hy⟩
theorem NT {α β : Type} {l : List α} {f : α -> β} {i : Nat} (h : i + 1 < l.length) : (l.map f)[((i : Int) + 1).toNat]? = some (f l[i + 1]) := by
 rw [show ((i : Int) + 1).toNat = i + 1 by omega, List.getElem?_map, List.getElem?_eq_getElem h]; rfl
def KS (f : Cu -> Cu -> Bool) : List Cu -> List (Cu × Cu) -> List (Cu × Cu)
 | x :: y :: r, out => KS f (y :: r) (if f x y = true then KT out x y else out)
 | _, out => out
def SR (l : List (Cu × Cu)) : List (Cu × Cu) := if l.all Gc = true then KS (mIn l) (Z2 l) [] else []
theorem M0 {f : Cu -> Cu -> Bool} {c : List Cu} {out : List (Cu × Cu)} {i : Nat} (h : i + 1 < c.length) : KS f (c.drop i) out = KS f (c.drop (i + 1)) (if f c[i] c[i + 1] = true then KT out c[i] c[i + 1] else out) := by
 rw [QeY (Wa : i < c.length), QeY h, KS]
theorem DH {f : Cu -> Cu -> Bool} {c : List Cu} {out : List (Cu × Cu)} {i : Nat} (h : c.length <= i + 1) : KS f (c.drop i) out = out := by
 have : (c.drop i).length <= 1 := by simp; omega
 match hd : c.drop i with
 | [] => rfl
 | [x] => rfl
 | x :: y :: r => rw [hd] at this; simp at this
def FillI (f : Cu -> Cu -> Bool) (c : List Cu) (i : Nat) (out : List (Cu × Cu)) : Prop :=
 out.length <= i /\ (∀ s ∈ out, Cu.sm s.1 /\ Cu.sm s.2) /\ KS f c [] = KS f (c.drop i) out
theorem FillI.zero {f : Cu -> Cu -> Bool} {c : List Cu} : FillI f c 0 [] := ⟨QeT _, by simp, by simp⟩
theorem FillI.take {f : Cu -> Cu -> Bool} {c : List Cu} {i : Nat} {out : List (Cu × Cu)} (h : FillI f c i out) (hc : ∀ x ∈ c, Cu.sm x) (hi : i + 1 < c.length) (ht : f c[i] c[i + 1] = true) : FillI f c (i + 1) (KT out c[i] c[i + 1]) := by
 obtain ⟨h1, h2, h3⟩ := h
 refine ⟨Qe0 (RN ..) Wa, TK h2 (hc _ (QeM _)) (hc _ (QeM _)), ?_⟩
 rw [h3, M0 hi, if_pos ht]
theorem FillI.skip {f : Cu -> Cu -> Bool} {c : List Cu} {i : Nat} {out : List (Cu × Cu)} (h : FillI f c i out) (hi : i + 1 < c.length) (ht : f c[i] c[i + 1] = false) : FillI f c (i + 1) out := by
 obtain ⟨h1, h2, h3⟩ := h
 exact ⟨Wa, h2, by rw [h3, M0 hi, if_neg (by rw [ht]; simp)]⟩
theorem FillI.done {f : Cu -> Cu -> Bool} {c : List Cu} {i : Nat} {out : List (Cu × Cu)} (h : FillI f c i out) (hi : c.length <= i + 1) : KS f c [] = out := by rw [h.2.2, DH hi]
theorem Qch {i : Nat} : ((i : Int) + 1).toNat = i + 1 := Wa
theorem ZF {l : List (Cu × Cu)} (hl : Sm l) : ∀ x ∈ Z2 l, Cu.sm x := TJ hl.2
def BL (a b : List (Cu × Cu)) : List (Cu × Cu) := if Kh a = true /\ Kh b = true then SR (a ++ b) else []
def SS (a : List (Cu × Cu)) : List (Cu × Cu) := if Kh a = true then KS (fun x y => !mIn a x y) (Z2 a) [] else []
theorem T0 {l : List (Cu × Cu)} : ∀ r ∈ l.map Ft, r.length = 14 := fun r hr => by obtain ⟨x, _, rfl⟩ := QeV.1 hr; rfl
theorem Sm.app {a b : List (Cu × Cu)} (ha : Sm a) (hb : Sm b) (h : a.length + b.length <= 1000000) : Sm (a ++ b) := by
 refine ⟨by simp; omega, fun s hs => ?_⟩
 rcases QeS.1 hs with hs | hs
 ·exact ha.2 s hs
 ·exact hb.2 s hs
abbrev JP := List (Cu × Cu) × List (Cu × Cu)
def Si (a b : JP) : JP := if Xo a = true /\ Xo b = true then (BL a.1 b.1, BL a.2 b.2) else ([], [])
def Jl (a : JP) : JP := if Xo a = true then (SS a.1, SS a.2) else ([], [])
def mPl (v n : Int) : Int := if n < 1 then 0 else N7 v n
theorem RQ {v n : Int} : 0 <= mPl v n := by
 unfold mPl; split
 ·omega
 ·exact Ba Wa
theorem RP {v n : Int} (h : 1 <= n) : mPl v n < n := by
 rw [mPl, if_neg Wa]; exact C9 Wa
def Lz (l : List Int) (i : Int) : Int := if i < 0 \/ (l.length : Int) <= i then i.tmod 3 else l.getD i.toNat 0
theorem DG {l : List Int} {i : Int} (h0 : 0 <= i) (h : i < l.length) : Lz l i = l[i.toNat]'Wa := by
 rw [Lz, if_neg Wa, List.getD_eq_getElem?_getD, List.getElem?_eq_getElem Wa]; rfl
def I64 (x : Int) : Prop := -9223372036854775808 <= x /\ x <= 9223372036854775807
theorem CZ {l : List Int} {i : Int} (hl : ∀ x ∈ l, I64 x) (hi : I64 i) : I64 (Lz l i) := by
 by_cases h : i < 0 \/ (l.length : Int) <= i
 ·rw [Lz, if_pos h]
  have h1 := Int.tmod_lt_of_pos i (Wa : (0 : Int) < 3)
  have h2 := Int.lt_tmod_of_pos i (Wa : (0 : Int) < 3)
  exact ⟨Wa, Wa⟩
 ·rw [DG Wa Wa]
  exact hl _ (QeM _)
theorem Mo (x : Int) : I64 (IntKind.i64.wrap x) := by
 unfold IntKind.wrap I64
 simp only [IntKind.bits, IntKind.signed, Bool.true_and]
 split
 ·rename_i h
  have := of_decide_eq_true h
  omega
 ·rename_i h
  have : ¬ (x % 2 ^ 64 >= 2 ^ (64 - 1)) := fun hh => h (decide_eq_true hh)
  omega
theorem Fz {α : Type} {k : Nat} {v : α} {l : List (Nat × α)} : lk ((k, v) :: l) k = some v := by rw [Qj, if_pos rfl]
theorem F5 {α : Type} {k : Nat} {v : α} {l : List (Nat × α)} : (lk ((k, v) :: l) k).isSome = true := by rw [Fz]; rfl
def gB (L : List Int) (I : Int) (et : Nat) : Box := ⟨[[ZH L, .int .i64 I]], 2, et, true⟩
def nxI (I : Int) : Int := IntKind.i64.wrap (I + 1)
def nx (L : List Int) (I n : Int) : Int := mPl (Lz L (IntKind.i64.wrap (nxI I - 1))) n
def RS (h m : Int) : Int := if Kf .and .i64 h m = h then 2 else if Kf .and .i64 h m = 0 then 0 else 1
def PI (h m : Int) : Int := if Kf .andNot .i64 h m = 0 then 2 else if Kf .and .i64 h m = 0 then 0 else 1
theorem SX {i : Nat} (h : i <= 62) : 1 <= (2 : Int) ^ i /\ (2 : Int) ^ i <= 4611686018427387904 := by
 have h1 : (2 : Nat) ^ i <= 2 ^ 62 := Nat.pow_le_pow_right Wa h
 have h2 : 1 <= (2 : Nat) ^ i := Nat.one_le_two_pow
 have h3 : ((2 ^ i : Nat) : Int) = (2 : Int) ^ i := by simp
 rw [<- h3]
 have h4 : (2 : Nat) ^ 62 = 4611686018427387904 := by decide
 omega
structure Vr where
 a : Int
 b : Int
 c : Int
 p : List UInt8
 q : List UInt8
def dVr (v : Vr) : List D := [.int .i64 v.a, .int .i64 v.b, .int .i64 v.c, .str v.p, .str v.q]
def Vr.sm (v : Vr) : Prop := v.p.length <= 100 /\ v.q.length <= 100
def versions : List Vr := [⟨1, 0, 0, [], []⟩, ⟨1, 2, 0, [], []⟩, ⟨2, 0, 0, [97, 46, 49], []⟩, ⟨2, 0, 0, [], []⟩]
theorem Tc : ∀ v ∈ versions, v.sm := by
 intro v hv
 simp only [versions, QeJ, QeI, or_false] at hv
 rcases hv with rfl | rfl | rfl | rfl <;> exact ⟨by decide, by decide⟩
theorem XJ {i : Nat} : ((i : Int) - 1).toNat = i - 1 := Wa
end M25
namespace Go.Proofs
open Go Go.Abs M3 M25
theorem Je {a b c : Int} {p q : List UInt8} : Ok Tryd.prog 52 [.agg [.int .i64 a, .int .i64 b, .int .i64 c, .str p, .str q]] (.agg [.int .i64 a, .int .i64 b, .int .i64 c, .str p, .str []]) := by
 refine Ok.ofT Z7 Tryd.func52 QdX (QeH Z) ?_
 show TW _ _ tf52.body _ _
 refine Qb fun K hK => ZR Z Z Z (Zm Z (kc2 hK Z Z ?_))
 refine Qb fun K hK => Qe Z Z (QQ Z Z Z Z Z Z Z Z (kc2 hK Z Z ?_))
 refine Qb fun K hK => QA (cs := [_, _, _, _, _]) Z Z Z Z (QQ Z Z Z Z Z Z Z Z (kc1 hK Z ?_))
 refine Qn (Zl (cs := [_, _, _, _, _]) Z Z Z Z ?_)
 exact rfl
theorem YV  : Ok Tryd.prog 54 [] (.agg [.int .i64 (-1), .int .i64 0, .int .i64 0, .int .i64 0, .str [], .str [], .bool false]) := by
 refine Ok.ofT Z7 Tryd.func54 QdZ (QeH Z) ?_
 show TW _ _ tf54.body _ _
 refine Qb fun K hK => Zm Z (kc1 hK Z ?_)
 refine Qb fun K hK => QW Z Z (QQ Z Z Z Z Z Z Z Z (kc1 hK Z ?_))
 refine Qn (Zl (cs := [_, _, _, _, _, _, _]) Z Z Z Z ?_)
 exact rfl
theorem Y9  : Ok Tryd.prog 56 [] (.agg [.int .i64 1, .int .i64 0, .int .i64 0, .int .i64 0, .str [], .str [], .bool false]) := by
 refine Ok.ofT Z7 Tryd.func56 Qd1 (QeH Z) ?_
 show TW _ _ tf56.body _ _
 refine Qb fun K hK => Zm Z (kc1 hK Z ?_)
 refine Qb fun K hK => QW Z Z (QQ Z Z Z Z Z Z Z Z (kc1 hK Z ?_))
 refine Qn (Zl (cs := [_, _, _, _, _, _, _]) Z Z Z Z ?_)
 exact rfl
theorem YB {a b c : Int} {p q : List UInt8} : Ok Tryd.prog 33 [.agg [.int .i64 a, .int .i64 b, .int .i64 c, .str p, .str q]] (.agg [.int .i64 0, .int .i64 a, .int .i64 b, .int .i64 c, .str p, .str [], .bool false]) := by
 refine Ok.ofT Z7 Tryd.func33 QdF (QeH Z) ?_
 show TW _ _ tf33.body _ _
 refine Qb fun K hK => ZR Z Z Z (Zm Z (kc2 hK Z Z ?_))
 refine Qb fun K hK => QA (cs := [_, _, _, _, _]) Z Z Z Z (Qw (Je) Z Z (.inl Z) (QW Z Z (QQ Z Z Z Z Z Z Z Z (kc1 hK Z ?_))))
 refine Qn (Zl (cs := [_, _, _, _, _, _, _]) Z Z Z Z ?_)
 exact rfl
theorem K6 {a b c : Int} {p q : List UInt8} : Ok Tryd.prog 34 [.agg [.int .i64 a, .int .i64 b, .int .i64 c, .str p, .str q]] (.agg [.int .i64 0, .int .i64 a, .int .i64 b, .int .i64 c, .str p, .str [], .bool true]) := by
 refine Ok.ofT Z7 Tryd.func34 QdG (QeH Z) ?_
 show TW _ _ tf34.body _ _
 refine Qb fun K hK => ZR Z Z Z (Zm Z (kc2 hK Z Z ?_))
 refine Qb fun K hK => QA (cs := [_, _, _, _, _]) Z Z Z Z (Qw (Je) Z Z (.inl Z) (QW Z Z (QQ Z Z Z Z Z Z Z Z (kc1 hK Z ?_))))
 refine Qn (Zl (cs := [_, _, _, _, _, _, _]) Z Z Z Z ?_)
 exact rfl
theorem XW {a b c : Int} {p q : List UInt8} : Ok Tryd.prog 53 [.agg [.int .i64 a, .int .i64 b, .int .i64 c, .str p, .str q]] (.bool (FL a b c)) := by
 refine Ok.ofT Z7 Tryd.func53 QdY (QeH Z) ?_
 show TW _ _ tf53.body _ _
 refine Qb fun K hK => ZR Z Z Z (Qa Z (kc1 hK Z ?_))
 refine Qb fun K hK => Qe Z Z (QB Z Z Z (Yr Z Z (Qa Z ?_)))
 refine Qs (g := 6) Z (fun h1 => ?_) (fun h1 => ?_)
 ·try rw [h1]
  try simp only [qB] at h1
  refine Qd Z (Qe Z Z (Qd Z (QB Z Z Z (Qd Z (Yr Z Z (Qf Z Z (Qa Z ?_)))))))
  refine Qs (g := 11) Z (fun h2 => ?_) (fun h2 => ?_)
  ·try rw [h2]
   try simp only [qB] at h2
   refine Qd Z (Qe Z Z (Qd Z (QB Z Z Z (Qd Z (Yr Z Z (Qf Z Z (Qa Z (kc1 hK Z ?_))))))))
   refine Qn (Qk Z ?_)
   (repeat clear hK K); simp_all [FL]
  ·try rw [h2]
   try simp only [qB] at h2
   refine gn3 Z Z Z (Qf Z Z (Qa Z (kc1 hK Z ?_)))
   refine Qn (Qk Z ?_)
   (repeat clear hK K); simp_all [FL]
 ·try rw [h1]
  try simp only [qB] at h1
  refine gn3 Z Z Z (Qf Z Z (Qa Z (gn3 Z Z Z (Qf Z Z (Qa Z (kc1 hK Z ?_))))))
  refine Qn (Qk Z ?_)
  (repeat clear hK K); simp_all [FL]
open Go Go.Abs M3 M25
theorem Gj {a b c : Int} {p q : List UInt8} (hp : p.length <= 1000000) (hq : q.length <= 1000000) {part : Int} : Ok Tryd.prog 71 [.agg [.int .i64 a, .int .i64 b, .int .i64 c, .str p, .str q], .int .i64 part] (dOV (X6 a b c p q part)) := by
 refine Ok.ofT Z7 Tryd.func71 Qeg (QeH Z) ?_
 show TW _ _ tf71.body _ _
 refine Qb fun K hK => ZR Z Z Z (Zm Z (Qa Z (kc3 hK Z Z Z ?_)))
 refine QD ?_ -- 0
 refine Qb fun K hK => QA (cs := [_, _, _, _, _]) Z Z Z Z (Qw (Zr Wa Wa) Z Z (.inr Z) (ZL Z (Qa Z ?_)))
 refine Qs (g := 10) Z (fun h1 => ?_) (fun h1 => ?_)
 ·try rw [h1]
  try simp only [qB] at h1
  refine gn2 Z Z (Qf Z Z (Qa Z (gn2 Z Z (Qf Z Z (kc4 hK Z Z Z Z ?_)))))
  refine Zg Z (Qb fun K hK => QW Z Z (QQ Z Z Z Z Z Z Z Z (Qa Z (kc2 hK Z Z ?_))))
  refine Qn (Qh (Post.eq (XG (ds := [.int .i64 _, .int .i64 _, .int .i64 _, .str _, .str _]) (d' := .bool _) (cs := [_, _, _, _, _]) Z Z Z Z Z ⟨rfl, rfl⟩) ?_))
  (repeat clear hK K); first | (simp [X6, dOV, h1]; done) | (simp_all [X6, dOV]; done)
 ·try rw [h1]
  try simp only [qB] at h1
  refine Qd Z (Qa Z (Qd Z (YX Z Z (Qf Z Z (Qa Z ?_)))))
  refine Qs (g := 14) Z (fun h2 => ?_) (fun h2 => ?_)
  ·try rw [h2]
   try simp only [qB] at h2
   refine gn2 Z Z (Qf Z Z (kc4 hK Z Z Z Z ?_))
   refine Zg Z (Qb fun K hK => QW Z Z (QQ Z Z Z Z Z Z Z Z (Qa Z (kc2 hK Z Z ?_))))
   refine Qn (Qh (Post.eq (XG (ds := [.int .i64 _, .int .i64 _, .int .i64 _, .str _, .str _]) (d' := .bool _) (cs := [_, _, _, _, _]) Z Z Z Z Z ⟨rfl, rfl⟩) ?_))
   (repeat clear hK K); first | (simp [X6, dOV, h1, h2]; done) | (simp_all [X6, dOV]; done)
  ·try rw [h2]
   try simp only [qB] at h2
   refine Qd Z (Qa Z (Qd Z (Fi Z Z (Qf Z Z (kc4 hK Z Z Z Z ?_)))))
   refine Qx Z (fun h3 => ?_) (fun h3 => ?_)
   ·try rw [h3]
    try simp only [qB] at h3
    refine Qb fun K hK => QW Z Z (QQ Z Z Z Z Z Z Z Z (Qa Z (kc2 hK Z Z ?_)))
    refine Qn (Qh (Post.eq (XG (ds := [.int .i64 _, .int .i64 _, .int .i64 _, .str _, .str _]) (d' := .bool _) (cs := [_, _, _, _, _]) Z Z Z Z Z ⟨rfl, rfl⟩) ?_))
    (repeat clear hK K); first | (simp [X6, dOV, h1, h2, h3]; done) | (simp_all [X6, dOV]; done)
   ·try rw [h3]
    try simp only [qB] at h3
    refine Qt (ks3 Z Z Z (Qb fun K hK => Zm Z (kc4 hK Z Z Z Z ?_)))
    refine QD ?_ -- 1
    refine Qb fun K hK => Qa Z (kc4 hK Z Z Z Z ?_)
    refine QI (Qb fun K hK => Yr Z Z (Qa Z (kc5 hK Z Z Z Z Z ?_)))
    refine Qx Z (fun h4 => ?_) (fun h4 => ?_)
    ·try rw [h4]
     try simp only [qB] at h4
     refine Za fun K hK => Qe Z Z (QB Z Z Z (Zc Z Z (Qo (by have := HE (by simpa using h1); omega) (by have := HE (by simpa using h1); omega)) (QW Z Z (QQ Z Z Z Z Z Z Z Z (hK _ ?_)))))
     refine Qi (ks2 Z Z ?_)
     refine QD ?_ -- 2
     refine Qb fun K hK => QA (cs := [_, _, _, _, _]) Z Z Z Z (Qw (Zr Wg Wg) Z Z (.inr Z) (ZL Z (kc3 hK Z Z Z ?_)))
     refine Qx Z (fun h5 => ?_) (fun h5 => ?_)
     ·try rw [h5]
      try simp only [qB] at h5
      refine Qb fun K hK => QW Z Z (QQ Z Z Z Z Z Z Z Z (Qa Z (kc2 hK Z Z ?_)))
      refine Qn (Qh (Post.eq (XG (ds := [.int .i64 _, .int .i64 _, .int .i64 _, .str _, .str _]) (d' := .bool _) (cs := [_, _, _, _, _]) Z Z Z Z Z ⟨rfl, rfl⟩) ?_))
      (repeat clear hK K); first | (simp [X6, dOV, h1, h2, h3, h4, h5]; done) | (simp_all [X6, dOV]; done)
     ·try rw [h5]
      try simp only [qB] at h5
      refine Qt (ks2 Z Z (Qb fun K hK => QA (cs := [_, _, _, _, _]) Z Z Z Z (QQ Z Z Z Z Z Z Z Z (Qa Z (kc2 hK Z Z ?_)))))
      refine Qn (Post.eq (XG (ds := [.int .i64 _, .int .i64 _, .int .i64 _, .str _, .str _]) (d' := .bool _) (cs := [_, _, _, _, _]) Z Z Z Z Z ⟨rfl, rfl⟩) ?_)
      (repeat clear hK K); first | (simp [X6, dOV, h1, h2, h3, h4, h5]; done) | (simp_all [X6, dOV]; done)
    ·try rw [h4]
     try simp only [qB] at h4
     refine Qb fun K hK => Yr Z Z (Qa Z (kc4 hK Z Z Z Z ?_))
     refine Qx Z (fun h6 => ?_) (fun h6 => ?_)
     ·try rw [h6]
      try simp only [qB] at h6
      refine Za fun K hK => Qe Z Z (QB Z Z Z (Qe Z Z (QB Z Z Z (Zc Z Z (Qo (by have := HE (by simpa using h1); omega) (by have := HE (by simpa using h1); omega)) (QW Z Z (QQ Z Z Z Z Z Z Z Z (hK _ ?_)))))))
      refine Qi (ks2 Z Z ?_)
      refine QD ?_ -- 2
      refine Qb fun K hK => QA (cs := [_, _, _, _, _]) Z Z Z Z (Qw (Zr Wg Wg) Z Z (.inr Z) (ZL Z (kc3 hK Z Z Z ?_)))
      refine Qx Z (fun h7 => ?_) (fun h7 => ?_)
      ·try rw [h7]
       try simp only [qB] at h7
       refine Qb fun K hK => QW Z Z (QQ Z Z Z Z Z Z Z Z (Qa Z (kc2 hK Z Z ?_)))
       refine Qn (Qh (Post.eq (XG (ds := [.int .i64 _, .int .i64 _, .int .i64 _, .str _, .str _]) (d' := .bool _) (cs := [_, _, _, _, _]) Z Z Z Z Z ⟨rfl, rfl⟩) ?_))
       (repeat clear hK K); first | (simp [X6, dOV, h1, h2, h3, h4, h6, h7]; done) | (simp_all [X6, dOV]; done)
      ·try rw [h7]
       try simp only [qB] at h7
       refine Qt (ks2 Z Z (Qb fun K hK => QA (cs := [_, _, _, _, _]) Z Z Z Z (QQ Z Z Z Z Z Z Z Z (Qa Z (kc2 hK Z Z ?_)))))
       refine Qn (Post.eq (XG (ds := [.int .i64 _, .int .i64 _, .int .i64 _, .str _, .str _]) (d' := .bool _) (cs := [_, _, _, _, _]) Z Z Z Z Z ⟨rfl, rfl⟩) ?_)
       (repeat clear hK K); first | (simp [X6, dOV, h1, h2, h3, h4, h6, h7]; done) | (simp_all [X6, dOV]; done)
     ·try rw [h6]
      try simp only [qB] at h6
      refine Za fun K hK => Qe Z Z (QB Z Z Z (Qe Z Z (QB Z Z Z (Qe Z Z (QB Z Z Z (Zc Z Z (Qo (by have := HE (by simpa using h1); omega) (by have := HE (by simpa using h1); omega)) (QW Z Z (QQ Z Z Z Z Z Z Z Z (hK _ ?_)))))))))
      refine Qi (ks2 Z Z ?_)
      refine QD ?_ -- 2
      refine Qb fun K hK => QA (cs := [_, _, _, _, _]) Z Z Z Z (Qw (Zr Wg Wg) Z Z (.inr Z) (ZL Z (kc3 hK Z Z Z ?_)))
      refine Qx Z (fun h8 => ?_) (fun h8 => ?_)
      ·try rw [h8]
       try simp only [qB] at h8
       refine Qb fun K hK => QW Z Z (QQ Z Z Z Z Z Z Z Z (Qa Z (kc2 hK Z Z ?_)))
       refine Qn (Qh (Post.eq (XG (ds := [.int .i64 _, .int .i64 _, .int .i64 _, .str _, .str _]) (d' := .bool _) (cs := [_, _, _, _, _]) Z Z Z Z Z ⟨rfl, rfl⟩) ?_))
       (repeat clear hK K); first | (simp [X6, dOV, h1, h2, h3, h4, h6, h8]; done) | (simp_all [X6, dOV]; done)
      ·try rw [h8]
       try simp only [qB] at h8
       refine Qt (ks2 Z Z (Qb fun K hK => QA (cs := [_, _, _, _, _]) Z Z Z Z (QQ Z Z Z Z Z Z Z Z (Qa Z (kc2 hK Z Z ?_)))))
       refine Qn (Post.eq (XG (ds := [.int .i64 _, .int .i64 _, .int .i64 _, .str _, .str _]) (d' := .bool _) (cs := [_, _, _, _, _]) Z Z Z Z Z ⟨rfl, rfl⟩) ?_)
       (repeat clear hK K); first | (simp [X6, dOV, h1, h2, h3, h4, h6, h8]; done) | (simp_all [X6, dOV]; done)
theorem _root_.We {p : Prop} (h : p := by first | exact Qo (by omega) (by omega) | rfl) : p := h
theorem Gk {a b c : Int} {p q : List UInt8} (hp : p.length <= 1000000) (hq : q.length <= 1000000) : Ok Tryd.prog 55 [.agg [.int .i64 a, .int .i64 b, .int .i64 c, .str p, .str q]] (dOV (RO a b c p q)) := by
 refine Ok.ofT Z7 Tryd.func55 Qd0 (QeH Z) ?_
 show TW _ _ tf55.body _ _
 refine Qb fun K hK => ZR Z Z Z (Zm Z (Qa Z (kc2 hK Z Z ?_)))
 refine QD ?_ -- 0
 refine Qb fun K hK => QA (cs := [_, _, _, _, _]) Z Z Z Z (Qw (Zr Wa Wa) Z Z (.inr Z) (ZL Z (kc3 hK Z Z Z ?_)))
 refine Qx Z (fun h1 => ?_) (fun h1 => ?_)
 ·try rw [h1]
  try simp only [qB] at h1
  refine Qb fun K hK => QW Z Z (QQ Z Z Z Z Z Z Z Z (Qa Z (kc2 hK Z Z ?_)))
  refine Qn (Qh (Post.eq (XG (ds := [.int .i64 _, .int .i64 _, .int .i64 _, .str _, .str _]) (d' := .bool _) (cs := [_, _, _, _, _]) Z Z Z Z Z ⟨rfl, rfl⟩) ?_))
  simp [RO, dOV, h1]
 ·try rw [h1]
  try simp only [qB] at h1
  refine Qt (ks2 Z Z ?_)
  refine QD ?_ -- 1
  refine Qb fun K hK => Qe Z Z (QB Z Z Z (Li Z Z (kc3 hK Z Z Z ?_)))
  refine Qx Z (fun h2 => ?_) (fun h2 => ?_)
  ·try rw [h2]
   try simp only [qB] at h2
   refine Qb fun K hK => Qe Z Z (QB Z Z Z (Qe Z Z (QB Z Z Z (Qe Z Z (QB Z Z Z (QW Z Z (QQ Z Z Z Z Z Z Z Z (Qa Z (kc2 hK Z Z ?_)))))))))
   refine Qn (Qh (Post.eq (XG (ds := [.int .i64 _, .int .i64 _, .int .i64 _, .str _, .str _]) (d' := .bool _) (cs := [_, _, _, _, _]) Z Z Z Z Z ⟨rfl, rfl⟩) ?_))
   simp [RO, dOV, h1, h2]
  ·try rw [h2]
   try simp only [qB] at h2
   refine Qt (ks2 Z Z ?_)
   refine QD ?_ -- 2
   refine Qb fun K hK => Qa Z (kc3 hK Z Z Z ?_)
   refine QI ?_
   refine Yb (ι := Nat) (fun m => ⟨[(1, .ref 1 0 0), (2, .ref 2 0 0), (4, .int .i64 ((m : Int) - 1))], [(1, ⟨[[.int .i64 a, .int .i64 b, .int .i64 c, .str p, .str q]], 5, 46, true⟩), (2, ⟨[[.int .i64 0, .int .i64 0, .int .i64 0, .str [], .str []]], 5, 46, true⟩)]⟩) (fun m => m <= 3 /\ XI a b c p q 3 = XI a b c p q m) (fun m => m) 3 ?_ ?_ ?_
   ·exact Zw (l := [1, 2, 4]) (lH := [1, 2]) (kp3 rfl rfl rfl) (Qv rfl (Qv rfl Qy)) rfl rfl rfl
   ·exact ⟨Wa, rfl⟩
   intro m hI
   obtain ⟨hI1, hI2⟩ := hI
   try dsimp only
   refine QD ?_ -- 3
   refine Qb fun K hK => Qa Z (Tj Z Z (kc4 hK Z Z Z Z ?_))
   refine Qx Z (fun h3 => ?_) (fun h3 => ?_)
   ·try rw [h3]
    try simp only [qB] at h3
    rcases Nat.eq_zero_or_pos m with hm | hm <;> first | omega | skip
    refine Qt (ks3 Z Z Z ?_)
    refine QD ?_ -- 4
    refine QI (Qb fun K hK => QA (cs := [_, _, _, _, _]) Z Z Z Z (Qa Z (Qw (Gj Wa Wa) Z Z (.inl Z) (Qa Z (Zd Z Z (Zd Z Z (Zm Z (QQ Z Z Z Z Z Z Z Z (Qa Z (kc5 hK Z Z Z Z Z ?_))))))))))
    refine Qb fun K hK => Qa Z (kc5 hK Z Z Z Z Z ?_)
    refine Qx Z (fun h4 => ?_) (fun h4 => ?_)
    ·try rw [h4]
     try simp only [qB] at h4
     refine Qb fun K hK => QA (cs := [_, _, _, _, _]) Z Z Z Z (QQ Z Z Z Z Z Z Z Z (Qa Z (kc2 hK Z Z ?_)))
     refine Qn (Qr (Qh (Q5 (Qr (Qh (Post.eq (XG (ds := [.int .i64 _, .int .i64 _, .int .i64 _, .str _, .str _]) (d' := .bool _) (cs := [_, _, _, _, _]) Z Z Z Z Z ⟨rfl, rfl⟩) ?_))))))
     subst h2
     simp [RO, dOV, h1, hI2, Rl hm h4, h4]
    ·try rw [h4]
     try simp only [qB] at h4
     refine Qt (Qi (ks3 Z Z Z (Za fun K hK => Qa Z (HN Z Z We (Qa Z (hK _ ?_))))))
     refine Ql (m - 1) ?_ ?_ ?_
     ·refine Zw (l := [1, 2, 4]) (lH := [1, 2]) (kp3 Z Z Z) (Qv Z (Qv Z Qy)) ?_ Z rfl; simp only [List.cons.injEq, Prod.mk.injEq, D.int.injEq, and_true, true_and]; omega
     ·exact ⟨Wa, by rw [hI2]; exact Ss hm h4⟩
     ·show m - 1 < m; omega
   ·try rw [h3]
    try simp only [qB] at h3
    rcases Nat.eq_zero_or_pos m with hm | hm <;> first | omega | skip
    refine ZC (QP (Qz (QH (ks1 Z (Qb fun K hK => QW Z Z (QQ Z Z Z Z Z Z Z Z (Qa Z (kc2 hK Z Z ?_))))))))
    refine Qn (Post.eq (XG (ds := [.int .i64 _, .int .i64 _, .int .i64 _, .str _, .str _]) (d' := .bool _) (cs := [_, _, _, _, _]) Z Z Z Z Z ⟨rfl, rfl⟩) ?_)
    subst h2
    subst hm
    have hb : XI a b c [] q 3 = none := hI2
    simp [RO, dOV, h1, hb]
open Go Go.Abs M3 M25
theorem XX {e a b c : Int} {p q : List UInt8} {f : Bool} : Ok Tryd.prog 40 [.agg [.int .i64 e, .int .i64 a, .int .i64 b, .int .i64 c, .str p, .str q, .bool f]] (.bool (FM e a b c p q f)) := by
 refine Ok.ofT Z7 Tryd.func40 QdL (QeH Z) ?_
 show TW _ _ tf40.body _ _
 refine Qb fun K hK => ZR Z Z Z (Qa Z (kc1 hK Z ?_))
 refine Qb fun K hK => Qe Z Z (QB Z Z Z (Y7 Z Z (Qa Z ?_)))
 refine Qs (g := 6) Z (fun h1 => ?_) (fun h1 => ?_)
 ·try rw [h1]
  try simp only [qB] at h1
  refine gn4 Z Z Z Z (QE Z (QE Z (QE Z (QE Z (gn2 Z Z (QE Z (QE Z ?_)))))))
  refine QE Z (QE Z (XT Z (Qf Z Z (Qa Z (kc1 hK Z ?_)))))
  refine Qn (Qk Z ?_)
  (repeat clear hK K); simp_all [FM]
 ·try rw [h1]
  try simp only [qB] at h1
  refine Qd Z (Qe Z Z (Qd Z (QB Z Z Z (Qd Z (ZL Z (Qd Z (Qa Z ?_)))))))
  refine Qs (g := 10) Z (fun h2 => ?_) (fun h2 => ?_)
  ·try rw [h2]
   try simp only [qB] at h2
   refine Qd Z (Qe Z Z (Qd Z (Qe Z Z (Qd Z (QB Z Z Z (Qd Z (HM Z Z (Qd Z (Qf Z Z (Qd Z (Qa Z ?_)))))))))))
   refine Qs (g := 16) Z (fun h3 => ?_) (fun h3 => ?_)
   ·try rw [h3]
    try simp only [qB] at h3
    refine Qd Z (Qe Z Z (Qd Z (QA (cs := [_, _, _, _, _]) Z Z Z Z (Qd Z (Qw (XW) Z Z (.inr Z) (Qd Z (ZL Z (Qd Z (Qf Z Z (Qf Z Z (Qa Z ?_)))))))))))
    refine kc1 hK Z ?_
    refine Qn (Qk Z ?_)
    (repeat clear hK K); simp_all [FM]
   ·try rw [h3]
    try simp only [qB] at h3
    refine gn4 Z Z Z Z (Qd Z (Qf Z Z (Qf Z Z (Qa Z (kc1 hK Z ?_)))))
    refine Qn (Qk Z ?_)
    (repeat clear hK K); simp_all [FM]
  ·try rw [h2]
   try simp only [qB] at h2
   refine gn4 Z Z Z Z (Qd Z (Qf Z Z (Qd Z (Qa Z (gn4 Z Z Z Z ?_)))))
   refine Qd Z (Qf Z Z (Qf Z Z (Qa Z (kc1 hK Z ?_))))
   refine Qn (Qk Z ?_)
   (repeat clear hK K); simp_all [FM]
theorem HV {a b c : Int} {p q : List UInt8} : Ok Tryd.prog 35 [.agg [.int .i64 a, .int .i64 b, .int .i64 c, .str p, .str q]] (.agg (dCu (N5 a b c))) := by
 refine Ok.ofT Z7 Tryd.func35 QdH (QeH Z) ?_
 show TW _ _ tf35.body _ _
 refine Qb fun K hK => ZR Z Z Z (Zm Z (kc2 hK Z Z ?_))
 refine QD ?_ -- 0
 refine Qb fun K hK => QA (cs := [_, _, _, _, _]) Z Z Z Z (Qw (XW) Z Z (.inr Z) (kc3 hK Z Z Z ?_))
 refine Qx Z (fun h1 => ?_) (fun h1 => ?_)
 ·try rw [h1]
  try simp only [qB] at h1
  refine Qb fun K hK => Qw (YV) Z Z (.inl Z) (QQ Z Z Z Z Z Z Z Z (kc1 hK Z ?_))
  refine Qn (Qh (Post.eq (Zl (ds := [.int .i64 _, .int .i64 _, .int .i64 _, .int .i64 _, .str _, .str _, .bool _]) (cs := [_, _, _, _, _, _, _]) Z Z Z Z Z) ?_))
  simp [N5, dCu, H6, h1]
 ·try rw [h1]
  try simp only [qB] at h1
  refine Qt (ks2 Z Z (Qb fun K hK => Qe Z Z (QB Z Z Z (Qe Z Z (QB Z Z Z (Qe Z Z (QB Z Z Z (QW Z Z (Qw (YB) Z Z (.inl Z) (QQ Z Z Z Z Z Z Z Z ?_))))))))))
  refine kc1 hK Z ?_
  refine Qn (Post.eq (Zl (ds := [.int .i64 _, .int .i64 _, .int .i64 _, .int .i64 _, .str _, .str _, .bool _]) (cs := [_, _, _, _, _, _, _]) Z Z Z Z Z) ?_)
  simp [N5, dCu, H6, h1]
theorem K7 {a b c : Int} {p q : List UInt8} : Ok Tryd.prog 36 [.agg [.int .i64 a, .int .i64 b, .int .i64 c, .str p, .str q]] (.agg (dCu (G1 a b c))) := by
 refine Ok.ofT Z7 Tryd.func36 QdI (QeH Z) ?_
 show TW _ _ tf36.body _ _
 refine Qb fun K hK => ZR Z Z Z (Zm Z (kc2 hK Z Z ?_))
 refine Qb fun K hK => Qe Z Z (QB Z Z Z (Qe Z Z (QB Z Z Z (Qe Z Z (QB Z Z Z (QW Z Z (Qw (Gk Wg Wg) Z Z (.inl Z) (Qa Z (Zd Z Z (Zd Z Z ?_))))))))))
 refine Zm Z (QQ Z Z Z Z Z Z Z Z (Qa Z (kc3 hK Z Z Z ?_)))
 refine QD ?_ -- 0
 refine Qb fun K hK => Qa Z (ZL Z (kc3 hK Z Z Z ?_))
 refine Qx Z (fun h1 => ?_) (fun h1 => ?_)
 ·try rw [h1]
  try simp only [qB] at h1
  refine Qb fun K hK => Qw (Y9) Z Z (.inl Z) (QQ Z Z Z Z Z Z Z Z (kc1 hK Z ?_))
  refine Qn (Qh (Post.eq (Zl (ds := [.int .i64 _, .int .i64 _, .int .i64 _, .int .i64 _, .str _, .str _, .bool _]) (cs := [_, _, _, _, _, _, _]) Z Z Z Z Z) ?_))
  cases hn : RO a b c [] [] <;> simp [G1, dCu, Mx, hn] at *
 ·try rw [h1]
  try simp only [qB] at h1
  refine Qt (ks2 Z Z (Qb fun K hK => QA (cs := [_, _, _, _, _]) Z Z Z Z (Qw (YB) Z Z (.inl Z) (QQ Z Z Z Z Z Z Z Z (kc1 hK Z ?_)))))
  refine Qn (Post.eq (Zl (ds := [.int .i64 _, .int .i64 _, .int .i64 _, .int .i64 _, .str _, .str _, .bool _]) (cs := [_, _, _, _, _, _, _]) Z Z Z Z Z) ?_)
  cases hn : RO a b c [] [] <;> simp [G1, dCu, Mx, hn] at *
theorem XY  : Ok Tryd.prog 72 [] (Q3 [(H6, Mx)]) := by
 refine Ok.ofT Z7 Tryd.func72 Qeh (QeH Z) ?_
 show TW _ _ tf72.body _ _
 refine Qb fun K hK => Qa Z (hK _ _ (Sq (ZJ) ?_))
 refine Qb fun K hK => Qw (YV) Z Z (.inl Z) (Qw (Y9) Z Z (.inl Z) (QW Z Z (QK Z Z (Qa Z (kc1 hK Z ?_)))))
 refine Qn (ZV Z ?_)
 rfl
theorem Zv  : Ok Tryd.prog 19 [] (Gn ([], [])) := by
 refine Ok.ofT Z7 Tryd.func19 Qdr (QeH Z) ?_
 show TW _ _ tf19.body _ _
 refine Qb fun K hK => Zm Z (kc1 hK Z ?_)
 refine Qb fun K hK => QW Z Z (QQ Z Z Z Z Z Z Z Z (kc1 hK Z ?_))
 refine Qn (Post.eq (Zl (ds := [.sl _, .sl _]) (cs := [_, _]) Z Z Z Z Z) ?_)
 rfl
theorem JF  : Ok Tryd.prog 57 [] (Gn ([(H6, Mx)], [(H6, Mx)])) := by
 refine Ok.ofT Z7 Tryd.func57 Qd2 (QeH Z) ?_
 show TW _ _ tf57.body _ _
 refine Qb fun K hK => Zm Z (kc1 hK Z ?_)
 refine Qb fun K hK => Qw (XY) Z Z (.inl Z) (Qw (XY) Z Z (.inl Z) (QW Z Z (QQ Z Z Z Z Z Z Z Z (kc1 hK Z ?_))))
 refine Qn (Post.eq (Zl (ds := [.sl _, .sl _]) (cs := [_, _]) Z Z Z Z Z) ?_)
 rfl
theorem Yf {a b c : Int} {p q : List UInt8} (hp : p.length <= 1000000) (hq : q.length <= 1000000) : Ok Tryd.prog 14 [.agg [.int .i64 a, .int .i64 b, .int .i64 c, .str p, .str q]] (Gn (Yy a b c p q)) := by
 refine Ok.ofT Z7 Tryd.func14 Qdn (QeH Z) ?_
 show TW _ _ tf14.body _ _
 refine Qb fun K hK => ZR Z Z Z (Zm Z (kc2 hK Z Z ?_))
 refine QD ?_ -- 0
 refine Qb fun K hK => QA (cs := [_, _, _, _, _]) Z Z Z Z (Qw (Zr Wa Wa) Z Z (.inr Z) (ZL Z (kc3 hK Z Z Z ?_)))
 refine Qx Z (fun h1 => ?_) (fun h1 => ?_)
 ·try rw [h1]
  try simp only [qB] at h1
  refine Qb fun K hK => Qw (Zv) Z Z (.inl Z) (QQ Z Z Z Z Z Z Z Z (kc1 hK Z ?_))
  refine Qn (Qh (Post.eq (Zl (ds := [.sl _, .sl _]) (cs := [_, _]) Z Z Z Z Z) ?_))
  simp [Yy, Gn, Q3, Ft, dCu, h1]
 ·try rw [h1]
  try simp only [qB] at h1
  refine Qt (ks2 Z Z ?_)
  refine QD ?_ -- 1
  refine Qb fun K hK => Qe Z Z (QB Z Z Z (Li Z Z (kc3 hK Z Z Z ?_)))
  refine Qx Z (fun h2 => ?_) (fun h2 => ?_)
  ·try rw [h2]
   try simp only [qB] at h2
   refine Qb fun K hK => QC (ds0 := [6, 3, 2, 1, 0]) (cs := [_, _, _, _, _]) Z Z Z Z Z Z (QT (ds0 := [3, 2, 1, 0]) (YB) Z Z (.inl Z) Z Z (QC (ds0 := [4, 3, 2, 1, 0]) (cs := [_, _, _, _, _]) Z Z Z Z Z Z (QT (ds0 := [3, 2, 1, 0]) (K6) Z Z (.inl Z) Z Z (QW Z Z (QK Z Z (QW Z Z (ZX (ds0 := []) Z Z Z Z Z Z Z Z Z Z (kc1 hK Z ?_))))))))
   refine Qn (Qh (Post.eq (Zl (ds := [.sl _, .sl _]) (cs := [_, _]) Z Z Z Z Z) ?_))
   simp [Yy, Gn, Q3, Ft, dCu, h1, h2]
  ·try rw [h2]
   try simp only [qB] at h2
   refine Qt (ks2 Z Z (Qb fun K hK => QC (ds0 := [6, 3, 2, 1, 0]) (cs := [_, _, _, _, _]) Z Z Z Z Z Z (QT (ds0 := [3, 2, 1, 0]) (HV) Z Z (.inl Z) Z Z (QC (ds0 := [4, 3, 2, 1, 0]) (cs := [_, _, _, _, _]) Z Z Z Z Z Z (QT (ds0 := [3, 2, 1, 0]) (K7) Z Z (.inl Z) Z Z (QW Z Z (QK Z Z (QW Z Z (ZX (ds0 := []) Z Z Z Z Z Z Z Z Z Z (kc1 hK Z ?_))))))))))
   refine Qn (Post.eq (Zl (ds := [.sl _, .sl _]) (cs := [_, _]) Z Z Z Z Z) ?_)
   subst h2
   simp [Yy, Gn, Q3, Ft, dCu, h1]
open Go Go.Abs M3 M25
theorem ZI {l : List (Cu × Cu)} (hl : Sm l) : Ok Tryd.prog 39 [Q3 l] (.bool (Kh l)) := by
 refine Ok.ofT Z7 Tryd.func39 QdK (QeH Z) ?_
 show TW _ _ tf39.body _ _
 have hn := hl.1
 refine Qb fun K hK => Qa Z (kc1 hK Z ?_)
 refine QD ?_ -- 0
 refine Qb fun K hK => Qa Z (kc2 hK Z Z ?_)
 refine QI ?_
 refine Yb (ι := Nat) (fun i => ⟨[(0, Q3 l), (3, .int .i64 i)], []⟩) (fun i => i <= l.length /\ (List.range i).all (QaP l) = true) (fun i => l.length - i) 0 ?_ ?_ ?_
 ·exact Q4 (kp2 rfl rfl)
 ·exact ⟨QeT _, rfl⟩
 intro i hI
 try dsimp only
 refine QD ?_ -- 1
 refine Qb fun K hK => mv2 Z Z (ZD Z Z (YX Z Z (kc3 hK Z Z Z ?_)))
 refine Qx Z (fun h1 => ?_) (fun h1 => ?_)
 ·try rw [h1]
  try simp only [qA] at h1
  refine Qt (ks2 Z Z ?_)
  refine QD ?_ -- 2
  refine QI (Qb fun K hK => mv2 Z Z (QV Z Z Z Wa (ZN Wa) Z (QC (ds0 := [20, 19, 18, 17, 16, 15, 14, 13, 12, 11, 10, 9, 8, 7, 6, 5, 4, 3, 2, 1, 0]) (cs := [_, _, _, _, _, _, _, _, _, _, _, _, _, _]) Z Z Z Z Z Z (QT (ds0 := [19, 18, 17, 16, 15, 14, 13, 12, 11, 10, 9, 8, 7, 6, 5, 4, 3, 2, 1, 0]) (XA (hl.at (i := i) Wa).1.1 (hl.at (i := i) Wa).1.2 (hl.at (i := i) Wa).2.1 (hl.at (i := i) Wa).2.2) Z Z (.inr Z) Z Z (ZL Z (Qa Z ?_))))))
  refine Qs (g := 16) Z (fun h2 => ?_) (fun h2 => ?_)
  ·try rw [h2]
   try simp only [qA] at h2
   refine gn3 Z Z Z (QE Z (QE Z (QE Z (QE Z (QE Z (QE Z (QE Z (QE Z (QE Z ?_)))))))))
   refine QE Z (QE Z (QE Z (QE Z (XT Z (Qf Z Z (kc3 hK Z Z Z ?_))))))
   refine Zg Z (Qb fun K hK => Qa Z (kc1 hK Z ?_))
   refine Qn (Qr (Qh (Q5 (Qr (Qh (Qk Z ?_))))))
   first
    | exact (HH hI.2 Wa).symm
    | exact (Y5 (i := i) Wa (KP Wa (.inl h2))).symm
    | (simp only [XJ] at *; exact (Y5 (i := i) Wa (KP Wa (.inr ⟨Wa, h4⟩))).symm)
  ·try rw [h2]
   try simp only [qA] at h2
   refine Qd Z (Qa Z (Qd Z (Fi Z Z (Qd Z (Qa Z ?_)))))
   refine Qs (g := 19) Z (fun h3 => ?_) (fun h3 => ?_)
   ·try rw [h3]
    try simp only [qA] at h3
    refine Qd Z (Qa Z (Qd Z (Qa Z (Qd Z (HN Z Z We (Qd Z (QV Z Z Z Wa (Yn Wa Wa) Z (Qd Z (Z5 Z Z (Qd Z (QC (ds0 := [3, 2, 1, 0]) (cs := [_, _, _, _, _, _, _]) Z Z Z Z Z Z ?_)))))))))))
    refine Qd Z (Qa Z (Qd Z (Qa Z (Qd Z (QV Z Z Z Wa (ZN Wa) Z (Qd Z (Z5 Z Z (Qd Z (QC (ds0 := [3, 2, 1, 0]) (cs := [_, _, _, _, _, _, _]) Z Z Z Z Z Z (Qd Z (QT (ds0 := [2, 1, 0]) (Zq (hl.at (i := ((i : Int) - 1).toNat) Wa).2.1 (hl.at (i := ((i : Int) - 1).toNat) Wa).2.2 (hl.at (i := i) Wa).1.1 (hl.at (i := i) Wa).1.2) Z Z (.inr Z) Z Z ?_)))))))))))
    refine Qd Z (Tj Z Z (Qd Z (Qf Z Z (Qf Z Z (kc3 hK Z Z Z ?_)))))
    refine Qx Z (fun h4 => ?_) (fun h4 => ?_)
    ·try rw [h4]
     try simp only [qA] at h4
     refine Qb fun K hK => Qa Z (kc1 hK Z ?_)
     refine Qn (Qr (Qh (Q5 (Qr (Qh (Qk Z ?_))))))
     first
      | exact (HH hI.2 Wa).symm
      | exact (Y5 (i := i) Wa (KP Wa (.inl h2))).symm
      | (simp only [XJ] at *; exact (Y5 (i := i) Wa (KP Wa (.inr ⟨Wa, h4⟩))).symm)
    ·try rw [h4]
     try simp only [qA] at h4
     refine Qt (Qi (ks2 Z Z (Za fun K hK => Qa Z (Zc Z Z We (Qa Z (hK _ ?_))))))
     refine Ql (i + 1) ?_ ?_ ?_
     ·exact Q4 (kp2 rfl rfl)
     ·exact ⟨Wa, Nf hI.2 (TQ Wa h2 (by first | exact .inl Wa | (simp only [XJ] at *; exact .inr (Int.not_le.1 h4))))⟩
     ·first | omega | (simp only; omega) | (dsimp only; omega)
   ·try rw [h3]
    try simp only [qA] at h3
    refine gn4 Z Z Z Z (gn4 Z Z Z Z (gn4 Z Z Z Z ?_))
    refine XT Z (Qd Z (Qf Z Z (Qf Z Z (kc3 hK Z Z Z ?_))))
    refine Zy Z (Qt (Qi (ks2 Z Z (Za fun K hK => Qa Z (Zc Z Z We (Qa Z (hK _ ?_)))))))
    refine Ql (i + 1) ?_ ?_ ?_
    ·exact Q4 (kp2 rfl rfl)
    ·exact ⟨Wa, Nf hI.2 (TQ Wa h2 (by first | exact .inl Wa | (simp only [XJ] at *; exact .inr (Int.not_le.1 h4))))⟩
    ·first | omega | (simp only; omega) | (dsimp only; omega)
 ·try rw [h1]
  try simp only [qA] at h1
  refine ZC (QP (Qz (QH (Zs (ZJ) (Qb fun K hK => Qa Z (kc1 hK Z ?_))))))
  refine Qn (Qk Z ?_)
  first
   | exact (HH hI.2 Wa).symm
   | exact (Y5 (i := i) Wa (KP Wa (.inl h2))).symm
   | (simp only [XJ] at *; exact (Y5 (i := i) Wa (KP Wa (.inr ⟨Wa, h4⟩))).symm)
theorem YJ {l : List (Cu × Cu)} (hl : Sm l) {x y : Cu} (hx : Cu.sm x) (hy : Cu.sm y) : Ok Tryd.prog 43 [Q3 l, .agg (dCu x), .agg (dCu y)] (.bool (mIn l x y)) := by
 refine Ok.ofT Z7 Tryd.func43 QdO (QeH Z) ?_
 show TW _ _ tf43.body _ _
 have hn := hl.1
 refine Qb fun K hK => ZR Z Z Z (ZR Z Z Z (Qa Z (kc3 hK Z Z Z ?_)))
 refine QD ?_ -- 0
 refine Qb fun K hK => Qa Z (kc4 hK Z Z Z Z ?_)
 refine QI ?_
 refine Yb (ι := Nat) (fun i => ⟨[(0, Q3 l), (4, .ref 4 0 0), (5, .ref 5 0 0), (7, .int .i64 i)], [(4, ⟨[dCu x], 7, 74, true⟩), (5, ⟨[dCu y], 7, 74, true⟩)]⟩) (fun i => i <= l.length /\ (l.take i).any (inC x y) = false) (fun i => l.length - i) 0 ?_ ?_ ?_
 ·exact Zw (l := [0, 4, 5, 7]) (lH := [4, 5]) (kp4 rfl rfl rfl rfl) (Qv rfl (Qv rfl Qy)) rfl rfl rfl
 ·exact ⟨QeT _, by simp⟩
 intro i hI
 try dsimp only
 refine QD ?_ -- 1
 refine Qb fun K hK => mv2 Z Z (ZD Z Z (YX Z Z (kc5 hK Z Z Z Z Z ?_)))
 refine Qx Z (fun h1 => ?_) (fun h1 => ?_)
 ·try rw [h1]
  try simp only [qA] at h1
  refine Qt (ks4 Z Z Z Z ?_)
  refine QD ?_ -- 2
  refine QI (Qb fun K hK => mv2 Z Z (QV Z Z Z Wa (ZN Wa) Z (Z5 Z Z (QC (ds0 := [11, 10, 9, 8, 7, 6, 5, 4, 3, 2, 1, 0]) (cs := [_, _, _, _, _, _, _]) Z Z Z Z Z Z (QC (ds0 := [11, 10, 9, 8, 7, 6, 5, 4, 3, 2, 1, 0]) (cs := [_, _, _, _, _, _, _]) Z Z Z Z Z Z (QT (ds0 := [10, 9, 8, 7, 6, 5, 4, 3, 2, 1, 0]) (Zq (hl.at (i := i) Wa).1.1 (hl.at (i := i) Wa).1.2 hx.1 hx.2) Z Z (.inr Z) Z Z (Co Z Z (Qa Z ?_))))))))
  refine Qs (g := 22) Z (fun h2 => ?_) (fun h2 => ?_)
  ·try rw [h2]
   try simp only [qA] at h2
   refine Qd Z (QC (ds0 := [2, 1, 0]) (cs := [_, _, _, _, _, _, _]) Z Z Z Z Z Z (Qd Z (Qa Z (Qd Z (Qa Z (Qd Z (QV Z Z Z Wa (ZN Wa) Z (Qd Z (Z5 Z Z (Qd Z (QC (ds0 := [2, 1, 0]) (cs := [_, _, _, _, _, _, _]) Z Z Z Z Z Z ?_)))))))))))
   refine Qd Z (QT (ds0 := [1, 0]) (Zq hy.1 hy.2 (hl.at (i := i) Wa).2.1 (hl.at (i := i) Wa).2.2) Z Z (.inr Z) Z Z (Qd Z (Co Z Z (Qf Z Z (kc5 hK Z Z Z Z Z ?_)))))
   refine Qx Z (fun h3 => ?_) (fun h3 => ?_)
   ·try rw [h3]
    try simp only [qA] at h3
    refine Qb fun K hK => Qa Z (kc1 hK Z ?_)
    refine Qn (Qr (Qh (Q5 (Qr (Qh (Qk Z ?_))))))
    first
     | exact (Bx (i := i) Wa hI.2).symm
     | exact (LN (i := i) Wa (QbT h2 h3)).symm
   ·try rw [h3]
    try simp only [qA] at h3
    refine Qt (Qi (ks4 Z Z Z Z (Za fun K hK => Qa Z (Zc Z Z We (Qa Z (hK _ ?_))))))
    refine Ql (i + 1) ?_ ?_ ?_
    ·exact Zw (l := [0, 4, 5, 7]) (lH := [4, 5]) (kp4 rfl rfl rfl rfl) (Qv rfl (Qv rfl Qy)) rfl rfl rfl
    ·exact ⟨Wa, LM Wa hI.2 (QbS (by first | exact .inl h2 | exact .inr h3))⟩
    ·first | omega | (simp only; omega) | (dsimp only; omega)
  ·try rw [h2]
   try simp only [qA] at h2
   refine gn4 Z Z Z Z (gn4 Z Z Z Z (Qf Z Z (kc5 hK Z Z Z Z Z ?_)))
   refine Zy Z (Qt (Qi (ks4 Z Z Z Z (Za fun K hK => Qa Z (Zc Z Z We (Qa Z (hK _ ?_)))))))
   refine Ql (i + 1) ?_ ?_ ?_
   ·exact Zw (l := [0, 4, 5, 7]) (lH := [4, 5]) (kp4 rfl rfl rfl rfl) (Qv rfl (Qv rfl Qy)) rfl rfl rfl
   ·exact ⟨Wa, LM Wa hI.2 (QbS (by first | exact .inl h2 | exact .inr h3))⟩
   ·first | omega | (simp only; omega) | (dsimp only; omega)
 ·try rw [h1]
  try simp only [qA] at h1
  refine ZC (QP (Qz (QH (Zs (ZJ) (Qb fun K hK => Qa Z (kc1 hK Z ?_))))))
  refine Qn (Qk Z ?_)
  first
   | exact (Bx (i := i) Wa hI.2).symm
   | exact (LN (i := i) Wa (QbT h2 h3)).symm
open Go Go.Abs M3 M25
theorem Yd {s : List (Cu × Cu) × List (Cu × Cu)} (h1s : Sm s.1) (h2s : Sm s.2) : Ok Tryd.prog 18 [Gn s] (.bool (Xo s)) := by
 refine Ok.ofT Z7 Tryd.func18 Qdq (QeH Z) ?_
 show TW _ _ tf18.body _ _
 have hn := h1s.1
 refine Qb fun K hK => ZR Z Z Z (Qa Z (kc1 hK Z ?_))
 refine QD ?_ -- 0
 refine Qb fun K hK => Qe Z Z (QB Z Z Z (Qw (ZI h1s) Z Z (.inr Z) (ZL Z (Qa Z ?_))))
 refine Qs (g := 8) Z (fun h1 => ?_) (fun h1 => ?_)
 ·try rw [h1]
  try simp only [qA] at h1
  refine gn4 Z Z Z Z (Qf Z Z (kc2 hK Z Z ?_))
  refine Zg Z (Qb fun K hK => Qa Z (kc1 hK Z ?_))
  refine Qn (Qh (Qk Z ?_))
  first
   | exact (G6 (i := i) h1 h2 Wa hI.2).symm
   | exact (Jm (i := i) Wa (.inl h4)).symm
   | exact (Jm (i := i) Wa (.inr h5)).symm
   | exact (J6 (.inl h1)).symm
   | exact (J6 (.inr h2)).symm
 ·try rw [h1]
  try simp only [qA] at h1
  refine Qd Z (Qe Z Z (Qd Z (QB Z Z Z (Qd Z (Qw (ZI h2s) Z Z (.inr Z) (Qd Z (ZL Z (Qf Z Z (kc2 hK Z Z ?_)))))))))
  refine Qx Z (fun h2 => ?_) (fun h2 => ?_)
  ·try rw [h2]
   try simp only [qA] at h2
   refine Qb fun K hK => Qa Z (kc1 hK Z ?_)
   refine Qn (Qh (Qk Z ?_))
   first
    | exact (G6 (i := i) h1 h2 Wa hI.2).symm
    | exact (Jm (i := i) Wa (.inl h4)).symm
    | exact (Jm (i := i) Wa (.inr h5)).symm
    | exact (J6 (.inl h1)).symm
    | exact (J6 (.inr h2)).symm
  ·try rw [h2]
   try simp only [qA] at h2
   refine Qt (ks1 Z ?_)
   refine QD ?_ -- 1
   refine Qb fun K hK => Qa Z (kc2 hK Z Z ?_)
   refine QI ?_
   refine Yb (ι := Nat) (fun i => ⟨[(1, .ref 1 0 0), (3, .int .i64 i)], [(1, ⟨[[Q3 s.1, Q3 s.2]], 2, 29, true⟩)]⟩) (fun i => i <= s.1.length /\ (s.1.take i).all (fun x => Xf x.1 && Xf x.2) = true) (fun i => s.1.length - i) 0 ?_ ?_ ?_
   ·exact Zw (l := [1, 3]) (lH := [1]) (kp2 rfl rfl) (Qv rfl Qy) rfl rfl rfl
   ·exact ⟨QeT _, by simp⟩
   intro i hI
   try dsimp only
   refine QD ?_ -- 2
   refine Qb fun K hK => Qa Z (Qe Z Z (QB Z Z Z (ZD Z Z (YX Z Z (kc3 hK Z Z Z ?_)))))
   refine Qx Z (fun h3 => ?_) (fun h3 => ?_)
   ·try rw [h3]
    try simp only [qA] at h3
    refine Qt (ks2 Z Z ?_)
    refine QD ?_ -- 3
    refine QI (Qb fun K hK => Qe Z Z (QB Z Z Z (Qa Z (QV Z Z Z Wa (ZN Wa) Z (Z5 Z Z (QA (cs := [_, _, _, _, _, _, _]) Z Z Z Z (Qw (XX) Z Z (.inr Z) (ZL Z (Qa Z ?_)))))))))
    refine Qs (g := 29) Z (fun h4 => ?_) (fun h4 => ?_)
    ·try rw [h4]
     try simp only [qA] at h4
     refine gn4 Z Z Z Z (gn4 Z Z Z Z (Qf Z Z (kc3 hK Z Z Z ?_)))
     refine Zg Z (Qb fun K hK => Qa Z (kc1 hK Z ?_))
     refine Qn (Qr (Qh (Q5 (Qr (Qh (Qk Z ?_))))))
     first
      | exact (G6 (i := i) h1 h2 Wa hI.2).symm
      | exact (Jm (i := i) Wa (.inl h4)).symm
      | exact (Jm (i := i) Wa (.inr h5)).symm
      | exact (J6 (.inl h1)).symm
      | exact (J6 (.inr h2)).symm
    ·try rw [h4]
     try simp only [qA] at h4
     refine Qd Z (Qe Z Z (Qd Z (QB Z Z Z (Qd Z (Qa Z (Qd Z (QV Z Z Z Wa (ZN Wa) Z (Qd Z (Z5 Z Z (Qd Z (QA (cs := [_, _, _, _, _, _, _]) Z Z Z Z ?_)))))))))))
     refine Qd Z (Qw (XX) Z Z (.inr Z) (Qd Z (ZL Z (Qf Z Z (kc3 hK Z Z Z ?_)))))
     refine Qx Z (fun h5 => ?_) (fun h5 => ?_)
     ·try rw [h5]
      try simp only [qA] at h5
      refine Qb fun K hK => Qa Z (kc1 hK Z ?_)
      refine Qn (Qr (Qh (Q5 (Qr (Qh (Qk Z ?_))))))
      first
       | exact (G6 (i := i) h1 h2 Wa hI.2).symm
       | exact (Jm (i := i) Wa (.inl h4)).symm
       | exact (Jm (i := i) Wa (.inr h5)).symm
       | exact (J6 (.inl h1)).symm
       | exact (J6 (.inr h2)).symm
     ·try rw [h5]
      try simp only [qA] at h5
      refine Qt (Qi (ks2 Z Z (Za fun K hK => Qa Z (Zc Z Z We (Qa Z (hK _ ?_))))))
      refine Ql (i + 1) ?_ ?_ ?_
      ·exact Zw (l := [1, 3]) (lH := [1]) (kp2 rfl rfl) (Qv rfl Qy) rfl rfl rfl
      ·exact ⟨Wa, Zb Wa hI.2 (by rw [show Xf s.1[i].1 = true from h4, show Xf s.1[i].2 = true from h5]; rfl)⟩
      ·first | omega | (simp only; omega) | (dsimp only; omega)
   ·try rw [h3]
    try simp only [qA] at h3
    refine ZC (QP (Qz (QH (Zs (ZJ) (Qb fun K hK => Qa Z (kc1 hK Z ?_))))))
    refine Qn (Qk Z ?_)
    first
     | exact (G6 (i := i) h1 h2 Wa hI.2).symm
     | exact (Jm (i := i) Wa (.inl h4)).symm
     | exact (Jm (i := i) Wa (.inr h5)).symm
     | exact (J6 (.inl h1)).symm
     | exact (J6 (.inr h2)).symm
open Go Go.Abs M3 M25
theorem _root_.Wv {p : Prop} (h : p := by first | exact .inl (by omega) | exact .inr ⟨by omega, by assumption, by assumption⟩) : p := h
theorem JE {l : List Cu} {c : Cu} (hl : l.length <= 3000000) (hs : ∀ x ∈ l, Cu.sm x) (hc : Cu.sm c) : Ok Tryd.prog 60 [Ms l, .agg (dCu c)] (Ms (He l c)) := by
 refine Ok.ofT Z7 Tryd.func60 Qd5 (QeH Z) ?_
 show TW _ _ tf60.body _ _
 refine Qb fun K hK => ZR Z Z Z (Qa Z (kc2 hK Z Z ?_))
 refine Qb fun K hK => Qa Z (kc3 hK Z Z Z ?_)
 refine QD ?_ -- 0
 refine QI ?_
 refine Yb (ι := Nat) (fun k => ⟨[(0, Ms l), (3, .ref 3 0 0), (5, .int .i64 k)], [(3, ⟨[dCu c], 7, 74, true⟩)]⟩) (fun k => k <= l.length /\ He l c = l.take k ++ He (l.drop k) c) (fun k => l.length - k) 0 ?_ ?_ ?_
 ·exact Zw (l := [0, 3, 5]) (lH := [3]) (kp3 rfl rfl rfl) (Qv rfl Qy) rfl rfl rfl
 ·exact ⟨QeT _, by simp⟩
 intro k hI
 try dsimp only
 refine QD ?_ -- 1
 refine Qb fun K hK => mv2 Z Z (ZD Z Z (YX Z Z (Qa Z ?_)))
 refine Qs (g := 10) Z (fun h1 => ?_) (fun h1 => ?_)
 ·try rw [h1]
  try simp only [qA] at h1
  refine Qd Z (Qa Z (Qd Z (Qa Z (Qd Z (QV Z Z Z Wa (ZN Wa) Z (Qd Z (QC (ds0 := [2, 1, 0]) (cs := [_, _, _, _, _, _, _]) Z Z Z Z Z Z (Qd Z (QC (ds0 := [2, 1, 0]) (cs := [_, _, _, _, _, _, _]) Z Z Z Z Z Z (Qd Z (QT (ds0 := [1, 0]) (Zq (hs _ (QeM Wa)).1 (hs _ (QeM Wa)).2 hc.1 hc.2) Z Z (.inr Z) Z Z ?_)))))))))))
  refine Qd Z (YX Z Z (Qf Z Z (kc4 hK Z Z Z Z ?_)))
  refine Qx Z (fun h2 => ?_) (fun h2 => ?_)
  ·try rw [h2]
   try simp only [qA] at h2
   refine Qt (ks3 Z Z Z (QI (Za fun K hK => Qa Z (Zc Z Z We (Qa Z (hK _ ?_))))))
   refine Qi ?_
   refine Ql (k + 1) ?_ ?_ ?_
   ·exact Zw (l := [0, 3, 5]) (lH := [3]) (kp3 rfl rfl rfl) (Qv rfl Qy) rfl rfl rfl
   ·exact ⟨Wa, DJ Wa h2 hI.2⟩
   ·first | omega | (simp only; omega) | (dsimp only; omega)
  ·try rw [h2]
   try simp only [qA] at h2
   refine ZC (QP (Qz (QH (ks3 Z Z Z ?_))))
   refine QD ?_ -- 2
   refine Qb fun K hK => mv2 Z Z (ZD Z Z (YX Z Z (Qa Z ?_)))
   refine Qs (g := 25) Z (fun h3 => ?_) (fun h3 => ?_)
   ·try rw [h3]
    try simp only [qA] at h3
    refine Qd Z (Qa Z (Qd Z (Qa Z (Qd Z (QV Z Z Z Wa (ZN Wa) Z (Qd Z (QC (ds0 := [2, 1, 0]) (cs := [_, _, _, _, _, _, _]) Z Z Z Z Z Z (Qd Z (QC (ds0 := [2, 1, 0]) (cs := [_, _, _, _, _, _, _]) Z Z Z Z Z Z (Qd Z (QT (ds0 := [1, 0]) (Zq (hs _ (QeM Wa)).1 (hs _ (QeM Wa)).2 hc.1 hc.2) Z Z (.inr Z) Z Z ?_)))))))))))
    refine Qd Z (Yr Z Z (Qf Z Z (kc4 hK Z Z Z Z ?_)))
    refine Qx Z (fun h4 => ?_) (fun h4 => ?_)
    ·try rw [h4]
     try simp only [qA] at h4
     refine Qb fun K hK => mv2 Z Z (kc1 hK Z ?_)
     refine Qn (Qh (ZV Z ?_))
     rw [DI (k := k) Wa Wd hI.2]; rfl
    ·try rw [h4]
     try simp only [qA] at h4
     refine Qt (ks3 Z Z Z (Qb fun K hK => mv2 Z Z (Pc Z Z Z Z Wa Wa Wm R2 Z (Sn (ds0 := [5, 1, 0]) Z Z (fun _ h => ⟨Bh, h⟩) Z (.inl Z) Wg Wm Wm Z Z (QC (ds0 := [6, 5, 1, 0]) (cs := [_, _, _, _, _, _, _]) Z Z Z Z Z Z (QK Z Z (Nr (ds0 := [1, 0]) Z Z Wq ⟨_, rfl, rfl, rfl, rfl, rfl⟩ Z Z Wg Z Z Wm Wm Z Z (mv2 Z Z ?_))))))))
     refine Pc Z Z Z Z Wa Wm Wg R2 Z (Nr (ds0 := [0]) Z Z Wq ⟨rfl, Bh, rfl⟩ Z Z Wg Z Z Wm Wm Z Z (Qa Z (kc1 hK Z ?_)))
     refine Qn (ZV Z ?_)
     rw [TL (k := k) Wv hI.2]; simp [XZ, D.fz, D.fzS, GB, lk, D.can, D.canS, Ms, D.sid, (show ∀ a b : Nat, a + 1 + b = a + (b + 1) from fun a b => Wa), QeX (show (l.map dCu).length <= l.length by simp)] <;> rfl
   ·try rw [h3]
    try simp only [qA] at h3
    exact absurd h1 h3
 ·try rw [h1]
  try simp only [qA] at h1
  refine gn4 Z Z Z Z (gn3 Z Z Z (Qf Z Z (kc4 hK Z Z Z Z ?_)))
  refine Zy Z (ZC (QP (Qz (QH (ks3 Z Z Z ?_)))))
  refine QD ?_ -- 2
  refine Qb fun K hK => mv2 Z Z (ZD Z Z (YX Z Z (Qa Z ?_)))
  refine Qs (g := 25) Z (fun h5 => ?_) (fun h5 => ?_)
  ·try rw [h5]
   try simp only [qA] at h5
   exact absurd h5 h1
  ·try rw [h5]
   try simp only [qA] at h5
   refine gn4 Z Z Z Z (gn3 Z Z Z (Qf Z Z (kc4 hK Z Z Z Z ?_)))
   refine Zy Z (Qt (ks3 Z Z Z (Qb fun K hK => mv2 Z Z (Pc Z Z Z Z Wa Wa Wm R2 Z (Sn (ds0 := [5, 1, 0]) Z Z (fun _ h => ⟨Bh, h⟩) Z (.inl Z) Wg Wm Wm Z Z (QC (ds0 := [6, 5, 1, 0]) (cs := [_, _, _, _, _, _, _]) Z Z Z Z Z Z (QK Z Z (Nr (ds0 := [1, 0]) Z Z Wq ⟨_, rfl, rfl, rfl, rfl, rfl⟩ Z Z Wg Z Z Wm Wm Z Z (Qa Z ?_)))))))))
   refine Qa Z (Pc Z Z Z Z Wa Wm Wg R2 Z (Nr (ds0 := [0]) Z Z Wq ⟨rfl, Bh, rfl⟩ Z Z Wg Z Z Wm Wm Z Z (Qa Z (kc1 hK Z ?_))))
   refine Qn (ZV Z ?_)
   rw [TL (k := k) Wv hI.2]; simp [XZ, D.fz, D.fzS, GB, lk, D.can, D.canS, Ms, D.sid, (show ∀ a b : Nat, a + 1 + b = a + (b + 1) from fun a b => Wa), QeX (show (l.map dCu).length <= l.length by simp)] <;> rfl
theorem Xa {l : List (Cu × Cu)} (hl : Sm l) : Ok Tryd.prog 42 [Q3 l] (Ms (Z2 l)) := by
 refine Ok.ofT Z7 Tryd.func42 QdN (QeH Z) ?_
 show TW _ _ tf42.body _ _
 have hn := hl.1
 refine Qb fun K hK => Qa Z (kc1 hK Z ?_)
 refine Qb fun K hK => Qw (YV) Z Z (.inl Z) (Qw (Y9) Z Z (.inl Z) (QK Z Z (Qa Z (kc2 hK Z Z ?_))))
 refine QD ?_ -- 0
 refine Qb fun K hK => Qa Z (kc3 hK Z Z Z ?_)
 refine QI ?_
 refine Yb (ι := Nat) (fun i => ⟨[(0, Q3 l), (3, Ms (Z2 (l.take i))), (4, .int .i64 i)], []⟩) (fun i => i <= l.length) (fun i => l.length - i) 0 ?_ ?_ ?_
 ·exact le_trans (DC 7 _ Wk) (Zw (l := [0, 3, 4]) (lH := []) (kp3 rfl rfl rfl) Qy rfl rfl rfl)
 ·exact QeT _
 intro i hI
 try dsimp only
 refine QD ?_ -- 1
 refine Qb fun K hK => mv2 Z Z (ZD Z Z (YX Z Z (kc4 hK Z Z Z Z ?_)))
 refine Qx Z (fun h1 => ?_) (fun h1 => ?_)
 ·try rw [h1]
  try simp only [qA] at h1
  refine Qt (ks3 Z Z Z ?_)
  refine QD ?_ -- 2
  refine QI (Za fun K hK => mv2 Z Z (Qa Z (QV Z Z Z Wa (ZN Wa) Z (Z5 Z Z (QC (ds0 := [7, 1, 0]) (cs := [_, _, _, _, _, _, _]) Z Z Z Z Z Z (QT (ds0 := [1, 0]) (JE (Qe0 (F6 hl i).1 Wa) (F6 hl i).2 (hl.2 _ (QeM Wa)).1) Z Z (.inl Z) Z Z (mv2 Z Z (QV Z Z Z Wa (ZN Wa) Z ?_))))))))
  refine Z5 Z Z (QC (ds0 := [1, 0]) (cs := [_, _, _, _, _, _, _]) Z Z Z Z Z Z (QT (ds0 := [0]) (JE (Qe0 (F7 _ _) (by have := (F6 hl i).1; omega)) (PH (F6 hl i).2 (hl.2 _ (QeM Wa)).1) (hl.2 _ (QeM Wa)).2) Z Z (.inl Z) Z Z (Qa Z (hK _ ?_))))
  refine Qi (ks3 Z Z Z (Za fun K hK => Qa Z (Zc Z Z We (Qa Z (hK _ ?_)))))
  refine Ql (i + 1) ?_ ?_ ?_
  ·exact Zw (l := [0, 3, 4]) (lH := []) (kp3 rfl rfl rfl) Qy (by rw [C0 Wa]; rfl) rfl rfl
  ·omega
  ·first | omega | (simp only; omega) | (dsimp only; omega)
 ·try rw [h1]
  try simp only [qA] at h1
  refine ZC (QP (Qz (QH (ks1 Z (Qb fun K hK => mv2 Z Z (kc1 hK Z ?_))))))
  refine Qn (ZV Z ?_)
  rw [QeX (Wa : l.length <= i)]; rfl
open Go Go.Abs M3 M25
theorem Xb {l : List (Cu × Cu)} {x y : Cu} (hn : l.length <= 3000000) (hl : ∀ s ∈ l, Cu.sm s.1 /\ Cu.sm s.2) (hx : Cu.sm x) (hy : Cu.sm y) : OkH Tryd.prog 44 [.osl 500000 l.length, .agg (dCu x), .agg (dCu y)] [(500000, ⟨l.map Ft, 14, 77, true⟩)] (.osl 500000 (KT l x y).length) [(500000, ⟨(KT l x y).map Ft, 14, 77, true⟩)] := by
 refine OkH.mv Z7 Tryd.func44 QdP (QeH Z) Z ?_
 show TW _ _ tf44.body _ _
 refine Qb fun K hK => ZR Z Z Z (ZR Z Z Z (Qa Z (kc3 hK Z Z Z ?_)))
 refine QD ?_ -- 0
 refine Qb fun K hK => Qa Z (ZD Z Z (HN Z Z We (Qa Z (kc4 hK Z Z Z Z ?_))))
 refine Qb fun K hK => Qa Z (Tj Z Z (Qa Z ?_))
 refine Qs (g := 13) Z (fun h1 => ?_) (fun h1 => ?_)
 ·try rw [h1]
  try simp only [qA] at h1
  refine Qd Z (Qa Z (Qd Z (Qa Z (Qd Z (Gy (ds0 := [5, 4, 2, 1, 0]) Z Z Z Wg Wa Wa Z Z Z (Qd Z (Qe Z Z (Qd Z (QC (ds0 := [2, 1, 0]) (cs := [_, _, _, _, _, _, _]) Z (ZU Z (Yn Wa Wa)) Z Z Z Z (Qd Z (QC (ds0 := [2, 1, 0]) (cs := [_, _, _, _, _, _, _]) Z Z Z Z Z Z ?_)))))))))))
  refine Qd Z (QT (ds0 := [1, 0]) (Zq (hl _ (QeM Wa)).2.1 (hl _ (QeM Wa)).2.2 hx.1 hx.2) Z Z (.inr Z) Z Z (Qd Z (Yr Z Z (Qf Z Z (kc5 hK Z Z Z Z Z ?_)))))
  refine Qx Z (fun h2 => ?_) (fun h2 => ?_)
  ·try rw [h2]
   try simp only [qA] at h2
   refine Qb fun K hK => mv2 Z Z (QA (cs := [_, _, _, _, _, _, _]) Z Z Z Z (Kt Z Z Z Wg Wa Wa Z (Qe Z Z (QQ Z Z (Yn Wa Wa) Z Z Z Z Z (kc1 hK Z ?_)))))
   refine Qb fun K hK => mv2 Z Z (kc1 hK Z ?_)
   refine Qn (Qh ?_)
   refine Jn Z ?_ (S5 ?_)
   ·rw [RM (i := ((l.length : Int) - 1).toNat) Wa h2]; simp [Cj, D.fz, D.fzS, ME, D.can, D.canS]
   ·rw [RM (i := ((l.length : Int) - 1).toNat) Wa h2]; simp [lk, List.map_set, Ft, dCu, setRow, D.sid]
  ·try rw [h2]
   try simp only [qA] at h2
   refine Qt (ks3 Z Z Z (Qb fun K hK => Qa Z (QA (cs := [_, _, _, _, _, _, _]) Z Z Z Z (QA (cs := [_, _, _, _, _, _, _]) Z Z Z Z (QW Z Z (QK Z Z (KW Z Z (fun _ h => Hs Z Z Z h) Z Wg Z Z Z Wm Wm (Qa Z (kc1 hK Z ?_)))))))))
   refine Qn ?_
   refine Jn Z ?_ (S5 ?_)
   ·rw [G4 (.inr ⟨((l.length : Int) - 1).toNat, Wa, h2⟩)]; simp [Cj, D.fz, D.fzS, ME, D.can, D.canS]
   ·rw [G4 (.inr ⟨((l.length : Int) - 1).toNat, Wa, h2⟩)]; simp [lk, Ft, dCu, D.sid]
 ·try rw [h1]
  try simp only [qA] at h1
  refine gn4 Z Z Z Z (gn4 Z Z Z Z (Qf Z Z (kc5 hK Z Z Z Z Z ?_)))
  refine Zy Z (Qt (ks3 Z Z Z (Qb fun K hK => Qa Z (QA (cs := [_, _, _, _, _, _, _]) Z Z Z Z (QA (cs := [_, _, _, _, _, _, _]) Z Z Z Z (QW Z Z (QK Z Z (KW Z Z (fun _ h => Hs Z Z Z h) Z Wg Z Z Z Wm Wm (Qa Z (kc1 hK Z ?_))))))))))
  refine Qn ?_
  have h0 : l = [] := List.eq_nil_of_length_eq_zero Wa
  refine Jn Z ?_ (S5 ?_)
  ·rw [G4 (.inl h0)]; simp [Cj, D.fz, D.fzS, ME, D.can, D.canS]
  ·rw [G4 (.inl h0)]; simp [lk, Ft, dCu, D.sid]
open Go Go.Abs M3 M25
theorem Gm {l : List (Cu × Cu)} (hl : Sm l) : Ok Tryd.prog 41 [Q3 l] (.tup [Q3 (SR l), .bool (l.all Gc)]) := by
  refine Ok.ofT Z7 Tryd.func41 QdM (QeH Z) ?_
  show TW _ _ tf41.body _ _
  have hn := hl.1
  have hc1 := Jk l
  refine Qb fun K hK => mv2 Z Z (kc1 hK Z ?_)
  refine QD ?_ -- 0
  refine Qb fun K hK => Qa Z (kc2 hK Z Z ?_)
  refine QI ?_
  refine Yb (ι := Nat) (fun i => ⟨[(0, Q3 l), (4, .int .i64 i)], []⟩) (fun i => i <= l.length /\ (l.take i).all Gc = true) (fun i => l.length - i) 0 ?_ ?_ ?_
  · exact Q4 (kp2 rfl rfl)
  · exact ⟨QeT _, by simp⟩
  intro i hI
  try dsimp only
  refine QD ?_ -- 1
  refine Qb fun K hK => mv2 Z Z (ZD Z Z (YX Z Z (kc3 hK Z Z Z ?_)))
  refine Qx Z (fun h1 => ?_) (fun h1 => ?_)
  · try rw [h1]
    try simp only [qA] at h1
    refine Qt (ks2 Z Z ?_)
    refine QD ?_ -- 2
    refine QI (Qb fun K hK => mv2 Z Z (QV Z Z Z Wa (ZN Wa) Z (QA (cs := [_, _, _, _, _, _, _, _, _, _, _, _, _, _]) Z Z Z Z (Qw (XA (hl.at (i := i) Wa).1.1 (hl.at (i := i) Wa).1.2 (hl.at (i := i) Wa).2.1 (hl.at (i := i) Wa).2.2) Z Z (.inr Z) (ZL Z (kc3 hK Z Z Z ?_))))))
    refine Qx Z (fun h2 => ?_) (fun h2 => ?_)
    · try rw [h2]
      try simp only [qA] at h2
      refine Qb fun K hK => mv2 Z Z (kc2 hK Z Z ?_)
      refine Qn (Qr (Qh (Q5 (Qr (Qh ?_)))))
      first
        | exact ZQ rfl rfl ⟨by rw [SR, if_neg (by rw [Yh (i := i) Wa Wd]; simp)]; rfl, by rw [Yh (i := i) Wa Wd]; rfl⟩
        | (have ha : l.all Gc = true := Y8 Wa hI.2
           exact ZQ rfl rfl ⟨by rw [SR, if_pos ha, hI2.done Wa]; simp [XZ, D.fz, D.fzS, GB, lk, D.can, D.canS, Q3], by rw [ha]; rfl⟩)
    · try rw [h2]
      try simp only [qA] at h2
      refine Qt (Qi (ks2 Z Z (Za fun K hK => Qa Z (Zc Z Z We (Qa Z (hK _ ?_))))))
      refine Ql (i + 1) ?_ ?_ ?_
      · exact Q4 (kp2 rfl rfl)
      · exact ⟨Wa, Zb Wa hI.2 Wd⟩
      · first | omega | (simp only; omega) | (dsimp only; omega)
  · try rw [h1]
    try simp only [qA] at h1
    refine ZC (QP (Qz (QH (ks1 Z (Qb fun K hK => Qa Z (kc2 hK Z Z ?_))))))
    refine Qb fun K hK => Qa Z (Qw (Xa hl) Z Z (.inl Z) (Qa Z (kc3 hK Z Z Z ?_)))
    refine QD ?_ -- 3
    refine Qb fun K hK => Qa Z (kc4 hK Z Z Z Z ?_)
    refine QI ?_
    refine Yb (ι := Nat × List (Cu × Cu)) (fun ⟨i, out⟩ => ⟨[(0, Q3 l), (5, .osl 5 out.length), (6, Ms (Z2 l)), (7, .int .i64 i)], [(5, ⟨out.map Ft, 14, 77, true⟩)]⟩) (fun ⟨i, out⟩ => i <= (Z2 l).length /\ FillI (mIn l) (Z2 l) i out) (fun ⟨i, out⟩ => (Z2 l).length - i) (0, []) ?_ ?_ ?_
    · exact le_trans (XN 5 5 14 77 rfl rfl) (Zw (l := [0, 5, 6, 7]) (lH := [5]) (kp4 rfl rfl rfl rfl) (Qv rfl Qy) rfl rfl rfl)
    · exact ⟨QeT _, FillI.zero⟩
    intro ⟨i, out⟩ hI
    obtain ⟨hI1, hI2⟩ := hI
    have hI3 := hI2.1
    try dsimp only
    refine QD ?_ -- 4
    refine Qb fun K hK => Qa Z (Zc Z Z We (Qa Z (ZD Z Z (YX Z Z (kc5 hK Z Z Z Z Z ?_)))))
    refine Qx Z (fun h3 => ?_) (fun h3 => ?_)
    · try rw [h3]
      try simp only [qA] at h3
      refine Qt (ks4 Z Z Z Z ?_)
      refine QD ?_ -- 5
      refine QI (Qb fun K hK => mv2 Z Z (Qa Z (QV Z Z Z Wa (ZN Wa) Z (QC (ds0 := [0]) (cs := [_, _, _, _, _, _, _]) Z Z Z Z Z Z (mv2 Z Z (Zc Z Z We (QV Z Z Z Wa (NT Wa) Z (QC (ds0 := [0]) (cs := [_, _, _, _, _, _, _]) Z Z Z Z Z Z ?_))))))))
      refine QT (ds0 := []) (YJ hl (ZF hl _ (QeM Wa)) (ZF hl _ (QeM Wa))) Z Z (.inr Z) Z Z (kc5 hK Z Z Z Z Z ?_)
      refine Qx Z (fun h4 => ?_) (fun h4 => ?_)
      · try rw [h4]
        try simp only [qA] at h4
        refine Za fun K hK => Qa rfl (Qa rfl (Qa rfl (QV rfl rfl rfl Wa (ZN Wa) rfl (QC (ds0 := [1, 0]) (cs := [_, _, _, _, _, _, _]) rfl rfl rfl rfl rfl rfl (Qa rfl (Qa rfl (Zc rfl rfl We (QV rfl rfl rfl Wa (NT Wa) rfl (QC (ds0 := [1, 0]) (cs := [_, _, _, _, _, _, _]) rfl rfl rfl rfl rfl rfl (Pb (ds0 := [0]) (LV (k := 5) rfl rfl rfl Wk rfl Wk (by simp [D.ids, D.sid, dCu]) ⟨.osl 5 out.length, by simp, by simp [D.ids, D.sid]⟩ rfl rfl (Xb Wa hI2.2.1 (ZF hl _ (QeM Wa)) (ZF hl _ (QeM Wa)))) (fun _ h => by cases h) rfl rfl ?_))))))))))
        refine Qa Z (hK _ ?_)
        refine Qi (ks4 Z Z Z Z (Za fun K hK => Qa Z (Zc Z Z We (Qa Z (hK _ ?_)))))
        refine Ql (i + 1, KT out (Z2 l)[i] (Z2 l)[i + 1]) ?_ ?_ ?_
        · exact le_trans (SL (l := [0, 6, 7]) (t := 50) (u := 5) 5 (kp3 rfl rfl rfl) rfl rfl rfl rfl) (Zw (l := [0, 5, 6, 7]) (lH := [5]) (kp4 rfl rfl rfl rfl) (Qv rfl Qy) rfl rfl rfl)
        · exact ⟨Wa, hI2.take (ZF hl) Wa Wd⟩
        · show (Z2 l).length - (i + 1) < (Z2 l).length - i; omega
      · try rw [h4]
        try simp only [qA] at h4
        refine Qt (Qi (ks4 Z Z Z Z (Za fun K hK => Qa Z (Zc Z Z We (Qa Z (hK _ ?_))))))
        refine Ql (i + 1, out) ?_ ?_ ?_
        · exact Zw (l := [0, 5, 6, 7]) (lH := [5]) (kp4 rfl rfl rfl rfl) (Qv rfl Qy) rfl rfl rfl
        · exact ⟨Wa, hI2.skip Wa Wd⟩
        · show (Z2 l).length - (i + 1) < (Z2 l).length - i; omega
    · try rw [h3]
      try simp only [qA] at h3
      refine ZC (QP (Qz (QH (ks1 Z (Qb fun K hK => mv2 Z Z (Qa Z (kc2 hK Z Z ?_)))))))
      refine Qn ?_
      first
        | exact ZQ rfl rfl ⟨by rw [SR, if_neg (by rw [Yh (i := i) Wa Wd]; simp)]; rfl, by rw [Yh (i := i) Wa Wd]; rfl⟩
        | (have ha : l.all Gc = true := Y8 Wa hI.2
           exact ZQ rfl rfl ⟨by rw [SR, if_pos ha, hI2.done Wa]; simp [XZ, D.fz, D.fzS, GB, lk, D.can, D.canS, Q3], by rw [ha]; rfl⟩)
open Go Go.Abs M3 M25
theorem Ka {a b : List (Cu × Cu)} (ha : Sm a) (hb : Sm b) (hab : a.length + b.length <= 1000000) : Ok Tryd.prog 20 [Q3 a, Q3 b] (Q3 (BL a b)) := by
 refine Ok.ofT Z7 Tryd.func20 Qds (QeH Z) ?_
 show TW _ _ tf20.body _ _
 refine Qb fun K hK => Qa Z (kc2 hK Z Z ?_)
 refine QD ?_ -- 0
 refine Qb fun K hK => Qa Z (Qw (ZI ha) Z Z (.inr Z) (ZL Z (Qa Z ?_)))
 refine Qs (g := 10) Z (fun h1 => ?_) (fun h1 => ?_)
 ·try rw [h1]
  try simp only [qB] at h1
  refine gn3 Z Z Z (Qf Z Z (kc3 hK Z Z Z ?_))
  refine Zg Z (Qb fun K hK => Qa Z (kc1 hK Z ?_))
  refine Qn (Qh (ZV Z ?_))
  rw [BL, if_neg (by simp [h1])]; rfl
 ·try rw [h1]
  try simp only [qB] at h1
  refine Qd Z (Qa Z (Qd Z (Qw (ZI hb) Z Z (.inr Z) (Qd Z (ZL Z (Qf Z Z (kc3 hK Z Z Z ?_)))))))
  refine Qx Z (fun h2 => ?_) (fun h2 => ?_)
  ·try rw [h2]
   try simp only [qB] at h2
   refine Qb fun K hK => Qa Z (kc1 hK Z ?_)
   refine Qn (Qh (ZV Z ?_))
   rw [BL, if_neg (by simp [h1, h2])]; rfl
  ·try rw [h2]
   try simp only [qB] at h2
   refine Qt (ks2 Z Z (Qb fun K hK => Qa Z (Bv Z Z (fun _ h => T7 T0 h) Z (.inl Z) Wg Wm Wm (Qa Z (KW Z Z (fun _ h => T7 T0 h) Z Wg Z Z Z Wm Wm ?_)))))
   apply LF [17] Wg
   ·simp [St.freezeL, St.freeze, rem, D.fz, D.fzS, Box.fz, lk, D.scrub]; exact ⟨rfl, rfl⟩
   ·exact Gm (ha.app hb hab)
   ·rfl
   ·simp [XZ, D.fz, D.fzS, GB, D.can, D.canS, Q3]
   ·exact .inl rfl
   refine Qa Z (Zd Z Z (Zd Z Z (mv2 Z Z (kc1 hK Z ?_))))
   refine Qb fun K hK => mv2 Z Z (kc1 hK Z ?_)
   refine Qn (ZV Z ?_)
   rw [BL, if_pos ⟨h1, h2⟩]; rfl
theorem JD {a : List (Cu × Cu)} (ha : Sm a) : Ok Tryd.prog 22 [Q3 a] (Q3 (SS a)) := by
 refine Ok.ofT Z7 Tryd.func22 Qdu (QeH Z) ?_
 show TW _ _ tf22.body _ _
 have hn := ha.1
 have hc1 := Jk a
 refine Qb fun K hK => Qa Z (kc1 hK Z ?_)
 refine QD ?_ -- 0
 refine Qb fun K hK => Qa Z (Qw (ZI ha) Z Z (.inr Z) (ZL Z (kc2 hK Z Z ?_)))
 refine Qx Z (fun h1 => ?_) (fun h1 => ?_)
 ·try rw [h1]
  try simp only [qA] at h1
  refine Qb fun K hK => Qa Z (kc1 hK Z ?_)
  refine Qn (Qh (ZV Z ?_))
  rw [SS, if_neg (by simp [h1])]; rfl
 ·try rw [h1]
  try simp only [qA] at h1
  refine Qt (ks1 Z (Qb fun K hK => Qa Z (kc2 hK Z Z ?_)))
  refine Qb fun K hK => Qa Z (Qw (Xa ha) Z Z (.inl Z) (Qa Z (kc3 hK Z Z Z ?_)))
  refine QD ?_ -- 1
  refine Qb fun K hK => Qa Z (kc4 hK Z Z Z Z ?_)
  refine QI ?_
  refine Yb (ι := Nat × List (Cu × Cu)) (fun ⟨i, out⟩ => ⟨[(0, Q3 a), (3, .osl 3 out.length), (4, Ms (Z2 a)), (5, .int .i64 i)], [(3, ⟨out.map Ft, 14, 77, true⟩)]⟩) (fun ⟨i, out⟩ => i <= (Z2 a).length /\ FillI (fun x y => !mIn a x y) (Z2 a) i out) (fun ⟨i, out⟩ => (Z2 a).length - i) (0, []) ?_ ?_ ?_
  ·exact le_trans (XN 3 3 14 77 rfl rfl) (Zw (l := [0, 3, 4, 5]) (lH := [3]) (kp4 rfl rfl rfl rfl) (Qv rfl Qy) rfl rfl rfl)
  ·exact ⟨QeT _, FillI.zero⟩
  intro ⟨i, out⟩ hI
  obtain ⟨hI1, hI2⟩ := hI
  have hI3 := hI2.1
  try dsimp only
  refine QD ?_ -- 2
  refine Qb fun K hK => Qa Z (Zc Z Z We (Qa Z (ZD Z Z (YX Z Z (kc5 hK Z Z Z Z Z ?_)))))
  refine Qx Z (fun h2 => ?_) (fun h2 => ?_)
  ·try rw [h2]
   try simp only [qA] at h2
   refine Qt (ks4 Z Z Z Z ?_)
   refine QD ?_ -- 3
   refine QI (Qb fun K hK => mv2 Z Z (Qa Z (QV Z Z Z Wa (ZN Wa) Z (QC (ds0 := [1, 0]) (cs := [_, _, _, _, _, _, _]) Z Z Z Z Z Z (mv2 Z Z (Zc Z Z We (QV Z Z Z Wa (NT Wa) Z (QC (ds0 := [1, 0]) (cs := [_, _, _, _, _, _, _]) Z Z Z Z Z Z ?_))))))))
   refine QT (ds0 := [0]) (YJ ha (ZF ha _ (QeM Wa)) (ZF ha _ (QeM Wa))) Z Z (.inr Z) Z Z (ZL Z (kc5 hK Z Z Z Z Z ?_))
   refine Qx Z (fun h3 => ?_) (fun h3 => ?_)
   ·try rw [h3]
    try simp only [qA] at h3
    refine Za fun K hK => Qa rfl (Qa rfl (Qa rfl (QV rfl rfl rfl Wa (ZN Wa) rfl (QC (ds0 := [1, 0]) (cs := [_, _, _, _, _, _, _]) rfl rfl rfl rfl rfl rfl (Qa rfl (Qa rfl (Zc rfl rfl We (QV rfl rfl rfl Wa (NT Wa) rfl (QC (ds0 := [1, 0]) (cs := [_, _, _, _, _, _, _]) rfl rfl rfl rfl rfl rfl (Pb (ds0 := [0]) (LV (k := 3) rfl rfl rfl Wk rfl Wk (by simp [D.ids, D.sid, dCu]) ⟨.osl 3 out.length, by simp, by simp [D.ids, D.sid]⟩ rfl rfl (Xb Wa hI2.2.1 (ZF ha _ (QeM Wa)) (ZF ha _ (QeM Wa)))) (fun _ h => by cases h) rfl rfl ?_))))))))))
    refine Qa Z (hK _ ?_)
    refine Qi (ks4 Z Z Z Z (Za fun K hK => Qa Z (Zc Z Z We (Qa Z (hK _ ?_)))))
    refine Ql (i + 1, KT out (Z2 a)[i] (Z2 a)[i + 1]) ?_ ?_ ?_
    ·exact le_trans (SL (l := [0, 4, 5]) (t := 40) (u := 3) 3 (kp3 rfl rfl rfl) rfl rfl rfl rfl) (Zw (l := [0, 3, 4, 5]) (lH := [3]) (kp4 rfl rfl rfl rfl) (Qv rfl Qy) rfl rfl rfl)
    ·exact ⟨Wa, hI2.take (ZF ha) Wa (by simp; assumption)⟩
    ·show (Z2 a).length - (i + 1) < (Z2 a).length - i; omega
   ·try rw [h3]
    try simp only [qA] at h3
    refine Qt (Qi (ks4 Z Z Z Z (Za fun K hK => Qa Z (Zc Z Z We (Qa Z (hK _ ?_))))))
    refine Ql (i + 1, out) ?_ ?_ ?_
    ·exact Zw (l := [0, 3, 4, 5]) (lH := [3]) (kp4 rfl rfl rfl rfl) (Qv rfl Qy) rfl rfl rfl
    ·exact ⟨Wa, hI2.skip Wa (by simp; assumption)⟩
    ·show (Z2 a).length - (i + 1) < (Z2 a).length - i; omega
  ·try rw [h2]
   try simp only [qA] at h2
   refine ZC (QP (Qz (QH (ks1 Z (Qb fun K hK => mv2 Z Z (kc1 hK Z ?_))))))
   refine Qn (ZV Z ?_)
   rw [SS, if_pos h1, hI2.done Wa]; simp [XZ, D.fz, D.fzS, GB, lk, D.can, D.canS, Q3]
open Go Go.Abs M3 M25
theorem XC {a b : JP} (h1a : Sm a.1) (h2a : Sm a.2) (h1b : Sm b.1) (h2b : Sm b.2) (hl1 : a.1.length + b.1.length <= 1000000) (hl2 : a.2.length + b.2.length <= 1000000) : Ok Tryd.prog 6 [Gn a, Gn b] (Gn (Si a b)) := by
 refine Ok.ofT Z7 Tryd.func6 tp6 (QeH Z) ?_
 show TW _ _ tf6.body _ _
 refine Qb fun K hK => ZR Z Z Z (ZR Z Z Z (Zm Z (kc3 hK Z Z Z ?_)))
 refine QD ?_ -- 0
 refine Qb fun K hK => QA (cs := [_, _]) Z Z Z Z (Qw (Yd h1a h2a) Z Z (.inr Z) (ZL Z (Qa Z ?_)))
 refine Qs (g := 8) Z (fun h1 => ?_) (fun h1 => ?_)
 ·try rw [h1]
  try simp only [qB] at h1
  refine gn3 Z Z Z (Qf Z Z (kc4 hK Z Z Z Z ?_))
  refine Zg Z (Qb fun K hK => Qw (Zv) Z Z (.inl Z) (QQ Z Z Z Z Z Z Z Z (kc1 hK Z ?_)))
  refine Qn (Qh (Post.eq (Zl (ds := [.sl _, .sl _]) (cs := [_, _]) Z Z Z Z Z) ?_))
  rw [Si, if_neg (by simp [h1])]; rfl
 ·try rw [h1]
  try simp only [qB] at h1
  refine Qd Z (QA (cs := [_, _]) Z Z Z Z (Qd Z (Qw (Yd h1b h2b) Z Z (.inr Z) (Qd Z (ZL Z (Qf Z Z (kc4 hK Z Z Z Z ?_)))))))
  refine Qx Z (fun h2 => ?_) (fun h2 => ?_)
  ·try rw [h2]
   try simp only [qB] at h2
   refine Qb fun K hK => Qw (Zv) Z Z (.inl Z) (QQ Z Z Z Z Z Z Z Z (kc1 hK Z ?_))
   refine Qn (Qh (Post.eq (Zl (ds := [.sl _, .sl _]) (cs := [_, _]) Z Z Z Z Z) ?_))
   rw [Si, if_neg (by simp [h1, h2])]; rfl
  ·try rw [h2]
   try simp only [qB] at h2
   refine Qt (ks3 Z Z Z (Qb fun K hK => Qe Z Z (Zo (ds0 := [7, 1, 0]) Z Z Z Z Z (Qe Z Z (Zo (ds0 := [7, 1, 0]) Z Z Z Z Z (QT (ds0 := [1, 0]) (Ka h1a h1b hl1) Z Z (.inl Z) Z Z (Qe Z Z (Zo (ds0 := [2, 1, 0]) Z Z Z Z Z (Qe Z Z (Zo (ds0 := [2, 1, 0]) Z Z Z Z Z ?_))))))))))
   refine QT (ds0 := [1, 0]) (Ka h2a h2b hl2) Z Z (.inl Z) Z Z (QW Z Z (ZX (ds0 := []) Z Z Z Z Z Z Z Z Z Z (kc1 hK Z ?_)))
   refine Qn (Post.eq (Zl (ds := [.sl _, .sl _]) (cs := [_, _]) Z Z Z Z Z) ?_)
   rw [Si, if_pos ⟨h1, h2⟩]; rfl
theorem Xl {a : JP} (h1a : Sm a.1) (h2a : Sm a.2) : Ok Tryd.prog 8 [Gn a] (Gn (Jl a)) := by
 refine Ok.ofT Z7 Tryd.func8 tp8 (QeH Z) ?_
 show TW _ _ tf8.body _ _
 refine Qb fun K hK => ZR Z Z Z (Zm Z (kc2 hK Z Z ?_))
 refine QD ?_ -- 0
 refine Qb fun K hK => QA (cs := [_, _]) Z Z Z Z (Qw (Yd h1a h2a) Z Z (.inr Z) (ZL Z (kc3 hK Z Z Z ?_)))
 refine Qx Z (fun h1 => ?_) (fun h1 => ?_)
 ·try rw [h1]
  try simp only [qB] at h1
  refine Qb fun K hK => Qw (Zv) Z Z (.inl Z) (QQ Z Z Z Z Z Z Z Z (kc1 hK Z ?_))
  refine Qn (Qh (Post.eq (Zl (ds := [.sl _, .sl _]) (cs := [_, _]) Z Z Z Z Z) ?_))
  rw [Jl, if_neg (by simp [h1])]; rfl
 ·try rw [h1]
  try simp only [qB] at h1
  refine Qt (ks2 Z Z (Qb fun K hK => Qe Z Z (Zo (ds0 := [5, 1, 0]) Z Z Z Z Z (QT (ds0 := [1, 0]) (JD h1a) Z Z (.inl Z) Z Z (Qe Z Z (Zo (ds0 := [2, 1, 0]) Z Z Z Z Z (QT (ds0 := [1, 0]) (JD h2a) Z Z (.inl Z) Z Z (QW Z Z (ZX (ds0 := []) Z Z Z Z Z Z Z Z Z Z (kc1 hK Z ?_))))))))))
  refine Qn (Post.eq (Zl (ds := [.sl _, .sl _]) (cs := [_, _]) Z Z Z Z Z) ?_)
  rw [Jl, if_pos h1]; rfl
open Go Go.Abs M3 M25
theorem XV {v n : Int} (hn : n <= 9223372036854775807) (hv : I64 v) : Ok Tryd.prog 17 [.int .i64 v, .int .i64 n] (.int .i64 (mPl v n)) := by
 refine Ok.ofT Z7 Tryd.func17 Qdp (QeH Z) ?_
 show TW _ _ tf17.body _ _
 refine Qb fun K hK => Qa Z (kc2 hK Z Z ?_)
 refine QD ?_ -- 0
 refine Qb fun K hK => Qa Z (YX Z Z (kc3 hK Z Z Z ?_))
 refine Qx Z (fun h1 => ?_) (fun h1 => ?_)
 ·try rw [h1]
  try simp only [qB] at h1
  refine Qb fun K hK => Qa Z (kc1 hK Z ?_)
  refine Qn (Qh (Qq Z ?_))
  rw [mPl, if_pos h1]
 ·try rw [h1]
  try simp only [qB] at h1
  refine Qt (ks2 Z Z (Qb fun K hK => mv2 Z Z (Qab Z Z Wa (Qa Z (kc2 hK Z Z ?_)))))
  refine QD ?_ -- 1
  refine Qb fun K hK => Qa Z (YX Z Z (kc3 hK Z Z Z ?_))
  refine Qx Z (fun h2 => ?_) (fun h2 => ?_)
  ·try rw [h2]
   try simp only [qB] at h2
   refine Qb fun K hK => mv2 Z Z (Zc Z Z (Qo (by have := Int.lt_tmod_of_pos v (Wa : 0 < n); omega) (by have := Int.tmod_lt_of_pos v (Wa : 0 < n); omega)) (Qa Z (kc1 hK Z ?_)))
   refine Qn (Qh (Qq Z ?_))
   rw [mPl, if_neg h1, N7, if_pos h2]
  ·try rw [h2]
   try simp only [qB] at h2
   refine Qt (ks1 Z (Qb fun K hK => mv2 Z Z (kc1 hK Z ?_)))
   refine Qn (Qq Z ?_)
   rw [mPl, if_neg h1, N7, if_neg h2]
theorem Fm {l : List Int} {i : Int} : Ok Tryd.prog 37 [ZH l, .int .i64 i] (.int .i64 (Lz l i)) := by
 refine Ok.ofT Z7 Tryd.func37 QdJ (QeH Z) ?_
 show TW _ _ tf37.body _ _
 refine Qb fun K hK => Qa Z (kc2 hK Z Z ?_)
 refine QD ?_ -- 0
 refine Qb fun K hK => Qa Z (YX Z Z (Qa Z ?_))
 refine Qs (g := 7) Z (fun h1 => ?_) (fun h1 => ?_)
 ·try rw [h1]
  try simp only [qA] at h1
  refine gn4 Z Z Z Z (Qf Z Z (kc3 hK Z Z Z ?_))
  refine Zg Z (Qb fun K hK => Qa Z (Qab Z Z Wa (Qa Z (kc1 hK Z ?_))))
  refine Qn (Qh (Qq Z ?_))
  rw [Lz, if_pos Wa]
 ·try rw [h1]
  try simp only [qA] at h1
  refine Qd Z (Qa Z (Qd Z (Qa Z (Qd Z (ZD Z Z (Qd Z (Tj Z Z (Qf Z Z (kc3 hK Z Z Z ?_)))))))))
  refine Qx Z (fun h2 => ?_) (fun h2 => ?_)
  ·try rw [h2]
   try simp only [qA] at h2
   refine Qb fun K hK => Qa Z (Qab Z Z Wa (Qa Z (kc1 hK Z ?_)))
   refine Qn (Qh (Qq Z ?_))
   rw [Lz, if_pos Wa]
  ·try rw [h2]
   try simp only [qA] at h2
   refine Qt (ks2 Z Z (Qb fun K hK => mv2 Z Z (QV Z Z Z Wa (Yn Wa Wa) Z (QB Z Z Z (Qa Z (kc1 hK Z ?_))))))
   refine Qn (Qq Z ?_)
   exact (DG Wa Wa).symm
theorem XM {k : Nat} {L : List Int} {I n : Int} (hk : 1000000 <= k) (hL : ∀ x ∈ L, I64 x) (hn : n <= 9223372036854775807) (et : Nat) : OkH Tryd.prog 15 [.ref k 0 0, .int .i64 n] [(k, gB L I et)] (.int .i64 (nx L I n)) ((k, gB L (nxI I) et) :: [(k, gB L I et)]) := by
 refine OkH.lent hk Z7 Tryd.func15 Qdo (QeH Z) Z ?_
 show TW _ _ tf15.body _ _
 refine Qb fun K hK => Qa Z (kc2 hK Z Z ?_)
 refine Qb fun K hK => Qa Z (Ya Z Z (Qe Z F5 (QB Z (ZU Fz Z) Z (Zc Z Z Z (Ya Z Z (Qe Z F5 (QQ Z Fz Z Z Z Z Z Z (kc2 hK Z Z ?_))))))))
 refine Qb fun K hK => Qa Z (Ya Z Z (Qe Z F5 (Zo (ds0 := [3, 1, 0]) Z (ZU Fz Z) Z Z Z (Qa Z (Ya Z Z (Qe Z F5 (Zo (ds0 := [4, 3, 1, 0]) Z (ZU Fz Z) Z Z Z (HN Z Z Z (QT (ds0 := [1, 0]) (Fm) Z Z (.inr Z) Z Z (Qa Z ?_))))))))))
 refine QT (ds0 := [0]) (XV hn (CZ hL (Mo _))) Z Z (.inr Z) Z Z (Qa Z (kc1 hK Z ?_))
 refine Qn ?_
 exact Jn rfl rfl (Qa0 Fz)
open Go Go.Abs M3 M25
theorem Gi {v : Int} (h0 : 0 <= v) (h1v : v <= 61) : Ok Tryd.prog 27 [.int .i64 v] (.int .i64 (2 ^ v.toNat)) := by
 refine Ok.ofT Z7 Tryd.func27 Qdz (QeH Z) ?_
 show TW _ _ tf27.body _ _
 refine Qb fun K hK => Qa Z (kc1 hK Z ?_)
 refine Qb fun K hK => Qa Z (kc2 hK Z Z ?_)
 refine QD ?_ -- 0
 refine Qb fun K hK => Qa Z (kc3 hK Z Z Z ?_)
 refine QI ?_
 refine Yb (ι := Nat) (fun i => ⟨[(0, .int .i64 v), (3, .int .i64 (2 ^ i)), (4, .int .i64 i)], []⟩) (fun i => (i : Int) <= v) (fun i => v.toNat - i) 0 ?_ ?_ ?_
 ·exact Q4 (kp3 rfl rfl rfl)
 ·exact h0
 intro i hI
 have hp := SX (i := i + 1) Wa
 rw [Int.pow_succ] at hp
 try dsimp only
 refine QD ?_ -- 1
 refine Qb fun K hK => mv2 Z Z (YX Z Z (kc4 hK Z Z Z Z ?_))
 refine Qx Z (fun h1 => ?_) (fun h1 => ?_)
 ·try rw [h1]
  try simp only [qB] at h1
  refine Qt (ks3 Z Z Z ?_)
  refine QD ?_ -- 2
  refine QI (Za fun K hK => Qa rfl (Cp rfl rfl (Qo (by obtain ⟨p1, p2⟩ := hp; generalize (2 : Int) ^ i = z at *; omega) (by obtain ⟨p1, p2⟩ := hp; generalize (2 : Int) ^ i = z at *; omega)) (Qa rfl (hK _ ?_))))
  refine Qi (ks3 Z Z Z (Za fun K hK => Qa Z (Zc Z Z (Qo Wa Wa) (Qa Z (hK _ ?_)))))
  refine Ql (i + 1) ?_ ?_ ?_
  ·exact Zw (l := [0, 3, 4]) (lH := []) (kp3 rfl rfl rfl) Qy (by rw [Int.pow_succ]; rfl) rfl rfl
  ·show ((i + 1 : Nat) : Int) <= v; omega
  ·first | omega | (simp only; omega) | (dsimp only; omega)
 ·try rw [h1]
  try simp only [qB] at h1
  refine ZC (QP (Qz (QH (ks1 Z (Qb fun K hK => mv2 Z Z (kc1 hK Z ?_))))))
  refine Qn (Qq Z ?_)
  rw [show v.toNat = i by omega]
theorem FH {h m : Int} : Ok Tryd.prog 30 [.int .i64 h, .int .i64 m] (.int .i64 (PI h m)) := by
 refine Ok.ofT Z7 Tryd.func30 QdC (QeH Z) ?_
 show TW _ _ tf30.body _ _
 refine Qb fun K hK => Qa Z (kc2 hK Z Z ?_)
 refine QD ?_ -- 0
 refine QI (Qb fun K hK => mv2 Z Z (Ti Z Z (Yr Z Z (Qa Z (kc3 hK Z Z Z ?_)))))
 refine Qx Z (fun h1 => ?_) (fun h1 => ?_)
 ·try rw [h1]
  try simp only [qB] at h1
  refine Qb fun K hK => Qa Z (kc1 hK Z ?_)
  refine Qn (Qr (Qh (Qq Z ?_)))
  rw [PI, if_pos h1]
 ·try rw [h1]
  try simp only [qB] at h1
  refine Qb fun K hK => mv2 Z Z (Rc Z Z (Yr Z Z (Qa Z (kc1 hK Z ?_))))
  refine Qx Z (fun h2 => ?_) (fun h2 => ?_)
  ·try rw [h2]
   try simp only [qB] at h2
   refine Qb fun K hK => Qa Z (kc1 hK Z ?_)
   refine Qn (Qr (Qh (Qq Z ?_)))
   rw [PI, if_neg h1, if_pos h2]
  ·try rw [h2]
   try simp only [qB] at h2
   refine Qt (Qi (Zs (ZJ) (Qb fun K hK => Qa Z (kc1 hK Z ?_))))
   refine Qn (Qq Z ?_)
   rw [PI, if_neg h1, if_neg h2]
open Go Go.Abs M3 M25
theorem Xj  : Ok Tryd.prog 31 [] (.sl (versions.map dVr)) := by
 refine Ok.ofT Z7 Tryd.func31 QdD (QeH Z) ?_
 show TW _ _ tf31.body _ _
 refine Qb fun K hK => Qa Z (hK _ _ (Sq (ZJ) ?_))
 refine Qb fun K hK => QW Z Z (QW Z Z (QW Z Z (QW Z Z (QK Z Z (Qa Z (kc1 hK Z ?_))))))
 refine Qn (ZV Z ?_)
 rfl
end Go.Proofs
namespace M25
open Go Go.Abs M3
structure WantT where
 u : Int
 s : JP
structure CandT where
 v : Vr
 sh : Int
 ns : List (List WantT)
 bs : List WantT
structure Kv where
 n : List UInt8
 f : List UInt8
 cs : List CandT
abbrev QR := List Kv
def Ke (x : WantT) : List D := [.int .i64 x.u, Q3 x.s.1, Q3 x.s.2]
def QX (l : List WantT) : D := .sl (l.map Ke)
def QM (l : List (List WantT)) : D := .sl (l.map fun r => [QX r])
def QcL (c : CandT) : List D := [.int .i64 c.v.a, .int .i64 c.v.b, .int .i64 c.v.c, .str c.v.p, .str c.v.q, .int .i64 c.sh, QM c.ns, QX c.bs]
def JI (l : List CandT) : D := .sl (l.map QcL)
def HW (u : Kv) : List D := [.str u.n, .str u.f, JI u.cs]
def H5 (w : QR) : D := .agg [.sl (w.map HW)]
structure FR where
 u : Int
 m : Int
 deriving DecidableEq
structure Ku where
 u : Int
 m : Int
 l : Int
 c : Int
 deriving DecidableEq
structure RowT where
 k : Int
 u : Int
 a : Int
 b : Int
 t : List FR
abbrev Fk (a b : Int) : Int := Kf .and .i64 a b
abbrev bor (a b : Int) : Int := Kf .or .i64 a b
abbrev Sg (a b : Int) : Int := Kf .andNot .i64 a b
def uAt (w : QR) (u : Int) : Option Kv := if u < 0 then none else w[u.toNat]?
theorem Mm {w : QR} {u : Int} (h0 : 0 <= u) (h : u < w.length) : uAt w u = some (w[u.toNat]'Wa) := by
 rw [uAt, if_neg Wa, List.getElem?_eq_getElem Wa]
theorem PV {w : QR} {u : Int} (h : u < 0 \/ (w.length : Int) <= u) : uAt w u = none := by
 unfold uAt
 split
 ·rfl
 ·rw [List.getElem?_eq_none]; omega
def XQ (w : QR) (u : Int) : Int := match uAt w u with
 | none => 0
 | some x => 2 ^ (min x.cs.length 16 + 1) - 1
theorem G2 {w : QR} {u : Int} (h0 : 0 <= u) (h : u < w.length) : XQ w u = 2 ^ (min (w[u.toNat]'Wa).cs.length 16 + 1) - 1 := by
 rw [XQ, Mm h0 h]
theorem G3 {w : QR} {u : Int} (h : u < 0 \/ (w.length : Int) <= u) : XQ w u = 0 := by rw [XQ, PV h]
theorem C2 (w : QR) (u : Int) : 0 <= XQ w u /\ XQ w u <= 131071 := by
 unfold XQ
 split
 ·omega
 ·rename_i x _
  have h1 : (2 : Nat) ^ (min x.cs.length 16 + 1) <= 2 ^ 17 := Nat.pow_le_pow_right Wa Wa
  have h2 : 1 <= (2 : Nat) ^ (min x.cs.length 16 + 1) := Nat.one_le_two_pow
  have h3 : ((2 ^ (min x.cs.length 16 + 1) : Nat) : Int) = (2 : Int) ^ (min x.cs.length 16 + 1) := by simp
  rw [<- h3]
  have h4 : (2 : Nat) ^ 17 = 131072 := by decide
  omega
def FS (v : Vr) : Prop := v.p.length <= 1000000 /\ v.q.length <= 1000000
structure WSm (w : QR) : Prop where
 len : w.length <= 48
 cs : ∀ u ∈ w, u.cs.length <= 16
 vs : ∀ u ∈ w, ∀ c ∈ u.cs, FS c.v
 ns : ∀ u ∈ w, ∀ c ∈ u.cs, c.ns.length <= 1000 /\ c.bs.length <= 1000
 nl : ∀ u ∈ w, ∀ c ∈ u.cs, ∀ r ∈ c.ns, r.length <= 1000
 nw : ∀ u ∈ w, ∀ c ∈ u.cs, ∀ r ∈ c.ns, ∀ x ∈ r, Sm x.s.1 /\ Sm x.s.2
 bw : ∀ u ∈ w, ∀ c ∈ u.cs, ∀ x ∈ c.bs, Sm x.s.1 /\ Sm x.s.2
def Px (s : JP) (v : Vr) : Bool := SQ s v.a v.b v.c v.p v.q
def Kl (s : JP) (l : List CandT) : Nat -> Int
 | 0 => 0
 | n + 1 => Kl s l n + match l[n]? with
  | some c => if Px s c.v = true then 2 ^ (n + 1) else 0
  | none => 0
theorem Na (s : JP) (l : List CandT) : ∀ n, 0 <= Kl s l n /\ Kl s l n <= 2 ^ (n + 1) - 2
 | 0 => by simp [Kl]
 | n + 1 => by
  obtain ⟨h1, h2⟩ := Na s l n
  have h3 : (2 : Int) ^ (n + 1 + 1) = 2 ^ (n + 1) * 2 := Int.pow_succ ..
  have h4 : (0 : Int) < 2 ^ (n + 1) := Int.pow_pos Wa
  rw [Kl, h3]
  generalize (2 : Int) ^ (n + 1) = z at *
  split
  ·split <;> omega
  ·omega
theorem RT {s : JP} {l : List CandT} {i : Nat} (h : i < l.length) (hp : Px s l[i].v = true) : Kl s l (i + 1) = Kl s l i + 2 ^ (i + 1) := by
 rw [Kl, List.getElem?_eq_getElem h]; simp only [hp, if_true]
theorem TP {s : JP} {l : List CandT} {i : Nat} (h : i < l.length) (hp : Px s l[i].v = false) : Kl s l (i + 1) = Kl s l i := by
 rw [Kl, List.getElem?_eq_getElem h]; simp only [hp, QeP, if_false, Int.add_zero]
def MA (w : QR) (x : WantT) : Int := match uAt w x.u with
 | none => 0
 | some un => Kl x.s un.cs (min un.cs.length 16)
theorem KF {w : QR} {x : WantT} (h0 : 0 <= x.u) (h : x.u < w.length) : MA w x = Kl x.s (w[x.u.toNat]'Wa).cs (min (w[x.u.toNat]'Wa).cs.length 16) := by
 rw [MA, Mm h0 h]
theorem C3 {w : QR} {x : WantT} (h : x.u < 0 \/ (w.length : Int) <= x.u) : MA w x = 0 := by rw [MA, PV h]
theorem Qb9 {n : Nat} (h : n <= 17) : 1 <= (2 : Int) ^ n /\ (2 : Int) ^ n <= 131072 := by
 have h1 : (2 : Nat) ^ n <= 2 ^ 17 := Nat.pow_le_pow_right Wa h
 have h2 : 1 <= (2 : Nat) ^ n := Nat.one_le_two_pow
 have h3 : ((2 ^ n : Nat) : Int) = (2 : Int) ^ n := by simp
 rw [<- h3]
 have h4 : (2 : Nat) ^ 17 = 131072 := by decide
 omega
def FN (w : QR) (c : List Int) (u : Int) : Int := match uAt w u with
 | none => 0
 | some x => if (c.length : Int) <= u then 0 else if c.getD u.toNat 0 < -1 \/ ((min x.cs.length 16 : Nat) : Int) <= c.getD u.toNat 0 then 0 else 2 ^ (c.getD u.toNat 0 + 1).toNat
def Ys (m : Int) : Nat -> List Int
 | 0 => []
 | n + 1 => Ys m n ++ if Fk m (2 ^ n) = 0 then [] else [(n : Int) - 1]
def XF (m : Int) : List Int := Ys m 17
def inW (w : QR) (u : Int) : Bool := decide (0 <= u) && decide (u < w.length)
/-! ### Trails -/
def Mz (w : QR) (l : List Ku) (u : Int) : Int := l.foldl (fun a s => if s.u = u /\ inW w u = true then s.m else a) (XQ w u)
def Qb1 (l : List Ku) : Int := match l.getLast? with
 | none => 0
 | some s => s.l
def C1 (l : List Ku) (u : Int) : Bool := l.any fun s => decide (s.u = u) && decide (s.c = -1)
def QcQ (w : QR) (l : List Ku) (inc : List FR) : Bool := inc.all fun t => decide (RS (Mz w l t.u) t.m = 2)
def PK (have_ : Int -> Int) : List FR -> Int -> Int
 | [], at_ => at_
 | t :: r, at_ => if RS (have_ t.u) t.m = 0 then -1 else if RS (have_ t.u) t.m = 1 then (if 0 <= at_ then -1 else PK have_ r t.u) else PK have_ r at_
def Qb2 (w : QR) (l : List Ku) (inc : List FR) : Int := PK (Mz w l) inc (-1)
def T3 (w : QR) (l : List Ku) : Nat -> List (List FR) -> Int × Int
 | _, [] => (-1, -1)
 | i, x :: r => if QcQ w l x = true then (i, -1) else if 0 <= Qb2 w l x then (i, Qb2 w l x) else T3 w l (i + 1) r
def QcP (w : QR) (db : List (List FR)) (l : List Ku) : Int × Int := T3 w l 0 db
end M25
namespace M25
open Go Go.Abs M3
section
variable {fr : QeF} {H : QeE} {t u : Nat}
end
theorem QcR (n : Nat) : (min (n : Int) 16 + 1).toNat = min n 16 + 1 := Wa
theorem Se {n : Nat} (h : n <= 62) : IntKind.i64.wrap ((2 : Int) ^ n - 1) = 2 ^ n - 1 := by
 have := SX h; exact Qo Wa Wa
theorem Kj {w : QR} {c : List Int} {u : Int} (h : (u < 0 \/ (w.length : Int) <= u) \/ (c.length : Int) <= u) : FN w c u = 0 := by
 unfold FN
 split
 ·rfl
 ·rename_i x hx
  rcases h with h | h
  ·rw [PV h] at hx; cases hx
  ·rw [if_pos h]
theorem Ki {w : QR} {c : List Int} {u : Int} (h0 : 0 <= u) (h1 : u < w.length) (h2 : u < c.length) (h : c[u.toNat]'Wa < -1 \/ min (((w[u.toNat]'Wa).cs.length : Nat) : Int) 16 <= c[u.toNat]'Wa) : FN w c u = 0 := by
 rw [FN, Mm h0 h1]
 simp only []
 rw [if_neg Wa, List.getD_eq_getElem?_getD, List.getElem?_eq_getElem Wa]
 simp only [Option.getD_some]
 rw [if_pos]
 rcases h with h | h
 ·exact .inl h
 ·right; omega
theorem Hh {w : QR} {c : List Int} {u : Int} (h0 : 0 <= u) (h1 : u < w.length) (h2 : u < c.length) (h : ¬ c[u.toNat]'Wa < -1) (h' : ¬ min (((w[u.toNat]'Wa).cs.length : Nat) : Int) 16 <= c[u.toNat]'Wa) : FN w c u = 2 ^ (c[u.toNat]'Wa + 1).toNat := by
 rw [FN, Mm h0 h1]
 simp only []
 rw [if_neg Wa, List.getD_eq_getElem?_getD, List.getElem?_eq_getElem Wa]
 simp only [Option.getD_some]
 rw [if_neg]
 omega
theorem Tt {m : Int} {n : Nat} (h : ¬ Fk m (2 ^ n) = 0) : Ys m (n + 1) = Ys m n ++ [(n : Int) - 1] := by rw [Ys, if_neg h]
theorem L6 {m : Int} {n : Nat} (h : Fk m (2 ^ n) = 0) : Ys m (n + 1) = Ys m n := by rw [Ys, if_pos h, List.append_nil]
theorem QbU {w : QR} {u : Int} (h0 : 0 <= u) (h : u < w.length) : inW w u = true := by simp [inW, h0, h]
theorem Dv {w : QR} {u : Int} (h : u < 0 \/ (w.length : Int) <= u) : inW w u = false := by
 simp only [inW, QeU, decide_eq_false_iff_not]; omega
theorem NU {w : QR} {u : Int} : inW w u = true ↔ 0 <= u /\ u < w.length := by simp [inW]
theorem P1 {e : Int} (h1 : 0 <= e) (h2 : e <= 18446744073709551615) : IntKind.u64.wrap e = e := by
 unfold IntKind.wrap
 simp only [IntKind.bits, IntKind.signed, Bool.false_and, QeP, if_false]
 omega
end M25
namespace Go.Proofs
open Go Go.Abs M3 M25
theorem HS {w : QR} (hw : WSm w) {u : Int} : Ok Tryd.prog 10 [H5 w, .int .i64 u] (.int .i64 (XQ w u)) := by
 refine Ok.ofT Z7 Tryd.func10 Qdj (QeH Z) ?_
 show TW _ _ tf10.body _ _
 refine Qb fun K hK => ZR Z Z Z (Qa Z (kc2 hK Z Z ?_))
 refine QD ?_ -- 0
 refine Qb fun K hK => Qa Z (YX Z Z (Qa Z ?_))
 refine Qs (g := 7) Z (fun h1 => ?_) (fun h1 => ?_)
 ·try rw [h1]
  try simp only [qA] at h1
  refine gn4 Z Z Z Z (XT Z (Qf Z Z (kc3 hK Z Z Z ?_)))
  refine Zg Z (Qb fun K hK => Qa Z (kc1 hK Z ?_))
  refine Qn (Qh (Qq Z ?_))
  rw [G3 Wa]
 ·try rw [h1]
  try simp only [qA] at h1
  refine Qd Z (Qa Z (Qd Z (Qe Z Z (Qd Z (QB Z Z Z (Qd Z (ZD Z Z (Qd Z (Tj Z Z (Qf Z Z (kc3 hK Z Z Z ?_)))))))))))
  refine Qx Z (fun h2 => ?_) (fun h2 => ?_)
  ·try rw [h2]
   try simp only [qA] at h2
   refine Qb fun K hK => Qa Z (kc1 hK Z ?_)
   refine Qn (Qh (Qq Z ?_))
   rw [G3 Wa]
  ·try rw [h2]
   try simp only [qA] at h2
   refine Qt (ks2 Z Z (Qb fun K hK => Qe Z Z (QB Z Z Z (Qa Z (QV Z Z Z Wa (Yn Wa Wa) Z (Z5 Z Z (QB Z Z Z (ZD Z Z (Qcz Z Z (Zc Z Z We ?_))))))))))
   refine Qw (Gi Wa Wa) Z Z (.inr Z) (HN Z Z (Se Wa) (Qa Z (kc1 hK Z ?_)))
   refine Qn (Qq Z ?_)
   rw [G2 Wa Wa, List.length_map, QcR]
end Go.Proofs
namespace M25
open Go Go.Abs M3
open Go Go.Abs M3
/-! ### Bits of numbers -/
theorem P0 (e : Int) : IntKind.i64.wrap e = (BitVec.ofInt 64 e).toInt := by
 have hb : (BitVec.ofInt 64 e).toInt = if e % 18446744073709551616 < 9223372036854775808 then e % 18446744073709551616 else e % 18446744073709551616 - 18446744073709551616 := by
  rw [BitVec.toInt_ofInt]; rfl
 rw [hb]
 unfold IntKind.wrap
 simp only [IntKind.bits, IntKind.signed, Bool.true_and]
 split
 ·rename_i h
  have := of_decide_eq_true h
  split <;> omega
 ·rename_i h
  have : ¬ (e % 2 ^ 64 >= 2 ^ (64 - 1)) := fun hh => h (decide_eq_true hh)
  split <;> omega
theorem Gt (b : BitVec 64) : BitVec.ofInt 64 (b.toNat : Int) = b := by
 rw [BitVec.ofInt_natCast, BitVec.ofNat_toNat, BitVec.setWidth_eq]
theorem QbK (x y : Int) : BitVec.ofInt 64 (Fk x y) = BitVec.ofInt 64 x &&& BitVec.ofInt 64 y := by
 show BitVec.ofInt 64 (IntKind.i64.wrap ((BitVec.ofInt 64 x &&& BitVec.ofInt 64 y).toNat : Int)) = _
 rw [P0, BitVec.ofInt_toInt, Gt]
theorem QcI (x y : Int) : BitVec.ofInt 64 (bor x y) = BitVec.ofInt 64 x ||| BitVec.ofInt 64 y := by
 show BitVec.ofInt 64 (IntKind.i64.wrap ((BitVec.ofInt 64 x ||| BitVec.ofInt 64 y).toNat : Int)) = _
 rw [P0, BitVec.ofInt_toInt, Gt]
theorem QbL (x y : Int) : BitVec.ofInt 64 (Sg x y) = BitVec.ofInt 64 x &&& ~~~ BitVec.ofInt 64 y := by
 show BitVec.ofInt 64 (IntKind.i64.wrap ((BitVec.ofInt 64 x &&& ~~~ BitVec.ofInt 64 y).toNat : Int)) = _
 rw [P0, BitVec.ofInt_toInt, Gt]
theorem CQ {x : Int} (h : I64 x) : IntKind.i64.wrap x = x := Qo h.1 h.2
theorem Bz {x : Int} (h : I64 x) : (BitVec.ofInt 64 x).toInt = x := by rw [<- P0, CQ h]
theorem Du (x y : Int) : I64 (Fk x y) := Mo _
theorem BF (x y : Int) : I64 (bor x y) := Mo _
def tb (x : Int) (i : Nat) : Bool := (BitVec.ofInt 64 x).getLsbD i
theorem BX (x y : Int) (i : Nat) : tb (Fk x y) i = (tb x i && tb y i) := by rw [tb, QbK, BitVec.getLsbD_and]; rfl
theorem Qa4 (x y : Int) (i : Nat) : tb (bor x y) i = (tb x i || tb y i) := by rw [tb, QcI, BitVec.getLsbD_or]; rfl
theorem Qcf (x y : Int) {i : Nat} : tb (Sg x y) i = (tb x i && !tb y i) := by
 rw [tb, QbL, BitVec.getLsbD_and, BitVec.getLsbD_not]
 by_cases h : i < 64
 ·simp [h, tb]
 ·simp [tb, BitVec.getLsbD_of_ge _ i (by omega : 64 <= i)]
theorem D9 (x : Int) {i : Nat} (h : 64 <= i) : tb x i = false := BitVec.getLsbD_of_ge _ i h
theorem T9 {x y : Int} (hx : I64 x) (hy : I64 y) (h : ∀ i, tb x i = tb y i) : x = y := by
 rw [<- Bz hx, <- Bz hy]
 congr 1
 exact BitVec.eq_of_getLsbD_eq fun i _ => h i
theorem S6 (i : Nat) : tb 0 i = false := by
 show (BitVec.ofInt 64 0).getLsbD i = false
 rw [show BitVec.ofInt 64 0 = 0#64 from rfl, BitVec.getLsbD_zero]
theorem SG {x : Int} (hx : I64 x) : x = 0 ↔ ∀ i, tb x i = false := by
 constructor
 ·rintro rfl i; exact S6 i
 ·intro h; exact T9 hx ⟨Wa, Wa⟩ fun i => by rw [h i, S6]
theorem La (n : Nat) {i : Nat} (h : i < 64) : tb (n : Int) i = n.testBit i := by
 rw [tb, BitVec.ofInt_natCast, BitVec.getLsbD_ofNat]; simp [h]
theorem Sb {k : Nat} (hk : k < 64) (i : Nat) : tb ((2 : Int) ^ k) i = decide (i = k) := by
 have e : ((2 ^ k : Nat) : Int) = (2 : Int) ^ k := by simp
 by_cases h : i < 64
 ·rw [<- e, La _ h, Nat.testBit_two_pow]
  exact decide_eq_decide.2 eq_comm
 ·rw [D9 _ Wa]; exact (decide_eq_false Wa).symm
theorem Cr {x m : Int} : Fk x m = 0 ↔ ∀ i, tb x i = true -> tb m i = false := by
 rw [SG (Du x m)]
 refine forall_congr' fun i => ?_
 rw [BX]; cases tb x i <;> cases tb m i <;> simp
def Lo (x : Int) : Prop := 0 <= x /\ x < 131072
theorem Cv {x : Int} {k : Nat} (hk : k < 64) : Fk x (2 ^ k) = 0 ↔ tb x k = false := by
 rw [Cr]
 constructor
 ·intro h
  cases hx : tb x k
  ·rfl
  ·have := h k hx; rw [Sb hk] at this; simp at this
 ·intro h i hi
  rw [Sb hk]
  by_cases e : i = k
  ·subst e; rw [h] at hi; cases hi
  ·exact decide_eq_false e
open Go Go.Abs M3
/-! ### Trails: the loops' laws -/
theorem Dg {w : QR} {u : Int} : XQ w u = 0 ↔ inW w u = false := by
 constructor
 ·intro h
  cases hw : inW w u
  ·rfl
  ·rw [NU] at hw
   rw [G2 hw.1 hw.2] at h
   have h2 : 2 <= (2 : Int) ^ (min (w[u.toNat]'Wa).cs.length 16 + 1) := by
    rw [Int.pow_succ]
    have := Qb9 (n := min (w[u.toNat]'Wa).cs.length 16) Wa
    omega
   omega
 ·intro h
  refine G3 (Classical.byContradiction fun hn => ?_)
  rw [QbU Wa Wa] at h; cases h
def Qbr (w : QR) (l : List Ku) : Prop := ∀ s ∈ l, Lo s.m
open Go Go.Abs M3
theorem Ci {v : Int} (h : (v + 1).toNat <= 61) : IntKind.i64.wrap ((1 : Int) * 2 ^ min (v + 1).toNat IntKind.i64.bits) = 2 ^ (v + 1).toNat := by
 rw [show min (v + 1).toNat IntKind.i64.bits = (v + 1).toNat from by simp only [IntKind.bits]; omega, Int.one_mul]
 have := SX (i := (v + 1).toNat) Wa
 exact Qo Wa Wa
end M25
namespace Go.Proofs
open Go Go.Abs M3 M25
theorem Hw {v : Int} (h0 : -1 <= v) (h1v : v <= 60) : Ok Tryd.prog 26 [.int .i64 v] (.int .i64 (2 ^ (v + 1).toNat)) := by
 refine Ok.ofT Z7 Tryd.func26 Qdy (QeH Z) ?_
 show TW _ _ tf26.body _ _
 refine Qb fun K hK => Qa Z (kc1 hK Z ?_)
 refine Qb fun K hK => Qa Z (Zc Z Z We (QcA Z Z Wa (Ci Wa) (Qa Z (kc1 hK Z ?_))))
 refine Qn (Qq Z ?_)
 rfl
theorem MI {w : QR} (hw : WSm w) {u : Int} : Ok Tryd.prog 46 [H5 w, .int .i64 u] (.bool (inW w u)) := by
 refine Ok.ofT Z7 Tryd.func46 QdR (QeH Z) ?_
 show TW _ _ tf46.body _ _
 refine Qb fun K hK => ZR Z Z Z (Qa Z (kc2 hK Z Z ?_))
 refine Qb fun K hK => Qa Z (Tj Z Z (Qa Z ?_))
 refine Qs (g := 7) Z (fun h1 => ?_) (fun h1 => ?_)
 ·try rw [h1]
  try simp only [qA] at h1
  refine Qd Z (Qa Z (Qd Z (Qe Z Z (Qd Z (QB Z Z Z (Qd Z ?_))))))
  first | refine ZD rfl Yx ?_ | refine ZD rfl rfl ?_
  refine Qd Z (YX Z Z (Qf Z Z (Qa Z (kc1 hK Z ?_))))
  refine Qn (Qk Z ?_)
  first | rfl | (rw [Dv Wa]; done) | (rw [inW, decide_eq_true h1, Bool.true_and])
 ·try rw [h1]
  try simp only [qA] at h1
  refine gn4 Z Z Z Z (XT Z (Qf Z Z (Qa Z (kc1 hK Z ?_))))
  refine Qn (Qk Z ?_)
  first | rfl | (rw [Dv Wa]; done) | (rw [inW, decide_eq_true h1, Bool.true_and])
theorem NA {w : QR} (hw : WSm w) {u : Int} : Ok Tryd.prog 24 [H5 w, .int .i64 u] (.int .i64 (XQ w u)) := by
 refine Ok.ofT Z7 Tryd.func24 Qdw (QeH Z) ?_
 show TW _ _ tf24.body _ _
 refine Qb fun K hK => ZR Z Z Z (Qa Z (kc2 hK Z Z ?_))
 refine QD ?_ -- 0
 refine Qb fun K hK => QA (cs := [_]) Z Z Z Z (Qa Z (Qw (MI hw) Z Z (.inr Z) (ZL Z (kc3 hK Z Z Z ?_))))
 refine Qx Z (fun h1 => ?_) (fun h1 => ?_)
 ·try rw [h1]
  try simp only [qA] at h1
  try have h1b := NU.1 h1
  refine Qb fun K hK => Qa Z (kc1 hK Z ?_)
  refine Qn (Qh (Qq Z ?_))
  rw [Dg.2 h1]
 ·try rw [h1]
  try simp only [qA] at h1
  try have h1b := NU.1 h1
  refine Qt (ks2 Z Z (Qb fun K hK => Qe Z Z (QB Z Z Z (Qa Z (QV Z Z Z Wa (Yn Wa Wa) Z (Z5 Z Z (QB Z Z Z ?_)))))))
  first | refine ZD rfl Yx ?_ | refine ZD rfl rfl ?_
  refine Qw (Hw Wa (by have := hw.cs _ (QeM (Wa : u.toNat < w.length)); omega)) Z Z (.inr Z) (HN Z Z (Se (by have := hw.cs _ (QeM (Wa : u.toNat < w.length)); omega)) (Qa Z (kc1 hK Z ?_)))
  refine Qn (Qq Z ?_)
  rw [G2 h1b.1 h1b.2, show min (w[u.toNat]'Wa).cs.length 16 = (w[u.toNat]'Wa).cs.length from Nat.min_eq_left (hw.cs _ (QeM _)), Qch]
end Go.Proofs
namespace M25
open Go Go.Abs M3
/-! ### prop: what is left of each unit, scans -/
structure Qbq (w : QR) (db : List (List FR)) (l : List Ku) (a : Nat) (k : Nat) : Prop where
  ha : a < db.length
  hk : k < db[a].length
  eq : QcP w db l = ((a : Int), db[a][k].u)
  one : RS (Mz w l db[a][k].u) db[a][k].m = 1
  two : ∀ j, ∀ hj : j < db[a].length, j ≠ k -> RS (Mz w l db[a][j].u) db[a][j].m = 2
def Qdc (w : QR) (l : List Ku) (t : FR) (c : Int) : Ku := ⟨t.u, Sg (Mz w l t.u) t.m, Qb1 l, c⟩
open Go Go.Abs M3
/-! ### Sets that are made: moderate sizes -/
theorem CP (l : List (Cu × Cu)) (x y : Cu) : (KT l x y).length <= l.length + 1 := RN l x y
theorem NL (f : Cu -> Cu -> Bool) : ∀ (c : List Cu) (out : List (Cu × Cu)), (∀ x ∈ c, Cu.sm x) -> (∀ s ∈ out, Cu.sm s.1 /\ Cu.sm s.2) -> (KS f c out).length <= out.length + c.length /\ ∀ s ∈ KS f c out, Cu.sm s.1 /\ Cu.sm s.2
 | [], out, _, h => ⟨by simp [KS], by simpa [KS] using h⟩
 | [x], out, _, h => ⟨by simp [KS], by simpa [KS] using h⟩
 | x :: y :: r, out, hc, h => by
  rw [KS]
  have hxy := CP out x y
  split
  ·obtain ⟨h1, h2⟩ := NL f (y :: r) (KT out x y) (fun z hz => hc z (by simp at hz ⊢; exact .inr hz)) (TK h (hc x Wg) (hc y Wg))
   exact ⟨by simp only [List.length_cons] at h1 ⊢; omega, h2⟩
  ·obtain ⟨h1, h2⟩ := NL f (y :: r) out (fun z hz => hc z (by simp at hz ⊢; exact .inr hz)) h
   exact ⟨by simp only [List.length_cons] at h1 ⊢; omega, h2⟩
def SmN (n : Nat) (l : List (Cu × Cu)) : Prop := l.length <= n /\ ∀ s ∈ l, Cu.sm s.1 /\ Cu.sm s.2
theorem SmN.sm {n : Nat} {l : List (Cu × Cu)} (h : SmN n l) (hn : n <= 1000000) : Sm l := ⟨Qe0 h.1 hn, h.2⟩
theorem SmN.up {n m : Nat} {l : List (Cu × Cu)} (h : SmN n l) (hn : n <= m) : SmN m l := ⟨Qe0 h.1 hn, h.2⟩
theorem SmN.nil (n : Nat) : SmN n [] := ⟨QeT _, by simp⟩
theorem BP {a b : List (Cu × Cu)} {n m : Nat} (ha : SmN n a) (hb : SmN m b) (h : n + m <= 1000000) : SmN (2 + 2 * (n + m)) (BL a b) := by
 unfold BL
 split
 ·have hab : Sm (a ++ b) := (ha.sm Wa).app (hb.sm Wa) (by have := ha.1; have := hb.1; omega)
  unfold SR
  split
  ·obtain ⟨h1, h2⟩ := NL (mIn (a ++ b)) (Z2 (a ++ b)) [] (ZF hab) Wg
   have := Jk (a ++ b)
   have := ha.1
   have := hb.1
   exact ⟨by simp only [List.length_nil, List.length_append] at *; omega, h2⟩
  ·exact SmN.nil _
 ·exact SmN.nil _
theorem DO {a : List (Cu × Cu)} {n : Nat} (ha : SmN n a) (h : n <= 1000000) : SmN (2 + 2 * n) (SS a) := by
 unfold SS
 split
 ·obtain ⟨h1, h2⟩ := NL (fun x y => !mIn a x y) (Z2 a) [] (ZF (ha.sm h)) Wg
  have := Jk a
  have := ha.1
  exact ⟨by simp only [List.length_nil] at *; omega, h2⟩
 ·exact SmN.nil _
def SetN (n : Nat) (s : JP) : Prop := SmN n s.1 /\ SmN n s.2
theorem BQ {a b : JP} {n m : Nat} (ha : SetN n a) (hb : SetN m b) (h : n + m <= 1000000) : SetN (2 + 2 * (n + m)) (Si a b) := by
 unfold Si
 split
 ·exact ⟨BP ha.1 hb.1 h, BP ha.2 hb.2 h⟩
 ·exact ⟨SmN.nil _, SmN.nil _⟩
theorem N9 {a : JP} {n : Nat} (ha : SetN n a) (h : n <= 1000000) : SetN (2 + 2 * n) (Jl a) := by
 unfold Jl
 split
 ·exact ⟨DO ha.1 h, DO ha.2 h⟩
 ·exact ⟨SmN.nil _, SmN.nil _⟩
theorem HK (e a b c : Int) (f : Bool) : Cu.sm ⟨e, a, b, c, [], [], f⟩ := ⟨QeT _, QeT _⟩
theorem Xm {a b c : Int} {p q : List UInt8} (hp : p.length <= 1000000) : SetN 1 (Yy a b c p q) := by
 unfold Yy
 split
 ·exact ⟨SmN.nil _, SmN.nil _⟩
 ·split
  ·refine ⟨SmN.nil _, ⟨Nat.le_refl _, fun s hs => ?_⟩⟩
   simp only [QeQ] at hs; subst hs
   exact ⟨⟨hp, QeT _⟩, ⟨hp, QeT _⟩⟩
  ·refine ⟨⟨Nat.le_refl _, fun s hs => ?_⟩, SmN.nil _⟩
   simp only [QeQ] at hs; subst hs
   constructor
   ·unfold N5; split
    ·exact HK ..
    ·exact HK ..
   ·unfold G1; split
    ·exact HK ..
    ·exact HK ..
def FT : JP := ([(H6, Mx)], [(H6, Mx)])
theorem Tl : SetN 1 FT := by
 have h : SmN 1 [(H6, Mx)] := ⟨Nat.le_refl _, fun s hs => by simp only [QeQ] at hs; subst hs; exact ⟨HK .., HK ..⟩⟩
 exact ⟨h, h⟩
def bnd (i : Nat) : Nat := 4 * 2 ^ i
theorem LQ {i : Nat} (h : i <= 16) : bnd i <= 262144 := by
 have : 2 ^ i <= 2 ^ 16 := Nat.pow_le_pow_right Wa h
 have e : (2 : Nat) ^ 16 = 65536 := by decide
 unfold bnd; omega
theorem BW {s : JP} {i : Nat} (h : SetN (bnd i - 4) s) {a b c : Int} {p q : List UInt8} (hp : p.length <= 1000000) (hi : i <= 16) : SetN (bnd (i + 1) - 4) (Si s (Yy a b c p q)) := by
 have h1 := LQ hi
 have h4 : 4 <= bnd i := by unfold bnd; have := Nat.one_le_two_pow (n := i); omega
 have := BQ h (Xm (a := a) (b := b) (c := c) (q := q) hp) Wa
 have e : bnd (i + 1) = 2 * bnd i := by unfold bnd; rw [Nat.pow_succ]; omega
 exact ⟨this.1.up Wa, this.2.up Wa⟩
theorem T5 {s : JP} {i : Nat} (h : SetN (bnd i - 4) s) : SetN (bnd (i + 1) - 4) s := by
 have e : bnd (i + 1) = 2 * bnd i := by unfold bnd; rw [Nat.pow_succ]; omega
 exact ⟨h.1.up Wa, h.2.up Wa⟩
def SetOk (s : JP) : Prop := SetN 600000 s
theorem SetOk.sm {s : JP} (h : SetOk s) : Sm s.1 /\ Sm s.2 := ⟨h.1.sm Wa, h.2.sm Wa⟩
def v0 : Vr := ⟨0, 0, 0, [], []⟩
/-! ### Made sets may be -/
def exV (v : Vr) : JP := Yy v.a v.b v.c v.p v.q
def Fu (L : List Vr) : JP := L.foldl (fun s v => Si s (exV v)) ([], [])
theorem Tx (L : List Vr) (v : Vr) : Fu (L ++ [v]) = Si (Fu L) (exV v) := by simp [Fu]
def FY : List Vr -> List (List Vr)
 | [] => [[]]
 | v :: l => FY l ++ (FY l).map (v :: ·)
theorem HL : ∀ {l L : List Vr}, L.Sublist l -> L ∈ FY l
 | _, _, .slnil => by simp [FY]
 | _, _, .cons a h => by rw [FY, QeS]; exact .inl (HL h)
 | _, _, .cons_cons a h => by rw [FY, QeS]; exact .inr (QeV.2 ⟨_, HL h, rfl⟩)
theorem CJ : ((FY versions ++ FY [v0]).all fun L => Xo (Fu L) && Xo (Jl (Fu L))) = true := by decide +kernel
theorem QbO : ((v0 :: versions).all fun v => Xo (exV v) && J8 v.a v.b v.c v.p v.q) = true := by decide +kernel
theorem Qah : Xo FT = true := by decide +kernel
def VsL (l : List Vr) : Prop := l.Sublist versions \/ l = [v0]
theorem VsL.fold {l L : List Vr} (h : VsL l) (hL : L.Sublist l) : Xo (Fu L) = true /\ Xo (Jl (Fu L)) = true := by
 have hm : L ∈ FY versions ++ FY [v0] := by
  rcases h with h | rfl
  ·exact List.mem_append_left _ (HL (hL.trans h))
  ·exact QeW _ (HL hL)
 have := QeR.1 CJ L hm
 rw [QeL] at this; exact this
theorem VsL.ex {l : List Vr} (h : VsL l) {v : Vr} (hv : v ∈ l) : Xo (exV v) = true /\ J8 v.a v.b v.c v.p v.q = true := by
 have hm : v ∈ v0 :: versions := by
  rcases h with h | rfl
  ·exact List.mem_cons_of_mem _ (h.subset hv)
  ·simp only [QeQ] at hv; subst hv; simp
 have := QeR.1 QbO v hm
 rw [QeL] at this; exact this
def SetMay (s : JP) : Prop := SetOk s /\ Xo s = true
theorem SetMay.sm {s : JP} (h : SetMay s) : Sm s.1 /\ Sm s.2 := h.1.sm
structure CR where
 v : Vr
 x : D
 y : D
 z : D
def dCR (r : CR) : List D := [.int .i64 r.v.a, .int .i64 r.v.b, .int .i64 r.v.c, .str r.v.p, .str r.v.q, r.x, r.y, r.z]
def CR.ren (r : CR) : CR := ⟨r.v, r.x.renS upN, r.y.renS upN, r.z.renS upN⟩
def VsOk (zs : List CR) : Prop := VsL (zs.map CR.v)
theorem VsOk.ren {zs : List CR} (h : VsOk zs) : VsOk (zs.map CR.ren) := by
 have e : (zs.map CR.ren).map CR.v = zs.map CR.v := by rw [List.map_map]; rfl
 unfold VsOk; rw [e]; exact h
theorem L0 (l : List CR) : (l.map dCR).map (fun r => r.map (D.renS upN)) = (l.map CR.ren).map dCR := by
 rw [List.map_map, List.map_map]; rfl
structure UR where
 n : List UInt8
 f : List UInt8
 k : Nat
 cs : List CR
def dUR (u : UR) : List D := [.str u.n, .str u.f, .osl u.k u.cs.length]
def UR.ren (u : UR) : UR := ⟨u.n, u.f, upN u.k, u.cs.map CR.ren⟩
theorem Qay (l : List UR) : (l.map dUR).map (fun r => r.map (D.renS upN)) = (l.map UR.ren).map dUR := by
 rw [List.map_map, List.map_map]
 refine List.map_congr_left fun u _ => ?_
 simp [dUR, UR.ren, D.renS]
structure Fam (H : QeE) (kg ku eu ec : Nat) (us : List UR) : Prop where
 ne : ku ≠ kg
 u : ∃ pr, lk H ku = some ⟨us.map dUR, 3, eu, pr⟩
 c : ∀ y ∈ us, y.k ≠ kg /\ ∃ pr, lk H y.k = some ⟨y.cs.map dCR, 8, ec, pr⟩
 v : ∀ y ∈ us, y.cs.length <= 16 /\ ∀ z ∈ y.cs, FS z.v
 vs : ∀ y ∈ us, VsOk y.cs
theorem Fam.up {H : QeE} {kg ku eu ec : Nat} {us : List UR} (h : Fam H kg ku eu ec us) : Fam (upH H) (upN kg) (upN ku) eu ec (us.map UR.ren) := by
 obtain ⟨h1, ⟨pu, h2⟩, h3, h4, h5⟩ := h
 refine ⟨fun e => h1 (Ta e), ⟨pu, ?_⟩, fun y hy => ?_, fun y hy => ?_, fun y hy => by
  obtain ⟨u, hu, rfl⟩ := QeV.1 hy
  exact (h5 u hu).ren⟩
 ·rw [XO, h2, Option.map_some, Box.ren, Qay]
 ·obtain ⟨u, hu, rfl⟩ := QeV.1 hy
  obtain ⟨q1, pr, q2⟩ := h3 u hu
  refine ⟨fun e => q1 (Ta e), pr, ?_⟩
  show lk (upH H) (upN u.k) = _
  rw [XO, q2, Option.map_some, Box.ren, L0]; rfl
 ·obtain ⟨u, hu, rfl⟩ := QeV.1 hy
  obtain ⟨q1, q2⟩ := h4 u hu
  refine ⟨by simpa [UR.ren] using q1, fun z hz => ?_⟩
  obtain ⟨z0, hz0, rfl⟩ := QeV.1 hz
  exact q2 z0 hz0
theorem Fam.cons {H : QeE} {kg ku eu ec : Nat} {us : List UR} (h : Fam H kg ku eu ec us) {b : Box} : Fam ((kg, b) :: H) kg ku eu ec us := by
 obtain ⟨h1, ⟨pu, h2⟩, h3, h4, h5⟩ := h
 exact ⟨h1, ⟨pu, Qg (Ne.symm h1) h2⟩, fun y hy => let ⟨q1, pr, q2⟩ := h3 y hy; ⟨q1, pr, Qg (Ne.symm q1) q2⟩, h4, h5⟩
def QbE (n : Nat) (x : WantT) : Prop := 1 <= x.u /\ x.u < n /\ SetOk x.s
def WantMay (n : Nat) (x : WantT) : Prop := QbE n x /\ Xo x.s = true
theorem PW {l L : List Vr} {i : Nat} (hL : L.Sublist (l.take i)) : L.Sublist (l.take (i + 1)) := by
 refine hL.trans ?_
 rw [show l.take i = (l.take (i + 1)).take i by rw [List.take_take, Nat.min_eq_left Wa]]
 exact List.take_sublist _ _
theorem QcX {zs : List CR} {i : Nat} (h : i < zs.length) {L : List Vr} (hL : L.Sublist ((zs.map CR.v).take i)) : (L ++ [zs[i].v]).Sublist ((zs.map CR.v).take (i + 1)) := by
 rw [List.take_succ_eq_append_getElem (by simpa using h)]
 simp only [List.getElem_map]
 exact hL.append (List.Sublist.refl _)
def Rf (n : Nat) (r : List WantT) : Prop := (1 <= r.length /\ r.length <= 2) /\ ∀ x ∈ r, WantMay n x
def Np (n : Nat) (m : Int) (ns : List (List WantT)) : Prop := (ns.length : Int) <= m /\ ∀ r ∈ ns, Rf n r
theorem QaV {n : Nat} {x : WantT} (h : WantMay n x) : Rf n [x] := ⟨by simp, by intro y hy; simp only [QeQ] at hy; subst hy; exact h⟩
theorem QaW {n : Nat} {x y : WantT} (h : WantMay n x) (h' : WantMay n y) : Rf n [x, y] := ⟨by simp, by
 intro z hz
 simp only [QeJ, QeI, or_false] at hz
 rcases hz with rfl | rfl
 ·exact h
 ·exact h'⟩
theorem D1 {n : Nat} {ns : List (List WantT)} {r : List WantT} (h : ∀ r ∈ ns, Rf n r) (hr : Rf n r) : ∀ x ∈ ns ++ [r], Rf n x := fun x hx => by
 rcases QeS.1 hx with hx | hx
 ·exact h x hx
 ·simp only [QeQ] at hx; subst hx; exact hr
end M25
namespace Go.Proofs
open Go Go.Abs M3 M25
theorem JN {s : St} {args : List Opd} {kg : Nat} {L : List Int} {I n : Int} {et : Nat} (ha : Ze s args = some [.ref kg 0 0, .int .i64 n]) (hg : lk s.H kg = some (gB L I et)) (hL : ∀ x ∈ L, I64 x) (hn : n <= 9223372036854775807) : Kd Tryd.prog 15 args s [(kg, gB L I et)] [] [(kg, gB L (nxI I) et)] (.int .i64 (nx L I n)) := by
 refine MJ (b' := gB L (nxI I) et) (ds' := [.ref (upN kg) 0 0, .int .i64 n]) ha (fun j x h => ?_) (fun k b hk j hj => ?_) (fun x hx j hj => ?_) ?_ Z Z Z Z ?_
 ·obtain ⟨rfl, rfl⟩ := XB h; exact hg
 ·obtain ⟨rfl, rfl⟩ := XB hk; simp [Box.ids, gB] at hj
 ·simp only [QeJ, QeI, or_false] at hx
  rcases hx with rfl | rfl
  ·simp [D.ids, D.sid] at hj; subst hj; rw [Qp]; rfl
  ·simp [D.ids, D.sid] at hj
 ·rw [Qp]; rfl
 ·exact XM (by unfold upN; omega) hL hn et
theorem _root_.Wj {p : Prop} (h : p := by first | decide | omega) : p := h
theorem _root_.Wu {p : Prop} (h : p := by simp [Dr.ok, Ju]) : p := h
theorem _root_.Wi {p : Prop} (h : p := by repeat (first | exact Qp | refine Qg (by first | decide | omega) ?_)) : p := h
theorem GH {H : QeE} {kg kc : Nat} {L : List Int} {I : Int} {eg ec : Nat} {pr : Bool} {zs : List CR} (hkg : 1000000 <= kg) (hg : lk H kg = some (gB L I eg)) (hc : lk H kc = some ⟨zs.map dCR, 8, ec, pr⟩) (hne : kg ≠ kc) (hB : Big H) (hC : Closed H) (hL : ∀ x ∈ L, I64 x) (hz : ∀ z ∈ zs, FS z.v) (hn : zs.length <= 16) (hvs : VsOk zs) : ∃ d H2, (∃ s I2, SetMay s /\ d = Gn s /\ H2 = (kg, gB L I2 eg) :: H) /\ OkH Tryd.prog 38 [.ref kg 0 0, .osl kc zs.length] H d H2 := by
 have hkc := hB _ _ hc
 refine OkH.ofX (R := fun d H2 => ∃ s I2, SetMay s /\ d = Gn s /\ H2 = (kg, gB L I2 eg) :: H) Z7 Tryd.func38 Qc7 (QeH Z) ?_
 show TX _ _ tf38.body _ _
 refine QZ fun K hK => ?_
 refine Zm (by repeat (first | exact hB.none Wk | refine Zf Wj ?_)) ?_
 refine hK _ _ (QG (kp3 Z Z Z) ?_)
 refine QZ fun K hK => Qa Z (Z9 (JN (I := I) Z (Qg Wa hg) hL Wa) (Qa Z (hK _ _ (QG (kp4 Z Z Z Z) ?_))))
 refine QZ fun K hK => Qw (Zv) Z Z (.inl Z) ?_
 refine Zm (by repeat (first | exact hB.none Wk | refine Zf Wj ?_)) ?_
 refine QQ Z Z Z Z Z Z Z Z (hK _ _ (QG (kp5 Z Z Z Z Z) ?_))
 refine XK ?_ -- 0
 refine QZ fun K hK => Qa Z (hK _ _ (QG (kp6 Z Z Z Z Z Z) ?_))
 refine Yu ?_
 refine FG (ι := Nat × JP) (fun ⟨i, s⟩ => ⟨[(0, .ref kg 0 0), (1, .osl kc zs.length), (4, .ref 4 0 0), (5, .int .i64 (nx L I 8)), (6, .ref 6 0 0), (7, .int .i64 i)], [(4, ⟨[[.fsl [], .fsl []]], 2, 29, true⟩), (6, ⟨[[Q3 s.1, Q3 s.2]], 2, 29, true⟩), (kg, gB L (nxI I) eg)] ++ H⟩) (fun ⟨i, s⟩ => (i <= zs.length /\ SetN (bnd i - 4) s) /\ ∃ L, L.Sublist ((zs.map CR.v).take i) /\ s = Fu L) (fun ⟨i, s⟩ => zs.length - i) (0, ([], [])) ?_ ?_ ?_
 ·exact Ga (l := [0, 1, 4, 5, 6, 7]) (B := [_, _, _, _]) (kp6 rfl rfl rfl rfl rfl rfl) rfl (by intro p hp; simp only [QeJ, QeI, or_false] at hp; rcases hp with rfl | rfl | rfl <;> exact ⟨by repeat (first | exact Qp | refine Qg Wj ?_), rfl⟩) rfl (by intro p hp h; simp only [QeJ, QeI, or_false] at hp; rcases hp with rfl | rfl | rfl | rfl <;> first | (simp only at h; omega) | (repeat (first | exact QL | refine QJ ?_))) hB hC (by intro p hp k hk; simp only [QeJ, QeI, or_false] at hp; rcases hp with rfl | rfl | rfl | rfl | rfl | rfl <;> first | (simp [D.ids, D.sid, QX, QM, ZH] at hk; done) | (simp [D.ids, D.sid, QX, QM, ZH] at hk; subst hk; repeat (first | exact QL | exact Q9 hg | exact Q9 hc | refine QJ ?_)))
 ·exact ⟨⟨QeT _, SmN.nil _, SmN.nil _⟩, [], List.nil_sublist _, rfl⟩
 intro ⟨i, s⟩ hI
 try dsimp only at hI
 have hb16 := LQ (i := i) Wa
 try dsimp only
 refine XK ?_ -- 1
 refine QZ fun K hK => mv2 Z Z ?_
 first | refine ZD rfl Yx ?_ | refine ZD rfl rfl ?_
 refine YX Z Z (hK _ _ (QG (kp7 Z Z Z Z Z Z Z) ?_))
 refine YR Z (fun h1 => ?_) (fun h1 => ?_)
 ·try rw [h1]
  try simp only [qA] at h1
  refine Xc (QY (kp6 Z Z Z Z Z Z) ?_)
  refine XK ?_ -- 2
  refine Yu (QZ fun K hK => mv2 Z Z (MG Z (P1 Wa Wa) (Qac Z Z Wa (Rc Z Z (Yr Z Z (hK _ _ (QG (kp7 Z Z Z Z Z Z Z) ?_)))))))
  refine YR Z (fun h2 => ?_) (fun h2 => ?_)
  ·try rw [h2]
   try simp only [qA] at h2
   have hvp := (hz _ (QeM (Wa : i < zs.length))).1
   refine ZS fun K hK => QC (ds0 := [1, 0]) (cs := [_, _]) Z Z Z Z Wu Z (mv2 Z Z (Gy (ds0 := [4, 3, 2, 1, 0]) Z Z (Qg Wa (Qg Wa (Qg Wa hc))) Wg Wa Wa Z Wu Z (Qe Z (Q9 (Qg Wa (Qg Wa (Qg Wa hc)))) (QC (ds0 := [2, 1, 0]) (cs := [_, _, _, _, _]) Z (ZU (Qg Wa (Qg Wa (Qg Wa hc))) (ZN Wa)) Z Z Wu Z (QT (ds0 := [1, 0]) (Yf (hz _ (QeM Wa)).1 (hz _ (QeM Wa)).2) Z Z (.inl Z) Wu Z (QT (ds0 := [0]) (XC (a := s) (b := (Yy (zs[i]'Wa).v.a (zs[i]'Wa).v.b (zs[i]'Wa).v.c (zs[i]'Wa).v.p (zs[i]'Wa).v.q)) (hI.1.2.1.sm Wa) (hI.1.2.2.sm Wa) ((Xm hvp).1.sm Wa) ((Xm hvp).2.sm Wa) (by have := hI.1.2.1.1; have := (Xm (a := (zs[i]'Wa).v.a) (b := (zs[i]'Wa).v.b) (c := (zs[i]'Wa).v.c) (q := (zs[i]'Wa).v.q) hvp).1.1; omega) (by have := hI.1.2.2.1; have := (Xm (a := (zs[i]'Wa).v.a) (b := (zs[i]'Wa).v.b) (c := (zs[i]'Wa).v.c) (q := (zs[i]'Wa).v.q) hvp).2.1; omega)) Z Z (.inl Z) Wu Z (ZX (ds0 := []) Z Z Z Z Z Z Z Z Wu Z (hK _ ?_))))))))
   refine Qi (QY (kp6 Z Z Z Z Z Z) (ZS fun K hK => Qa Z (Zc Z Z We (Qa Z (hK _ ?_)))))
   refine Ql (i + 1, Si s (Yy (zs[i]'Wa).v.a (zs[i]'Wa).v.b (zs[i]'Wa).v.c (zs[i]'Wa).v.p (zs[i]'Wa).v.q)) ?_ ?_ ?_
   ·exact Ga (l := [0, 1, 4, 5, 6, 7]) (B := [_, _, _, _]) (kp6 rfl rfl rfl rfl rfl rfl) rfl (by intro p hp; simp only [QeJ, QeI, or_false] at hp; rcases hp with rfl | rfl | rfl <;> exact ⟨by repeat (first | exact Qp | refine Qg Wj ?_), rfl⟩) rfl (by intro p hp h; simp only [QeJ, QeI, or_false] at hp; rcases hp with rfl | rfl | rfl | rfl <;> first | (simp only at h; omega) | (repeat (first | exact QL | refine QJ ?_))) hB hC (by intro p hp k hk; simp only [QeJ, QeI, or_false] at hp; rcases hp with rfl | rfl | rfl | rfl | rfl | rfl <;> first | (simp [D.ids, D.sid, QX, QM, ZH] at hk; done) | (simp [D.ids, D.sid, QX, QM, ZH] at hk; subst hk; repeat (first | exact QL | exact Q9 hg | exact Q9 hc | refine QJ ?_)))
   ·exact ⟨⟨by show i + 1 <= _; omega, BW hI.1.2 (hz _ (QeM Wa)).1 Wa⟩, by obtain ⟨L, hL, hs⟩ := hI.2; exact ⟨_, QcX Wa hL, by rw [Tx, <- hs]; rfl⟩⟩
   ·show zs.length - (i + 1) < zs.length - i; omega
  ·try rw [h2]
   try simp only [qA] at h2
   have hvp := (hz _ (QeM (Wa : i < zs.length))).1
   refine Xc (Qi (QY (kp6 Z Z Z Z Z Z) (ZS fun K hK => Qa Z (Zc Z Z We (Qa Z (hK _ ?_))))))
   refine Ql (i + 1, s) ?_ ?_ ?_
   ·exact Ga (l := [0, 1, 4, 5, 6, 7]) (B := [_, _, _]) (kp6 rfl rfl rfl rfl rfl rfl) rfl (by intro p hp; simp only [QeJ, QeI, or_false] at hp; rcases hp with rfl | rfl | rfl <;> exact ⟨by repeat (first | exact Qp | refine Qg Wj ?_), rfl⟩) rfl (by intro p hp h; simp only [QeJ, QeI, or_false] at hp; rcases hp with rfl | rfl | rfl <;> first | (simp only at h; omega) | (repeat (first | exact QL | refine QJ ?_))) hB hC (by intro p hp k hk; simp only [QeJ, QeI, or_false] at hp; rcases hp with rfl | rfl | rfl | rfl | rfl | rfl <;> first | (simp [D.ids, D.sid, QX, QM, ZH] at hk; done) | (simp [D.ids, D.sid, QX, QM, ZH] at hk; subst hk; repeat (first | exact QL | exact Q9 hg | exact Q9 hc | refine QJ ?_)))
   ·exact ⟨⟨by show i + 1 <= _; omega, T5 hI.1.2⟩, by obtain ⟨L, hL, hs⟩ := hI.2; exact ⟨L, PW hL, hs⟩⟩
   ·show zs.length - (i + 1) < zs.length - i; omega
 ·try rw [h1]
  try simp only [qA] at h1
  refine GA (Xx (Qz (QH (QY (kp3 Z Z Z) ?_))))
  refine XK ?_ -- 3
  refine QZ fun K hK => Qa Z (Z9 (JN (I := nxI I) Z (Qg Wa (Qg Wa Qp)) hL Wa) (hK _ _ (QG (kp3 Z Z Z) ?_)))
  refine Yu (QZ fun K hK => Yr Z Z (Qa Z (hK _ _ (QG (kp4 Z Z Z Z) ?_))))
  refine YR Z (fun h3 => ?_) (fun h3 => ?_)
  ·try rw [h3]
   try simp only [qA] at h3
   refine QZ fun K hK => Qw (JF) Z Z (.inl Z) (QQ Z (Qg Wa Z) Z Z Z Z Z Z (hK _ _ (QG (kp1 Z) ?_)))
   refine Fj (Qr (Ng ?_))
   refine ⟨Gn FT, (kg, gB L (nxI (nxI I)) eg) :: H, ⟨FT, _, ⟨⟨Tl.1.up Wa, Tl.2.up Wa⟩, Qah⟩, rfl, rfl⟩, (Z6 hB hC hkg rfl).1, (Z6 hB hC hkg rfl).2, ?_⟩
   refine Xe (cs := [Q3 FT.1, Q3 FT.2]) Z (ZU Wi Z) Z Z Z ?_
   exact YN (B := [_, _, _, _, _]) hB Wi (by intro p hp h; simp only [QeJ, QeI, or_false] at hp; rcases hp with rfl | rfl | rfl | rfl | rfl <;> first | rfl | (simp only at h; omega))
  ·try rw [h3]
   try simp only [qA] at h3
   refine QZ fun K hK => Yr Z Z (Qa Z (hK _ _ (QG (kp3 Z Z Z) ?_)))
   refine YR Z (fun h4 => ?_) (fun h4 => ?_)
   ·try rw [h4]
    try simp only [qA] at h4
    refine QZ fun K hK => QA (cs := [_, _]) Z (ZU (Qg Wa Z) Z) Z Z (Qw (Xl (a := s) (hI.1.2.1.sm Wa) (hI.1.2.2.sm Wa)) Z Z (.inl Z) (QQ Z (Qg Wa Z) Z Z Z Z Z Z (hK _ _ (QG (kp1 Z) ?_))))
    refine Fj (Qr (Ng ?_))
    refine ⟨Gn (Jl s), (kg, gB L (nxI (nxI I)) eg) :: H, ⟨(Jl s), _, ⟨⟨(N9 hI.1.2 Wa).1.up Wa, (N9 hI.1.2 Wa).2.up Wa⟩, by obtain ⟨L, hL, hs⟩ := hI.2; rw [hs]; exact (VsL.fold hvs (hL.trans (List.take_sublist _ _))).2⟩, rfl, rfl⟩, (Z6 hB hC hkg rfl).1, (Z6 hB hC hkg rfl).2, ?_⟩
    refine Xe (cs := [Q3 (Jl s).1, Q3 (Jl s).2]) Z (ZU Wi Z) Z Z Z ?_
    exact YN (B := [_, _, _, _, _]) hB Wi (by intro p hp h; simp only [QeJ, QeI, or_false] at hp; rcases hp with rfl | rfl | rfl | rfl | rfl <;> first | rfl | (simp only at h; omega))
   ·try rw [h4]
    try simp only [qA] at h4
    refine Xc (Qi (QY (kp2 Z Z) (QZ fun K hK => QA (cs := [_, _]) Z (ZU (Qg Wa Z) Z) Z Z (QQ Z (Qg Wa Z) Z Z Z Z Z Z (hK _ _ (QG (kp1 Z) ?_))))))
    refine Fj ?_
    refine ⟨Gn s, (kg, gB L (nxI (nxI I)) eg) :: H, ⟨s, _, ⟨⟨hI.1.2.1.up Wa, hI.1.2.2.up Wa⟩, by obtain ⟨L, hL, hs⟩ := hI.2; rw [hs]; exact (VsL.fold hvs (hL.trans (List.take_sublist _ _))).1⟩, rfl, rfl⟩, (Z6 hB hC hkg rfl).1, (Z6 hB hC hkg rfl).2, ?_⟩
    refine Xe (cs := [Q3 s.1, Q3 s.2]) Z (ZU Wi Z) Z Z Z ?_
    exact YN (B := [_, _, _, _, _]) hB Wi (by intro p hp h; simp only [QeJ, QeI, or_false] at hp; rcases hp with rfl | rfl | rfl | rfl | rfl <;> first | rfl | (simp only at h; omega))
open Go Go.Abs M3 M25
/-- The call of 'set', over boxes that are lent. -/
theorem QcS {H : QeE} {kg kc : Nat} {L : List Int} {I : Int} {eg ec : Nat} {pr : Bool} {zs : List CR} (hg : lk H kg = some (gB L I eg)) (hc : lk H kc = some ⟨zs.map dCR, 8, ec, pr⟩) (hne : kg ≠ kc) (hC : Closed H) (hL : ∀ x ∈ L, I64 x) (hz : ∀ z ∈ zs, FS z.v) (hn : zs.length <= 16) (hvs : VsOk zs) :
  ∃ s I2, SetMay s /\ ∀ (st : St) (args : List Opd), Ze st args = some [.ref kg 0 0, .osl kc zs.length] -> (∀ j x, lk H j = some x -> lk st.H j = some x) -> Kd Tryd.prog 38 args st H [] [(kg, gB L I2 eg)] (Gn s) := by
 obtain ⟨d, H2, ⟨s, I2, hs, rfl, rfl⟩, hok⟩ := GH (H := upH H) (kg := upN kg) (kc := upN kc) (L := L) (I := I) (eg := eg) (ec := ec) (pr := pr) (zs := zs.map CR.ren) (by unfold upN; omega) (by rw [XO, hg]; rfl) (by rw [XO, hc, Option.map_some, Box.ren, L0]) (fun e => hne (Ta e)) Mn (Kr hC) hL
  (fun z hz' => by obtain ⟨z0, h0, rfl⟩ := QeV.1 hz'; exact hz z0 h0) (by simpa using hn) hvs.ren
 refine ⟨s, I2, hs, fun st args ha hF => MJ (b' := gB L I2 eg) (ds' := [.ref (upN kg) 0 0, .osl (upN kc) zs.length]) ha hF hC (fun x hx j hj => ?_) (Q9 hg) Z Z Z Z ?_⟩
 ·simp only [QeJ, QeI, or_false] at hx
  rcases hx with rfl | rfl
  ·simp [D.ids, D.sid] at hj; subst hj; exact Q9 hg
  ·simp [D.ids, D.sid] at hj; subst hj; exact Q9 hc
 ·rw [List.length_map] at hok; exact hok
theorem Gg {H : QeE} {kg ku : Nat} {L : List Int} {I : Int} {eg eu ec : Nat} {us : List UR} (hkg : 1000000 <= kg) (hg : lk H kg = some (gB L I eg)) (hU : Fam H kg ku eu ec us) (hB : Big H) (hC : Closed H) (hL : ∀ x ∈ L, I64 x) (h2n : 2 <= us.length) (hn : us.length <= 48) : ∃ d H2, (∃ x I2, WantMay us.length x /\ d = .agg (Ke x) /\ H2 = (kg, gB L I2 eg) :: H) /\ OkH Tryd.prog 16 [.ref kg 0 0, .osl ku us.length] H d H2 := by
 obtain ⟨pu, hu⟩ := hU.u
 have hku := hB _ _ hu
 have hne := hU.ne
 have hx0 := RQ (v := Lz L (IntKind.i64.wrap (nxI I - 1))) (n := (us.length : Int) - 1)
 have hx1 := RP (v := Lz L (IntKind.i64.wrap (nxI I - 1))) (n := (us.length : Int) - 1) Wa
 change 0 <= nx L I ((us.length : Int) - 1) at hx0
 change nx L I ((us.length : Int) - 1) < _ at hx1
 obtain ⟨hyk, pr, hy⟩ := hU.c (us[(1 + nx L I ((us.length : Int) - 1)).toNat]'Wa) (QeM _)
 obtain ⟨hv1, hv2⟩ := hU.v (us[(1 + nx L I ((us.length : Int) - 1)).toNat]'Wa) (QeM _)
 obtain ⟨s, I2, hs, hcall⟩ := QcS (H := (kg, gB L (nxI I) eg) :: H) Qp (Qg (Ne.symm hyk) hy) (Ne.symm hyk) (hC.pr rfl) hL hv2 hv1 (hU.vs _ (QeM _))
 refine OkH.ofX (R := fun d H2 => ∃ x I2, WantMay us.length x /\ d = .agg (Ke x) /\ H2 = (kg, gB L I2 eg) :: H) Z7 Tryd.func16 Qc6 (QeH Z) ?_
 show TX _ _ tf16.body _ _
 refine QZ fun K hK => ?_
 refine Zm (by repeat (first | exact hB.none Wk | refine Zf Wj ?_)) ?_
 refine hK _ _ (QG (kp3 Z Z Z) ?_)
 refine QZ fun K hK => mv2 Z Z ?_
 first | refine ZD rfl Yx ?_ | refine ZD rfl rfl ?_
 refine HN Z Z We (Z9 (JN (I := I) Z (Qg Wa hg) hL Wa) (Zc Z Z We (Qa Z (hK _ _ (QG (kp4 Z Z Z Z) ?_)))))
 refine QZ fun K hK => Qa rfl (Qa rfl (Qa rfl (Qa rfl (Kt rfl rfl (Qg Wa (Qg Wa hu)) Wg Wa Wa rfl (Qe rfl (Q9 (Qg Wa (Qg Wa hu))) (QB rfl (ZU (Qg Wa (Qg Wa hu)) (Yn Wa Wa)) rfl (Z9 (hcall _ _ rfl (YN (B := [_, _]) hB Qp (by intro p hp h; simp only [QeJ, QeI, or_false] at hp; rcases hp with rfl | rfl <;> first | rfl | (simp only at h; omega)))) (QW rfl rfl (QQ rfl (Qg Wa (Qg Wa rfl)) rfl rfl rfl rfl rfl rfl (hK _ _ (QG (kp1 rfl) ?_)))))))))))
 refine Fj ?_
 refine ⟨.agg (Ke ⟨1 + nx L I ((us.length : Int) - 1), s⟩), (kg, gB L I2 eg) :: H, ⟨⟨1 + nx L I ((us.length : Int) - 1), s⟩, _, ⟨⟨by show 1 <= 1 + _; omega, by show 1 + _ < (us.length : Int); omega, hs.1⟩, hs.2⟩, rfl, rfl⟩, (Z6 hB hC hkg rfl).1, (Z6 hB hC hkg rfl).2, ?_⟩
 refine Xe (cs := Ke ⟨1 + nx L I ((us.length : Int) - 1), s⟩) Z (ZU Wi Z) Z Z Z ?_
 exact YN (B := [_, _, _, _]) hB Wi (by intro p hp h; simp only [QeJ, QeI, or_false] at hp; rcases hp with rfl | rfl | rfl | rfl <;> first | rfl | (simp only at h; omega))
/-- The call of 'want'. -/
theorem TS {H : QeE} {kg ku : Nat} {L : List Int} {I : Int} {eg eu ec : Nat} {us : List UR} (hg : lk H kg = some (gB L I eg)) (hU : Fam H kg ku eu ec us) (hC : Closed H) (hL : ∀ x ∈ L, I64 x) (h2 : 2 <= us.length) (hn : us.length <= 48) :
  ∃ x I2, WantMay us.length x /\ ∀ (st : St) (args : List Opd), Ze st args = some [.ref kg 0 0, .osl ku us.length] -> (∀ j x, lk H j = some x -> lk st.H j = some x) -> Kd Tryd.prog 16 args st H [] [(kg, gB L I2 eg)] (.agg (Ke x)) := by
 obtain ⟨d, H2, ⟨x, I2, hx, rfl, rfl⟩, hok⟩ := Gg (H := upH H) (kg := upN kg) (ku := upN ku) (L := L) (I := I) (eg := eg) (eu := eu) (ec := ec) (us := us.map UR.ren) (by unfold upN; omega) (by rw [XO, hg]; rfl) hU.up Mn (Kr hC) hL (by simpa using h2) (by simpa using hn)
 obtain ⟨pu, hu⟩ := hU.u
 rw [List.length_map] at hx hok
 refine ⟨x, I2, hx, fun st args ha hF => MJ (b' := gB L I2 eg) (ds' := [.ref (upN kg) 0 0, .osl (upN ku) us.length]) ha hF hC (fun x hx j hj => ?_) (Q9 hg) Z Z Z Z hok⟩
 simp only [QeJ, QeI, or_false] at hx
 rcases hx with rfl | rfl
 ·simp [D.ids, D.sid] at hj; subst hj; exact Q9 hg
 ·simp [D.ids, D.sid] at hj; subst hj; exact Q9 hu
open Go Go.Abs M3 M25
theorem _root_.Ws {p : Prop} (h : p := by first | (simp; done) | (simp; omega)) : p := h
theorem HP {H : QeE} {kg ku : Nat} {L : List Int} {I most : Int} {eg eu ec : Nat} {us : List UR} (hkg : 1000000 <= kg) (hg : lk H kg = some (gB L I eg)) (hU : Fam H kg ku eu ec us) (hB : Big H) (hC : Closed H) (hL : ∀ x ∈ L, I64 x) (h2n : 2 <= us.length) (hn : us.length <= 48) (hm0 : 0 <= most) (hm1 : most <= 10) : ∃ d H2, (∃ ns I2, Np us.length most ns /\ d = QM ns /\ H2 = (kg, gB L I2 eg) :: H) /\ OkH Tryd.prog 13 [.ref kg 0 0, .osl ku us.length, .int .i64 most] H d H2 := by
 obtain ⟨pu, hu⟩ := hU.u
 have hku := hB _ _ hu
 have hne := hU.ne
 have hk0 : 0 <= nx L I (most + 1) := RQ
 have hk1 : nx L I (most + 1) < most + 1 := RP Wa
 refine OkH.ofX (R := fun d H2 => ∃ ns I2, Np us.length most ns /\ d = QM ns /\ H2 = (kg, gB L I2 eg) :: H) Z7 Tryd.func13 Qdm (QeH Z) ?_
 show TX _ _ tf13.body _ _
 refine QZ fun K hK => Qa Z (hK _ _ (QG (kp3 Z Z Z) ?_))
 refine QZ fun K hK => Qa Z (hK _ _ (QG (kp4 Z Z Z Z) ?_))
 refine XK ?_ -- 0
 refine QZ fun K hK => mv2 Z Z (Zc Z Z We (Z9 (JN (I := I) Z hg hL Wa) (Qa Z (hK _ _ (QG (kp4 Z Z Z Z) ?_)))))
 refine Yu ?_
 refine FG (ι := Nat × List (List WantT) × Int) (fun ⟨k, ns, J⟩ => ⟨[(0, .ref kg 0 0), (1, .osl ku us.length), (7, .osl 7 ns.length), (8, .int .i64 k)], [(7, ⟨(ns).map (fun r => [QX r]), 1, 47, true⟩), (kg, gB L J eg)] ++ H⟩) (fun ⟨k, ns, J⟩ => (ns.length : Int) + k <= most /\ ∀ r ∈ ns, Rf us.length r) (fun ⟨k, ns, J⟩ => k) ((nx L I (most + 1)).toNat, [], nxI I) ?_ ?_ ?_
 ·exact le_trans (XN 7 7 1 47 rfl (by repeat (first | exact hB.none Wk | refine Zf Wj ?_))) (Ga (l := [0, 1, 7, 8]) (B := [_, _]) (kp4 rfl rfl rfl rfl) (by simp only [Int.toNat_of_nonneg hk0] <;> rfl) (by intro p hp; simp only [QeJ, QeI, or_false] at hp; rcases hp with rfl | rfl <;> exact ⟨by repeat (first | exact Qp | refine Qg Wj ?_), rfl⟩) rfl (by intro p hp h; simp only [QeJ, QeI, or_false] at hp; rcases hp with rfl | rfl <;> first | (simp only at h; omega) | (repeat (first | exact QL | refine QJ ?_))) hB hC (by intro p hp k hk; simp only [QeJ, QeI, or_false] at hp; rcases hp with rfl | rfl | rfl | rfl <;> first | (simp [D.ids, D.sid, QX, QM, ZH] at hk; done) | (simp [D.ids, D.sid, QX, QM, ZH] at hk; subst hk; repeat (first | exact QL | exact Q9 hg | exact Q9 hu | refine QJ ?_))))
 ·exact ⟨by simp only [List.length_nil]; omega, by simp⟩
 intro ⟨k, ns, J⟩ hI
 try dsimp only at hI
 try dsimp only
 refine XK ?_ -- 1
 refine QZ fun K hK => Qa Z (Fi Z Z (hK _ _ (QG (kp5 Z Z Z Z Z) ?_)))
 refine YR Z (fun h1 => ?_) (fun h1 => ?_)
 ·try rw [h1]
  try simp only [qA] at h1
  refine Xc (QY (kp4 Z Z Z Z) ?_)
  refine XK ?_ -- 2
  refine Yu (QZ fun K hK => mv2 Z Z ?_)
  obtain ⟨x1, J1, hx1, hc1⟩ := TS (I := J) (H := (kg, gB L (J) eg) :: H) Qp hU.cons (hC.pr rfl) hL h2n hn
  refine Z9 (hc1 _ _ rfl (YN (B := [_, _]) hB Wi (by intro p hp h; simp only [QeJ, QeI, or_false] at hp; rcases hp with rfl | rfl <;> first | rfl | (simp only at h; omega)))) ?_
  refine QK Z (by repeat (first | exact hB.none Wk | refine Zf Wj ?_)) ?_
  refine Qa Z (hK _ _ (QG (kp5 Z Z Z Z Z) ?_))
  refine QbF (ι := List WantT × Int) (fun ⟨r, J4⟩ => ⟨[(0, .ref kg 0 0), (1, .osl ku us.length), (7, .osl 7 ns.length), (8, .int .i64 k), (9, QX r)], [(7, ⟨(ns).map (fun r => [QX r]), 1, 47, true⟩), (kg, gB L J4 eg)] ++ H⟩) (fun ⟨r, J4⟩ => Rf us.length r) ?_ ?_
  ·skip
   refine QZ fun K hK => Qa Z (Z9 (JN (I := J1) Z (Qg Wa Qp) hL Wa) (Yr Z Z (hK _ _ (QG (kp6 Z Z Z Z Z Z) ?_))))
   refine YR Z (fun h2 => ?_) (fun h2 => ?_)
   ·try rw [h2]
    try simp only [qA] at h2
    refine ZS fun K hK => mv2 Z Z (Qa Z ?_)
    obtain ⟨x2, J2, hx2, hc2⟩ := TS (I := nxI J1) (H := (kg, gB L (nxI J1) eg) :: H) Qp hU.cons (hC.pr rfl) hL h2n hn
    refine Z9 (hc2 _ _ rfl (YN (B := [_, _, _, _, _]) hB Wi (by intro p hp h; simp only [QeJ, QeI, or_false] at hp; rcases hp with rfl | rfl | rfl | rfl | rfl <;> first | rfl | (simp only at h; omega)))) ?_
    refine QK Z (by repeat (first | exact hB.none Wk | refine Zf Wj ?_)) ?_
    refine B8 Z Z Wq ⟨_, rfl, rfl, rfl, rfl, rfl⟩ (by repeat (first | exact hB.none Wk | refine Zf Wj ?_)) (Qg Wk (Qg Wa (Qg Wa Z))) Z Z Z Wg Wg ?_
    refine Qa Z (hK _ ?_)
    refine XE ([x1, x2], J2) ?_ ?_
    ·exact le_trans (SM (l := [0, 1, 7, 8]) (B := [_, _, _, _, _, _, _, _, _]) (A := [(7, ⟨(ns).map (fun r => [QX r]), 1, 47, true⟩), (kg, gB L J2 eg)]) 30 9 (kp4 rfl rfl rfl rfl) rfl rfl rfl Ws (by intro p hp hk; simp only [QeJ, QeI, or_false] at hp; rcases hp with rfl | rfl | rfl | rfl <;> first | (simp [D.ids, D.sid, QX, QM, ZH] at hk; done) | (simp [D.ids, D.sid, QX, QM, ZH] at hk; omega)) (by intro p hp; simp only [QeJ, QeI, or_false] at hp; rcases hp with rfl | rfl <;> exact ⟨by first | decide | (simp only; omega), by repeat (first | exact Qp | refine Qg Wj ?_), rfl⟩) (by intro p hp h; simp only [QeJ, QeI, or_false] at hp; rcases hp with rfl | rfl | rfl | rfl | rfl | rfl | rfl | rfl | rfl <;> first | (simp only at h; omega) | (repeat (first | exact QL | refine QJ ?_))) hB hC (by intro p hp k hk; simp only [QeJ, QeI, or_false] at hp; rcases hp with rfl | rfl | rfl | rfl <;> first | (simp [D.ids, D.sid, QX, QM, ZH] at hk; done) | (simp [D.ids, D.sid, QX, QM, ZH] at hk; subst hk; repeat (first | exact QL | exact Q9 hg | exact Q9 hu | refine QJ ?_)))) (Ga (l := [0, 1, 7, 8, 9]) (B := [_, _]) (kp5 rfl rfl rfl rfl rfl) rfl (by intro p hp; simp only [QeJ, QeI, or_false] at hp; rcases hp with rfl | rfl <;> exact ⟨by repeat (first | exact Qp | refine Qg Wj ?_), rfl⟩) rfl (by intro p hp h; simp only [QeJ, QeI, or_false] at hp; rcases hp with rfl | rfl <;> first | (simp only at h; omega) | (repeat (first | exact QL | refine QJ ?_))) hB hC (by intro p hp k hk; simp only [QeJ, QeI, or_false] at hp; rcases hp with rfl | rfl | rfl | rfl | rfl <;> first | (simp [D.ids, D.sid, QX, QM, ZH] at hk; done) | (simp [D.ids, D.sid, QX, QM, ZH] at hk; subst hk; repeat (first | exact QL | exact Q9 hg | exact Q9 hu | refine QJ ?_))))
    ·exact QaW hx1 hx2
   ·try rw [h2]
    try simp only [qA] at h2
    refine Xc ?_
    refine XE ([x1], nxI J1) ?_ ?_
    ·exact le_trans (SM (l := [0, 1, 7, 8]) (B := [_, _, _, _, _]) (A := [(7, ⟨(ns).map (fun r => [QX r]), 1, 47, true⟩), (kg, gB L (nxI J1) eg)]) 21 9 (kp4 rfl rfl rfl rfl) rfl (Qg Wa rfl) rfl Ws (by intro p hp hk; simp only [QeJ, QeI, or_false] at hp; rcases hp with rfl | rfl | rfl | rfl <;> first | (simp [D.ids, D.sid, QX, QM, ZH] at hk; done) | (simp [D.ids, D.sid, QX, QM, ZH] at hk; omega)) (by intro p hp; simp only [QeJ, QeI, or_false] at hp; rcases hp with rfl | rfl <;> exact ⟨by first | decide | (simp only; omega), by repeat (first | exact Qp | refine Qg Wj ?_), rfl⟩) (by intro p hp h; simp only [QeJ, QeI, or_false] at hp; rcases hp with rfl | rfl | rfl | rfl | rfl <;> first | (simp only at h; omega) | (repeat (first | exact QL | refine QJ ?_))) hB hC (by intro p hp k hk; simp only [QeJ, QeI, or_false] at hp; rcases hp with rfl | rfl | rfl | rfl <;> first | (simp [D.ids, D.sid, QX, QM, ZH] at hk; done) | (simp [D.ids, D.sid, QX, QM, ZH] at hk; subst hk; repeat (first | exact QL | exact Q9 hg | exact Q9 hu | refine QJ ?_)))) (Ga (l := [0, 1, 7, 8, 9]) (B := [_, _]) (kp5 rfl rfl rfl rfl rfl) rfl (by intro p hp; simp only [QeJ, QeI, or_false] at hp; rcases hp with rfl | rfl <;> exact ⟨by repeat (first | exact Qp | refine Qg Wj ?_), rfl⟩) rfl (by intro p hp h; simp only [QeJ, QeI, or_false] at hp; rcases hp with rfl | rfl <;> first | (simp only at h; omega) | (repeat (first | exact QL | refine QJ ?_))) hB hC (by intro p hp k hk; simp only [QeJ, QeI, or_false] at hp; rcases hp with rfl | rfl | rfl | rfl | rfl <;> first | (simp [D.ids, D.sid, QX, QM, ZH] at hk; done) | (simp [D.ids, D.sid, QX, QM, ZH] at hk; subst hk; repeat (first | exact QL | exact Q9 hg | exact Q9 hu | refine QJ ?_))))
    ·exact QaV hx1
  intro ⟨r, J4⟩ hJ
  try dsimp only at hJ
  try dsimp only
  refine ZS fun K hK => mv2 Z Z ?_
  refine QK Z (by repeat (first | exact hB.none Wk | refine Zf Wj ?_)) ?_
  refine KW Z Z (fun _ h => Hs Z Z Z h) Z Wg Z Z Z Wm Wm (Qa Z (hK _ ?_))
  refine Qi (QY (kp4 Z Z Z Z) (ZS fun K hK => Qa Z (HN Z Z We (Qa Z (hK _ ?_)))))
  refine Ql (k - 1, ns ++ [r], J4) ?_ ?_ ?_
  ·exact le_trans (QbZ (B := [_, _, _, _]) 7 hB hC) (Ga (l := [0, 1, 7, 8]) (A := [(7, ⟨ns.map (fun r => [QX r]) ++ [[QX r]], 1, 47, true⟩), (kg, gB L J4 eg)]) (B := [_, _, _, _]) (kp4 rfl rfl rfl rfl) (by simp [D.scrub, show ¬ kg = 7 by omega, show ¬ ku = 7 by omega] <;> omega) (by intro p hp; simp only [QeJ, QeI, or_false] at hp; rcases hp with rfl | rfl <;> exact ⟨by repeat (first | exact Qp | refine Qg Wj ?_), rfl⟩) Wg (by intro p hp h; simp only [QeJ, QeI, or_false] at hp; rcases hp with rfl | rfl | rfl | rfl <;> first | (simp only at h; omega) | (repeat (first | exact QL | refine QJ ?_))) hB hC (by intro p hp k hk; simp only [QeJ, QeI, or_false] at hp; rcases hp with rfl | rfl | rfl | rfl <;> first | (simp [D.ids, D.sid, QX, QM, ZH] at hk; done) | (simp [D.ids, D.sid, QX, QM, ZH] at hk; subst hk; repeat (first | exact QL | exact Q9 hg | exact Q9 hu | refine QJ ?_))))
  ·exact ⟨by simp only [List.length_append, List.length_singleton]; omega, D1 hI.2 hJ⟩
  ·show k - 1 < k; omega
 ·try rw [h1]
  try simp only [qA] at h1
  refine GA (Xx (Qz (QH (QY (kp1 Z) (QZ fun K hK => mv2 Z Z (hK _ _ (QG (kp1 Z) ?_)))))))
  refine Fj ?_
  refine ⟨QM ns, (kg, gB L J eg) :: H, ⟨ns, _, ⟨Wa, hI.2⟩, rfl, rfl⟩, (Z6 hB hC hkg rfl).1, (Z6 hB hC hkg rfl).2, ?_⟩
  refine Jn Z (by simp [Cj, D.fz, D.fzS, ME, lk, D.can, D.canS, QM]) ?_
  exact YN (B := [_, _]) hB Wi (by intro p hp h; simp only [QeJ, QeI, or_false] at hp; rcases hp with rfl | rfl <;> first | rfl | (simp only at h; omega))
end Go.Proofs
namespace M25
open Go Go.Abs M3
/-! ### The boxes of a world under way -/
def fbx (ec : Nat) (us : List UR) : QeE := us.map fun u => (u.k, ⟨u.cs.map dCR, 8, ec, true⟩)
def Z8 (us : List UR) : Prop := ∀ j, ∀ h : j < us.length, us[j].k = 500001 + j
theorem RG {us : List UR} {u : UR} (h : Z8 us) (hu : u.k = 500001 + us.length) : Z8 (us ++ [u]) := fun j hj => by
 rw [List.length_append, List.length_singleton] at hj
 by_cases e : j < us.length
 ·rw [List.getElem_append_left e]; exact h j e
 ·have : j = us.length := Wa
  subst this
  rw [List.getElem_append_right (Nat.le_refl _)]; simpa using hu
theorem NK (ec : Nat) (us : List UR) : Cm (fbx ec us) := fun p hp => by
 obtain ⟨u, _, rfl⟩ := QeV.1 hp; rfl
theorem MY {ec : Nat} : ∀ {us : List UR} {k : Nat} {b : Box}, lk (fbx ec us) k = some b -> ∃ u ∈ us, k = u.k /\ b = ⟨u.cs.map dCR, 8, ec, true⟩
 | [], _, _, h => by cases h
 | u :: us, k, b, h => by
  simp only [fbx, List.map_cons] at h
  rw [Qj] at h
  split at h
  ·rename_i e; cases h; exact ⟨u, by simp, e.symm, rfl⟩
  ·obtain ⟨v, hv, q⟩ := MY (us := us) h
   exact ⟨v, by simp [hv], q⟩
theorem KC {us : List UR} (h : Z8 us) {u : UR} (hu : u ∈ us) : 500001 <= u.k /\ u.k < 500001 + us.length := by
 obtain ⟨j, hj, rfl⟩ := Qe3 hu
 have := h j hj
 omega
theorem Pl {ec : Nat} {us : List UR} (h : Z8 us) : Qc0 500001 (fbx ec us) := fun k b hk => by
 obtain ⟨u, hu, rfl, _⟩ := MY hk
 exact (KC h hu).1
theorem YM {ec : Nat} {us : List UR} (h : Z8 us) {k : Nat} (hk : k < 500001 \/ 500001 + us.length <= k) : lk (fbx ec us) k = none := by
 cases hh : lk (fbx ec us) k with
 | none => rfl
 | some b =>
  obtain ⟨u, hu, rfl, _⟩ := MY hh
  have := KC h hu
  omega
theorem Db {ec : Nat} : ∀ {us : List UR} {n : Nat}, (∀ j, ∀ h : j < us.length, us[j].k = n + j) -> ∀ j, ∀ h : j < us.length, lk (fbx ec us) (n + j) = some ⟨us[j].cs.map dCR, 8, ec, true⟩
 | [], _, _, j, hj => by simp at hj
 | u :: us, n, hk, 0, _ => by
  have := hk 0 Wg
  simp only [List.getElem_cons_zero, Nat.add_zero] at this
  simp only [fbx, List.map_cons, Nat.add_zero]
  rw [Qj, if_pos this]; rfl
 | u :: us, n, hk, j + 1, hj => by
  have h0 := hk 0 Wg
  simp only [List.getElem_cons_zero, Nat.add_zero] at h0
  simp only [fbx, List.map_cons]
  rw [Qj, if_neg Wa]
  have := Db (ec := ec) (us := us) (n := n + 1) (fun i hi => by
   have := hk (i + 1) (by simpa using hi)
   simp only [List.getElem_cons_succ] at this
   omega) j (by simpa using hj)
  rw [show n + 1 + j = n + (j + 1) by omega] at this
  simp only [List.getElem_cons_succ]
  exact this
theorem Da {ec : Nat} {us : List UR} (h : Z8 us) {j : Nat} (hj : j < us.length) : lk (fbx ec us) (500001 + j) = some ⟨us[j].cs.map dCR, 8, ec, true⟩ := Db h j hj
theorem Tw (ec : Nat) (us : List UR) (u : UR) : fbx ec (us ++ [u]) = fbx ec us ++ [(u.k, ⟨u.cs.map dCR, 8, ec, true⟩)] := by simp [fbx]
theorem CG {ec : Nat} {us : List UR} (h : Z8 us) {kg : Nat} {x y : Box} {u : UR} (hu : u.k = 500001 + us.length) (hkg : u.k ≠ kg) (k : Nat) :
  lk ((u.k, ⟨u.cs.map dCR, 8, ec, true⟩) :: (500000, x) :: (kg, y) :: fbx ec us) k = lk ((500000, x) :: (kg, y) :: fbx ec (us ++ [u])) k := by
 rw [Tw]
 by_cases e : u.k = k
 ·subst e
  rw [Qp, Qj, if_neg Wa, Qj, if_neg (Ne.symm hkg), YO (YM h (.inr Wa)), Qp]
 ·rw [Qj, if_neg e, Qj, Qj, Qj, Qj]
  split
  ·rfl
  ·split
   ·rfl
   ·rw [ZP]
    cases h2 : lk (fbx ec us) k with
    | some v => rfl
    | none => rw [Qj, if_neg e]; rfl
def zr (v : Vr) (sh : Int) : CR := ⟨v, .int .i64 sh, .fsl [], .fsl []⟩
def Qbn (u : UR) : Prop := u.cs.length <= 4 /\ ∀ z ∈ u.cs, ∃ v sh, z = zr v sh /\ FS v
theorem BG {u : UR} : (dUR u).flatMap D.sid = [u.k] := by simp [dUR, D.sid]
theorem KM {us : List UR} {e et : Nat} {k : Nat} (h : k ∈ (Box.ids ⟨us.map dUR, e, et, false⟩)) : ∃ u ∈ us, k = u.k := by
 simp only [Box.ids, QeP, if_false, QeO, QeV] at h
 obtain ⟨r, ⟨u, hu, rfl⟩, hk⟩ := h
 have : k ∈ (dUR u).flatMap D.sid := QeO.2 hk
 rw [BG] at this
 exact ⟨u, hu, by simpa using this⟩
theorem Qa6 {us : List UR} (h : Z8 us) : ∀ r ∈ us.map dUR, ∀ d ∈ r, 500000 ∉ d.sid := fun r hr d hd hk => by
 obtain ⟨u, hu, rfl⟩ := QeV.1 hr
 have : 500000 ∈ (dUR u).flatMap D.sid := QeO.2 ⟨d, hd, hk⟩
 rw [BG] at this
 have h2 := KC h hu
 simp only [QeQ] at this
 omega
theorem Pd {B F : QeE} {j : Nat} (h : (lk F j).isSome = true) : (lk (B ++ F) j).isSome = true := by
 rw [ZP]; split
 ·rfl
 ·exact h
theorem GT {ec : Nat} {us : List UR} (h : Z8 us) {u : UR} (hu : u ∈ us) : (lk (fbx ec us) u.k).isSome = true := by
 obtain ⟨j, hj, rfl⟩ := Qe3 hu
 rw [h j hj, Da h hj]; rfl
theorem Pm {ec : Nat} {us : List UR} {u : UR} (h : Z8 us) (hu : u.k = 500001 + us.length) : lk (fbx ec (us ++ [u])) (500001 + us.length) = some ⟨u.cs.map dCR, 8, ec, true⟩ := by
 rw [Tw, YO (YM h (.inr (Nat.le_refl _))), <- hu, Qp]
section
variable {l : List Nat} {fr fr1 fr' : QeF} {B : QeE} {kg eg eu ec : Nat} {L : List Int} {J : Int} {us : List UR}
theorem Qc5 (hf : Q7 l fr = fr1) (ef : fr1 = fr') (hK : Z8 us) (hu : lk B 500000 = some ⟨us.map dUR, 3, eu, false⟩) (hg : lk B kg = some (gB L J eg)) (hB : ∀ p ∈ B, 500001 <= p.1 -> p.1 = kg) (hkg : kg ≠ 500000)
  (hfr : ∀ p ∈ fr', ∀ k ∈ p.2.ids, k = 500000 \/ k = kg \/ ∃ u ∈ us, k = u.k) : St.le ⟨fr, B ++ fbx ec us⟩ ⟨fr', [(500000, ⟨us.map dUR, 3, eu, false⟩), (kg, gB L J eg)] ++ fbx ec us⟩ := by
 have s0 : ∀ k, (k = 500000 \/ k = kg \/ ∃ u ∈ us, k = u.k) -> (lk ([(500000, (⟨us.map dUR, 3, eu, false⟩ : Box)), (kg, gB L J eg)] ++ fbx ec us) k).isSome = true := fun k hk => by
  rcases hk with rfl | rfl | ⟨u, hu, rfl⟩
  ·exact QL
  ·exact QJ QL
  ·exact Pd (GT hK hu)
 refine SO (N := 500001) hf ef (fun p hp => ?_) rfl (fun p hp j hj => s0 j ?_) (fun p hp h => ?_) (Pl hK) (NK ec us) (fun p hp k hk => s0 k (hfr p hp k hk))
 ·simp only [QeJ, QeI, or_false] at hp
  rcases hp with rfl | rfl
  ·exact hu
  ·exact hg
 ·simp only [QeJ, QeI, or_false] at hp
  rcases hp with rfl | rfl
  ·exact .inr (.inr (KM hj))
  ·simp [Box.ids, gB] at hj
 ·rw [hB p hp h]; exact QJ QL
theorem Qbl {cs : List CR} (hf : Q7 l fr = fr1) (ef : fr1 = fr') (hK : Z8 us) (hc : lk B (500001 + us.length) = some ⟨cs.map dCR, 8, ec, true⟩) (hu : lk B 500000 = some ⟨us.map dUR, 3, eu, false⟩) (hg : lk B kg = some (gB L J eg)) (hB : ∀ p ∈ B, 500001 <= p.1 -> p.1 = kg \/ p.1 = 500001 + us.length)
  (hfr : ∀ p ∈ fr', ∀ k ∈ p.2.ids, k = 500000 \/ k = kg \/ k = 500001 + us.length \/ ∃ u ∈ us, k = u.k) : St.le ⟨fr, B ++ fbx ec us⟩ ⟨fr', [(500001 + us.length, ⟨cs.map dCR, 8, ec, true⟩), (500000, ⟨us.map dUR, 3, eu, false⟩), (kg, gB L J eg)] ++ fbx ec us⟩ := by
 have s0 : ∀ k, (k = 500000 \/ k = kg \/ k = 500001 + us.length \/ ∃ u ∈ us, k = u.k) -> (lk ([(500001 + us.length, (⟨cs.map dCR, 8, ec, true⟩ : Box)), (500000, (⟨us.map dUR, 3, eu, false⟩ : Box)), (kg, gB L J eg)] ++ fbx ec us) k).isSome = true := fun k hk => by
  rcases hk with rfl | rfl | rfl | ⟨u, hu, rfl⟩
  ·exact QJ QL
  ·exact QJ (QJ QL)
  ·exact QL
  ·exact Pd (GT hK hu)
 refine SO (N := 500001) hf ef (fun p hp => ?_) rfl (fun p hp j hj => s0 j ?_) (fun p hp h => ?_) (Pl hK) (NK ec us) (fun p hp k hk => s0 k (hfr p hp k hk))
 ·simp only [QeJ, QeI, or_false] at hp
  rcases hp with rfl | rfl | rfl
  ·exact hc
  ·exact hu
  ·exact hg
 ·simp only [QeJ, QeI, or_false] at hp
  rcases hp with rfl | rfl | rfl
  ·simp [Box.ids] at hj
  ·exact .inr (.inr (.inr (KM hj)))
  ·simp [Box.ids, gB] at hj
 ·rcases hB p hp h with e | e
  ·rw [e]; exact QJ (QJ QL)
  ·rw [e]; exact QL
theorem Qcg {u : UR} (hf : Q7 l fr = fr1) (ef : fr1 = fr') (hK : Z8 us) (huk : u.k = 500001 + us.length) (hc : lk B (500001 + us.length) = some ⟨u.cs.map dCR, 8, ec, true⟩) (hu : lk B 500000 = some ⟨(us ++ [u]).map dUR, 3, eu, false⟩) (hg : lk B kg = some (gB L J eg)) (hB : ∀ p ∈ B, 500001 <= p.1 -> p.1 = kg \/ p.1 = 500001 + us.length) (hkg : 1000000 <= kg) (hlen : us.length <= 100)
  (hfr : ∀ p ∈ fr', ∀ k ∈ p.2.ids, k = 500000 \/ k = kg \/ ∃ v ∈ us ++ [u], k = v.k) : St.le ⟨fr, B ++ fbx ec us⟩ ⟨fr', [(500000, ⟨(us ++ [u]).map dUR, 3, eu, false⟩), (kg, gB L J eg)] ++ fbx ec (us ++ [u])⟩ := by
 have hK1 := RG hK huk
 have mv := fun k => CG (ec := ec) hK (kg := kg) (x := ⟨(us ++ [u]).map dUR, 3, eu, false⟩) (y := gB L J eg) huk Wa k
 have s0 : ∀ k, (k = 500000 \/ k = kg \/ ∃ v ∈ us ++ [u], k = v.k) -> (lk ([(u.k, (⟨u.cs.map dCR, 8, ec, true⟩ : Box)), (500000, (⟨(us ++ [u]).map dUR, 3, eu, false⟩ : Box)), (kg, gB L J eg)] ++ fbx ec us) k).isSome = true := fun k hk => by
  show (lk ((u.k, _) :: (500000, _) :: (kg, _) :: fbx ec us) k).isSome = true
  rw [mv]
  rcases hk with rfl | rfl | ⟨v, hv, rfl⟩
  ·exact QL
  ·exact QJ QL
  ·exact QJ (QJ (GT hK1 hv))
 refine le_trans (SO (N := 500001) (A' := [(u.k, ⟨u.cs.map dCR, 8, ec, true⟩), (500000, ⟨(us ++ [u]).map dUR, 3, eu, false⟩), (kg, gB L J eg)]) hf ef (fun p hp => ?_) rfl (fun p hp j hj => s0 j ?_) (fun p hp h => ?_) (Pl hK) (NK ec us) (fun p hp k hk => s0 k (hfr p hp k hk))) (PC ⟨fun _ => rfl, mv⟩)
 ·simp only [QeJ, QeI, or_false] at hp
  rcases hp with rfl | rfl | rfl
  ·rw [huk]; exact hc
  ·exact hu
  ·exact hg
 ·simp only [QeJ, QeI, or_false] at hp
  rcases hp with rfl | rfl | rfl
  ·simp [Box.ids] at hj
  ·exact .inr (.inr (KM hj))
  ·simp [Box.ids, gB] at hj
 ·rcases hB p hp h with e | e
  ·rw [e]; exact QJ (QJ QL)
  ·rw [e, <- huk]; exact QL
end
def u0 (v : Vr) : UR := ⟨[], [], 500001, [zr v (-1)]⟩
theorem Bp {kg a b : Nat} (h : 1000000 <= kg) (ha : a < 1000000) (hb : b < 1000000) : KU a b kg = kg := by
 unfold KU; rw [if_neg Wa, if_neg Wa]
theorem DF {l : List Nat} {fr fr1 fr' : QeF} {kg eg eu ec : Nat} {L : List Int} {I : Int} (hkg : 1000000 <= kg) (hf : Q7 l fr = fr1) (ef : fr1.map (fun p => (p.1, (p.2.ren (KU 18 500000)).ren (KU 16 500001))) = fr') :
  St.le ⟨fr, [(18, ⟨[[.str [], .str [], .osl 16 1]], 3, eu, false⟩), (16, ⟨[dCR (zr v0 (-1))], 8, ec, true⟩), (kg, gB L I eg)]⟩ ⟨fr', [(500000, ⟨[u0 v0].map dUR, 3, eu, false⟩), (kg, gB L I eg)] ++ fbx ec [u0 v0]⟩ := by
 subst hf ef
 have k1 := Bp (a := 18) (b := 500000) hkg Wk Wk
 have k2 := Bp (a := 16) (b := 500001) hkg Wk Wk
 refine le_trans (Hd l fr _) (le_trans (SN 18 500000 Wk Wk _) (le_trans (SN 16 500001 Wk Wk _) ?_))
 have hH : ∀ k, lk ([(500000, (⟨[u0 v0].map dUR, 3, eu, false⟩ : Box)), (kg, gB L I eg)] ++ fbx ec [u0 v0]) k = lk (HY (KU 16 500001) (HY (KU 18 500000) [(18, ⟨[[.str [], .str [], .osl 16 1]], 3, eu, false⟩), (16, ⟨[dCR (zr v0 (-1))], 8, ec, true⟩), (kg, gB L I eg)])) k := fun k => by
  have e : HY (KU 16 500001) (HY (KU 18 500000) [(18, (⟨[[.str [], .str [], .osl 16 1]], 3, eu, false⟩ : Box)), (16, ⟨[dCR (zr v0 (-1))], 8, ec, true⟩), (kg, gB L I eg)]) = [(500000, ⟨[u0 v0].map dUR, 3, eu, false⟩), (500001, ⟨[dCR (zr v0 (-1))], 8, ec, true⟩), (kg, gB L I eg)] := by
   simp only [HY, List.map_cons, List.map_nil, k1, k2]; rfl
  rw [e]
  show lk ((500000, _) :: (kg, _) :: (500001, _) :: []) k = _
  rw [Qj, Qj, Qj, Qj, Qj, Qj]
  by_cases h1 : 500000 = k
  ·rw [if_pos h1, if_pos h1]
  ·rw [if_neg h1, if_neg h1]
   by_cases h2 : kg = k
   ·rw [if_pos h2, if_neg Wa, if_pos h2]
   ·rw [if_neg h2, if_neg h2]; rfl
 refine KD (by simp only [St.ren, List.map_map]; rfl) fun k => (hH k).symm
def names5 : List (List UInt8) := [[97, 110, 116], [98, 101, 101], [99, 111, 119], [100, 111, 103], [101, 108, 107]]
theorem Q0 : names5.length = 5 := rfl
theorem Qa7 : versions.length = 4 := rfl
theorem Qci {i : Nat} (h : i < versions.length) : FS versions[i] := by
 have := Tc _ (QeM h)
 exact ⟨Qe0 this.1 Wa, Qe0 this.2 Wa⟩
structure UnitsIn (us : List UR) : Prop where
 keys : Z8 us
 fresh : ∀ u ∈ us, Qbn u
 first : ∃ z rest, us = ⟨[], [], 500001, [z]⟩ :: rest
theorem UnitsIn.zero : UnitsIn [u0 v0] := by
 refine ⟨fun j hj => ?_, fun u hu => ?_, ⟨zr v0 (-1), [], rfl⟩⟩
 ·have : j = 0 := by simp at hj; exact hj
  subst this; rfl
 ·simp only [QeQ] at hu; subst hu
  refine ⟨by simp [u0], fun z hz => ?_⟩
  simp only [u0, QeQ] at hz; subst hz
  exact ⟨v0, -1, rfl, ⟨QeT _, QeT _⟩⟩
theorem UnitsIn.snoc {us : List UR} (h : UnitsIn us) {n f : List UInt8} {cs : List CR} (hc : cs.length <= 4) (hz : ∀ z ∈ cs, ∃ v sh, z = zr v sh /\ FS v) : UnitsIn (us ++ [⟨n, f, 500001 + us.length, cs⟩]) := by
 obtain ⟨h1, h2, z, rest, h3⟩ := h
 refine ⟨RG h1 rfl, fun u hu => ?_, z, rest ++ [⟨n, f, 500001 + us.length, cs⟩], by rw [h3]; rfl⟩
 rcases QeS.1 hu with hu | hu
 ·exact h2 u hu
 ·simp only [QeQ] at hu; subst hu; exact ⟨hc, hz⟩
def CsIn (n : Nat) (cs : List CR) : Prop := cs.length <= n /\ ∀ z ∈ cs, ∃ v sh, z = zr v sh /\ FS v
theorem CsIn.nil (n : Nat) : CsIn n [] := ⟨QeT _, by simp⟩
theorem CsIn.keep {n : Nat} {cs : List CR} (h : CsIn n cs) : CsIn (n + 1) cs := ⟨Nat.le_succ_of_le h.1, h.2⟩
theorem CsIn.snoc {n : Nat} {cs : List CR} (h : CsIn n cs) {v : Vr} (hv : FS v) {sh : Int} : CsIn (n + 1) (cs ++ [zr v sh]) := by
 refine ⟨by simp; exact h.1, fun z hz => ?_⟩
 rcases QeS.1 hz with hz | hz
 ·exact h.2 z hz
 ·simp only [QeQ] at hz; subst hz; exact ⟨v, sh, rfl, hv⟩
theorem CsIn.at {n : Nat} {cs : List CR} (h : CsIn n cs) {i : Nat} (hi : i < cs.length) : FS cs[i].v := by
 obtain ⟨v, sh, e, hv⟩ := h.2 _ (QeM hi)
 rw [e]; exact hv
/-! ### What units are called, and of which versions they are -/
def nmR (r : Nat) : List UInt8 := names5.getD (r / 2) []
def ftR (r : Nat) : List UInt8 := if r % 2 = 1 then [102] else []
def shp (u : UR) : List UInt8 × List UInt8 × List Vr := (u.n, u.f, u.cs.map CR.v)
inductive UL : Nat -> List (List UInt8 × List UInt8 × List Vr) -> Prop
 | base : UL 0 [([], [], [v0])]
 | snoc {b r : Nat} {l : List (List UInt8 × List UInt8 × List Vr)} {vs : List Vr} (h : UL b l) (hb : b <= r) (hr : r < 10) (hf : r % 2 = 1 -> 2 <= l.length) (hc : vs.Sublist versions) : UL (r + 1) (l ++ [(nmR r, ftR r, vs)])
 | up {b b' : Nat} {l : List (List UInt8 × List UInt8 × List Vr)} (h : UL b l) (hb : b <= b') : UL b' l
theorem DN {n : Nat} (h : n < names5.length) : nmR (2 * n) = names5[n] /\ ftR (2 * n) = [] /\ nmR (2 * n + 1) = names5[n] /\ ftR (2 * n + 1) = [102] := by
 refine ⟨?_, ?_, ?_, ?_⟩
 ·rw [nmR, show 2 * n / 2 = n by omega, List.getD_eq_getElem?_getD, List.getElem?_eq_getElem h]; rfl
 ·rw [ftR, if_neg Wa]
 ·rw [nmR, show (2 * n + 1) / 2 = n by omega, List.getD_eq_getElem?_getD, List.getElem?_eq_getElem h]; rfl
 ·rw [ftR, if_pos Wa]
theorem Ca {n : Nat} {us : List UR} {k : Nat} {cs : List CR} (h : UL (2 * n) (us.map shp)) (hn : n < names5.length) (hc : (cs.map CR.v).Sublist versions) : UL (2 * n + 1) ((us ++ [UR.mk names5[n] [] k cs]).map shp) := by
 obtain ⟨e1, e2, _, _⟩ := DN hn
 have := UL.snoc h (Nat.le_refl _) (by have := Q0; omega) (fun e => Wa) hc
 rw [List.map_append]
 show UL _ (_ ++ [(names5[n], [], cs.map CR.v)])
 rw [<- e1, <- e2]; exact this
theorem QcW {n : Nat} {us : List UR} {k : Nat} {cs : List CR} (h : UL (2 * n + 1) (us.map shp)) (hn : n < names5.length) (h2 : 2 <= us.length) (hc : (cs.map CR.v).Sublist versions) : UL (2 * (n + 1)) ((us ++ [UR.mk names5[n] [102] k cs]).map shp) := by
 obtain ⟨_, _, e1, e2⟩ := DN hn
 have := UL.snoc h (Nat.le_refl _) (by have := Q0; omega) (fun _ => by simpa using h2) hc
 rw [List.map_append]
 show UL (2 * n + 1 + 1) (_ ++ [(names5[n], [102], cs.map CR.v)])
 rw [<- e1, <- e2]; exact this
theorem UL.vs {b : Nat} {l : List (List UInt8 × List UInt8 × List Vr)} (h : UL b l) : ∀ s ∈ l, VsL s.2.2 := by
 induction h with
 | base => intro s hs; simp only [QeQ] at hs; subst hs; exact .inr rfl
 | snoc _ _ _ _ hc ih =>
  intro s hs
  rcases QeS.1 hs with hs | hs
  ·exact ih s hs
  ·simp only [QeQ] at hs; subst hs; exact .inl hc
 | up _ _ ih => exact ih
theorem UL.feat {b : Nat} {l : List (List UInt8 × List UInt8 × List Vr)} (h : UL b l) : ∀ i (hi : i < l.length), l[i].2.1 ≠ [] -> 2 <= i := by
 induction h with
 | base =>
  intro i hi hf
  have : i = 0 := by simp at hi; exact hi
  subst this; exact absurd rfl hf
 | @snoc b r l vs h _ _ hr _ ih =>
  intro i hi hf
  rw [List.length_append, List.length_singleton] at hi
  by_cases e : i < l.length
  ·rw [List.getElem_append_left e] at hf; exact ih i e hf
  ·have : i = l.length := Wa
   subst this
   rw [List.getElem_append_right (Nat.le_refl _)] at hf
   simp only [Nat.sub_self, List.getElem_cons_zero, ftR] at hf
   split at hf
   ·rename_i q; exact hr q
   ·exact absurd rfl hf
 | up _ _ ih => exact ih
theorem Qcl {l : List Vr} {cs : List CR} {i : Nat} {x : Int} (h : i < l.length) (hL : (cs.map CR.v).Sublist (l.take i)) : ((cs ++ [zr l[i] x]).map CR.v).Sublist (l.take (i + 1)) := by
 rw [List.map_append, List.take_succ_eq_append_getElem h]
 exact hL.append (List.Sublist.refl _)
theorem Qcj {cs c2 : List CR} {m : Nat} {x : Int} (h : m < cs.length) (hL : (c2.map CR.v).Sublist ((cs.map CR.v).take m)) : ((c2 ++ [zr cs[m].v x]).map CR.v).Sublist ((cs.map CR.v).take (m + 1)) := by
 rw [List.map_append, List.take_succ_eq_append_getElem (by simpa using h)]
 simp only [List.getElem_map]
 exact hL.append (List.Sublist.refl _)
theorem Lc {L : List Vr} {i : Nat} (h : L.Sublist (versions.take i)) : L.Sublist versions := h.trans (List.take_sublist _ _)
theorem TI {α : Type} {k : Nat} {v v' : α} {l : List (Nat × α)} (h : v = v') : lk ((k, v) :: l) k = some v' := by rw [Qp, h]
theorem R6 {us : List UR} {e et : Nat} (h : Z8 us) : Box.scrub (500001 + us.length) ⟨us.map dUR, e, et, false⟩ = ⟨us.map dUR, e, et, false⟩ := R5 fun hk => by
 obtain ⟨u, hu, e⟩ := KM hk
 have := KC h hu
 omega
theorem Lb {us : List UR} (h : Z8 us) {n f : List UInt8} {k m : Nat} (hk : k ≠ 500000) : ∀ r ∈ us.map dUR ++ [[D.str n, D.str f, D.osl k m]], ∀ d ∈ r, 500000 ∉ d.sid := fun r hr d hd => by
 rcases QeS.1 hr with hr | hr
 ·exact Qa6 h r hr d hd
 ·simp only [QeQ] at hr; subst hr
  simp only [QeJ, QeI, or_false] at hd
  rcases hd with rfl | rfl | rfl <;> simp [D.sid]
  exact Ne.symm hk
theorem Qa5 {us : List UR} {u : UR} : (us ++ [u]).map dUR = us.map dUR ++ [dUR u] := by simp
theorem Qax {cs : List CR} {z : CR} : (cs ++ [z]).map dCR = cs.map dCR ++ [dCR z] := by simp
theorem Kq {us : List UR} (h : Z8 us) {kg eu ec : Nat} {g1 g2 g3 : Box} (hkg : 1000000 <= kg) (h1 : g1.pr = true) (h2 : g2.pr = true) (hlen : us.length <= 100) :
  (∀ k, 1000000 <= k -> (lk [(kg, g1)] k).isSome = true -> (lk (((500000, (⟨us.map dUR, 3, eu, false⟩ : Box)) :: fbx ec us) ++ [(kg, g2), (kg, g1)]) k).isSome = true) /\
  (∀ k b, lk (((500000, (⟨us.map dUR, 3, eu, false⟩ : Box)) :: fbx ec us) ++ [(kg, g2), (kg, g1)]) k = some b -> 500000 <= k /\ ∀ j ∈ b.ids, (lk (((500000, (⟨us.map dUR, 3, eu, false⟩ : Box)) :: fbx ec us) ++ [(kg, g2), (kg, g1)]) j).isSome = true) /\
  (∀ k b, lk (((500000, (⟨us.map dUR, 3, eu, false⟩ : Box)) :: fbx ec us) ++ [(kg, g2), (kg, g1)]) k = some b -> lk ((kg, g2) :: (500000, ⟨us.map dUR, 3, eu, false⟩) :: (kg, g3) :: fbx ec us) k = some b) := by
 have cs : ∀ k b, lk (((500000, (⟨us.map dUR, 3, eu, false⟩ : Box)) :: fbx ec us) ++ [(kg, g2), (kg, g1)]) k = some b -> (k = 500000 /\ b = ⟨us.map dUR, 3, eu, false⟩) \/ (∃ u ∈ us, k = u.k /\ b = ⟨u.cs.map dCR, 8, ec, true⟩) \/ (k = kg /\ b = g2) := fun k b hk => by
  rw [List.cons_append, Qj] at hk
  split at hk
  ·rename_i e; cases hk; exact .inl ⟨e.symm, rfl⟩
  ·rw [ZP] at hk
   cases hh : lk (fbx ec us) k with
   | some v =>
    rw [hh] at hk; cases hk
    exact .inr (.inl (MY hh))
   | none =>
    rw [hh] at hk
    simp only at hk
    rw [Qj] at hk
    split at hk
    ·rename_i e; cases hk; exact .inr (.inr ⟨e.symm, rfl⟩)
    ·rename_i e
     rw [Qj, if_neg e] at hk; cases hk
 refine ⟨fun k _ hk => ?_, fun k b hk => ?_, fun k b hk => ?_⟩
 ·obtain ⟨b, hb⟩ := QeN.1 hk
  obtain ⟨rfl, _⟩ := XB hb
  exact Pd QL
 ·rcases cs k b hk with ⟨rfl, rfl⟩ | ⟨u, hu, rfl, rfl⟩ | ⟨rfl, rfl⟩
  ·refine ⟨Nat.le_refl _, fun j hj => ?_⟩
   obtain ⟨u, hu, rfl⟩ := KM hj
   rw [List.cons_append]
   refine QJ ?_
   obtain ⟨b, hb⟩ := QeN.1 (GT (ec := ec) h hu)
   rw [Yo hb]; rfl
  ·have := KC h hu
   exact ⟨Wa, fun j hj => by simp [Box.ids] at hj⟩
  ·exact ⟨Wa, fun j hj => by rw [X7 h2] at hj; cases hj⟩
 ·rcases cs k b hk with ⟨rfl, rfl⟩ | ⟨u, hu, rfl, rfl⟩ | ⟨rfl, rfl⟩
  ·exact Qg Wa Qp
  ·have hm := KC h hu
   obtain ⟨j, hj, rfl⟩ := Qe3 hu
   refine Qg Wa (Qg Wa (Qg Wa ?_))
   rw [h j hj]; exact Da h hj
  ·exact Qp
end M25
namespace Go.Proofs
open Go Go.Abs M3 M25
theorem _root_.Wh {p : Prop} (h : p := by repeat (first | exact Qp | refine Qg (by omega) ?_)) : p := h
theorem HQ {kg : Nat} {L : List Int} {I most : Int} {eg eu ec : Nat} (heu : eu = 52) (hec : ec = 49) (hkg : 1000000 <= kg) (hL : ∀ x ∈ L, I64 x) (hm0 : 1 <= most) (hm1 : most <= 5) : ∃ d H2, (∃ us I2, (UnitsIn us /\ 2 <= us.length /\ us.length <= 11 /\ ∃ b, UL b (us.map shp)) /\ d = .osl 500000 us.length /\ H2 = ((500000, ⟨us.map dUR, 3, eu, false⟩) :: fbx ec us) ++ [(kg, gB L I2 eg), (kg, gB L I eg)]) /\ OkH Tryd.prog 12 [.ref kg 0 0, .int .i64 most] [(kg, gB L I eg)] d H2 := by
 subst heu hec
 have e3 : ¬ kg = 500000 := Wa
 have k1 := Bp (a := 18) (b := 500000) hkg Wk Wk
 have k2 := Bp (a := 16) (b := 500001) hkg Wk Wk
 refine OkH.ofX (R := fun d H2 => ∃ us I2, (UnitsIn us /\ 2 <= us.length /\ us.length <= 11 /\ ∃ b, UL b (us.map shp)) /\ d = .osl 500000 us.length /\ H2 = ((500000, ⟨us.map dUR, 3, 52, false⟩) :: fbx 49 us) ++ [(kg, gB L I2 eg), (kg, gB L I eg)]) Z7 Tryd.func12 Qdl (QeH Z) ?_
 show TX _ _ tf12.body _ _
 refine QZ fun K hK => Qa Z (hK _ _ (QG (kp2 Z Z) ?_))
 refine QZ fun K hK => ?_
 refine QK Z (by repeat (first | exact Z | refine Zf Wj ?_)) ?_
 refine Qa Z (hK _ _ (QG (kp3 Z Z Z) ?_))
 refine LK (SM (l := [0, 1]) (B := [_]) (A := []) (H0 := [(kg, gB L I eg)]) 14 5 (kp2 rfl rfl) rfl rfl rfl rfl (by intro p hp hk; simp only [QeJ, QeI, or_false] at hp; rcases hp with rfl | rfl <;> first | (simp [D.ids, D.sid, QX, QM, ZH] at hk; done) | (simp [D.ids, D.sid, QX, QM, ZH] at hk; omega)) (by intro p hp; cases hp) (by intro p hp h; simp only [QeQ] at hp; subst hp; simp only at h; omega) (fun k b h => by obtain ⟨rfl, rfl⟩ := XB h; exact hkg) (fun k b h j hj => by obtain ⟨rfl, rfl⟩ := XB h; simp [Box.ids, gB] at hj) (by intro p hp k hk; simp only [QeJ, QeI, or_false] at hp; rcases hp with rfl | rfl <;> first | (simp [D.ids, D.sid, QX, QM, ZH] at hk; done) | (simp [D.ids, D.sid, QX, QM, ZH] at hk; subst hk; repeat (first | exact QL | refine QJ ?_)))) ?_
 refine QZ fun K hK => QW Z Z ?_
 refine QK Z (by repeat (first | exact Z | refine Zf Wj ?_)) ?_
 refine QW Z Z ?_
 refine QK Z (by repeat (first | exact Z | refine Zf Wj ?_)) ?_
 refine Qa Z (hK _ _ (QG (kp4 Z Z Z Z) ?_))
 refine QZ fun K hK => Qw (Xj) Z Z (.inl Z) (Qa Z (hK _ _ (QG (kp5 Z Z Z Z Z) ?_)))
 refine XK ?_ -- 0
 refine QZ fun K hK => Qa Z (hK _ _ (QG (kp6 Z Z Z Z Z Z) ?_))
 refine Yu ?_
 refine FG (ι := List UR × Int × Nat) (fun ⟨us, J, n⟩ => ⟨[(0, .ref kg 0 0), (1, .int .i64 most), (5, .sl (YL names5)), (6, .osl 500000 us.length), (7, .sl (versions.map dVr)), (8, .int .i64 n)], [(500000, ⟨(us).map dUR, 3, 52, false⟩), (kg, gB L (J) eg)] ++ fbx 49 (us)⟩) (fun ⟨us, J, n⟩ => UnitsIn us /\ us.length <= 1 + 2 * n /\ n <= 5 /\ 1 + n <= us.length /\ UL (2 * n) (us.map shp)) (fun ⟨us, J, n⟩ => 5 - n) ([u0 v0], I, 0) ?_ ?_ ?_
 ·refine DF (l := [0, 1, 5, 6, 7, 8]) hkg (kp6 Z Z Z Z Z Z) ?_; simp only [List.map_cons, List.map_nil, D.ren, D.renS, k1, k2]; rfl
 ·exact ⟨UnitsIn.zero, by simp, Wa, by simp, UL.base⟩
 intro ⟨us, J, n⟩ hI
 try dsimp only at hI
 have e1 : ¬ kg = 500001 + us.length := Wa
 have e2 : ¬ 500000 = 500001 + us.length := Wa
 have e4 : ¬ 500001 + us.length = 500000 := Wa
 have hx0 : 0 <= nx L J most := RQ
 have hx1 : nx L J most < most := RP Wa
 have hn5 := Q0
 have hv4 := Qa7
 try dsimp only
 refine XK ?_ -- 1
 refine QZ fun K hK => mv2 Z Z (Qa Z ?_)
 refine Z9 (JN (I := J) Z Wh hL Wa) ?_
 refine Zc Z Z We (YX Z Z (Qa Z ?_))
 refine Qs (g := 26) Z (fun h1 => ?_) (fun h1 => ?_)
 ·try rw [h1]
  try simp only [qA] at h1
  refine Qd Z (Qa Z (Qd Z (Qa Z (Qd Z ?_))))
  first | refine ZD rfl Yx ?_ | refine ZD rfl rfl ?_
  refine Qd Z (YX Z Z (Qf Z Z (hK _ _ (QG (kp7 Z Z Z Z Z Z Z) ?_))))
  refine YR Z (fun h2 => ?_) (fun h2 => ?_)
  ·try rw [h2]
   try simp only [qA] at h2
   refine Xc (QY (kp6 Z Z Z Z Z Z) ?_)
   refine XK ?_ -- 2
   refine Yu (QZ fun K hK => Qa Z (hK _ _ (QG (kp7 Z Z Z Z Z Z Z) ?_)))
   refine QZ fun K hK => Qa Z ?_
   refine Z9 (JN (I := nxI J) Z Wh hL Wa) ?_
   refine Qa Z (hK _ _ (QG (kp8 Z Z Z Z Z Z Z Z) ?_))
   refine XK ?_ -- 3
   refine QZ fun K hK => Qa Z (hK _ _ (QG (kp9 Z Z Z Z Z Z Z Z Z) ?_))
   refine Yu ?_
   refine FG (ι := List CR × Nat) (fun ⟨cs, i⟩ => ⟨[(0, .ref kg 0 0), (1, .int .i64 most), (5, .sl (YL names5)), (6, .osl 500000 us.length), (7, .sl (versions.map dVr)), (8, .int .i64 n), (9, .osl (500001 + us.length) cs.length), (10, .int .i64 (nx L (nxI J) 16)), (11, .int .i64 i)], [(500001 + (us).length, ⟨(cs).map dCR, 8, 49, true⟩), (500000, ⟨(us).map dUR, 3, 52, false⟩), (kg, gB L (nxI (nxI J)) eg)] ++ fbx 49 (us)⟩) (fun ⟨cs, i⟩ => (i <= 4 /\ CsIn i cs) /\ (cs.map CR.v).Sublist (versions.take i)) (fun ⟨cs, i⟩ => 4 - i) ([], 0) ?_ ?_ ?_
   ·exact le_trans (XN 9 (500001 + us.length) 8 49 rfl (by repeat (first | exact YM hI.1.keys (.inr Wa) | refine Zf Wa ?_))) (Qbl (l := [0, 1, 5, 6, 7, 8, 9, 10, 11]) (B := [_, _, _, _, _]) (kp9 rfl rfl rfl rfl rfl rfl rfl rfl rfl) rfl hI.1.keys Wh Wh Wh (by intro p hp h; simp only [QeJ, QeI, or_false] at hp; rcases hp with rfl | rfl | rfl | rfl | rfl <;> first | (simp only at h; omega) | exact .inl rfl | exact .inr rfl) (by intro p hp k hk; simp only [QeJ, QeI, or_false] at hp; rcases hp with rfl | rfl | rfl | rfl | rfl | rfl | rfl | rfl | rfl <;> first | (simp [D.ids, D.sid, QX, QM, ZH] at hk; done) | (simp [D.ids, D.sid, QX, QM, ZH] at hk; subst hk; first | exact .inl rfl | exact .inr (.inl rfl) | exact .inr (.inr (.inl rfl)) | (refine .inr (.inr (.inl ?_)); simp; done) | (first | exact .inr (.inr ⟨_, QeW _ (QeQ.2 rfl), rfl⟩) | exact .inr (.inr (.inr ⟨_, QeW _ (QeQ.2 rfl), rfl⟩))))))
   ·exact ⟨⟨Wa, CsIn.nil _⟩, List.nil_sublist _⟩
   intro ⟨cs, i⟩ hC
   try dsimp only at hC
   have hcl := hC.1.2.1
   try dsimp only
   refine XK ?_ -- 4
   refine QZ fun K hK => mv2 Z Z ?_
   first | refine ZD rfl Yx ?_ | refine ZD rfl rfl ?_
   refine YX Z Z (hK _ _ (QG (Qcw Z Z Z Z Z Z Z Z Z Z) ?_))
   refine YR Z (fun h3 => ?_) (fun h3 => ?_)
   ·try rw [h3]
    try simp only [qA] at h3
    refine Xc (QY (kp9 Z Z Z Z Z Z Z Z Z) ?_)
    refine XK ?_ -- 5
    refine Yu (QZ fun K hK => mv2 Z Z (MG Z (P1 Wa Wa) (Qac Z Z Wa (Rc Z Z (Yr Z Z (hK _ _ (QG (Qcw Z Z Z Z Z Z Z Z Z Z) ?_)))))))
    refine YR Z (fun h4 => ?_) (fun h4 => ?_)
    ·try rw [h4]
     try simp only [qA] at h4
     refine ZS fun K hK => mv2 Z Z (Qa Z (QV Z Z Z Wa (ZN Wa) Z (QA (cs := [_, _, _, _, _]) Z Z Z Z (QW Z Z ?_))))
     refine QK Z (by repeat (first | exact YM hI.1.keys (.inl Wa) | exact YM hK1.keys (.inl Wa) | refine Zf Wj ?_)) ?_
     refine KW (hk0 := Wa) Z Z (fun _ h => Hs Z Z Z h) (Qg Wa Qp) Wg Z Z Z Wm Wm (Qa Z (hK _ ?_))
     refine Qi (QY (kp9 Z Z Z Z Z Z Z Z Z) (ZS fun K hK => Qa Z (Zc Z Z We (Qa Z (hK _ ?_)))))
     refine Ql (cs ++ [zr (versions[i]'Wa) 0], i + 1) ?_ ?_ ?_
     ·exact le_trans (PD (B := [_, _, _, _, _]) (500001 + us.length) (NK _ _)) (Qbl (l := [0, 1, 5, 6, 7, 8, 9, 10, 11]) (B := [_, _, _, _, _]) (kp9 rfl rfl rfl rfl rfl rfl rfl rfl rfl) (by simp [D.scrub, e1, e2, e3, e4] <;> omega) hI.1.keys (by rw [List.map_append]; exact Qp) (by repeat (first | exact Qp | exact TI (R6 hI.1.keys) | refine Qg Wa ?_)) Wh (by intro p hp h; simp only [QeJ, QeI, or_false] at hp; rcases hp with rfl | rfl | rfl | rfl | rfl <;> first | (simp only at h; omega) | exact .inl rfl | exact .inr rfl) (by intro p hp k hk; simp only [QeJ, QeI, or_false] at hp; rcases hp with rfl | rfl | rfl | rfl | rfl | rfl | rfl | rfl | rfl <;> first | (simp [D.ids, D.sid, QX, QM, ZH] at hk; done) | (simp [D.ids, D.sid, QX, QM, ZH] at hk; subst hk; first | exact .inl rfl | exact .inr (.inl rfl) | exact .inr (.inr (.inl rfl)) | (refine .inr (.inr (.inl ?_)); simp; done) | (first | exact .inr (.inr ⟨_, QeW _ (QeQ.2 rfl), rfl⟩) | exact .inr (.inr (.inr ⟨_, QeW _ (QeQ.2 rfl), rfl⟩))))))
     ·try dsimp only
      exact ⟨⟨Wa, hC.1.2.snoc (Qci Wa)⟩, Qcl Wa hC.2⟩
     ·show 4 - (i + 1) < 4 - i; omega
    ·try rw [h4]
     try simp only [qA] at h4
     refine Xc (Qi (QY (kp9 Z Z Z Z Z Z Z Z Z) (ZS fun K hK => Qa Z (Zc Z Z We (Qa Z (hK _ ?_))))))
     refine Ql (cs, i + 1) ?_ ?_ ?_
     ·exact Qbl (l := [0, 1, 5, 6, 7, 8, 9, 10, 11]) (B := [_, _, _]) (kp9 rfl rfl rfl rfl rfl rfl rfl rfl rfl) rfl hI.1.keys Wh Wh Wh (by intro p hp h; simp only [QeJ, QeI, or_false] at hp; rcases hp with rfl | rfl | rfl <;> first | (simp only at h; omega) | exact .inl rfl | exact .inr rfl) (by intro p hp k hk; simp only [QeJ, QeI, or_false] at hp; rcases hp with rfl | rfl | rfl | rfl | rfl | rfl | rfl | rfl | rfl <;> first | (simp [D.ids, D.sid, QX, QM, ZH] at hk; done) | (simp [D.ids, D.sid, QX, QM, ZH] at hk; subst hk; first | exact .inl rfl | exact .inr (.inl rfl) | exact .inr (.inr (.inl rfl)) | (refine .inr (.inr (.inl ?_)); simp; done) | (first | exact .inr (.inr ⟨_, QeW _ (QeQ.2 rfl), rfl⟩) | exact .inr (.inr (.inr ⟨_, QeW _ (QeQ.2 rfl), rfl⟩)))))
     ·try dsimp only
      exact ⟨⟨Wa, hC.1.2.keep⟩, PW hC.2⟩
     ·show 4 - (i + 1) < 4 - i; omega
   ·try rw [h3]
    try simp only [qA] at h3
    refine GA (Xx (Qz (QH (QY (kp7 Z Z Z Z Z Z Z) (QZ fun K hK => mv2 Z Z (Qa Z (QV Z Z Z Wa (ZN Wa) Z (QB Z Z Z (Qa Z ?_)))))))))
    refine QW Z Z ?_
    refine QK Z (by repeat (first | exact YM hI.1.keys (.inl Wa) | exact YM hK1.keys (.inl Wa) | refine Zf Wj ?_)) ?_
    refine So (hk0 := by decide) Z Z (fun _ h => Hs Z Z Z h) (Qg Wa (Qg Wa Qp)) Wg Z Z (.inr (Lb hI.1.keys Wa)) Wm Wm (Qa Z (hK _ _ (QG (kp7 Z Z Z Z Z Z Z) ?_)))
    have hc4 : CsIn 4 cs := ⟨Wa, hC.1.2.2⟩
    refine LK (le_trans (PD (B := [_, _, _, _, _]) 500000 (NK _ _)) (Qcg (u := (UR.mk (names5[n]'(by have := Q0; omega)) [] (500001 + us.length) cs)) (l := [0, 1, 5, 6, 7, 8, 9]) (fr' := [(0, .ref kg 0 0), (1, .int .i64 most), (5, .sl (YL names5)), (6, .osl 500000 (us ++ [(UR.mk (names5[n]'(by have := Q0; omega)) [] (500001 + us.length) cs)]).length), (7, .sl (versions.map dVr)), (8, .int .i64 n), (9, .osl (500001 + us.length) cs.length)]) (B := [_, _, _, _, _]) (kp7 rfl rfl rfl rfl rfl rfl rfl) (by simp [D.scrub, e1, e2, e3, e4]) hI.1.keys rfl Wh (by rw [List.map_append]; exact Qp) Wh (by intro p hp h; simp only [QeJ, QeI, or_false] at hp; rcases hp with rfl | rfl | rfl | rfl | rfl <;> first | (simp only at h; omega) | exact .inl rfl | exact .inr rfl) hkg Wa (by intro p hp k hk; simp only [QeJ, QeI, or_false] at hp; rcases hp with rfl | rfl | rfl | rfl | rfl | rfl | rfl <;> first | (simp [D.ids, D.sid, QX, QM, ZH] at hk; done) | (simp [D.ids, D.sid, QX, QM, ZH] at hk; subst hk; first | exact .inl rfl | exact .inr (.inl rfl) | (first | exact .inr (.inr ⟨_, QeW _ (QeQ.2 rfl), rfl⟩) | exact .inr (.inr (.inr ⟨_, QeW _ (QeQ.2 rfl), rfl⟩))))))) ?_
    have hK1 := hI.1.snoc (n := (names5[n]'(by have := Q0; omega))) (f := []) hc4.1 hc4.2
    have hl1 : (us ++ [(UR.mk (names5[n]'(by have := Q0; omega)) [] (500001 + us.length) cs)]).length = us.length + 1 := by simp
    have f1 : ¬ kg = 500001 + (us ++ [(UR.mk (names5[n]'(by have := Q0; omega)) [] (500001 + us.length) cs)]).length := Wa
    have f2 : ¬ 500000 = 500001 + (us ++ [(UR.mk (names5[n]'(by have := Q0; omega)) [] (500001 + us.length) cs)]).length := Wa
    have f4 : ¬ 500001 + (us ++ [(UR.mk (names5[n]'(by have := Q0; omega)) [] (500001 + us.length) cs)]).length = 500000 := Wa
    have f5 : ¬ 500001 + us.length = 500001 + (us ++ [(UR.mk (names5[n]'(by have := Q0; omega)) [] (500001 + us.length) cs)]).length := Wa
    refine QZ fun K hK => Qa Z (YX Z Z (Qa Z ?_))
    refine Qs (g := 67) Z (fun h5 => ?_) (fun h5 => ?_)
    ·try rw [h5]
     try simp only [qA] at h5
     refine Qd Z (Qa Z (Qd Z ?_))
     refine Z9 (JN (I := nxI (nxI J)) Z Wh hL Wa) ?_
     refine Qd Z (Yr Z Z (Qf Z Z (hK _ _ (QG (kp8 Z Z Z Z Z Z Z Z) ?_))))
     refine YR Z (fun h6 => ?_) (fun h6 => ?_)
     ·try rw [h6]
      try simp only [qA] at h6
      refine QZ fun K hK => Qa Z (hK _ _ (QG (kp8 Z Z Z Z Z Z Z Z) ?_))
      refine XK ?_ -- 6
      refine QZ fun K hK => Qa Z (hK _ _ (QG (kp9 Z Z Z Z Z Z Z Z Z) ?_))
      refine Yu ?_
      refine FG (ι := List CR × Nat × Int) (fun ⟨c2, m, J3⟩ => ⟨[(0, .ref kg 0 0), (1, .int .i64 most), (5, .sl (YL names5)), (6, .osl 500000 (us ++ [(UR.mk (names5[n]'(by have := Q0; omega)) [] (500001 + us.length) cs)]).length), (7, .sl (versions.map dVr)), (8, .int .i64 n), (9, .osl (500001 + us.length) cs.length), (12, .osl (500001 + (us ++ [(UR.mk (names5[n]'(by have := Q0; omega)) [] (500001 + us.length) cs)]).length) c2.length), (13, .int .i64 m)], [(500001 + (us ++ [(UR.mk (names5[n]'(by have := Q0; omega)) [] (500001 + us.length) cs)]).length, ⟨(c2).map dCR, 8, 49, true⟩), (500000, ⟨(us ++ [(UR.mk (names5[n]'(by have := Q0; omega)) [] (500001 + us.length) cs)]).map dUR, 3, 52, false⟩), (kg, gB L (J3) eg)] ++ fbx 49 (us ++ [(UR.mk (names5[n]'(by have := Q0; omega)) [] (500001 + us.length) cs)])⟩) (fun ⟨c2, m, J3⟩ => (m <= cs.length /\ CsIn m c2) /\ (c2.map CR.v).Sublist ((cs.map CR.v).take m)) (fun ⟨c2, m, J3⟩ => cs.length - m) ([], 0, nxI (nxI (nxI J))) ?_ ?_ ?_
      ·exact le_trans (XN 12 (500001 + (us ++ [(UR.mk (names5[n]'(by have := Q0; omega)) [] (500001 + us.length) cs)]).length) 8 49 rfl (by repeat (first | exact YM hK1.keys (.inr Wa) | refine Zf Wa ?_))) (Qbl (l := [0, 1, 5, 6, 7, 8, 9, 12, 13]) (B := [_, _, _, _]) (kp9 rfl rfl rfl rfl rfl rfl rfl rfl rfl) rfl hK1.keys Wh Wh Wh (by intro p hp h; simp only [QeJ, QeI, or_false] at hp; rcases hp with rfl | rfl | rfl | rfl <;> first | (simp only at h; omega) | exact .inl rfl | exact .inr rfl) (by intro p hp k hk; simp only [QeJ, QeI, or_false] at hp; rcases hp with rfl | rfl | rfl | rfl | rfl | rfl | rfl | rfl | rfl <;> first | (simp [D.ids, D.sid, QX, QM, ZH] at hk; done) | (simp [D.ids, D.sid, QX, QM, ZH] at hk; subst hk; first | exact .inl rfl | exact .inr (.inl rfl) | exact .inr (.inr (.inl rfl)) | (refine .inr (.inr (.inl ?_)); simp; done) | (first | exact .inr (.inr ⟨_, QeW _ (QeQ.2 rfl), rfl⟩) | exact .inr (.inr (.inr ⟨_, QeW _ (QeQ.2 rfl), rfl⟩))))))
      ·exact ⟨⟨Wa, CsIn.nil _⟩, List.nil_sublist _⟩
      intro ⟨c2, m, J3⟩ hM
      try dsimp only at hM
      have hcl2 := hM.1.2.1
      try dsimp only
      refine XK ?_ -- 7
      refine QZ fun K hK => mv2 Z Z ?_
      first | refine ZD rfl Yx ?_ | refine ZD rfl rfl ?_
      refine YX Z Z (hK _ _ (QG (Qcw Z Z Z Z Z Z Z Z Z Z) ?_))
      refine YR Z (fun h7 => ?_) (fun h7 => ?_)
      ·try rw [h7]
       try simp only [qA] at h7
       refine Xc (QY (kp9 Z Z Z Z Z Z Z Z Z) ?_)
       refine XK ?_ -- 8
       refine Yu (QZ fun K hK => Qa Z ?_)
       refine Z9 (JN (I := J3) Z Wh hL Wa) ?_
       refine Fi Z Z (hK _ _ (QG (Qcw Z Z Z Z Z Z Z Z Z Z) ?_))
       refine YR Z (fun h8 => ?_) (fun h8 => ?_)
       ·try rw [h8]
        try simp only [qA] at h8
        refine ZS fun K hK => mv2 Z Z (Qa Z (Kt Z Z (Qg Wa (Qg Wa (Qg Wa (Qg Wa (Pm (u := (UR.mk (names5[n]'(by have := Q0; omega)) [] (500001 + us.length) cs)) hI.1.keys Z))))) Wg Wa Wa Z (Qe Z (Q9 (Qg Wa (Qg Wa (Qg Wa (Qg Wa (Pm (u := (UR.mk (names5[n]'(by have := Q0; omega)) [] (500001 + us.length) cs)) hI.1.keys Z)))))) (QA (cs := [_, _, _, _, _]) Z (ZU (Qg Wa (Qg Wa (Qg Wa (Qg Wa (Pm (u := (UR.mk (names5[n]'(by have := Q0; omega)) [] (500001 + us.length) cs)) hI.1.keys Z))))) (ZN (l := cs) Wa)) Z Z (QW Z Z ?_)))))
        refine QK Z (by repeat (first | exact YM hI.1.keys (.inl Wa) | exact YM hK1.keys (.inl Wa) | refine Zf Wj ?_)) ?_
        refine KW (hk0 := Wa) Z Z (fun _ h => Hs Z Z Z h) (Qg Wa (Qg Wa Qp)) Wg Z Z Z Wm Wm (Qa Z (hK _ ?_))
        refine Qi (QY (kp9 Z Z Z Z Z Z Z Z Z) (ZS fun K hK => Qa Z (Zc Z Z We (Qa Z (hK _ ?_)))))
        refine Ql (c2 ++ [zr (cs[m]'Wa).v 0], m + 1, nxI J3) ?_ ?_ ?_
        ·exact le_trans (PD (B := [_, _, _, _, _, _]) (500001 + (us ++ [(UR.mk (names5[n]'(by have := Q0; omega)) [] (500001 + us.length) cs)]).length) (NK _ _)) (Qbl (l := [0, 1, 5, 6, 7, 8, 9, 12, 13]) (B := [_, _, _, _, _, _]) (kp9 rfl rfl rfl rfl rfl rfl rfl rfl rfl) (by simp [D.scrub, f1, f2, f4, f5] <;> omega) hK1.keys (by rw [Qax (cs := c2)]; exact Qp) (by repeat (first | exact Qp | exact TI (R6 hK1.keys) | refine Qg Wa ?_)) Wh (by intro p hp h; simp only [QeJ, QeI, or_false] at hp; rcases hp with rfl | rfl | rfl | rfl | rfl | rfl <;> first | (simp only at h; omega) | exact .inl rfl | exact .inr rfl) (by intro p hp k hk; simp only [QeJ, QeI, or_false] at hp; rcases hp with rfl | rfl | rfl | rfl | rfl | rfl | rfl | rfl | rfl <;> first | (simp [D.ids, D.sid, QX, QM, ZH] at hk; done) | (simp [D.ids, D.sid, QX, QM, ZH] at hk; subst hk; first | exact .inl rfl | exact .inr (.inl rfl) | exact .inr (.inr (.inl rfl)) | (refine .inr (.inr (.inl ?_)); simp; done) | (first | exact .inr (.inr ⟨_, QeW _ (QeQ.2 rfl), rfl⟩) | exact .inr (.inr (.inr ⟨_, QeW _ (QeQ.2 rfl), rfl⟩))))))
        ·try dsimp only
         exact ⟨⟨Wa, hM.1.2.snoc (hC.1.2.at Wa)⟩, Qcj Wa hM.2⟩
        ·show cs.length - (m + 1) < cs.length - m; omega
       ·try rw [h8]
        try simp only [qA] at h8
        refine Xc (Qi (QY (kp9 Z Z Z Z Z Z Z Z Z) (ZS fun K hK => Qa Z (Zc Z Z We (Qa Z (hK _ ?_))))))
        refine Ql (c2, m + 1, nxI J3) ?_ ?_ ?_
        ·exact Qbl (l := [0, 1, 5, 6, 7, 8, 9, 12, 13]) (B := [_, _, _, _]) (kp9 rfl rfl rfl rfl rfl rfl rfl rfl rfl) rfl hK1.keys Wh Wh Wh (by intro p hp h; simp only [QeJ, QeI, or_false] at hp; rcases hp with rfl | rfl | rfl | rfl <;> first | (simp only at h; omega) | exact .inl rfl | exact .inr rfl) (by intro p hp k hk; simp only [QeJ, QeI, or_false] at hp; rcases hp with rfl | rfl | rfl | rfl | rfl | rfl | rfl | rfl | rfl <;> first | (simp [D.ids, D.sid, QX, QM, ZH] at hk; done) | (simp [D.ids, D.sid, QX, QM, ZH] at hk; subst hk; first | exact .inl rfl | exact .inr (.inl rfl) | exact .inr (.inr (.inl rfl)) | (refine .inr (.inr (.inl ?_)); simp; done) | (first | exact .inr (.inr ⟨_, QeW _ (QeQ.2 rfl), rfl⟩) | exact .inr (.inr (.inr ⟨_, QeW _ (QeQ.2 rfl), rfl⟩)))))
        ·try dsimp only
         exact ⟨⟨Wa, hM.1.2.keep⟩, PW hM.2⟩
        ·show cs.length - (m + 1) < cs.length - m; omega
      ·try rw [h7]
       try simp only [qA] at h7
       refine GA (Xx (Qz (QH (QY (kp7 Z Z Z Z Z Z Z) (ZS fun K hK => mv2 Z Z (Qa Z (QV Z Z Z Wa (ZN Wa) Z (QB Z Z Z (Qa Z ?_)))))))))
       refine QW Z Z ?_
       refine QK Z (by repeat (first | exact YM hI.1.keys (.inl Wa) | exact YM hK1.keys (.inl Wa) | refine Zf Wj ?_)) ?_
       refine So (hk0 := by decide) Z Z (fun _ h => Hs Z Z Z h) (Qg Wa (Qg Wa Qp)) Wg Z Z (.inr (Lb hK1.keys Wa)) Wm Wm (Qa Z (hK _ ?_))
       refine Qi (QY (kp6 Z Z Z Z Z Z) (ZS fun K hK => Qa Z (Zc Z Z We (Qa Z (hK _ ?_)))))
       refine Ql (us ++ [(UR.mk (names5[n]'(by have := Q0; omega)) [] (500001 + us.length) cs)] ++ [(UR.mk (names5[n]'(by have := Q0; omega)) [102] (500001 + (us ++ [(UR.mk (names5[n]'(by have := Q0; omega)) [] (500001 + us.length) cs)]).length) c2)], J3, n + 1) ?_ ?_ ?_
       ·exact le_trans (PD (B := [_, _, _, _, _]) 500000 (NK _ _)) (Qcg (u := (UR.mk (names5[n]'(by have := Q0; omega)) [102] (500001 + (us ++ [(UR.mk (names5[n]'(by have := Q0; omega)) [] (500001 + us.length) cs)]).length) c2)) (l := [0, 1, 5, 6, 7, 8]) (B := [_, _, _, _, _]) (kp6 rfl rfl rfl rfl rfl rfl) (by simp [D.scrub, f1, f2, e3, f4, e4] <;> omega) hK1.keys rfl Wh (by rw [Qa5 (u := (UR.mk (names5[n]'(by have := Q0; omega)) [102] (500001 + (us ++ [(UR.mk (names5[n]'(by have := Q0; omega)) [] (500001 + us.length) cs)]).length) c2))]; exact Qp) Wh (by intro p hp h; simp only [QeJ, QeI, or_false] at hp; rcases hp with rfl | rfl | rfl | rfl | rfl <;> first | (simp only at h; omega) | exact .inl rfl | exact .inr rfl) hkg Wa (by intro p hp k hk; simp only [QeJ, QeI, or_false] at hp; rcases hp with rfl | rfl | rfl | rfl | rfl | rfl <;> first | (simp [D.ids, D.sid, QX, QM, ZH] at hk; done) | (simp [D.ids, D.sid, QX, QM, ZH] at hk; subst hk; first | exact .inl rfl | exact .inr (.inl rfl) | (first | exact .inr (.inr ⟨_, QeW _ (QeQ.2 rfl), rfl⟩) | exact .inr (.inr (.inr ⟨_, QeW _ (QeQ.2 rfl), rfl⟩))))))
       ·try dsimp only
        exact ⟨hK1.snoc Wa hM.1.2.2, by simp; omega, Wa, by simp; omega, QcW (Ca hI.2.2.2.2 Wa (Lc hC.2)) Wa Wm ((hM.2.trans (List.take_sublist _ _)).trans (Lc hC.2))⟩
       ·show 5 - (n + 1) < 5 - n; omega
     ·try rw [h6]
      try simp only [qA] at h6
      refine Xc (Qi (QY (kp6 Z Z Z Z Z Z) (ZS fun K hK => Qa Z (Zc Z Z We (Qa Z (hK _ ?_))))))
      refine Ql (us ++ [(UR.mk (names5[n]'(by have := Q0; omega)) [] (500001 + us.length) cs)], nxI (nxI (nxI J)), n + 1) ?_ ?_ ?_
      ·exact Qc5 (l := [0, 1, 5, 6, 7, 8]) (B := [_, _, _]) (kp6 rfl rfl rfl rfl rfl rfl) rfl hK1.keys Wh Wh (by intro p hp h; simp only [QeJ, QeI, or_false] at hp; rcases hp with rfl | rfl | rfl <;> first | (simp only at h; omega) | rfl) Wa (by intro p hp k hk; simp only [QeJ, QeI, or_false] at hp; rcases hp with rfl | rfl | rfl | rfl | rfl | rfl <;> first | (simp [D.ids, D.sid, QX, QM, ZH] at hk; done) | (simp [D.ids, D.sid, QX, QM, ZH] at hk; subst hk; first | exact .inl rfl | exact .inr (.inl rfl) | (first | exact .inr (.inr ⟨_, QeW _ (QeQ.2 rfl), rfl⟩) | exact .inr (.inr (.inr ⟨_, QeW _ (QeQ.2 rfl), rfl⟩)))))
      ·try dsimp only
       exact ⟨hK1, by simp; omega, Wa, by simp; omega, UL.up (Ca hI.2.2.2.2 Wa (Lc hC.2)) Wa⟩
      ·show 5 - (n + 1) < 5 - n; omega
    ·try rw [h5]
     try simp only [qA] at h5
     refine gn3 Z Z Z (Qf Z Z (hK _ _ (QG (kp8 Z Z Z Z Z Z Z Z) ?_)))
     refine LJ Z (Xc (Qi (QY (kp6 Z Z Z Z Z Z) (ZS fun K hK => Qa Z (Zc Z Z We (Qa Z (hK _ ?_)))))))
     refine Ql (us ++ [(UR.mk (names5[n]'(by have := Q0; omega)) [] (500001 + us.length) cs)], nxI (nxI J), n + 1) ?_ ?_ ?_
     ·exact Qc5 (l := [0, 1, 5, 6, 7, 8]) (B := [_, _]) (kp6 rfl rfl rfl rfl rfl rfl) rfl hK1.keys Wh Wh (by intro p hp h; simp only [QeJ, QeI, or_false] at hp; rcases hp with rfl | rfl <;> first | (simp only at h; omega) | rfl) Wa (by intro p hp k hk; simp only [QeJ, QeI, or_false] at hp; rcases hp with rfl | rfl | rfl | rfl | rfl | rfl <;> first | (simp [D.ids, D.sid, QX, QM, ZH] at hk; done) | (simp [D.ids, D.sid, QX, QM, ZH] at hk; subst hk; first | exact .inl rfl | exact .inr (.inl rfl) | (first | exact .inr (.inr ⟨_, QeW _ (QeQ.2 rfl), rfl⟩) | exact .inr (.inr (.inr ⟨_, QeW _ (QeQ.2 rfl), rfl⟩)))))
     ·try dsimp only
      exact ⟨hK1, by simp; omega, Wa, by simp; omega, UL.up (Ca hI.2.2.2.2 Wa (Lc hC.2)) Wa⟩
     ·show 5 - (n + 1) < 5 - n; omega
  ·try rw [h2]
   try simp only [qA] at h2
   refine GA (Xx (Qz (QH (QY (kp1 Z) (QZ fun K hK => mv2 Z Z (hK _ _ (QG (kp1 Z) ?_)))))))
   refine Fj ?_
   refine ⟨.osl 500000 us.length, ((500000, ⟨us.map dUR, 3, 52, false⟩) :: fbx 49 us) ++ [(kg, gB L (nxI J) eg), (kg, gB L I eg)], ⟨us, _, ⟨hI.1, Wa, Wa, _, hI.2.2.2.2⟩, rfl, rfl⟩, (Kq (g3 := gB L J eg) hI.1.keys hkg Z Z Wa).1, (Kq (g3 := gB L J eg) hI.1.keys hkg Z Z Wa).2.1, Jn Z Z (Kq (g3 := gB L J eg) hI.1.keys hkg Z Z Wa).2.2⟩
 ·try rw [h1]
  try simp only [qA] at h1
  refine gn4 Z Z Z Z (Qf Z Z (hK _ _ (QG (kp7 Z Z Z Z Z Z Z) ?_)))
  refine LJ Z (GA (Xx (Qz (QH (QY (kp1 Z) (QZ fun K hK => mv2 Z Z (hK _ _ (QG (kp1 Z) ?_))))))))
  refine Fj ?_
  refine ⟨.osl 500000 us.length, ((500000, ⟨us.map dUR, 3, 52, false⟩) :: fbx 49 us) ++ [(kg, gB L (nxI J) eg), (kg, gB L I eg)], ⟨us, _, ⟨hI.1, Wa, Wa, _, hI.2.2.2.2⟩, rfl, rfl⟩, (Kq (g3 := gB L J eg) hI.1.keys hkg Z Z Wa).1, (Kq (g3 := gB L J eg) hI.1.keys hkg Z Z Wa).2.1, Jn Z Z (Kq (g3 := gB L J eg) hI.1.keys hkg Z Z Wa).2.2⟩
end Go.Proofs
namespace M25
open Go Go.Abs M3
/-! ### A world under way: one candidate after the other is filled -/
def PureC (z : CR) : Prop := z.x.sid = [] /\ z.y.sid = [] /\ z.z.sid = []
theorem PureC.all {z : CR} (h : PureC z) : ∀ d ∈ dCR z, d.sid = [] := fun d hd => by
 simp only [dCR, QeJ, QeI, or_false] at hd
 rcases hd with rfl | rfl | rfl | rfl | rfl | rfl | rfl | rfl
 ·rfl
 ·rfl
 ·rfl
 ·rfl
 ·rfl
 ·exact h.1
 ·exact h.2.1
 ·exact h.2.2
def Fh (u : UR) (k : Nat) (z : CR) : UR := { u with cs := u.cs.set k z }
def Hr (us : List UR) (i k : Nat) (z : CR) : List UR := us.modify i fun u => Fh u k z
theorem Zn (us : List UR) (i k : Nat) (z : CR) : (Hr us i k z).length = us.length := List.length_modify ..
theorem T4 (us : List UR) (i k : Nat) (z : CR) : (Hr us i k z).map dUR = us.map dUR := by
 refine List.ext_getElem (by simp [Hr]) fun j h1 h2 => ?_
 simp only [List.getElem_map, Hr, List.getElem_modify]
 split <;> simp [dUR, Fh]
theorem Jr {us : List UR} {i k : Nat} {z : CR} {j : Nat} (h : j < us.length) : (Hr us i k z)[j]'(by rw [Zn]; exact h) = if i = j then Fh us[j] k z else us[j] := by
 simp only [Hr, List.getElem_modify]
theorem Fc {us : List UR} {i k : Nat} {z : CR} (h : Z8 us) : Z8 (Hr us i k z) := fun j hj => by
 rw [Zn] at hj
 rw [Jr hj]
 split
 ·exact h j hj
 ·exact h j hj
def wA (us : List UR) (eu ec eg : Nat) (L : List Int) (J : Int) (b4 : Box) : QeE := [(500000, ⟨us.map dUR, 3, eu, false⟩), (12, gB L J eg), (4, b4)] ++ fbx ec us
theorem KN {us : List UR} {eu ec eg : Nat} {L : List Int} {J : Int} {b4 : Box} (h : Z8 us) {k : Nat} {b : Box} (hk : lk (wA us eu ec eg L J b4) k = some b) : (k = 500000 /\ b = ⟨us.map dUR, 3, eu, false⟩) \/ (k = 12 /\ b = gB L J eg) \/ (k = 4 /\ b = b4) \/ ∃ j, ∃ hj : j < us.length, k = 500001 + j /\ b = ⟨us[j].cs.map dCR, 8, ec, true⟩ := by
 unfold wA at hk
 rcases N0 hk with hk | ⟨_, hk⟩
 ·simp only [QeJ, QeI, or_false, Prod.mk.injEq] at hk
  rcases hk with h | h | h
  ·exact .inl h
  ·exact .inr (.inl h)
  ·exact .inr (.inr (.inl h))
 ·obtain ⟨u, hu, e1, e2⟩ := MY hk
  obtain ⟨j, hj, rfl⟩ := Qe3 hu
  exact .inr (.inr (.inr ⟨j, hj, e1.trans (h j hj), e2⟩))
section
variable {us : List UR} {eu ec eg : Nat} {L : List Int} {J : Int} {b4 : Box}
theorem Nk : lk (wA us eu ec eg L J b4) 500000 = some ⟨us.map dUR, 3, eu, false⟩ := rfl
theorem FQ : lk (wA us eu ec eg L J b4) 12 = some (gB L J eg) := rfl
theorem Mr : lk (wA us eu ec eg L J b4) 4 = some b4 := rfl
theorem Gw (h : Z8 us) {j : Nat} (hj : j < us.length) : lk (wA us eu ec eg L J b4) (500001 + j) = some ⟨us[j].cs.map dCR, 8, ec, true⟩ := by
 show lk ((500000, _) :: (12, _) :: (4, _) :: fbx ec us) _ = _
 rw [Qj, if_neg Wa, Qj, if_neg Wa, Qj, if_neg Wa]
 exact Da h hj
theorem ZZ (h : Z8 us) {k : Nat} (h1 : k ≠ 500000) (h2 : k ≠ 12) (h3 : k ≠ 4) (h4 : k < 500001 \/ 500001 + us.length <= k) : lk (wA us eu ec eg L J b4) k = none := by
 show lk ((500000, _) :: (12, _) :: (4, _) :: fbx ec us) _ = _
 rw [Qj, if_neg (Ne.symm h1), Qj, if_neg (Ne.symm h2), Qj, if_neg (Ne.symm h3)]
 exact YM h h4
theorem Td (h : Z8 us) {k : Nat} (hk : k = 500000 \/ k = 12 \/ k = 4 \/ ∃ u ∈ us, k = u.k) : (lk (wA us eu ec eg L J b4) k).isSome = true := by
 rcases hk with rfl | rfl | rfl | ⟨u, hu, rfl⟩
 ·rfl
 ·rfl
 ·rfl
 ·obtain ⟨j, hj, rfl⟩ := Qe3 hu
  rw [h j hj, Gw h hj]; rfl
theorem Jt (h : Z8 us) (h4 : b4.pr = true) : Closed (wA us eu ec eg L J b4) := fun k b hk j hj => by
 rcases KN h hk with ⟨rfl, rfl⟩ | ⟨rfl, rfl⟩ | ⟨rfl, rfl⟩ | ⟨i, hi, rfl, rfl⟩
 ·exact Td h (.inr (.inr (.inr (KM hj))))
 ·simp [Box.ids, gB] at hj
 ·rw [X7 h4] at hj; cases hj
 ·simp [Box.ids] at hj
theorem FA {α : Type} : ∀ {l : List α} {k : Nat} {a x : α}, x ∈ l.set k a -> x = a \/ x ∈ l
 | [], k, a, x, h => by simp at h
 | b :: l, 0, a, x, h => by
  simp only [List.set_cons_zero, QeJ] at h ⊢
  rcases h with h | h
  ·exact .inl h
  ·exact .inr (.inr h)
 | b :: l, k + 1, a, x, h => by
  simp only [List.set_cons_succ, QeJ] at h ⊢
  rcases h with h | h
  ·exact .inr (.inl h)
  ·rcases FA h with h | h
   ·exact .inl h
   ·exact .inr (.inr h)
theorem NW {l : List Nat} {fr fr1 fr' : QeF} {H : QeE} {i k : Nat} {row : List D} {p : Bool} (kk : Nat) (z' : CR) (hf : Q7 l fr = fr1) (ef : fr1 = fr') (hK : Z8 us) (hi : i < us.length) (hk : k < us[i].cs.length)
  (hKi : lk H (500001 + i) = some ⟨(us[i].cs.map dCR).set k row, 8, ec, p⟩) (hp : p = true -> row.map (D.fzS H (· == kk)) = row) (hrow : (row.map (D.fzS H (· == kk))).map D.canS = dCR z') (hoth : ∀ z ∈ us[i].cs, PureC z) (hz : PureC z')
  (hF : ∀ j, ∀ hj : j < us.length, j ≠ i -> lk H (500001 + j) = some ⟨us[j].cs.map dCR, 8, ec, true⟩) (hu : lk H 500000 = some ⟨us.map dUR, 3, eu, false⟩) (hg : lk H 12 = some (gB L J eg)) (h4 : lk H 4 = some b4) (hb4 : b4.pr = true) (hkk : kk < 500000 /\ kk ≠ 12 /\ kk ≠ 4) (hsm : ∀ j, 1000000 <= j -> lk H j = none) (hlen : us.length <= 100)
  (hfr : ∀ p ∈ fr', ∀ j ∈ p.2.ids, j = 500000 \/ j = 12 \/ j = 4 \/ ∃ u ∈ us, j = u.k) : St.le ⟨fr, H⟩ ⟨fr', wA (Hr us i k z') eu ec eg L J b4⟩ := by
 subst hf ef
 have nokk : ∀ j, (j = 500000 \/ j = 12 \/ j = 4 \/ ∃ u ∈ us, j = u.k) -> j ≠ kk := fun j hj e => by
  subst e
  rcases hj with rfl | rfl | rfl | ⟨u, hu, rfl⟩
  ·omega
  ·exact hkk.2.1 rfl
  ·exact hkk.2.2 rfl
  ·have := (KC hK hu).1; omega
 have eqkk : ∀ j, j ≠ kk -> (j == kk) = false := fun j hj => by simp [hj]
 have some1 : ∀ b j, (j = 500000 \/ j = 12 \/ j = 4 \/ ∃ u ∈ us, j = u.k) -> (lk ((500001 + i, b) :: wA us eu ec eg L J b4) j).isSome = true := fun b j hj => QJ (Td hK hj)
 have rowsz : ∀ r ∈ us[i].cs.map dCR, r.map (D.fzS H (· == kk)) = r := fun r hr => by
  obtain ⟨z, hzm, rfl⟩ := QeV.1 hr
  exact Y0 fun d hd => Fv fun j hj => by rw [(hoth z hzm).all d hd] at hj; cases hj
 have mapz : ((us[i].cs.map dCR).set k row).map (fun r => r.map (D.fzS H (· == kk))) = (us[i].cs.map dCR).set k (row.map (D.fzS H (· == kk))) := by
  refine List.ext_getElem Wg fun j h1 h2 => ?_
  simp only [List.getElem_map, List.getElem_set]
  split
  ·rfl
  ·exact rowsz _ (List.mem_map_of_mem (QeM _))
 refine le_trans (Hd l fr H) (le_trans (DD kk (H' := (500001 + i, ⟨(us[i].cs.map dCR).set k (row.map (D.fzS H (· == kk))), 8, ec, p⟩) :: wA us eu ec eg L J b4) Wa (fr' := Q7 l fr) (fun t d h => ⟨d, h, Rz fun j hj => eqkk j (nokk j (hfr (t, d) (Z3 h) j hj))⟩) (fun j b h => ?_) (fun t d h j hj => some1 _ j (hfr (t, d) (Z3 h) j hj)) (fun j b h j2 hj2 => ?_) fun j hj hs => ?_) ?_)
 ·rw [Qj] at h
  split at h
  ·rename_i e; cases h; subst e
   refine ⟨Wa, _, hKi, ?_⟩
   cases p with
   | true => rw [hp rfl]; rfl
   | false => show Box.mk _ _ _ _ = _; rw [mapz]
  ·rename_i e
   rcases KN hK h with ⟨rfl, rfl⟩ | ⟨rfl, rfl⟩ | ⟨rfl, rfl⟩ | ⟨i2, hi2, rfl, rfl⟩
   ·refine ⟨Wa, _, hu, XL (.inr fun j hj => eqkk j (nokk j (.inr (.inr (.inr (KM hj))))))⟩
   ·exact ⟨Ne.symm hkk.2.1, _, hg, rfl⟩
   ·exact ⟨Ne.symm hkk.2.2, _, h4, XL (.inl hb4)⟩
   ·exact ⟨Wa, _, hF i2 hi2 (fun e2 => e Wa), rfl⟩
 ·rw [Qj] at h
  split at h
  ·cases h
   cases hpp : p with
   | true => rw [X7 hpp] at hj2; cases hj2
   | false =>
   simp only [Box.ids, hpp, QeP, if_false, QeO] at hj2
   obtain ⟨r, hr, d, hd, hj3⟩ := hj2
   rcases FA hr with rfl | hr
   ·have : (d.canS).sid = [] := hz.all _ (by rw [<- hrow]; exact List.mem_map_of_mem hd)
    rw [Hx] at this
    rw [this] at hj3; cases hj3
   ·obtain ⟨z, hzm, rfl⟩ := QeV.1 hr
    rw [(hoth z hzm).all d hd] at hj3; cases hj3
  ·exact QJ (Jt hK hb4 j b h j2 hj2)
 ·rw [hsm j hj] at hs; cases hs
 ·refine le_trans (F2 k Qp) (le_trans (PB Qp (fun e => ?_) (fun r hr d hd => ?_)) (KD rfl fun j => ?_))
  ·have := congrArg List.length e
   simp only [List.length_modify, List.length_set, List.length_map, List.length_nil] at this
   omega
  ·rcases Kk hr with h | ⟨y, hy, rfl⟩
   ·rcases FA h with rfl | h
    ·have : (d.canS).sid = [] := hz.all _ (by rw [<- hrow]; exact List.mem_map_of_mem hd)
     rwa [Hx] at this
    ·obtain ⟨z, hzm, rfl⟩ := QeV.1 h
     exact (hoth z hzm).all d hd
   ·obtain ⟨d0, hd0, rfl⟩ := QeV.1 hd
    rw [Hx]
    rcases FA hy with rfl | h
    ·have : (d0.canS).sid = [] := hz.all _ (by rw [<- hrow]; exact List.mem_map_of_mem hd0)
     rwa [Hx] at this
    ·obtain ⟨z, hzm, rfl⟩ := QeV.1 h
     exact (hoth z hzm).all d0 hd0
  ·have erows : ((us[i].cs.map dCR).set k (row.map (D.fzS H (· == kk)))).modify k (fun r => r.map D.canS) = ((us[i].cs.set k z').map dCR) := by
    refine List.ext_getElem Wg fun m h1 h2 => ?_
    simp only [List.getElem_modify, List.getElem_set, List.getElem_map]
    by_cases e : k = m
    ·subst e
     simp only [if_true]
     exact hrow
    ·simp only [if_neg e]
   have hK' := Fc (i := i) (k := k) (z := z') hK
   by_cases e : 500001 + i = j
   ·subst e
    rw [Qp, Gw hK' (by rw [Zn]; exact hi)]
    simp only [Jr hi, if_true, erows]; rfl
   ·rw [Qj, if_neg e, Qj, if_neg e, Qj, if_neg e]
    cases h : lk (wA us eu ec eg L J b4) j with
    | none =>
     cases h' : lk (wA (Hr us i k z') eu ec eg L J b4) j with
     | none => rfl
     | some b =>
      have : (lk (wA us eu ec eg L J b4) j).isSome = true := by
       rcases KN hK' h' with ⟨rfl, _⟩ | ⟨rfl, _⟩ | ⟨rfl, _⟩ | ⟨m, hm, rfl, _⟩
       ·rfl
       ·rfl
       ·rfl
       ·rw [Zn] at hm; rw [Gw hK hm]; rfl
      rw [h] at this; cases this
    | some b =>
     rcases KN hK h with ⟨rfl, rfl⟩ | ⟨rfl, rfl⟩ | ⟨rfl, rfl⟩ | ⟨m, hm, rfl, rfl⟩
     ·rw [Nk, T4]
     ·rfl
     ·rfl
     ·rw [Gw hK' (by rw [Zn]; exact hm)]
      simp only [Jr hm, if_neg (Wa : ¬ i = m)]
end
theorem GZ : ∀ {H : QeE} {j : Nat}, j ∈ H.map Prod.fst -> (lk H j).isSome = true
 | [], _, h => by cases h
 | (k, b) :: H, j, h => by
  by_cases e : k = j
  ·subst e; exact QL
  ·refine QJ (GZ ?_)
   simp only [List.map_cons, QeJ] at h
   exact h.resolve_left (Ne.symm e)
theorem Br {us : List UR} (h : Z8 us) {i : Nat} (hi : i < us.length) : (us.map dUR)[((i : Nat) : Int).toNat]? = some [.str us[i].n, .str us[i].f, .osl (500001 + i) us[i].cs.length] := by
 rw [Int.toNat_natCast, List.getElem?_map, List.getElem?_eq_getElem hi, Option.map_some, dUR, h i hi]
theorem QcK {cs : List CR} {k : Nat} (hk : k < cs.length) : (cs.map dCR)[((k : Nat) : Int).toNat]? = some (dCR cs[k]) := by
 rw [Int.toNat_natCast, List.getElem?_map, List.getElem?_eq_getElem hk]; rfl
theorem S9 {us : List UR} {eu ec eg : Nat} {L : List Int} {J : Int} {b4 g1 : Box} (h : Z8 us) (k : Nat) : lk (((500000, (⟨us.map dUR, 3, eu, false⟩ : Box)) :: fbx ec us) ++ ([(12, gB L J eg)] ++ [(12, g1), (4, b4)])) k = lk (wA us eu ec eg L J b4) k := by
 show lk ((500000, _) :: (fbx ec us ++ [(12, gB L J eg), (12, g1), (4, b4)])) k = lk ((500000, _) :: (12, _) :: (4, _) :: fbx ec us) k
 rw [Qj, Qj]
 split
 ·rfl
 ·rw [ZP]
  cases hh : lk (fbx ec us) k with
  | some v =>
   have := Pl h k v hh
   simp only
   rw [Qj, if_neg Wa, Qj, if_neg Wa, hh]
  | none =>
   simp only [Qj, hh]
   by_cases e : 12 = k
   ·rw [if_pos e, if_pos e]
   ·rw [if_neg e, if_neg e, if_neg e]; rfl
theorem Ld {us : List UR} {eu ec eg : Nat} {L : List Int} {J : Int} {b4 : Box} (h : Z8 us) (hv : ∀ y ∈ us, y.cs.length <= 16 /\ ∀ z ∈ y.cs, FS z.v) (hvs : ∀ y ∈ us, VsOk y.cs) : Fam (wA us eu ec eg L J b4) 12 500000 eu ec us := by
 refine ⟨by decide, ⟨false, rfl⟩, fun y hy => ?_, hv, hvs⟩
 obtain ⟨j, hj, rfl⟩ := Qe3 hy
 refine ⟨by rw [h j hj]; omega, true, by rw [h j hj]; exact Gw h hj⟩
/-! ### Filled candidates -/
def Qag (n : Nat) (x : WantT) : Prop := 0 < x.u /\ x.u < n /\ SetMay x.s
theorem WantMay.w {n : Nat} {x : WantT} (h : WantMay n x) : Qag n x := ⟨by have := h.1.1; omega, h.1.2.1, h.1.2.2, h.2⟩
structure Jv (n : Nat) (c : CandT) : Prop where
 v : FS c.v
 nl : c.ns.length <= 10
 nr : ∀ r ∈ c.ns, (1 <= r.length /\ r.length <= 2) /\ ∀ x ∈ r, Qag n x
 bl : c.bs.length <= 1
 bw : ∀ x ∈ c.bs, Qag n x
def P3 (c : CandT) : CR := ⟨c.v, .int .i64 c.sh, QM c.ns, QX c.bs⟩
def DoneC (n : Nat) (z : CR) : Prop := ∃ c, z = P3 c /\ Jv n c
def FreshC (z : CR) : Prop := ∃ v sh, z = zr v sh /\ FS v
theorem DoneC.pure {n : Nat} {z : CR} (h : DoneC n z) : PureC z := by obtain ⟨c, rfl, _⟩ := h; exact ⟨rfl, rfl, rfl⟩
theorem FreshC.pure {z : CR} (h : FreshC z) : PureC z := by obtain ⟨v, sh, rfl, _⟩ := h; exact ⟨rfl, rfl, rfl⟩
theorem DoneC.vr {n : Nat} {z : CR} (h : DoneC n z) : FS z.v := by obtain ⟨c, rfl, q⟩ := h; exact q.v
theorem FreshC.vr {z : CR} (h : FreshC z) : FS z.v := by obtain ⟨v, sh, rfl, q⟩ := h; exact q
structure Prog (n : Nat) (us : List UR) (i k : Nat) : Prop where
 keys : Z8 us
 len : us.length = n /\ 2 <= n /\ n <= 11
 cl : ∀ u ∈ us, u.cs.length <= 4
 done : ∀ j, ∀ hj : j < us.length, ∀ m, ∀ hm : m < us[j].cs.length, (j < i \/ (j = i /\ m < k)) -> DoneC n us[j].cs[m]
 fresh : ∀ j, ∀ hj : j < us.length, ∀ m, ∀ hm : m < us[j].cs.length, ¬ (j < i \/ (j = i /\ m < k)) -> FreshC us[j].cs[m]
 ul : ∃ b, UL b (us.map shp)
theorem Prog.vs {n : Nat} {us : List UR} {i k : Nat} (h : Prog n us i k) : ∀ y ∈ us, VsOk y.cs := fun y hy => by
 obtain ⟨b, hb⟩ := h.ul
 exact hb.vs (shp y) (QeV.2 ⟨y, hy, rfl⟩)
theorem Prog.feat {n : Nat} {us : List UR} {i k j : Nat} (h : Prog n us i k) (hj : j < us.length) (hf : us[j].f ≠ []) : 2 <= j := by
 obtain ⟨b, hb⟩ := h.ul
 refine hb.feat j (by simpa using hj) ?_
 simpa [shp] using hf
theorem Prog.exm {n : Nat} {us : List UR} {i k j m : Nat} (h : Prog n us i k) (hj : j < us.length) (hm : m < us[j].cs.length) : Xo (exV us[j].cs[m].v) = true :=
 (VsL.ex (h.vs us[j] (QeM hj)) (QeV.2 ⟨_, QeM hm, rfl⟩)).1
theorem PR {us : List UR} {i k : Nat} {z : CR} (hi : i < us.length) (hk : k < us[i].cs.length) (hv : z.v = us[i].cs[k].v) : (Hr us i k z).map shp = us.map shp := by
 refine List.ext_getElem (by simp [Zn]) fun j h1 h2 => ?_
 simp only [List.getElem_map]
 have hj : j < us.length := by simpa using h2
 rw [Jr (i := i) (k := k) (z := z) hj]
 split
 ·rename_i e; subst e
  simp only [shp, Fh, List.map_set, hv]
  rw [show us[i].cs[k].v = (us[i].cs.map CR.v)[k]'(by simpa using hk) by simp, List.set_getElem_self]
 ·rfl
theorem Prog.pure {n : Nat} {us : List UR} {i k : Nat} (h : Prog n us i k) {j : Nat} (hj : j < us.length) : ∀ z ∈ us[j].cs, PureC z /\ FS z.v := fun z hz => by
 obtain ⟨m, hm, rfl⟩ := Qe3 hz
 by_cases hd : j < i \/ (j = i /\ m < k)
 ·exact ⟨(h.done j hj m hm hd).pure, (h.done j hj m hm hd).vr⟩
 ·exact ⟨(h.fresh j hj m hm hd).pure, (h.fresh j hj m hm hd).vr⟩
theorem Prog.fam {n : Nat} {us : List UR} {i k : Nat} (h : Prog n us i k) : ∀ y ∈ us, y.cs.length <= 16 /\ ∀ z ∈ y.cs, FS z.v := fun y hy => by
 obtain ⟨j, hj, rfl⟩ := Qe3 hy
 exact ⟨Qe0 (h.cl _ hy) Wa, fun z hz => (h.pure hj z hz).2⟩
theorem Prog.put {n : Nat} {us : List UR} {i k : Nat} (h : Prog n us i k) (hi : i < us.length) (hk : k < us[i].cs.length) {z : CR} (hz : DoneC n z) (hv : z.v = us[i].cs[k].v) : Prog n (Hr us i k z) i (k + 1) := by
 have at' := fun (j : Nat) (hj : j < us.length) => Jr (i := i) (k := k) (z := z) hj
 refine ⟨Fc h.keys, by rw [Zn]; exact h.len, fun u hu => ?_, fun j hj m hm hd => ?_, fun j hj m hm hd => ?_, by rw [PR hi hk hv]; exact h.ul⟩
 ·obtain ⟨j, hj, rfl⟩ := Qe3 hu
  rw [Zn] at hj
  rw [at' j hj]
  split
  ·simp only [Fh, List.length_set]; exact h.cl _ (QeM _)
  ·exact h.cl _ (QeM _)
 ·rw [Zn] at hj
  have e := at' j hj
  by_cases hij : i = j
  ·subst hij
   rw [if_pos rfl] at e
   have hm' : m < (Fh us[i] k z).cs.length := by rw [<- e]; exact hm
   have e2 : (Hr us i k z)[i].cs[m] = (Fh us[i] k z).cs[m]'hm' := by congr 1; rw [e]
   rw [e2]
   simp only [Fh, List.getElem_set]
   split
   ·exact hz
   ·simp only [Fh, List.length_set] at hm'
    exact h.done i hi m hm' Wa
  ·rw [if_neg hij] at e
   have hm' : m < us[j].cs.length := by rw [<- e]; exact hm
   have e2 : (Hr us i k z)[j].cs[m] = us[j].cs[m]'hm' := by congr 1; rw [e]
   rw [e2]; exact h.done j hj m hm' Wa
 ·rw [Zn] at hj
  have e := at' j hj
  by_cases hij : i = j
  ·subst hij
   rw [if_pos rfl] at e
   have hm' : m < (Fh us[i] k z).cs.length := by rw [<- e]; exact hm
   have e2 : (Hr us i k z)[i].cs[m] = (Fh us[i] k z).cs[m]'hm' := by congr 1; rw [e]
   rw [e2]
   simp only [Fh, List.length_set] at hm'
   simp only [Fh, List.getElem_set]
   rw [if_neg Wa]
   exact h.fresh i hi m hm' Wa
  ·rw [if_neg hij] at e
   have hm' : m < us[j].cs.length := by rw [<- e]; exact hm
   have e2 : (Hr us i k z)[j].cs[m] = us[j].cs[m]'hm' := by congr 1; rw [e]
   rw [e2]; exact h.fresh j hj m hm' Wa
theorem Prog.next {n : Nat} {us : List UR} {i k : Nat} (h : Prog n us i k) (hi : i < us.length) (hk : us[i].cs.length <= k) : Prog n us (i + 1) 0 := by
 refine ⟨h.keys, h.len, h.cl, fun j hj m hm hd => h.done j hj m hm ?_, fun j hj m hm hd => h.fresh j hj m hm Wa, h.ul⟩
 by_cases e : j = i
 ·subst e; exact .inr ⟨rfl, Wa⟩
 ·exact .inl Wa
theorem Prog.again {n : Nat} {us : List UR} {i k : Nat} (h : Prog n us i (k + 1)) (hi : i < us.length) (hk : k < us[i].cs.length) {z : CR} (hz : DoneC n z) (hv : z.v = us[i].cs[k].v) : Prog n (Hr us i k z) i (k + 1) := by
 have at' := fun (j : Nat) (hj : j < us.length) => Jr (i := i) (k := k) (z := z) hj
 refine ⟨Fc h.keys, by rw [Zn]; exact h.len, fun u hu => ?_, fun j hj m hm hd => ?_, fun j hj m hm hd => ?_, by rw [PR hi hk hv]; exact h.ul⟩
 ·obtain ⟨j, hj, rfl⟩ := Qe3 hu
  rw [Zn] at hj
  rw [at' j hj]
  split
  ·simp only [Fh, List.length_set]; exact h.cl _ (QeM _)
  ·exact h.cl _ (QeM _)
 ·rw [Zn] at hj
  have e := at' j hj
  by_cases hij : i = j
  ·subst hij
   rw [if_pos rfl] at e
   have hm' : m < (Fh us[i] k z).cs.length := by rw [<- e]; exact hm
   have e2 : (Hr us i k z)[i].cs[m] = (Fh us[i] k z).cs[m]'hm' := by congr 1; rw [e]
   rw [e2]
   simp only [Fh, List.getElem_set]
   split
   ·exact hz
   ·simp only [Fh, List.length_set] at hm'
    exact h.done i hi m hm' Wa
  ·rw [if_neg hij] at e
   have hm' : m < us[j].cs.length := by rw [<- e]; exact hm
   have e2 : (Hr us i k z)[j].cs[m] = us[j].cs[m]'hm' := by congr 1; rw [e]
   rw [e2]; exact h.done j hj m hm' Wa
 ·rw [Zn] at hj
  have e := at' j hj
  by_cases hij : i = j
  ·subst hij
   rw [if_pos rfl] at e
   have hm' : m < (Fh us[i] k z).cs.length := by rw [<- e]; exact hm
   have e2 : (Hr us i k z)[i].cs[m] = (Fh us[i] k z).cs[m]'hm' := by congr 1; rw [e]
   rw [e2]
   simp only [Fh, List.length_set] at hm'
   simp only [Fh, List.getElem_set]
   rw [if_neg Wa]
   exact h.fresh i hi m hm' Wa
  ·rw [if_neg hij] at e
   have hm' : m < us[j].cs.length := by rw [<- e]; exact hm
   have e2 : (Hr us i k z)[j].cs[m] = us[j].cs[m]'hm' := by congr 1; rw [e]
   rw [e2]; exact h.fresh j hj m hm' Wa
theorem DB {l : List Nat} {fr fr1 fr' : QeF} {us : List UR} {eu ec eg e1 e3 : Nat} {L : List Int} {J : Int} {b4 bK : Box} {i : Nat} {x : WantT} (hf : Q7 l fr = fr1) (ef : fr1 = fr') (hK : Z8 us) (hi : i < us.length) (hb4 : b4.pr = true) (hbK : ∀ j ∈ bK.ids, j = 64)
  (hfr : ∀ p ∈ fr', ∀ j ∈ p.2.ids, j = 500000 \/ j = 12 \/ j = 4 \/ ∃ u ∈ us, j = u.k) :
  St.le ⟨fr, (500001 + i, bK) :: (64, ⟨[[.osl 63 1]], 1, e1, false⟩) :: (63, ⟨[Ke x], 3, e3, true⟩) :: wA us eu ec eg L J b4⟩ ⟨fr', (500001 + i, bK) :: (64, ⟨[[QX [x]]], 1, e1, true⟩) :: wA us eu ec eg L J b4⟩ := by
 subst hf ef
 have no63 : ∀ j, (j = 500000 \/ j = 12 \/ j = 4 \/ ∃ u ∈ us, j = u.k) -> j ≠ 63 := fun j hj e => by
  subst e
  rcases hj with h | h | h | ⟨u, hu, h⟩
  ·cases h
  ·cases h
  ·cases h
  ·have := (KC hK hu).1; omega
 have eq63 : ∀ j, j ≠ 63 -> (j == 63) = false := fun j hj => by simp [hj]
 have up : ∀ b b' j, (lk (wA us eu ec eg L J b4) j).isSome = true -> (lk ((500001 + i, b) :: (64, b') :: wA us eu ec eg L J b4) j).isSome = true := fun b b' j hj => QJ (QJ hj)
 refine le_trans (Hd l fr _) (le_trans (DD 63 (H' := (500001 + i, bK) :: (64, ⟨[[QX [x]]], 1, e1, false⟩) :: wA us eu ec eg L J b4) Wk (fr' := Q7 l fr) (fun t d h => ⟨d, h, Rz fun j hj => eq63 j (no63 j (hfr (t, d) (Z3 h) j hj))⟩) (fun j b h => ?_) (fun t d h j hj => up _ _ j (Td hK (hfr (t, d) (Z3 h) j hj))) (fun j b h j2 hj2 => ?_) fun j hj hs => ?_) ?_)
 ·rw [Qj] at h
  split at h
  ·rename_i e; cases h; subst e
   refine ⟨Wa, _, Qp, XL (.inr fun j hj => ?_)⟩
   rw [hbK j hj]; rfl
  ·rename_i e
   rw [Qj] at h
   split at h
   ·rename_i e2; cases h; subst e2
    refine ⟨by decide, _, Qg e Qp, ?_⟩
    have h63 : lk ((500001 + i, bK) :: (64, (⟨[[.osl 63 1]], 1, e1, false⟩ : Box)) :: (63, ⟨[Ke x], 3, e3, true⟩) :: wA us eu ec eg L J b4) 63 = some ⟨[Ke x], 3, e3, true⟩ := Qg Wa (Qg Wk Qp)
    simp only [Box.fz, QeP, if_false, List.map_cons, List.map_nil, D.fzS, beq_self_eq_true, if_true, h63, List.length_singleton, and_self, QX]
   ·rename_i e2
    have h2 : lk ((500001 + i, bK) :: (64, (⟨[[.osl 63 1]], 1, e1, false⟩ : Box)) :: (63, ⟨[Ke x], 3, e3, true⟩) :: wA us eu ec eg L J b4) j = some b := by
     have hj : j ≠ 63 := by
      rcases KN hK h with ⟨rfl, _⟩ | ⟨rfl, _⟩ | ⟨rfl, _⟩ | ⟨m, _, rfl, _⟩ <;> omega
     exact Qg e (Qg e2 (Qg (Ne.symm hj) h))
    rcases KN hK h with ⟨rfl, rfl⟩ | ⟨rfl, rfl⟩ | ⟨rfl, rfl⟩ | ⟨m, hm, rfl, rfl⟩
    ·exact ⟨by decide, _, h2, XL (.inr fun j hj => eq63 j (no63 j (.inr (.inr (.inr (KM hj))))))⟩
    ·exact ⟨by decide, _, h2, rfl⟩
    ·exact ⟨by decide, _, h2, XL (.inl hb4)⟩
    ·exact ⟨Wa, _, h2, rfl⟩
 ·rw [Qj] at h
  split at h
  ·cases h
   rw [hbK j2 hj2]; exact QJ QL
  ·rw [Qj] at h
   split at h
   ·cases h; simp [Box.ids, D.sid, QX] at hj2
   ·exact up _ _ j2 (Jt hK hb4 j b h j2 hj2)
 ·by_cases e : 500001 + i = j
  ·subst e; exact QL
  ·rw [Qj, if_neg e, Qj, if_neg Wa, Qj, if_neg Wa] at hs
   exact up _ _ j hs
 ·have h64 : lk ((500001 + i, bK) :: (64, (⟨[[QX [x]]], 1, e1, false⟩ : Box)) :: wA us eu ec eg L J b4) 64 = some ⟨[[QX [x]]], 1, e1, false⟩ := Qg Wa Qp
  refine le_trans (PB h64 Wg (by intro r hr d hd; simp only [QeQ] at hr; subst hr; simp only [QeQ] at hd; subst hd; rfl)) (KD rfl fun j => ?_)
  by_cases e : 64 = j
  ·subst e; rw [Qp, Qj, if_neg Wa, Qp]
  ·by_cases eK : 500001 + i = j
   ·subst eK; rw [Qj, if_neg e, Qp, Qp]
   ·rw [Qj, if_neg e, Qj, if_neg eK, Qj, if_neg e, Qj, if_neg eK, Qj, if_neg e]
theorem L1 {n : Nat} : ∀ {cs : List CR}, (∀ z ∈ cs, DoneC n z) -> ∃ l : List CandT, cs = l.map P3 /\ ∀ c ∈ l, Jv n c
 | [], _ => ⟨[], rfl, by simp⟩
 | z :: cs, h => by
  obtain ⟨l, h1, h2⟩ := L1 (cs := cs) fun y hy => h y (by simp [hy])
  obtain ⟨c, rfl, hc⟩ := h z Wg
  exact ⟨c :: l, by rw [h1]; rfl, fun y hy => by
   rcases QeJ.1 hy with rfl | hy
   ·exact hc
   ·exact h2 y hy⟩
def QbC (n : Nat) (u : UR) (x : Kv) : Prop := x.n = u.n /\ x.f = u.f /\ u.cs = x.cs.map P3 /\ ∀ c ∈ x.cs, Jv n c
theorem L2 {n : Nat} : ∀ {us : List UR}, (∀ u ∈ us, ∀ z ∈ u.cs, DoneC n z) -> ∃ w : QR, w.length = us.length /\ ∀ j, ∀ h : j < us.length, ∀ h' : j < w.length, QbC n us[j] w[j]
 | [], _ => ⟨[], rfl, fun j h => by simp at h⟩
 | u :: us, h => by
  obtain ⟨w, h1, h2⟩ := L2 (us := us) fun y hy => h y (by simp [hy])
  obtain ⟨l, q1, q2⟩ := L1 (h u Wg)
  refine ⟨⟨u.n, u.f, l⟩ :: w, by simp [h1], fun j hj hj' => ?_⟩
  cases j with
  | zero => exact ⟨rfl, rfl, q1, q2⟩
  | succ j => simp only [List.getElem_cons_succ]; exact h2 j (by simpa using hj) (by simpa using hj')
def Qcy (x : Kv) : List UInt8 × List UInt8 × List Vr := (x.n, x.f, x.cs.map CandT.v)
structure WMade (w : QR) : Prop where
 sm : WSm w
 len : 2 <= w.length /\ w.length <= 11
 cs : ∀ u ∈ w, u.cs.length <= 4
 cand : ∀ u ∈ w, ∀ c ∈ u.cs, Jv w.length c
 ul : ∃ b, UL b (w.map Qcy)
theorem QaJ {w : QR} (h2 : 2 <= w.length) (h11 : w.length <= 11) (hc : ∀ u ∈ w, u.cs.length <= 4) (hd : ∀ u ∈ w, ∀ c ∈ u.cs, Jv w.length c) (hul : ∃ b, UL b (w.map Qcy)) : WMade w := by
 refine ⟨⟨Wa, fun u hu => Qe0 (hc u hu) Wa, fun u hu c hcm => (hd u hu c hcm).v, fun u hu c hcm => ⟨Qe0 (hd u hu c hcm).nl Wa, Qe0 (hd u hu c hcm).bl Wa⟩, fun u hu c hcm r hr => Qe0 ((hd u hu c hcm).nr r hr).1.2 Wa, fun u hu c hcm r hr x hx => (((hd u hu c hcm).nr r hr).2 x hx).2.2.sm, fun u hu c hcm x hx => ((hd u hu c hcm).bw x hx).2.2.sm⟩, ⟨h2, h11⟩, hc, hd, hul⟩
theorem CX {n : Nat} {us : List UR} {eu ec eg : Nat} {L : List Int} {J : Int} {b4 : Box} {k : Nat} (h : Prog n us us.length k) (hb4 : b4.pr = true) :
  ∃ w : QR, w.length = us.length /\ WMade w /\ ∀ {l : List Nat} {fr fr1 fr' : QeF}, Q7 l fr = fr1 -> fr1 = fr' -> (∀ p ∈ fr', ∀ j ∈ p.2.ids, j = 500000 \/ j = 4) -> St.le ⟨fr, wA us eu ec eg L J b4⟩ ⟨fr', [(500000, ⟨w.map HW, 3, eu, true⟩), (4, b4)]⟩ := by
 obtain ⟨w, hw1, hw2⟩ := L2 (n := n) (us := us) fun u hu z hz => by
  obtain ⟨j, hj, rfl⟩ := Qe3 hu
  obtain ⟨m, hm, rfl⟩ := Qe3 hz
  exact h.done j hj m hm (.inl hj)
 have hcs : ∀ u ∈ w, u.cs.length <= 4 /\ ∀ c ∈ u.cs, Jv n c := fun u hu => by
  obtain ⟨j, hj, rfl⟩ := Qe3 hu
  obtain ⟨_, _, q3, q4⟩ := hw2 j Wa hj
  have := h.cl us[j] (QeM _)
  rw [q3, List.length_map] at this
  exact ⟨this, q4⟩
 have hlen := h.len
 refine ⟨w, hw1, QaJ Wa Wa (fun u hu => (hcs u hu).1) (fun u hu c hc => by have := (hcs u hu).2 c hc; rwa [show w.length = n by omega]) (by
  obtain ⟨b, hb⟩ := h.ul
  refine ⟨b, ?_⟩
  have e : w.map Qcy = us.map shp := by
   refine List.ext_getElem (by simp [hw1]) fun j h1 h2 => ?_
   simp only [List.getElem_map]
   obtain ⟨q1, q2, q3, _⟩ := hw2 j (by simpa using h2) (by simpa using h1)
   simp only [Qcy, shp, q1, q2, q3, List.map_map]; rfl
  rw [e]; exact hb), ?_⟩
 intro l fr fr1 fr' hf ef hfr
 subst hf ef
 have hK := h.keys
 let S : Nat -> Bool := fun k => decide (500001 <= k) && decide (k < 1000000)
 have hS1 : ∀ k, k < 500001 -> S k = false := fun k hk => by
  show (decide (500001 <= k) && decide (k < 1000000)) = false
  rw [decide_eq_false Wa]; rfl
 have hS2 : ∀ k, 500001 <= k -> k < 1000000 -> S k = true := fun k h1 h2 => by
  show (decide (500001 <= k) && decide (k < 1000000)) = true
  rw [decide_eq_true h1, decide_eq_true h2]; rfl
 have hrow : ∀ j, ∀ h1 : j < us.length, ∀ h2 : j < w.length, (dUR us[j]).map (D.fzS (wA us eu ec eg L J b4) S) = HW w[j] := fun j h1 h2 => by
  obtain ⟨q1, q2, q3, q4⟩ := hw2 j h1 h2
  have hk := hK j h1
  have hc := Gw (eu := eu) (ec := ec) (eg := eg) (L := L) (J := J) (b4 := b4) hK h1
  generalize us[j] = u at q1 q2 q3 hk hc
  generalize w[j] = x at q1 q2 q3 q4
  obtain ⟨un, uf, uk, ucs⟩ := u
  simp only at q1 q2 q3 hk hc
  subst hk q3
  simp only [dUR, HW, List.map_cons, List.map_nil, D.fzS]
  rw [hS2 _ Wa Wa, hc]
  simp only [if_true, true_and, List.length_map, q1, q2, JI, List.map_map]
  rfl
 have hrows : (us.map dUR).map (fun r => r.map (D.fzS (wA us eu ec eg L J b4) S)) = w.map HW := by
  refine List.ext_getElem (by simp [hw1]) fun j h1 h2 => ?_
  simp only [List.getElem_map]
  exact hrow j (by simpa using h1) (by simpa using h2)
 refine le_trans (Hd l fr _) (le_trans (QaH S (fun k hk => by
  simp only [S, QeL, decide_eq_true_eq] at hk; exact hk.2) (fr' := Q7 l fr) (H' := [(500000, ⟨w.map HW, 3, eu, false⟩), (4, b4)]) (fun t d hd => ⟨d, hd, Rz fun j hj => ?_⟩) (fun j b hj => ?_) (fun t d hd j hj => ?_) (fun j b hb i hi => ?_) fun j hj hs => ?_) (le_trans (PB (k := 500000) (b := ⟨w.map HW, 3, eu, false⟩) rfl (fun e => ?_) (fun r hr d hd => ?_)) (KD rfl fun j => ?_)))
 ·rcases hfr (t, d) (Z3 hd) j hj with rfl | rfl
  ·exact hS1 _ Wk
  ·exact hS1 _ Wk
 ·rw [Qj] at hj
  split at hj
  ·rename_i e; cases hj; subst e
   refine ⟨hS1 _ Wk, _, Nk, ?_⟩
   simp only [Box.fz, QeP, if_false, hrows]
  ·rw [Qj] at hj
   split at hj
   ·rename_i e; cases hj; subst e
    exact ⟨hS1 _ Wk, _, Mr, XL (.inl hb4)⟩
   ·cases hj
 ·rcases hfr (t, d) (Z3 hd) j hj with rfl | rfl
  ·rfl
  ·rfl
 ·rw [Qj] at hb
  split at hb
  ·cases hb
   simp only [Box.ids, QeP, if_false, QeO, QeV] at hi
   obtain ⟨r, ⟨u, _, rfl⟩, d, hd, hi⟩ := hi
   simp only [HW, QeJ, QeI, or_false] at hd
   rcases hd with rfl | rfl | rfl <;> simp [D.sid, JI] at hi
  ·rw [Qj] at hb
   split at hb
   ·cases hb; rw [X7 hb4] at hi; cases hi
   ·cases hb
 ·obtain ⟨b, hb⟩ := QeN.1 hs
  rcases KN hK hb with ⟨rfl, _⟩ | ⟨rfl, _⟩ | ⟨rfl, _⟩ | ⟨m, hm, rfl, _⟩ <;> omega
 ·have := congrArg List.length e
  simp only [List.length_map, List.length_nil] at this
  omega
 ·obtain ⟨u, _, rfl⟩ := QeV.1 hr
  simp only [HW, QeJ, QeI, or_false] at hd
  rcases hd with rfl | rfl | rfl <;> rfl
 ·by_cases e : 500000 = j
  ·subst e; rfl
  ·rw [Qj, if_neg e, Qj, if_neg e]; rw [Qj (k := 500000), if_neg e]
def SB (us : List UR) (i : Nat) : Nat := match us[i]? with
 | some u => u.cs.length
 | none => 0
theorem JX {us : List UR} {i : Nat} (h : i < us.length) : SB us i = us[i].cs.length := by rw [SB, List.getElem?_eq_getElem h]
theorem JH (us : List UR) (i k : Nat) (z : CR) : SB (Hr us i k z) i = SB us i := by
 by_cases h : i < us.length
 ·rw [JX h, JX (by rw [Zn]; exact h), Jr h, if_pos rfl]
  simp [Fh]
 ·have e : (Hr us i k z).length = us.length := Zn ..
  rw [SB, SB, List.getElem?_eq_none (Wa : us.length <= i), List.getElem?_eq_none (Wa : (Hr us i k z).length <= i)]
theorem R7 {us : List UR} {i k : Nat} {z : CR} (hi : i < us.length) (hk : k < us[i].cs.length) {us2 : List UR} (e : us2 = Hr us i k z) (hi2 : i < us2.length) (hk2 : k < us2[i].cs.length) : us2[i].cs[k] = z := by
 subst e
 have e1 := Jr (i := i) (k := k) (z := z) hi
 rw [if_pos rfl] at e1
 have e2 : (Hr us i k z)[i].cs[k] = (Fh us[i] k z).cs[k]'(by simpa [Fh] using hk) := by congr 1; rw [e1]
 rw [e2]; simp [Fh]
theorem Qaw {cs : List CR} {k : Nat} {z : CR} (hk : k < cs.length) (hz : cs[k] = z) : (cs.map dCR)[((k : Nat) : Int).toNat]? = some (dCR z) := by rw [QcK hk, hz]
theorem BV {cs : List CR} {k : Nat} {row : List D} (hk : k < cs.length) : ((cs.map dCR).set ((k : Nat) : Int).toNat row)[((k : Nat) : Int).toNat]? = some row := by
 rw [Int.toNat_natCast, List.getElem?_set_self (by simpa using hk)]
theorem RI {K k e t : Nat} {L : List (List D)} {r1 r2 : List D} {p : Bool} {H : QeE} : lk ((K, (⟨(L.set k r1).set k r2, e, t, p⟩ : Box)) :: H) K = some ⟨L.set k r2, e, t, p⟩ := by rw [Qp, List.set_set]
theorem F1 {H : QeE} {kk m e t : Nat} {ys : List (List D)} {v : Vr} {sh : Int} (h : lk H kk = some ⟨ys, e, t, true⟩) (hm : m = ys.length) : ([D.int .i64 v.a, .int .i64 v.b, .int .i64 v.c, .str v.p, .str v.q, .int .i64 sh, .osl kk m, .fsl []].map (D.fzS H (· == kk))).map D.canS = [.int .i64 v.a, .int .i64 v.b, .int .i64 v.c, .str v.p, .str v.q, .int .i64 sh, .sl ys, .sl []] := by
 simp only [List.map_cons, List.map_nil, D.fzS, beq_self_eq_true, if_true, h, hm, and_self, D.canS]
theorem Dh {H : QeE} {kk m e t : Nat} {ys : List (List D)} {v : Vr} {sh : Int} {ns : List (List WantT)} (h : lk H kk = some ⟨ys, e, t, true⟩) (hm : m = ys.length) : ([D.int .i64 v.a, .int .i64 v.b, .int .i64 v.c, .str v.p, .str v.q, .int .i64 sh, QM ns, .osl kk m].map (D.fzS H (· == kk))).map D.canS = [.int .i64 v.a, .int .i64 v.b, .int .i64 v.c, .str v.p, .str v.q, .int .i64 sh, QM ns, .sl ys] := by
 simp only [QM, List.map_cons, List.map_nil, D.fzS, beq_self_eq_true, if_true, h, hm, and_self, D.canS]
theorem Qcm {us : List UR} {eu ec eg : Nat} {L : List Int} {J J2 : Int} {b4 : Box} (k : Nat) : lk ((12, gB L J2 eg) :: wA us eu ec eg L J b4) k = lk (wA us eu ec eg L J2 b4) k := by
 show lk ((12, _) :: (500000, _) :: (12, _) :: (4, _) :: fbx ec us) k = lk ((500000, _) :: (12, _) :: (4, _) :: fbx ec us) k
 by_cases e : 12 = k
 ·subst e; rfl
 ·rw [Qj, if_neg e, Qj, Qj (k := 500000)]
  split
  ·rfl
  ·rw [Qj, if_neg e, Qj (k := 12), if_neg e]
theorem S1 {cs : List CR} {k e t : Nat} {row : List D} (h : ∀ z ∈ cs, PureC z) (hr : ∀ d ∈ row, ∀ j ∈ d.sid, j = 64) : ∀ j ∈ Box.ids ⟨(cs.map dCR).set k row, e, t, false⟩, j = 64 := fun j hj => by
 simp only [Box.ids, QeP, if_false, QeO] at hj
 obtain ⟨r, hrm, d, hd, hj⟩ := hj
 rcases FA hrm with rfl | hrm
 ·exact hr d hd j hj
 ·obtain ⟨z, hz, rfl⟩ := QeV.1 hrm
  rw [(h z hz).all d hd] at hj; cases hj
theorem Qdd {us : List UR} {eu ec eg : Nat} {L : List Int} {J : Int} {b4 b64 : Box} {n i k : Nat} (h : Prog n us i k) (hi : i < us.length) (hk : k < us[i].cs.length) {zx : CR} (hv : FS zx.v) (hrow : zx.x.sid = [] /\ zx.y.sid = [64] /\ zx.z.sid = []) (hb4 : b4.pr = true) (h64 : b64.pr = true) (hve : zx.v = us[i].cs[k].v) :
  Fam ((500001 + i, ⟨(us[i].cs.map dCR).set k (dCR zx), 8, ec, false⟩) :: (64, b64) :: wA us eu ec eg L J b4) 12 500000 eu ec (Hr us i k zx) /\ Closed ((500001 + i, ⟨(us[i].cs.map dCR).set k (dCR zx), 8, ec, false⟩) :: (64, b64) :: wA us eu ec eg L J b4) := by
 refine ⟨⟨by decide, ⟨false, ?_⟩, fun y hy => ?_, fun y hy => ?_, fun y hy => by
  obtain ⟨b, hb⟩ := h.ul
  refine hb.vs (shp y) ?_
  rw [<- PR hi hk hve]; exact QeV.2 ⟨y, hy, rfl⟩⟩, ?_⟩
 ·rw [Qj, if_neg Wa, Qj, if_neg Wk, Nk, T4]
 ·obtain ⟨j, hj, rfl⟩ := Qe3 hy
  have hK' := Fc (i := i) (k := k) (z := zx) h.keys
  have hj' := hj
  rw [Zn] at hj'
  refine ⟨by rw [hK' j hj]; omega, ?_⟩
  rw [hK' j hj]
  by_cases e : i = j
  ·subst e
   refine ⟨false, ?_⟩
   rw [Qp, Jr hj', if_pos rfl, Fh, List.map_set]
  ·refine ⟨true, ?_⟩
   rw [Qj, if_neg Wa, Qj, if_neg Wa, Gw h.keys hj', Jr hj', if_neg e]
 ·obtain ⟨j, hj, rfl⟩ := Qe3 hy
  have hj' := hj
  rw [Zn] at hj'
  rw [Jr hj']
  have hfam := h.fam us[j] (QeM _)
  split
  ·refine ⟨by simpa [Fh] using hfam.1, fun z hz => ?_⟩
   rcases FA hz with rfl | hz
   ·exact hv
   ·exact hfam.2 z hz
  ·exact hfam
 ·refine ((Jt h.keys hb4).pr h64).cons fun j hj => ?_
  have := S1 (e := 8) (t := ec) (k := k) (row := dCR zx) (fun z hz => (h.pure hi z hz).1) (fun d hd j hj => by
   simp only [dCR, QeJ, QeI, or_false] at hd
   rcases hd with rfl | rfl | rfl | rfl | rfl | rfl | rfl | rfl
   ·cases hj
   ·cases hj
   ·cases hj
   ·cases hj
   ·cases hj
   ·rw [hrow.1] at hj; cases hj
   ·rw [hrow.2.1] at hj; simpa using hj
   ·rw [hrow.2.2] at hj; cases hj) j hj
  subst this; exact QL
theorem Prog.start {us : List UR} (h : UnitsIn us) (h2 : 2 <= us.length) (h11 : us.length <= 11) (hul : ∃ b, UL b (us.map shp)) : Prog us.length us 0 0 := by
 refine ⟨h.keys, ⟨rfl, h2, h11⟩, fun u hu => (h.fresh u hu).1, fun j hj m hm hd => Wa, fun j hj m hm _ => ?_, hul⟩
 obtain ⟨v, sh, e, hv⟩ := (h.fresh _ (QeM hj)).2 _ (QeM hm)
 exact ⟨v, sh, e, hv⟩
theorem Fr {n : Nat} {m : Int} {v : Vr} {sh : Int} {ns : List (List WantT)} (hv : FS v) (h : Np n m ns) (hm : m <= 3) : Jv n ⟨v, sh, ns, []⟩ :=
 ⟨hv, by show ns.length <= 10; have := h.1; omega, fun r hr => ⟨(h.2 r hr).1, fun x hx => ((h.2 r hr).2 x hx).w⟩, QeT _, fun x hx => by cases hx⟩
theorem Rr {n i : Nat} {m : Int} {v : Vr} {sh : Int} {ns : List (List WantT)} (hv : FS v) (h : Np n m ns) (hm : m <= 3) (h1 : 2 <= i) (hmm : Xo (exV v) = true) (hi : i < n) : Jv n ⟨v, sh, [⟨(i : Int) - 1, Yy v.a v.b v.c v.p v.q⟩] :: ns, []⟩ := by
 refine ⟨hv, by show (_ :: ns).length <= 10; have := h.1; simp only [List.length_cons]; omega, fun r hr => ?_, QeT _, fun x hx => by cases hx⟩
 rcases QeJ.1 hr with rfl | hr
 ·refine ⟨by simp, fun x hx => ?_⟩
  simp only [QeQ] at hx; subst hx
  have := Xm (a := v.a) (b := v.b) (c := v.c) (q := v.q) hv.1
  exact ⟨by show 0 < (i : Int) - 1; omega, by show (i : Int) - 1 < n; omega, ⟨this.1.up Wa, this.2.up Wa⟩, hmm⟩
 ·exact ⟨(h.2 r hr).1, fun x hx => ((h.2 r hr).2 x hx).w⟩
theorem Rq {n : Nat} {v : Vr} {sh : Int} {ns : List (List WantT)} (h : Jv n ⟨v, sh, ns, []⟩) {x : WantT} (hx : WantMay n x) : Jv n ⟨v, sh, ns, [x]⟩ := ⟨h.v, h.nl, h.nr, by simp, by intro y hy; simp only [QeQ] at hy; subst hy; exact hx.w⟩
theorem R8 {us : List UR} {i k : Nat} {z : CR} (hi : i < us.length) (hk : k < us[i].cs.length) {us2 : List UR} (e : Hr us i k z = us2) (hi2 : i < us2.length) : k < us2[i].cs.length := by
 rw [<- JX hi2, <- e, JH, JX hi]; exact hk
theorem BS {l : List (List WantT)} : ∀ r ∈ l.map (fun r => [QX r]), r.length = 1 := fun r hr => by obtain ⟨x, _, rfl⟩ := QeV.1 hr; rfl
end M25
namespace Go.Proofs
open Go Go.Abs M3 M25
theorem QaQ {kg : Nat} {L : List Int} {I most : Int} {eg eu ec : Nat} (heu : eu = 52) (hec : ec = 49) (hL : ∀ x ∈ L, I64 x) (hm0 : 1 <= most) (hm1 : most <= 5) :
  ∃ us I2, (UnitsIn us /\ 2 <= us.length /\ us.length <= 11 /\ ∃ b, UL b (us.map shp)) /\ ∀ (st : St) (args : List Opd), Ze st args = some [.ref kg 0 0, .int .i64 most] -> lk st.H kg = some (gB L I eg) -> (∀ j, 500000 <= j -> lk st.H j = none) -> Kd Tryd.prog 12 args st [(kg, gB L I eg)] ((500000, ⟨us.map dUR, 3, eu, false⟩) :: fbx ec us) [(kg, gB L I2 eg)] (.osl 500000 us.length) := by
 obtain ⟨d, H2, ⟨us, I2, hus, rfl, rfl⟩, hok⟩ := HQ (kg := upN kg) (I := I) (eg := eg) heu hec (by unfold upN; omega) hL hm0 hm1
 refine ⟨us, I2, hus, fun st args ha hg hs => ⟨_, ha, fun k b h => ?_, fun k b h j hj => ?_, fun x hx j hj => ?_, fun k b h => ?_, fun k b h => ?_, fun k hk => ?_, .inl hok⟩⟩
 ·obtain ⟨rfl, rfl⟩ := XB h; exact hg
 ·obtain ⟨rfl, rfl⟩ := XB h; simp [Box.ids, gB] at hj
 ·simp only [QeJ, QeI, or_false] at hx
  rcases hx with rfl | rfl
  ·simp [D.ids, D.sid] at hj; subst hj; exact QL
  ·simp [D.ids, D.sid] at hj
 ·obtain ⟨rfl, rfl⟩ := XB h
  exact ⟨QL, fun j hj => by simp [Box.ids, gB] at hj⟩
 ·have hK := hus.1.keys
  rw [Qj] at h
  split at h
  ·rename_i e; cases h; subst e
   refine ⟨by decide, hs _ (Nat.le_refl _), fun j hj => ?_⟩
   obtain ⟨u, hu, rfl⟩ := KM hj
   exact QJ (GT hK hu)
  ·obtain ⟨u, hu, rfl, rfl⟩ := MY h
   have := KC hK hu
   exact ⟨Wa, hs _ Wa, fun j hj => by simp [Box.ids] at hj⟩
 ·simp [D.ids, D.sid] at hk; subst hk; exact QL
theorem SW {H : QeE} {kg ku : Nat} {L : List Int} {I most : Int} {eg eu ec : Nat} {us : List UR} (hg : lk H kg = some (gB L I eg)) (hU : Fam H kg ku eu ec us) (hC : Closed H) (hL : ∀ x ∈ L, I64 x) (h2 : 2 <= us.length) (hn : us.length <= 48) (hm0 : 0 <= most) (hm1 : most <= 10) :
  ∃ ns I2, Np us.length most ns /\ ∀ (st : St) (args : List Opd), Ze st args = some [.ref kg 0 0, .osl ku us.length, .int .i64 most] -> (∀ j x, lk H j = some x -> lk st.H j = some x) -> Kd Tryd.prog 13 args st H [] [(kg, gB L I2 eg)] (QM ns) := by
 obtain ⟨d, H2, ⟨ns, I2, hx, rfl, rfl⟩, hok⟩ := HP (H := upH H) (kg := upN kg) (ku := upN ku) (L := L) (I := I) (most := most) (eg := eg) (eu := eu) (ec := ec) (us := us.map UR.ren) (by unfold upN; omega) (by rw [XO, hg]; rfl) hU.up Mn (Kr hC) hL (by simpa using h2) (by simpa using hn) hm0 hm1
 obtain ⟨pu, hu⟩ := hU.u
 rw [List.length_map] at hx hok
 refine ⟨ns, I2, hx, fun st args ha hF => MJ (b' := gB L I2 eg) (ds' := [.ref (upN kg) 0 0, .osl (upN ku) us.length, .int .i64 most]) ha hF hC (fun x hx j hj => ?_) (Q9 hg) Z Z Z Z hok⟩
 simp only [QeJ, QeI, or_false] at hx
 rcases hx with rfl | rfl | rfl
 ·simp [D.ids, D.sid] at hj; subst hj; exact Q9 hg
 ·simp [D.ids, D.sid] at hj; subst hj; exact Q9 hu
 ·simp [D.ids, D.sid] at hj
theorem _root_.Wb {p : Prop} (h : p := by first | rfl | ((try simp only [QM, D.ids, D.sid]); simp only [Dr.ok, List.map_cons, List.map_nil, Zh, Zi, Zj, List.all_append, List.all_cons, List.all_nil, Bool.and_true, Bool.true_and]; (repeat rw [Zx (by rfl)]); simp [D.ids, D.sid]; done) | ((try simp only [QM, D.ids, D.sid]); simp only [Dr.ok, List.map_cons, List.map_nil, Zh, Zi, Zj, List.all_append, List.all_cons, List.all_nil, Bool.and_true, Bool.true_and]; (repeat rw [Zx (by rfl)]); simp [D.ids, D.sid]; omega)) : p := h
theorem _root_.Wf {p : Prop} (h : p := by repeat (first | exact Qp | exact Nk | exact FQ | exact Mr | refine Qg (by omega) ?_)) : p := h
theorem _root_.Wy {p : Prop} (h : p := by first | omega | (rw [Zn]; omega)) : p := h
theorem HO {ws : List Int} (hL : ∀ x ∈ ws, I64 x) {most : Int} (hm0 : 1 <= most) (hm1 : most <= 5) : ∃ d, (∃ w, WMade w /\ d = H5 w) /\ Ok Tryd.prog 4 [ZH ws, .int .i64 most] d := by
 refine Ok.ofX (R := fun d => (∃ w, WMade w /\ d = H5 w)) Z7 Tryd.func4 tp4 (QeH Z) ?_
 show TX _ _ tf4.body _ _
 obtain ⟨us0, J0, ⟨hU, hu2, hu11, hul⟩, hc0⟩ := QaQ (kg := 12) (L := ws) (I := 0) (most := most) (eg := 41) rfl rfl hL hm0 hm1
 have hU0 := Prog.start hU hu2 hu11 hul
 obtain ⟨z0, rest0, hfirst⟩ := hU.first
 have hi0 : 0 < us0.length := Wa
 have hcl0 : us0[0].cs = [z0] := by subst hfirst; rfl
 have hk0 : 0 < us0[0].cs.length := by rw [hcl0]; exact Nat.zero_lt_one
 obtain ⟨va, sha, hza, hva⟩ := hU0.fresh 0 hi0 0 hk0 Wa
 obtain ⟨ns0, J00, hns0, hc00⟩ := SW (H := wA (us0) 52 49 41 ws (J0) ⟨[[.fsl []]], 1, 25, true⟩) (most := 3) FQ (Ld hU.keys hU0.fam hU0.vs) (Jt hU.keys rfl) hL hu2 Wa Wk Wk
 refine QZ fun K hK => Zm Z (hK _ _ (QG (kp3 Z Z Z) ?_))
 refine QZ fun K hK => Qa Z (QW Z Z (ZR Z Z Z (Qa Z (hK _ _ (QG (kp3 Z Z Z) ?_)))))
 refine QZ fun K hK => Qa rfl (Qa rfl (Z9 (hc0 _ _ rfl rfl (by intro j hj; rw [Qj, if_neg Wa, Qj, if_neg Wa]; rfl)) (Qa rfl (hK _ _ (QG (kp3 rfl rfl rfl) ?_)))))
 refine LK (KD Z (S9 hU.keys)) (QZ fun K hK => Qa Z (Gy (ds0 := [7, 6, 2, 1, 0]) Z Z Z Wg Wa Wa Z Wb Z (Qe Z Z (Zo (ds0 := [2, 1, 0]) Z (ZU Z (Br (i := 0) hU.keys hi0)) Z Wb Z (mv2 Z Z (Sp (ds0 := [0]) (hc00 _ _ Z (fun _ _ h => h)) (fun j hj => GZ hj) Wb Z (Gy (ds0 := [1, 0]) Z Z (Qg Wa (Gw (j := 0) hU.keys hi0)) Wg Wa Wa Z Wb Z (Qe Z (Q9 (Qg Wa (Gw (j := 0) hU.keys hi0))) (ZX (ds0 := []) Z (Qg Wa (Gw (j := 0) hU.keys hi0)) (Qaw (k := 0) hk0 hza) Z Z Z Z Z Wb Z ?_)))))))))
 refine hK _ _ (QG (kp3 Z Z Z) ?_)
 refine XK ?_ -- 0
 refine QZ fun K hK => Qa Z (hK _ _ (QG (kp4 Z Z Z Z) ?_))
 refine Yu ?_
 have hPs : Prog us0.length (Hr us0 0 0 (P3 (CandT.mk va sha ns0 []))) 1 0 := (hU0.put hi0 hk0 ⟨_, rfl, Fr hva hns0 Wk⟩ (by rw [hza]; rfl)).next (by rw [Zn]; exact hi0) (by rw [<- JX (by rw [Zn]; exact hi0), JH, JX hi0, hcl0]; exact Nat.le_refl 1)
 refine FG (ι := List UR × Int × Nat) (fun ⟨usA, JA, i⟩ => ⟨[(4, .ref 4 0 0), (5, .ref 12 0 0), (6, .osl 500000 usA.length), (7, .int .i64 i)], wA (usA) 52 49 41 ws (JA) ⟨[[.fsl []]], 1, 25, true⟩⟩) (fun ⟨usA, JA, i⟩ => Prog us0.length usA i 0 /\ 1 <= i /\ i <= us0.length) (fun ⟨usA, JA, i⟩ => us0.length - i) (Hr us0 0 0 (P3 (CandT.mk va sha ns0 [])), J00, 1) ?_ ?_ ?_
 ·exact NW (l := [4, 5, 6, 7]) (i := 0) (k := 0) (row := [.int .i64 va.a, .int .i64 va.b, .int .i64 va.c, .str va.p, .str va.q, .int .i64 sha, QM ns0, .fsl []]) (p := true) 13 (P3 (CandT.mk va sha ns0 [])) (kp4 rfl rfl rfl rfl) (by rw [Zn] <;> rfl) hU.keys hi0 hk0 Qp (fun _ => rfl) rfl (fun z hz => (hU0.pure hi0 z hz).1) ⟨rfl, rfl, rfl⟩ (fun j hj hne => (Qg Wa (Qg Wa (Gw hU.keys hj)))) Wf Wf Wf rfl Wk (by intro j hj; repeat (first | exact ZZ hU.keys Wa Wa Wa (.inr Wa) | refine Zf Wa ?_)) Wa (by intro p hp j hj; simp only [QeJ, QeI, or_false] at hp; rcases hp with rfl | rfl | rfl | rfl <;> first | (simp [D.ids, D.sid] at hj; done) | (simp [D.ids, D.sid] at hj; subst hj; first | exact .inl rfl | exact .inr (.inl rfl) | exact .inr (.inr (.inl rfl)) | exact .inr (.inr (.inr ⟨us0[0], QeM hi0, rfl⟩))))
 ·exact ⟨hPs, Nat.le_refl _, Wa⟩
 intro ⟨usA, JA, i⟩ hPA
 try dsimp only at hPA
 have hlA := hPA.1.len.1
 try dsimp only
 refine XK ?_ -- 1
 refine QZ fun K hK => mv2 Z Z ?_
 first | refine ZD rfl Yx ?_ | refine ZD rfl rfl ?_
 refine YX Z Z (hK _ _ (QG (kp5 Z Z Z Z Z) ?_))
 refine YR Z (fun h1 => ?_) (fun h1 => ?_)
 ·try rw [h1]
  try simp only [qA] at h1
  refine Xc (QY (kp4 Z Z Z Z) ?_)
  refine XK ?_ -- 2
  refine Yu (QZ fun K hK => Qa Z (hK _ _ (QG (kp5 Z Z Z Z Z) ?_)))
  refine Yu ?_
  refine FG (ι := List UR × Int × Nat) (fun ⟨us, J, k⟩ => ⟨[(4, .ref 4 0 0), (5, .ref 12 0 0), (6, .osl 500000 us.length), (7, .int .i64 i), (8, .int .i64 k)], wA (us) 52 49 41 ws (J) ⟨[[.fsl []]], 1, 25, true⟩⟩) (fun ⟨us, J, k⟩ => Prog us0.length us i k) (fun ⟨us, J, k⟩ => SB us i - k) (usA, JA, 0) ?_ ?_ ?_
  ·exact Q4 (l := [4, 5, 6, 7, 8]) (kp5 rfl rfl rfl rfl rfl)
  ·exact hPA.1
  intro ⟨us, J, k⟩ hP
  try dsimp only at hP
  have hl := hP.len.1
  have hi : i < us.length := Wa
  have h1i := hPA.2.1
  have hcl4 := hP.cl us[i] (QeM hi)
  try dsimp only
  refine XK ?_ -- 3
  refine QZ fun K hK => mv2 Z Z (Qa Z (Kt Z Z Z Wg Wa Wa Z (Qe Z Z (QB Z (ZU Z (Br hP.keys hi)) Z ?_))))
  first | refine ZD rfl Yx ?_ | refine ZD rfl rfl ?_
  refine YX Z Z (hK _ _ (QG (kp6 Z Z Z Z Z Z) ?_))
  refine YR Z (fun h2 => ?_) (fun h2 => ?_)
  ·try rw [h2]
   try simp only [qA] at h2
   try (have hk : k < us[i].cs.length := Wa; obtain ⟨v, sh, hz, hv⟩ := hP.fresh i hi k hk Wa)
   refine Xc (QY (kp5 Z Z Z Z Z) ?_)
   refine XK ?_ -- 4
   refine Yu (QZ fun K hK => mv2 Z Z (Kt Z Z Z Wg Wa Wa Z (Qe Z Z (QB Z (ZU Z (Br hP.keys hi)) Z (Qa Z (Kt Z Z (Gw hP.keys hi) Wg Wa Wa Z (Qa Z (hK _ _ (QG (kp6 Z Z Z Z Z Z) ?_)))))))))
   refine XK ?_ -- 5
   refine QZ fun K hK => mv2 Z Z (Kt Z Z Z Wg Wa Wa Z (Qe Z Z (QB Z (ZU Z (Br hP.keys hi)) Z (Li Z Z (hK _ _ (QG (kp7 Z Z Z Z Z Z Z) ?_))))))
   refine YR Z (fun h3 => ?_) (fun h3 => ?_)
   ·try rw [h3]
    try simp only [qA] at h3
    refine ZS fun K hK => mv2 Z Z (HN Z Z We (Qa Z (Ya Z Z (Qe Z (Q9 (Gw hP.keys hi)) (QA (cs := [_, _, _, _, _]) Z (ZU (Gw hP.keys hi) (Qaw hk hz)) Z Z (Qw (Yf hv.1 hv.2) Z Z (.inl Z) (QW Z Z ?_)))))))
    refine QK Z (by repeat (first | exact ZZ hU.keys Wa Wa Wa (.inl Wa) | exact ZZ hP.keys Wa Wa Wa (.inl Wa) | exact ZZ hP2.keys Wa Wa Wa (.inl Wa) | refine Zf Wa ?_)) ?_
    refine QK Z (by repeat (first | exact ZZ hU.keys Wa Wa Wa (.inl Wa) | exact ZZ hP.keys Wa Wa Wa (.inl Wa) | exact ZZ hP2.keys Wa Wa Wa (.inl Wa) | refine Zf Wa ?_)) ?_
    refine Ya Z Z (Qe Z (Q9 (Qg Wa (Qg Wa (Gw hP.keys hi)))) (QQ Z (Qg Wa (Qg Wa (Gw hP.keys hi))) (Qaw hk hz) Z Z Z Z Z (hK _ ?_)))
    refine QY (kp6 Z Z Z Z Z Z) ?_
    first | (refine LK (DB (l := [4, 5, 6, 7, 8, 9]) (fr' := [(4, .ref 4 0 0), (5, .ref 12 0 0), (6, .osl 500000 us.length), (7, .int .i64 i), (8, .int .i64 k), (9, .ref (500001 + i) k 0)]) (x := (WantT.mk ((i : Int) - 1) (Yy v.a v.b v.c v.p v.q))) (kp6 rfl rfl rfl rfl rfl rfl) rfl hP.keys hi rfl (S1 (fun z hz => (hP.pure hi z hz).1) (by intro d hd j hj; simp [dCR, setRow, zr] at hd; rcases hd with rfl | rfl | rfl | rfl | rfl | rfl | rfl | rfl <;> simp [D.sid] at hj <;> exact hj)) (by intro p hp j hj; simp only [QeJ, QeI, or_false] at hp; rcases hp with rfl | rfl | rfl | rfl | rfl | rfl <;> first | (simp [D.ids, D.sid] at hj; done) | (simp [D.ids, D.sid] at hj; subst hj; first | exact .inl rfl | exact .inr (.inl rfl) | exact .inr (.inr (.inl rfl)) | exact .inr (.inr (.inr ⟨us[i], QeM hi, (hP.keys i hi).symm⟩))))) ?_) | skip
    refine QZ fun K hK => mv2 Z Z (Ya Z Z (Qe Z QL (Zo (ds0 := [3, 0]) Z (ZU Qp (BV hk)) Z Wb Z (mv2 Z Z ?_))))
    have hfx := Qdd (eu := 52) (ec := 49) (eg := 41) (L := ws) (J := J) (b4 := ⟨[[.fsl []]], 1, 25, true⟩) (b64 := ⟨[[QX [(WantT.mk ((i : Int) - 1) (Yy v.a v.b v.c v.p v.q))]]], 1, 47, true⟩) (zx := (CR.mk v (.int .i64 sh) (.osl 64 1) (.fsl []))) hP hi hk hv ⟨rfl, rfl, rfl⟩ rfl rfl (by rw [hz]; rfl)
    obtain ⟨ns, J1, hns, hc1⟩ := SW (H := (500001 + i, ⟨(us[i].cs.map dCR).set k (dCR (CR.mk v (.int .i64 sh) (.osl 64 1) (.fsl []))), 8, 49, false⟩) :: (64, ⟨[[QX [(WantT.mk ((i : Int) - 1) (Yy v.a v.b v.c v.p v.q))]]], 1, 47, true⟩) :: wA (us) 52 49 41 ws (J) ⟨[[.fsl []]], 1, 25, true⟩) (most := 2) (Qg Wa (Qg Wa FQ)) hfx.1 hfx.2 hL Wy Wy Wk Wk
    rw [Zn] at hns
    refine Sp (ds0 := [3, 0]) (hc1 _ _ (by rw [Zn]; rfl) (fun _ _ h => h)) (fun j hj => GZ hj) Wb Z ?_
    refine Nr (ds0 := [0]) Z Z (by simp [D.ids, D.sid, QM]) ⟨rfl, BS, rfl⟩ (by repeat (first | exact ZZ hU.keys Wa Wa Wa (.inl Wa) | exact ZZ hP.keys Wa Wa Wa (.inl Wa) | exact ZZ hP2.keys Wa Wa Wa (.inl Wa) | refine Zf Wa ?_)) (Qg Wa (Qg Wa Qp)) Z Z Z (by have := hns.1; simp; omega) (by have := hns.1; simp; omega) Wb Z ?_
    refine Ya Z Z (Qe Z (Q9 (Qg Wa (Qg Wa (Qg Wa Qp)))) (ZX (ds0 := []) Z (Qg Wa (Qg Wa (Qg Wa Qp))) (BV hk) Z Z Z Z Z Wb Z (hK _ _ (QG (kp6 Z Z Z Z Z Z) ?_))))
    first | (refine LK (NW (l := [4, 5, 6, 7, 8, 9]) (eu := 52) (ec := 49) (eg := 41) (L := ws) (J := J1) (b4 := ⟨[[.fsl []]], 1, 25, true⟩) (fr' := [(4, .ref 4 0 0), (5, .ref 12 0 0), (6, .osl 500000 us.length), (7, .int .i64 i), (8, .int .i64 k), (9, .ref (500001 + i) k 0)]) (row := [.int .i64 v.a, .int .i64 v.b, .int .i64 v.c, .str v.p, .str v.q, .int .i64 sh, .osl 75 (1 + (ns.map (fun r => [QX r])).length), .fsl []]) (p := false) 75 (P3 (CandT.mk v sh ([(WantT.mk ((i : Int) - 1) (Yy v.a v.b v.c v.p v.q))] :: ns) [])) (kp6 rfl rfl rfl rfl rfl rfl) rfl hP.keys hi hk RI (fun h => by cases h) (F1 (Qg Wa Qp) Ws) (fun z hz => (hP.pure hi z hz).1) ⟨rfl, rfl, rfl⟩ (fun j hj hne => (Qg Wa (Qg Wa (Qg Wa (Qg Wa (Qg Wa (Qg Wa (Gw hP.keys hj)))))))) Wf Wf Wf rfl Wk (by intro j hj; repeat (first | exact ZZ hP.keys Wa Wa Wa (.inr Wa) | refine Zf Wa ?_)) Wa (by intro p hp j hj; simp only [QeJ, QeI, or_false] at hp; rcases hp with rfl | rfl | rfl | rfl | rfl | rfl <;> first | (simp [D.ids, D.sid] at hj; done) | (simp [D.ids, D.sid] at hj; subst hj; first | exact .inl rfl | exact .inr (.inl rfl) | exact .inr (.inr (.inl rfl)) | exact .inr (.inr (.inr ⟨us[i], QeM hi, (hP.keys i hi).symm⟩))))) ?_; have hc2 : Jv us0.length (CandT.mk v sh ([(WantT.mk ((i : Int) - 1) (Yy v.a v.b v.c v.p v.q))] :: ns) []) := (by rw [<- hl]; exact Rr hv hns Wk (hP.feat hi Wd) (by have := hP.exm hi hk; rw [hz] at this; exact this) hi); generalize hns2 : ([(WantT.mk ((i : Int) - 1) (Yy v.a v.b v.c v.p v.q))] :: ns) = ns2 at hc2 ⊢) | (refine LK (NW (l := [4, 5, 6, 7, 8, 9]) (eu := 52) (ec := 49) (eg := 41) (L := ws) (J := J1) (b4 := ⟨[[.fsl []]], 1, 25, true⟩) (fr' := [(4, .ref 4 0 0), (5, .ref 12 0 0), (6, .osl 500000 us.length), (7, .int .i64 i), (8, .int .i64 k), (9, .ref (500001 + i) k 0)]) (row := [.int .i64 v.a, .int .i64 v.b, .int .i64 v.c, .str v.p, .str v.q, .int .i64 sh, .osl 75 (0 + (ns.map (fun r => [QX r])).length), .fsl []]) (p := false) 75 (P3 (CandT.mk v sh ns [])) (kp6 rfl rfl rfl rfl rfl rfl) rfl hP.keys hi hk Qp (fun h => by cases h) (F1 (Qg Wa Qp) Ws) (fun z hz => (hP.pure hi z hz).1) ⟨rfl, rfl, rfl⟩ (fun j hj hne => (Qg Wa (Qg Wa (Qg Wa (Gw hP.keys hj))))) Wf Wf Wf rfl Wk (by intro j hj; repeat (first | exact ZZ hP.keys Wa Wa Wa (.inr Wa) | refine Zf Wa ?_)) Wa (by intro p hp j hj; simp only [QeJ, QeI, or_false] at hp; rcases hp with rfl | rfl | rfl | rfl | rfl | rfl <;> first | (simp [D.ids, D.sid] at hj; done) | (simp [D.ids, D.sid] at hj; subst hj; first | exact .inl rfl | exact .inr (.inl rfl) | exact .inr (.inr (.inl rfl)) | exact .inr (.inr (.inr ⟨us[i], QeM hi, (hP.keys i hi).symm⟩))))) ?_; have hc2 : Jv us0.length (CandT.mk v sh ns []) := (by rw [<- hl]; exact Fr hv hns Wk); generalize hns2 : ns = ns2 at hc2 ⊢)
    generalize hus2 : Hr us i k (P3 (CandT.mk v sh ns2 [])) = us2
    have hP2 : Prog us0.length us2 i (k + 1) := hus2 ▸ hP.put hi hk ⟨_, rfl, hc2⟩ (by rw [hz]; rfl)
    have hl2 : us2.length = us.length := by rw [<- hus2, Zn]
    have hi2 : i < us2.length := Wa
    have hk2 : k < us2[i].cs.length := R8 hi hk hus2 hi2
    have hz2 : us2[i].cs[k] = P3 (CandT.mk v sh ns2 []) := R7 hi hk hus2.symm hi2 hk2
    refine QZ fun K hK => Qa Z (Z9 (JN (I := J1) Z FQ hL Wa) (Yr Z Z (hK _ _ (QG (kp7 Z Z Z Z Z Z Z) ?_))))
    refine YR Z (fun h4 => ?_) (fun h4 => ?_)
    ·try rw [h4]
     try simp only [qA] at h4
     refine ZS fun K hK => mv2 Z Z (Qa Z ?_)
     obtain ⟨xb, J3, hxb, hcb⟩ := TS (H := (12, gB ws (nxI J1) 41) :: wA (us2) 52 49 41 ws (J1) ⟨[[.fsl []]], 1, 25, true⟩) Qp (Ld hP2.keys hP2.fam hP2.vs).cons ((Jt hP2.keys rfl).pr rfl) hL Wa Wa
     refine Z9 (hcb _ _ (by rw [hl2]; rfl) (fun _ _ h => h)) ?_
     refine QK Z (by repeat (first | exact ZZ hU.keys Wa Wa Wa (.inl Wa) | exact ZZ hP.keys Wa Wa Wa (.inl Wa) | exact ZZ hP2.keys Wa Wa Wa (.inl Wa) | refine Zf Wa ?_)) ?_
     refine Ya Z Z (Qe Z (Q9 (Qg Wa (Qg Wa (Qg Wa (Gw hP2.keys hi2))))) (QQ Z (Qg Wa (Qg Wa (Qg Wa (Gw hP2.keys hi2)))) (Qaw hk2 hz2) Z Z Z Z Z (hK _ ?_)))
     refine Qi (QY (kp5 Z Z Z Z Z) (ZS fun K hK => Qa Z (Zc Z Z We (Qa Z (hK _ ?_)))))
     refine Ql (Hr us2 i k (P3 (CandT.mk v sh ns2 [xb])), J3, k + 1) ?_ ?_ ?_
     ·exact NW (l := [4, 5, 6, 7, 8]) (row := [.int .i64 v.a, .int .i64 v.b, .int .i64 v.c, .str v.p, .str v.q, .int .i64 sh, QM ns2, .osl 85 1]) (p := false) 85 (P3 (CandT.mk v sh ns2 [xb])) (kp5 rfl rfl rfl rfl rfl) (by rw [Zn, hl2] <;> rfl) hP2.keys hi2 hk2 Qp (fun h => by cases h) (Dh (Qg Wa Qp) rfl) (fun z hz => (hP2.pure hi2 z hz).1) ⟨rfl, rfl, rfl⟩ (fun j hj hne => (Qg Wa (Qg Wa (Qg Wa (Qg Wa (Gw hP2.keys hj)))))) Wf Wf Wf rfl Wk (by intro j hj; repeat (first | exact ZZ hP2.keys Wa Wa Wa (.inr Wa) | refine Zf Wa ?_)) Wa (by intro p hp j hj; simp only [QeJ, QeI, or_false] at hp; rcases hp with rfl | rfl | rfl | rfl | rfl <;> first | (simp [D.ids, D.sid] at hj; done) | (simp [D.ids, D.sid] at hj; subst hj; first | exact .inl rfl | exact .inr (.inl rfl) | exact .inr (.inr (.inl rfl)) | exact .inr (.inr (.inr ⟨us2[i], QeM hi2, (hP2.keys i hi2).symm⟩))))
     ·exact hP2.again hi2 hk2 ⟨_, rfl, Rq hc2 (by have := hxb; rwa [hl2, hl] at this)⟩ (by rw [hz2]; rfl)
     ·show SB (Hr us2 i k _) i - (k + 1) < SB us i - k; rw [JH, <- hus2, JH, JX hi]; omega
    ·try rw [h4]
     try simp only [qA] at h4
     refine Xc (Qi (QY (kp5 Z Z Z Z Z) (ZS fun K hK => Qa Z (Zc Z Z We (Qa Z (hK _ ?_))))))
     refine Ql (us2, nxI J1, k + 1) ?_ ?_ ?_
     ·exact le_trans (Q4 (l := [4, 5, 6, 7, 8]) (kp5 rfl rfl rfl rfl rfl)) (KD (by rw [hl2] <;> rfl) Qcm)
     ·exact hP2
     ·show SB us2 i - (k + 1) < SB us i - k; rw [<- hus2, JH, JX hi]; omega
   ·try rw [h3]
    try simp only [qA] at h3
    refine Xc (QY (kp6 Z Z Z Z Z Z) ?_)
    first | (refine LK (DB (l := [4, 5, 6, 7, 8, 9]) (fr' := [(4, .ref 4 0 0), (5, .ref 12 0 0), (6, .osl 500000 us.length), (7, .int .i64 i), (8, .int .i64 k), (9, .ref (500001 + i) k 0)]) (x := (WantT.mk ((i : Int) - 1) (Yy v.a v.b v.c v.p v.q))) (kp6 rfl rfl rfl rfl rfl rfl) rfl hP.keys hi rfl (S1 (fun z hz => (hP.pure hi z hz).1) (by intro d hd j hj; simp [dCR, setRow, zr] at hd; rcases hd with rfl | rfl | rfl | rfl | rfl | rfl | rfl | rfl <;> simp [D.sid] at hj <;> exact hj)) (by intro p hp j hj; simp only [QeJ, QeI, or_false] at hp; rcases hp with rfl | rfl | rfl | rfl | rfl | rfl <;> first | (simp [D.ids, D.sid] at hj; done) | (simp [D.ids, D.sid] at hj; subst hj; first | exact .inl rfl | exact .inr (.inl rfl) | exact .inr (.inr (.inl rfl)) | exact .inr (.inr (.inr ⟨us[i], QeM hi, (hP.keys i hi).symm⟩))))) ?_) | skip
    refine QZ fun K hK => mv2 Z Z (Ya Z Z (Qe Z (Q9 (Gw hP.keys hi)) (Zo (ds0 := [3, 0]) Z (ZU (Gw hP.keys hi) (Qaw hk hz)) Z Wb Z (mv2 Z Z ?_))))
    obtain ⟨ns, J1, hns, hc1⟩ := SW (H := wA (us) 52 49 41 ws (J) ⟨[[.fsl []]], 1, 25, true⟩) (most := 2) FQ (Ld hP.keys hP.fam hP.vs) (Jt hP.keys rfl) hL Wy Wy Wk Wk
    refine Sp (ds0 := [3, 0]) (hc1 _ _ Z (fun _ _ h => h)) (fun j hj => GZ hj) Wb Z ?_
    refine Sn (ds0 := [0]) Z Z (fun _ h => ⟨BS, h⟩) (by repeat (first | exact ZZ hU.keys Wa Wa Wa (.inl Wa) | exact ZZ hP.keys Wa Wa Wa (.inl Wa) | exact ZZ hP2.keys Wa Wa Wa (.inl Wa) | refine Zf Wa ?_)) (.inl Z) Wg (by have := hns.1; simp; omega) (by have := hns.1; simp; omega) Wb Z ?_
    refine Ya Z Z (Qe Z (Q9 (Qg Wa (Qg Wa (Gw hP.keys hi)))) (ZX (ds0 := []) Z (Qg Wa (Qg Wa (Gw hP.keys hi))) (Qaw hk hz) Z Z Z Z Z Wb Z (hK _ _ (QG (kp6 Z Z Z Z Z Z) ?_))))
    first | (refine LK (NW (l := [4, 5, 6, 7, 8, 9]) (eu := 52) (ec := 49) (eg := 41) (L := ws) (J := J1) (b4 := ⟨[[.fsl []]], 1, 25, true⟩) (fr' := [(4, .ref 4 0 0), (5, .ref 12 0 0), (6, .osl 500000 us.length), (7, .int .i64 i), (8, .int .i64 k), (9, .ref (500001 + i) k 0)]) (row := [.int .i64 v.a, .int .i64 v.b, .int .i64 v.c, .str v.p, .str v.q, .int .i64 sh, .osl 75 (1 + (ns.map (fun r => [QX r])).length), .fsl []]) (p := false) 75 (P3 (CandT.mk v sh ([(WantT.mk ((i : Int) - 1) (Yy v.a v.b v.c v.p v.q))] :: ns) [])) (kp6 rfl rfl rfl rfl rfl rfl) rfl hP.keys hi hk RI (fun h => by cases h) (F1 (Qg Wa Qp) Ws) (fun z hz => (hP.pure hi z hz).1) ⟨rfl, rfl, rfl⟩ (fun j hj hne => (Qg Wa (Qg Wa (Qg Wa (Qg Wa (Qg Wa (Qg Wa (Gw hP.keys hj)))))))) Wf Wf Wf rfl Wk (by intro j hj; repeat (first | exact ZZ hP.keys Wa Wa Wa (.inr Wa) | refine Zf Wa ?_)) Wa (by intro p hp j hj; simp only [QeJ, QeI, or_false] at hp; rcases hp with rfl | rfl | rfl | rfl | rfl | rfl <;> first | (simp [D.ids, D.sid] at hj; done) | (simp [D.ids, D.sid] at hj; subst hj; first | exact .inl rfl | exact .inr (.inl rfl) | exact .inr (.inr (.inl rfl)) | exact .inr (.inr (.inr ⟨us[i], QeM hi, (hP.keys i hi).symm⟩))))) ?_; have hc2 : Jv us0.length (CandT.mk v sh ([(WantT.mk ((i : Int) - 1) (Yy v.a v.b v.c v.p v.q))] :: ns) []) := (by rw [<- hl]; exact Rr hv hns Wk (hP.feat hi Wd) (by have := hP.exm hi hk; rw [hz] at this; exact this) hi); generalize hns2 : ([(WantT.mk ((i : Int) - 1) (Yy v.a v.b v.c v.p v.q))] :: ns) = ns2 at hc2 ⊢) | (refine LK (NW (l := [4, 5, 6, 7, 8, 9]) (eu := 52) (ec := 49) (eg := 41) (L := ws) (J := J1) (b4 := ⟨[[.fsl []]], 1, 25, true⟩) (fr' := [(4, .ref 4 0 0), (5, .ref 12 0 0), (6, .osl 500000 us.length), (7, .int .i64 i), (8, .int .i64 k), (9, .ref (500001 + i) k 0)]) (row := [.int .i64 v.a, .int .i64 v.b, .int .i64 v.c, .str v.p, .str v.q, .int .i64 sh, .osl 75 (0 + (ns.map (fun r => [QX r])).length), .fsl []]) (p := false) 75 (P3 (CandT.mk v sh ns [])) (kp6 rfl rfl rfl rfl rfl rfl) rfl hP.keys hi hk Qp (fun h => by cases h) (F1 (Qg Wa Qp) Ws) (fun z hz => (hP.pure hi z hz).1) ⟨rfl, rfl, rfl⟩ (fun j hj hne => (Qg Wa (Qg Wa (Qg Wa (Gw hP.keys hj))))) Wf Wf Wf rfl Wk (by intro j hj; repeat (first | exact ZZ hP.keys Wa Wa Wa (.inr Wa) | refine Zf Wa ?_)) Wa (by intro p hp j hj; simp only [QeJ, QeI, or_false] at hp; rcases hp with rfl | rfl | rfl | rfl | rfl | rfl <;> first | (simp [D.ids, D.sid] at hj; done) | (simp [D.ids, D.sid] at hj; subst hj; first | exact .inl rfl | exact .inr (.inl rfl) | exact .inr (.inr (.inl rfl)) | exact .inr (.inr (.inr ⟨us[i], QeM hi, (hP.keys i hi).symm⟩))))) ?_; have hc2 : Jv us0.length (CandT.mk v sh ns []) := (by rw [<- hl]; exact Fr hv hns Wk); generalize hns2 : ns = ns2 at hc2 ⊢)
    generalize hus2 : Hr us i k (P3 (CandT.mk v sh ns2 [])) = us2
    have hP2 : Prog us0.length us2 i (k + 1) := hus2 ▸ hP.put hi hk ⟨_, rfl, hc2⟩ (by rw [hz]; rfl)
    have hl2 : us2.length = us.length := by rw [<- hus2, Zn]
    have hi2 : i < us2.length := Wa
    have hk2 : k < us2[i].cs.length := R8 hi hk hus2 hi2
    have hz2 : us2[i].cs[k] = P3 (CandT.mk v sh ns2 []) := R7 hi hk hus2.symm hi2 hk2
    refine QZ fun K hK => Qa Z (Z9 (JN (I := J1) Z FQ hL Wa) (Yr Z Z (hK _ _ (QG (kp7 Z Z Z Z Z Z Z) ?_))))
    refine YR Z (fun h5 => ?_) (fun h5 => ?_)
    ·try rw [h5]
     try simp only [qA] at h5
     refine ZS fun K hK => mv2 Z Z (Qa Z ?_)
     obtain ⟨xb, J3, hxb, hcb⟩ := TS (H := (12, gB ws (nxI J1) 41) :: wA (us2) 52 49 41 ws (J1) ⟨[[.fsl []]], 1, 25, true⟩) Qp (Ld hP2.keys hP2.fam hP2.vs).cons ((Jt hP2.keys rfl).pr rfl) hL Wa Wa
     refine Z9 (hcb _ _ (by rw [hl2]; rfl) (fun _ _ h => h)) ?_
     refine QK Z (by repeat (first | exact ZZ hU.keys Wa Wa Wa (.inl Wa) | exact ZZ hP.keys Wa Wa Wa (.inl Wa) | exact ZZ hP2.keys Wa Wa Wa (.inl Wa) | refine Zf Wa ?_)) ?_
     refine Ya Z Z (Qe Z (Q9 (Qg Wa (Qg Wa (Qg Wa (Gw hP2.keys hi2))))) (QQ Z (Qg Wa (Qg Wa (Qg Wa (Gw hP2.keys hi2)))) (Qaw hk2 hz2) Z Z Z Z Z (hK _ ?_)))
     refine Qi (QY (kp5 Z Z Z Z Z) (ZS fun K hK => Qa Z (Zc Z Z We (Qa Z (hK _ ?_)))))
     refine Ql (Hr us2 i k (P3 (CandT.mk v sh ns2 [xb])), J3, k + 1) ?_ ?_ ?_
     ·exact NW (l := [4, 5, 6, 7, 8]) (row := [.int .i64 v.a, .int .i64 v.b, .int .i64 v.c, .str v.p, .str v.q, .int .i64 sh, QM ns2, .osl 85 1]) (p := false) 85 (P3 (CandT.mk v sh ns2 [xb])) (kp5 rfl rfl rfl rfl rfl) (by rw [Zn, hl2] <;> rfl) hP2.keys hi2 hk2 Qp (fun h => by cases h) (Dh (Qg Wa Qp) rfl) (fun z hz => (hP2.pure hi2 z hz).1) ⟨rfl, rfl, rfl⟩ (fun j hj hne => (Qg Wa (Qg Wa (Qg Wa (Qg Wa (Gw hP2.keys hj)))))) Wf Wf Wf rfl Wk (by intro j hj; repeat (first | exact ZZ hP2.keys Wa Wa Wa (.inr Wa) | refine Zf Wa ?_)) Wa (by intro p hp j hj; simp only [QeJ, QeI, or_false] at hp; rcases hp with rfl | rfl | rfl | rfl | rfl <;> first | (simp [D.ids, D.sid] at hj; done) | (simp [D.ids, D.sid] at hj; subst hj; first | exact .inl rfl | exact .inr (.inl rfl) | exact .inr (.inr (.inl rfl)) | exact .inr (.inr (.inr ⟨us2[i], QeM hi2, (hP2.keys i hi2).symm⟩))))
     ·exact hP2.again hi2 hk2 ⟨_, rfl, Rq hc2 (by have := hxb; rwa [hl2, hl] at this)⟩ (by rw [hz2]; rfl)
     ·show SB (Hr us2 i k _) i - (k + 1) < SB us i - k; rw [JH, <- hus2, JH, JX hi]; omega
    ·try rw [h5]
     try simp only [qA] at h5
     refine Xc (Qi (QY (kp5 Z Z Z Z Z) (ZS fun K hK => Qa Z (Zc Z Z We (Qa Z (hK _ ?_))))))
     refine Ql (us2, nxI J1, k + 1) ?_ ?_ ?_
     ·exact le_trans (Q4 (l := [4, 5, 6, 7, 8]) (kp5 rfl rfl rfl rfl rfl)) (KD (by rw [hl2] <;> rfl) Qcm)
     ·exact hP2
     ·show SB us2 i - (k + 1) < SB us i - k; rw [<- hus2, JH, JX hi]; omega
  ·try rw [h2]
   try simp only [qA] at h2
   try (have hk : k < us[i].cs.length := Wa; obtain ⟨v, sh, hz, hv⟩ := hP.fresh i hi k hk Wa)
   refine GA (Xx (Qz (QH (Qi (QY (kp4 Z Z Z Z) (ZS fun K hK => Qa Z (Zc Z Z We (Qa Z (hK _ ?_)))))))))
   refine Ql (us, J, i + 1) ?_ ?_ ?_
   ·exact Q4 (l := [4, 5, 6, 7]) (kp4 rfl rfl rfl rfl)
   ·try dsimp only
    exact ⟨hP.next hi Wa, Wa, Wa⟩
   ·show us0.length - (i + 1) < us0.length - i; omega
 ·try rw [h1]
  try simp only [qA] at h1
  refine GA (Xx (Qz (QH (QY (kp2 Z Z) ?_))))
  have hend : i = usA.length := by have := hPA.1.len.1; omega
  obtain ⟨w, hwl, hwm, hle⟩ := CX (eu := 52) (ec := 49) (eg := 41) (L := ws) (J := JA) (b4 := ⟨[[.fsl []]], 1, 25, true⟩) (hend ▸ hPA.1) rfl
  refine LK (hle (fr' := [(4, .ref 4 0 0), (6, .osl 500000 usA.length)]) (l := [4, 6]) (kp2 rfl rfl) rfl (by intro p hp j hj; simp only [QeJ, QeI, or_false] at hp; rcases hp with rfl | rfl <;> (simp [D.ids, D.sid] at hj; subst hj; first | exact .inl rfl | exact .inr rfl))) (QZ fun K hK => Qa rfl (QW rfl rfl (QQ rfl rfl rfl rfl rfl rfl rfl rfl (hK _ _ (QG (kp1 rfl) ?_)))))
  refine Fj ?_
  refine ⟨_, ⟨w, hwm, rfl⟩, ?_⟩
  exact Zl (cs := [.osl 500000 usA.length]) (ds := [.sl (w.map HW)]) rfl rfl rfl rfl (by simp [XZ, D.fz, D.fzS, GB, lk, D.can, D.canS, hwl])
end Go.Proofs
namespace M25
open Go Go.Abs M3
/-! ### Trails that may be -/
open Go Go.Abs M3
/-! ### What every program says -/
/-! ### A world's facts, and more -/
end M25
namespace M25
open Go Go.Abs M3
/-! ### What a run is: steps, one open after the other -/
inductive LH (w : QR) (db : List (List FR)) : List Ku -> List Ku -> Prop
 | nil (l : List Ku) : LH w db l l
 | cons {l x : List Ku} (a k : Nat) (ho : Qbq w db l a k) (h : LH w db (l ++ [Qdc w l ((db[a]'ho.ha)[k]'ho.hk) a]) x) : LH w db l x
section
variable {w : QR} {db : List (List FR)}
def Below (w : QR) (b l : List Ku) : Prop := ∀ u i, tb (Mz w b u) i = true -> tb (Mz w l u) i = true
theorem Below.refl (l : List Ku) : Below w l l := fun _ _ h => h
/-! ### Sound: a choice stays -/
end
end M25
namespace M25
open Go Go.Abs M3
end M25
namespace M25
open Go Go.Abs M3
/-! ### More of runs -/
open Go Go.Abs M3
/-! ### The facts in another order -/
open Go Go.Abs M3
/-! ### How long a run is -/
structure Good (w : QR) (l : List Ku) : Prop where
 p : Qbr w l
 nz : ∀ u, inW w u = true -> Mz w l u ≠ 0
 le : ∀ u i, tb (Mz w l u) i = true -> tb (XQ w u) i = true
open Go Go.Abs M3
/-! ### Masks are of values that there are -/
/-! ### Each P4 of a run -/
end M25
namespace M25
open Go Go.Abs M3
open Go Go.Abs M3
/-! ### One without terms -/
open M3
def JK (e a b c : Int) (p q : List UInt8) (f : Bool) : Bool := !decide (e = 0) || (!f && decide (p = []) && !(decide (a = 0) && (decide (b = 0) && (decide (c = 0) && (decide (p = []) && (decide (q = []) && true))))))
def Y6 (x : Cu) : Bool := JK x.e x.a x.b x.c x.p x.q x.f
theorem BA {e a b c : Int} {p q : List UInt8} {f : Bool} (h : YZ e a b c p q f = true) : q = [] := by
 unfold YZ at h
 split at h
 ·simp at h; exact h.2
 ·simp at h; exact h.1.2.2.2.2.2
theorem Fe {x : Cu} (h : x.q = []) : Y6 x = Xf x := by
 rw [Y6, Xf, JK, FM, FL, h]
 cases decide (x.e = 0) <;> cases x.f <;> cases hp : decide (x.p = []) <;> cases decide (x.a = 0) <;> cases decide (x.b = 0) <;> cases decide (x.c = 0) <;> simp_all
theorem Fa {x : Cu} (h : Xf x = true) : Y6 x = true := by
 rw [Xf, FM, FL] at h
 rw [Y6, JK]
 revert h
 cases decide (x.e = 0) <;> cases x.f <;> cases hp : decide (x.p = []) <;> cases decide (x.a = 0) <;> cases decide (x.b = 0) <;> cases decide (x.c = 0) <;> simp
theorem Qb3 {l : List (Cu × Cu)} (h : Kh l = true) {s : Cu × Cu} (hs : s ∈ l) : s.1.q = [] /\ s.2.q = [] := by
 obtain ⟨i, hi, rfl⟩ := List.mem_iff_getElem.1 hs
 have := QeR.1 h i (Qe4.2 hi)
 rw [SV hi, QeL] at this
 have h1 := this.1
 simp only [Gc, Hf, QeL] at h1
 exact ⟨BA h1.1.1, BA h1.1.2⟩
theorem F9 {s : List (Cu × Cu) × List (Cu × Cu)} {i : Nat} (hi : s.1.length <= i) (h : (s.1.take i).all (fun x => Y6 x.1 && Y6 x.2) = true) : Xo s = (Kh s.1 && Kh s.2) := by
 rw [QeX hi] at h
 rw [Xo]
 cases h1 : Kh s.1 with
 | false => rfl
 | true =>
  have : (s.1.all fun x => Xf x.1 && Xf x.2) = true := by
   rw [QeR] at h ⊢
   intro x hx
   obtain ⟨q1, q2⟩ := Qb3 h1 hx
   rw [<- Fe q1, <- Fe q2]
   exact h x hx
  rw [this, Bool.true_and, Bool.and_true]
theorem JL {s : List (Cu × Cu) × List (Cu × Cu)} {i : Nat} (hi : i < s.1.length) (h : Y6 s.1[i].1 = false \/ Y6 s.1[i].2 = false) : Xo s = false :=
 Jm hi (h.imp (fun h => by cases e : Xf s.1[i].1 with
  | false => rfl
  | true => rw [Fa e] at h; cases h) (fun h => by cases e : Xf s.1[i].2 with
  | false => rfl
  | true => rw [Fa e] at h; cases h))
end M25
namespace Go.Abs
open Go
/-! ### Cells told otherwise -/
section
variable {fr : QeF} {H : QeE}
theorem QbP {rows : List (List D)} (g : Gh) (v : Value) (h : RepS g (.fsl rows) v) : RepS g (.sl rows) v := by
 simp only [RepS, RepP] at h ⊢
 obtain ⟨a, h1, h2⟩ := h
 exact ⟨a, _, h1, Nat.le_refl _, h2⟩
end
end Go.Abs
namespace Go.Abs
abbrev gD : D := .ptr [.int .i64 0, .int .i64 0, .int .i64 0, .str [], .str []]
end Go.Abs
namespace Go.Proofs
open Go Go.Abs M3 M25
theorem Nz {l : List (Cu × Cu)} (hl : Sm l) : Ok Tryd.prog 62 [Q3 l] (.bool (Kh l)) := by
 refine Ok.ofT Z7 Tryd.func62 Qd7 (QeH Z) ?_
 show TW _ _ tf62.body _ _
 have hn := hl.1
 refine Qb fun K hK => Qa Z (kc1 hK Z ?_)
 refine QD ?_ -- 0
 refine Qb fun K hK => Qa Z (ZD Z Z (Qa Z (kc4 hK Z Z Z Z ?_)))
 refine QI ?_
 refine Yb (ι := Nat) (fun i => ⟨[(0, Q3 l), (5, Q3 l), (6, .int .i64 l.length), (7, .int .i64 i)], []⟩) (fun i => i <= l.length /\ (List.range i).all (QaP l) = true) (fun i => l.length - i) 0 ?_ ?_ ?_
 ·exact Zw (l := [0, 5, 6, 7]) (kp4 rfl rfl rfl rfl) Qy (by simp [Q3, List.length_map]) rfl rfl
 ·exact ⟨QeT _, rfl⟩
 intro i hI
 try dsimp only
 refine Qb fun K hK => YX Z Z (kc5 hK Z Z Z Z Z ?_)
 refine QD ?_ -- 1
 refine Qx Z (fun h1 => ?_) (fun h1 => ?_)
 ·try rw [h1]
  try simp only [qA] at h1
  refine Qt (ks4 Z Z Z Z ?_)
  refine QD ?_ -- 2
  refine QI (Qb fun K hK => Qa Z (QV Z Z Z Wa (ZN Wa) Z (QA (cs := [_, _, _, _, _, _, _, _, _, _, _, _, _, _]) Z Z Z Z (Zm Z (Qa Z (QQ Z Z Z Z Z Z Z Z (kc6 hK Z Z Z Z Z Z ?_)))))))
  refine Qb fun K hK => QC (ds0 := [17, 16, 15, 14, 13, 12, 11, 10, 9, 8, 7, 6, 5, 4, 3, 2, 1, 0]) (cs := [_, _, _, _, _, _, _, _, _, _, _, _, _, _]) Z Z Z Z Z Z (QT (ds0 := [16, 15, 14, 13, 12, 11, 10, 9, 8, 7, 6, 5, 4, 3, 2, 1, 0]) (GG (hl.at (i := i) Wa).1.1 (hl.at (i := i) Wa).1.2 (hl.at (i := i) Wa).2.1 (hl.at (i := i) Wa).2.2) Z Z (.inr Z) Z Z (ZL Z (Qa Z ?_)))
  refine Qs (g := 15) Z (fun h2 => ?_) (fun h2 => ?_)
  ·try rw [h2]
   try simp only [qA] at h2
   refine gn3 Z Z Z (QE Z (QE Z (QE Z (QE Z (QE Z (QE Z (QE Z (QE Z (QE Z ?_)))))))))
   refine QE Z (XT Z (Qf Z Z (kc5 hK Z Z Z Z Z ?_)))
   refine Zg Z (Qb fun K hK => Qa Z (kc1 hK Z ?_))
   refine Qn (Qr (Qh (Q5 (Qr (Qh (Qk Z ?_))))))
   first
    | exact (HH hI.2 Wa).symm
    | exact (Y5 (i := i) Wa (KP Wa (.inl h2))).symm
    | (simp only [XJ] at *; exact (Y5 (i := i) Wa (KP Wa (.inr ⟨Wa, h4⟩))).symm)
  ·try rw [h2]
   try simp only [qA] at h2
   refine Qd Z (Qa Z (Qd Z (Fi Z Z (Qd Z (Qa Z ?_)))))
   refine Qs (g := 18) Z (fun h3 => ?_) (fun h3 => ?_)
   ·try rw [h3]
    try simp only [qA] at h3
    refine Qd Z (Qa Z (Qd Z (Qa Z (Qd Z (HN Z Z Wc (Qd Z (QV Z Z Z Wa (Yn Wa Wa) Z (Qd Z (Z5 Z Z (Qd Z (QC (ds0 := [3, 2, 1, 0]) (cs := [_, _, _, _, _, _, _]) Z Z Z Z Z Z ?_)))))))))))
    refine Qd Z (Qe Z Z (Qd Z (QC (ds0 := [3, 2, 1, 0]) (cs := [_, _, _, _, _, _, _]) Z Z Z Z Z Z (Qd Z (QT (ds0 := [2, 1, 0]) (GF (hl.at (i := ((i : Int) - 1).toNat) Wa).2.1 (hl.at (i := ((i : Int) - 1).toNat) Wa).2.2 (hl.at (i := i) Wa).1.1 (hl.at (i := i) Wa).1.2) Z Z (.inr Z) Z Z (Qd Z (Tj Z Z (Qd Z (Qf Z Z (Qf Z Z (kc5 hK Z Z Z Z Z ?_)))))))))))
    refine Qx Z (fun h4 => ?_) (fun h4 => ?_)
    ·try rw [h4]
     try simp only [qA] at h4
     refine Qb fun K hK => Qa Z (kc1 hK Z ?_)
     refine Qn (Qr (Qh (Q5 (Qr (Qh (Qk Z ?_))))))
     first
      | exact (HH hI.2 Wa).symm
      | exact (Y5 (i := i) Wa (KP Wa (.inl h2))).symm
      | (simp only [XJ] at *; exact (Y5 (i := i) Wa (KP Wa (.inr ⟨Wa, h4⟩))).symm)
    ·try rw [h4]
     try simp only [qA] at h4
     refine Qt (Qi (ks4 Z Z Z Z (Za fun K hK => Zc Z Z Wc (Qa Z (hK _ ?_)))))
     refine Ql (i + 1) ?_ ?_ ?_
     ·exact Zw (l := [0, 5, 6, 7]) (lH := []) (kp4 rfl rfl rfl rfl) Qy rfl rfl rfl
     ·exact ⟨Wa, Nf hI.2 (TQ Wa h2 (by first | exact .inl Wa | (simp only [XJ] at *; exact .inr (Int.not_le.1 h4))))⟩
     ·first | omega | (simp only; omega) | (dsimp only; omega)
   ·try rw [h3]
    try simp only [qA] at h3
    refine gn4 Z Z Z Z (gn4 Z Z Z Z (gn2 Z Z (Qd Z (Qf Z Z ?_))))
    refine Qf Z Z (kc5 hK Z Z Z Z Z ?_)
    refine Zy Z (Qt (Qi (ks4 Z Z Z Z (Za fun K hK => Zc Z Z Wc (Qa Z (hK _ ?_))))))
    refine Ql (i + 1) ?_ ?_ ?_
    ·exact Zw (l := [0, 5, 6, 7]) (lH := []) (kp4 rfl rfl rfl rfl) Qy rfl rfl rfl
    ·exact ⟨Wa, Nf hI.2 (TQ Wa h2 (by first | exact .inl Wa | (simp only [XJ] at *; exact .inr (Int.not_le.1 h4))))⟩
    ·first | omega | (simp only; omega) | (dsimp only; omega)
 ·try rw [h1]
  try simp only [qA] at h1
  refine ZC (QP (Qz (QH (Zs (ZJ) (Qb fun K hK => Qa Z (kc1 hK Z ?_))))))
  refine Qn (Qk Z ?_)
  first
   | exact (HH hI.2 Wa).symm
   | exact (Y5 (i := i) Wa (KP Wa (.inl h2))).symm
   | (simp only [XJ] at *; exact (Y5 (i := i) Wa (KP Wa (.inr ⟨Wa, h4⟩))).symm)
theorem Rn {l : List (Cu × Cu)} (hl : Sm l) {a b c : Int} {p q : List UInt8} (hp : p.length <= 1000000) (hq : q.length <= 1000000) : Ok Tryd.prog 49 [Q3 l, .agg [.int .i64 a, .int .i64 b, .int .i64 c, .str p, .str q]] (.bool (PF l a b c p q)) := by
 refine Ok.ofT Z7 Tryd.func49 QdU (QeH Z) ?_
 show TW _ _ tf49.body _ _
 have hn := hl.1
 refine Qb fun K hK => ZR Z Z Z (Qa Z (kc2 hK Z Z ?_))
 refine QD ?_ -- 0
 refine Qb fun K hK => Qa Z (Qw (Nz hl) Z Z (.inr Z) (ZL Z (kc3 hK Z Z Z ?_)))
 refine Qx Z (fun h1 => ?_) (fun h1 => ?_)
 ·try rw [h1]
  try simp only [qA] at h1
  refine Qb fun K hK => Qa Z (kc1 hK Z ?_)
  refine Qn (Qh (Qk Z ?_))
  first
   | exact (Pu (i := i) Wa hI.2).symm
   | exact (Pv h1).symm
   | exact (Pw h1 (i := i) Wa h3).symm
 ·try rw [h1]
  try simp only [qA] at h1
  refine Qt (ks2 Z Z ?_)
  refine QD ?_ -- 1
  refine Qb fun K hK => Qa Z (ZD Z Z (Qa Z (kc4 hK Z Z Z Z ?_)))
  refine QI ?_
  refine Yb (ι := Nat) (fun i => ⟨[(3, .ref 3 0 0), (10, Q3 l), (11, .int .i64 l.length), (12, .int .i64 i)], [(3, ⟨[[.int .i64 a, .int .i64 b, .int .i64 c, .str p, .str q]], 5, 46, true⟩)]⟩) (fun i => i <= l.length /\ (l.take i).any (fun s => PG s a b c p q) = false) (fun i => l.length - i) 0 ?_ ?_ ?_
  ·exact Zw (l := [3, 10, 11, 12]) (lH := [3]) (kp4 rfl rfl rfl rfl) (Qv rfl Qy) (by simp [Q3, List.length_map]) rfl rfl
  ·exact ⟨QeT _, by simp⟩
  intro i hI
  try dsimp only
  refine Qb fun K hK => YX Z Z (kc5 hK Z Z Z Z Z ?_)
  refine QD ?_ -- 2
  refine Qx Z (fun h2 => ?_) (fun h2 => ?_)
  ·try rw [h2]
   try simp only [qA] at h2
   refine Qt (ks4 Z Z Z Z ?_)
   refine QD ?_ -- 3
   refine QI (Qb fun K hK => QV Z Z Z Wa (ZN Wa) Z (QA (cs := [_, _, _, _, _, _, _, _, _, _, _, _, _, _]) Z Z Z Z (Zm Z (QQ Z Z Z Z Z Z Z Z (kc5 hK Z Z Z Z Z ?_)))))
   refine Qb fun K hK => QA (cs := [_, _, _, _, _, _, _, _, _, _, _, _, _, _]) Z Z Z Z (QA (cs := [_, _, _, _, _]) Z Z Z Z (Qw (Su (hl.at (i := i) Wa).1.1 (hl.at (i := i) Wa).1.2 (hl.at (i := i) Wa).2.1 (hl.at (i := i) Wa).2.2 hp hq) Z Z (.inr Z) (kc5 hK Z Z Z Z Z ?_)))
   refine Qx Z (fun h3 => ?_) (fun h3 => ?_)
   ·try rw [h3]
    try simp only [qA] at h3
    refine Qb fun K hK => Qa Z (kc1 hK Z ?_)
    refine Qn (Qr (Qh (Q5 (Qr (Qh (Qk Z ?_))))))
    first
     | exact (Pu (i := i) Wa hI.2).symm
     | exact (Pv h1).symm
     | exact (Pw h1 (i := i) Wa h3).symm
   ·try rw [h3]
    try simp only [qA] at h3
    refine Qt (Qi (ks4 Z Z Z Z (Za fun K hK => Zc Z Z Wc (Qa Z (hK _ ?_)))))
    refine Ql (i + 1) ?_ ?_ ?_
    ·exact Zw (l := [3, 10, 11, 12]) (lH := [3]) (kp4 rfl rfl rfl rfl) (Qv rfl Qy) rfl rfl rfl
    ·exact ⟨Wa, LM Wa hI.2 h3⟩
    ·first | omega | (simp only; omega) | (dsimp only; omega)
  ·try rw [h2]
   try simp only [qA] at h2
   refine ZC (QP (Qz (QH (Zs (ZJ) (Qb fun K hK => Qa Z (kc1 hK Z ?_))))))
   refine Qn (Qk Z ?_)
   first
    | exact (Pu (i := i) Wa hI.2).symm
    | exact (Pv h1).symm
    | exact (Pw h1 (i := i) Wa h3).symm
theorem GL {e a b c : Int} {p q : List UInt8} {f : Bool} : Ok Tryd.prog 61 [.agg [.int .i64 e, .int .i64 a, .int .i64 b, .int .i64 c, .str p, .str q, .bool f], gD] (.bool (JK e a b c p q f)) := by
 refine Ok.ofTG (ds := [.agg [.int .i64 e, .int .i64 a, .int .i64 b, .int .i64 c, .str p, .str q, .bool f]]) (dg := gD) Z7 Tryd.func61 Qd6 (QeH Z) ?_
 show TW _ _ tf61.body _ _
 refine Qb fun K hK => ZR Z Z Z (Qa Z (kc2 hK Z Z ?_))
 refine Qb fun K hK => Qe Z Z (QB Z Z Z (Y7 Z Z (Qa Z ?_)))
 refine Qs (g := 6) Z (fun h1 => ?_) (fun h1 => ?_)
 ·try rw [h1]
  try simp only [qB] at h1
  refine gn4 Z Z Z Z (QE Z (QE Z (QE Z (QE Z (gn2 Z Z (QE Z (QE Z ?_)))))))
  refine QE Z (QE Z (XT Z (Qf Z Z (Qa Z (kc1 hK Z ?_)))))
  refine Qn (Qk Z ?_)
  (repeat clear hK K); simp_all [JK]
 ·try rw [h1]
  try simp only [qB] at h1
  refine Qd Z (Qe Z Z (Qd Z (QB Z Z Z (Qd Z (ZL Z (Qd Z (Qa Z ?_)))))))
  refine Qs (g := 10) Z (fun h2 => ?_) (fun h2 => ?_)
  ·try rw [h2]
   try simp only [qB] at h2
   refine Qd Z (Qe Z Z (Qd Z (Qe Z Z (Qd Z (QB Z Z Z (Qd Z (HM Z Z (Qd Z (Qf Z Z (Qd Z (Qa Z ?_)))))))))))
   refine Qs (g := 16) Z (fun h3 => ?_) (fun h3 => ?_)
   ·try rw [h3]
    try simp only [qB] at h3
    refine Qd Z (Qe Z Z (Qd Z (QA (cs := [_, _, _, _, _]) Z Z Z Z (Qd Z (QA (cs := [_, _, _, _, _]) Z Z Z Z (Qd Z (Qbu Z Z Z (Qd Z (Qf Z Z (Qf Z Z (Qa Z ?_)))))))))))
    refine kc1 hK Z ?_
    refine Qn (Qk Z ?_)
    (repeat clear hK K); simp_all [JK]
   ·try rw [h3]
    try simp only [qB] at h3
    refine gn4 Z Z Z Z (Qd Z (Qf Z Z (Qf Z Z (Qa Z (kc1 hK Z ?_)))))
    refine Qn (Qk Z ?_)
    (repeat clear hK K); simp_all [JK]
  ·try rw [h2]
   try simp only [qB] at h2
   refine gn4 Z Z Z Z (Qd Z (Qf Z Z (Qd Z (Qa Z (gn4 Z Z Z Z ?_)))))
   refine Qd Z (Qf Z Z (Qf Z Z (Qa Z (kc1 hK Z ?_))))
   refine Qn (Qk Z ?_)
   (repeat clear hK K); simp_all [JK]
open Go Go.Abs M3 M25
theorem LU {s : List (Cu × Cu) × List (Cu × Cu)} (h1s : Sm s.1) (h2s : Sm s.2) : Ok Tryd.prog 47 [Gn s, gD] (.bool (Xo s)) := by
 refine Ok.ofTG (ds := [Gn s]) (dg := gD) Z7 Tryd.func47 QdS (QeH Z) ?_
 show TW _ _ tf47.body _ _
 have hn := h1s.1
 refine Qb fun K hK => ZR Z Z Z (Qa Z (kc2 hK Z Z ?_))
 refine QD ?_ -- 0
 refine Qb fun K hK => Qe Z Z (QB Z Z Z (ZD Z Z (Qa Z (kc5 hK Z Z Z Z Z ?_))))
 refine QI ?_
 refine Yb (ι := Nat) (fun i => ⟨[(1, .ref 1 0 0), (6, Q3 s.1), (7, .int .i64 s.1.length), (8, .int .i64 i), (900000, gD)], [(1, ⟨[[Q3 s.1, Q3 s.2]], 2, 29, true⟩)]⟩) (fun i => i <= s.1.length /\ (s.1.take i).all (fun x => Y6 x.1 && Y6 x.2) = true) (fun i => s.1.length - i) 0 ?_ ?_ ?_
 ·exact Zw (l := [1, 6, 7, 8, 900000]) (lH := [1]) (kp5 rfl rfl rfl rfl rfl) (Qv rfl Qy) (by simp [Q3, List.length_map]) rfl rfl
 ·exact ⟨QeT _, by simp⟩
 intro i hI
 try dsimp only
 refine Qb fun K hK => YX Z Z (kc6 hK Z Z Z Z Z Z ?_)
 refine QD ?_ -- 1
 refine Qx Z (fun h1 => ?_) (fun h1 => ?_)
 ·try rw [h1]
  try simp only [qA] at h1
  refine Qt (ks5 Z Z Z Z Z ?_)
  refine QD ?_ -- 2
  refine QI (Qb fun K hK => QV Z Z Z Wa (ZN Wa) Z (QA (cs := [_, _, _, _, _, _, _, _, _, _, _, _, _, _]) Z Z Z Z (Zm Z (QQ Z Z Z Z Z Z Z Z (kc6 hK Z Z Z Z Z Z ?_)))))
  refine Qb fun K hK => Qe Z Z (QA (cs := [_, _, _, _, _, _, _]) Z Z Z Z (Qw (GL) Z Z (.inr Z) (ZL Z (Qa Z ?_))))
  refine Qs (g := 16) Z (fun h2 => ?_) (fun h2 => ?_)
  ·try rw [h2]
   try simp only [qA] at h2
   refine gn4 Z Z Z Z (Qf Z Z (kc6 hK Z Z Z Z Z Z ?_))
   refine Zg Z (Qb fun K hK => Qa Z (kc1 hK Z ?_))
   refine Qn (Qr (Qh (Q5 (Qr (Qh (Qk Z ?_))))))
   first
    | exact (JL (i := i) Wa (.inl h2)).symm
    | exact (JL (i := i) Wa (.inr h3)).symm
    | (rw [F9 (i := i) Wa hI.2]; simp_all)
  ·try rw [h2]
   try simp only [qA] at h2
   refine Qd Z (Qe Z Z (Qd Z (QA (cs := [_, _, _, _, _, _, _]) Z Z Z Z (Qd Z (Qw (GL) Z Z (.inr Z) (Qd Z (ZL Z (Qf Z Z (kc6 hK Z Z Z Z Z Z ?_)))))))))
   refine Qx Z (fun h3 => ?_) (fun h3 => ?_)
   ·try rw [h3]
    try simp only [qA] at h3
    refine Qb fun K hK => Qa Z (kc1 hK Z ?_)
    refine Qn (Qr (Qh (Q5 (Qr (Qh (Qk Z ?_))))))
    first
     | exact (JL (i := i) Wa (.inl h2)).symm
     | exact (JL (i := i) Wa (.inr h3)).symm
     | (rw [F9 (i := i) Wa hI.2]; simp_all)
   ·try rw [h3]
    try simp only [qA] at h3
    refine Qt (Qi (ks5 Z Z Z Z Z (Za fun K hK => Zc Z Z Wc (Qa Z (hK _ ?_)))))
    refine Ql (i + 1) ?_ ?_ ?_
    ·exact Zw (l := [1, 6, 7, 8, 900000]) (lH := [1]) (kp5 rfl rfl rfl rfl rfl) (Qv rfl Qy) rfl rfl rfl
    ·exact ⟨Wa, Zb Wa hI.2 (by rw [show Y6 s.1[i].1 = true from h2, show Y6 s.1[i].2 = true from h3]; rfl)⟩
    ·first | omega | (simp only; omega) | (dsimp only; omega)
 ·try rw [h1]
  try simp only [qA] at h1
  refine ZC (QP (Qz (QH (ks1 Z (Qb fun K hK => Qe Z Z (QB Z Z Z (Qw (Nz h1s) Z Z (.inr Z) (Qa Z ?_))))))))
  refine Qs (g := 26) Z (fun h4 => ?_) (fun h4 => ?_)
  ·try rw [h4]
   try simp only [qA] at h4
   refine Qd Z (Qe Z Z (Qd Z (QB Z Z Z (Qd Z (Qw (Nz h2s) Z Z (.inr Z) (Qf Z Z (Qa Z (kc1 hK Z ?_))))))))
   refine Qn (Qk Z ?_)
   first
    | exact (JL (i := i) Wa (.inl h2)).symm
    | exact (JL (i := i) Wa (.inr h3)).symm
    | (rw [F9 (i := i) Wa hI.2]; simp_all)
  ·try rw [h4]
   try simp only [qA] at h4
   refine gn3 Z Z Z (Qf Z Z (Qa Z (kc1 hK Z ?_)))
   refine Qn (Qk Z ?_)
   first
    | exact (JL (i := i) Wa (.inl h2)).symm
    | exact (JL (i := i) Wa (.inr h3)).symm
    | (rw [F9 (i := i) Wa hI.2]; simp_all)
theorem LS {s : List (Cu × Cu) × List (Cu × Cu)} (h1s : Sm s.1) (h2s : Sm s.2) {a b c : Int} {p q : List UInt8} (hp : p.length <= 1000000) (hq : q.length <= 1000000) : Ok Tryd.prog 25 [Gn s, .agg [.int .i64 a, .int .i64 b, .int .i64 c, .str p, .str q], gD] (.bool (SQ s a b c p q)) := by
 refine Ok.ofTG (ds := [Gn s, .agg [.int .i64 a, .int .i64 b, .int .i64 c, .str p, .str q]]) (dg := gD) Z7 Tryd.func25 Qdx (QeH Z) ?_
 show TW _ _ tf25.body _ _
 refine Qb fun K hK => ZR Z Z Z (ZR Z Z Z (Qa Z (kc3 hK Z Z Z ?_)))
 refine QD ?_ -- 0
 refine Qb fun K hK => QA (cs := [_, _]) Z Z Z Z (Qw (LU h1s h2s) Z Z (.inr Z) (ZL Z (Qa Z ?_)))
 refine Qs (g := 8) Z (fun h1 => ?_) (fun h1 => ?_)
 ·try rw [h1]
  try simp only [qB] at h1
  refine gn3 Z Z Z (Qf Z Z (kc3 hK Z Z Z ?_))
  refine Zg Z (Qb fun K hK => Qa Z (kc1 hK Z ?_))
  refine Qn (Qh (Qk Z ?_))
  (repeat clear hK K); simp_all [SQ]
 ·try rw [h1]
  try simp only [qB] at h1
  refine Qd Z (QA (cs := [_, _, _, _, _]) Z Z Z Z (Qd Z (Qw (YK hp hq) Z Z (.inr Z) (Qd Z (ZL Z (Qf Z Z (kc3 hK Z Z Z ?_)))))))
  refine Qx Z (fun h2 => ?_) (fun h2 => ?_)
  ·try rw [h2]
   try simp only [qB] at h2
   refine Qb fun K hK => Qa Z (kc1 hK Z ?_)
   refine Qn (Qh (Qk Z ?_))
   (repeat clear hK K); simp_all [SQ]
  ·try rw [h2]
   try simp only [qB] at h2
   refine Qt (ks2 Z Z ?_)
   refine QD ?_ -- 1
   refine Qb fun K hK => Qe Z Z (QB Z Z Z (HM Z Z (kc3 hK Z Z Z ?_)))
   refine Qx Z (fun h3 => ?_) (fun h3 => ?_)
   ·try rw [h3]
    try simp only [qB] at h3
    refine Qb fun K hK => Qe Z Z (QB Z Z Z (QA (cs := [_, _, _, _, _]) Z Z Z Z (Qw (Rn h1s hp hq) Z Z (.inr Z) (Qa Z (kc1 hK Z ?_)))))
    refine Qn (Qh (Qk Z ?_))
    (repeat clear hK K); simp_all [SQ]
   ·try rw [h3]
    try simp only [qB] at h3
    refine Qt (ks2 Z Z (Qb fun K hK => Qe Z Z (QB Z Z Z (QA (cs := [_, _, _, _, _]) Z Z Z Z (Qw (Rn h2s hp hq) Z Z (.inr Z) (Qa Z (kc1 hK Z ?_)))))))
    refine Qn (Qk Z ?_)
    (repeat clear hK K); simp_all [SQ]
end Go.Proofs
namespace Go.Abs
open Go Go.RowKit
/-! ### Loops over functions -/
def IterOk (P : Program) (f : Nat) (caps : List D) {α : Type} (iv : α -> Int) (xs : List α) : Prop :=
 (P9 P f /\ gVs f = []) /\ ∀ (K : Kn) (w0 : World) (lb : List Value), KRel K w0 -> RepVs K caps lb ->
  SeqStopsK Fence.wide 1 P f lb.toArray (fun x => #[.int .i64 (iv x)]) (fun W W' => KRel K W -> KRel K W') (fun l => l = xs) (fun l => l <+: xs) xs.length w0
def QaK (H : QeE) : Prop := ∀ k b, lk H k = some b -> ¬ (b.rows = [] /\ b.esz = 0 /\ b.pr = false)
section
variable {P : Program} {E : Env} {g : Gh} {s : St} {a a' : Act} {w w' : World}
theorem BoxRel.cells {k : Nat} {b : Box} {B e : Nat} (h : BoxRel E g w k b) (hn : ¬ (b.rows = [] /\ b.esz = 0 /\ b.pr = false)) (hβ : g.β k = some (B, e)) : ∃ o : Obj, w.heap[B]? = some o /\ o.isCells = true := by
 obtain ⟨_, _, h3⟩ := h
 rcases h3 with ⟨hr, ⟨h3, _⟩ | ⟨_, i1, i2, _⟩⟩ | ⟨_, B', c, h5, h6, _⟩
 ·rw [h3] at hβ; cases hβ
 ·exact absurd ⟨hr, i1, i2⟩ hn
 ·rw [hβ] at h5; cases h5; exact ⟨_, h6, rfl⟩
theorem Lk {f : Nat} (he : P9 P f) (args : Array Value) (w : World) : (callFunc f args).run P w = .ok (.enter f args) w := by
 obtain ⟨fn, hfn, hnm, hbd⟩ := he
 have hnm' : ¬ fn.name = "runtime.NumGoroutine" := by simpa using hnm
 have hbd' : ¬ fn.body = none := fun h => by rw [h] at hbd; cases hbd
 simp [callFunc, hfn, hnm', hbd']
def Ly (E : Env) (g : Gh) (H : QeE) : Env := { E with keep := fun k => 1000000 <= k /\ (lk H k).isSome = true, β0 := g.β, σ0 := g.σ, rd := none }
def QbN (E : Env) (g : Gh) (H : QeE) (W : World) (l : Nat) : Env :=
 ⟨E.nt, W.heap.size, W, g.K, fun b => ∃ k e, (lk H k).isSome = true /\ g.β k = some (b, e), fun k => 1000000 <= k /\ (lk H k).isSome = true, g.β, g.σ, some l, none⟩
def LP (fr : QeF) : Prop := ∀ t d, lk fr t = some d -> ∀ k ∈ d.ids, 1000000 <= k
theorem Rel.toL (r : Rel E g s a w) (ha : a'.tmps = a.tmps) (hd : a'.defers = []) : Rel (Ly E g s.H) g s a' w :=
 ⟨by rw [ha]; exact r.nt, DfOk.nil hd, fun t d h => by rw [ha]; exact r.fr t d h, r.wfF, r.wfH, r.bx, r.inj, r.kr, r.ext, r.kx, fun k hk => ⟨hk.1, rfl, rfl, hk.2⟩⟩
theorem Rel.ofL {g0 : Gh} {H0 : QeE} (r : Rel (Ly E g0 H0) g s a w) (hk : ∀ k, E.keep k -> 1000000 <= k /\ g0.β k = E.β0 k /\ g0.σ k = E.σ0 k /\ (lk H0 k).isSome = true) (ha : a'.tmps = a.tmps) (hd : DfOk E.bd a' w) : Rel E g s a' w :=
 ⟨by rw [ha]; exact r.nt, hd, fun t d h => by rw [ha]; exact r.fr t d h, r.wfF, r.wfH, r.bx, r.inj, r.kr, r.ext, r.kx, fun k h => by
  obtain ⟨h1, h2, h3, h4⟩ := hk k h
  obtain ⟨_, q2, q3, q4⟩ := r.kp k ⟨h1, h4⟩
  exact ⟨h1, q2.trans h2, q3.trans h3, q4⟩⟩
theorem Rel.toR {fr : QeF} {H : QeE} (r : Rel E g ⟨fr, H⟩ a w) (hd : a.defers = []) (l : Nat) : Rel (QbN E g H w l) g ⟨fr, H⟩ a w :=
 ⟨r.nt, DfOk.nil hd, r.fr, r.wfF, r.wfH, fun k b h => (r.bx k b h).move ⟨rfl, rfl⟩ (fun _ _ _ _ _ _ => ⟨rfl, rfl⟩) (Kn.le_refl _) fun B e hβ => ⟨rfl, fun _ h => h, fun _ => .inr ⟨k, e, by show (lk H k).isSome = true; rw [show lk H k = some b from h]; rfl, hβ⟩⟩,
  r.inj, r.kr, ⟨Nat.le_refl _, fun _ _ _ => rfl, SameFx.refl _⟩, fun _ _ _ => rfl, fun k hk => ⟨hk.1, rfl, rfl, hk.2⟩⟩
theorem PL {fr : QeF} {H : QeE} (r : Rel E g ⟨fr, H⟩ a w) {b : Nat} (ho : ∃ k e, (lk H k).isSome = true /\ g.β k = some (b, e)) : (∀ o, g.K b o = none) /\ (E.B0 <= b \/ E.fo b) := by
 obtain ⟨k, e, h1, h2⟩ := ho
 obtain ⟨bx, hb⟩ := QeN.1 h1
 exact ((r.bx k bx hb).blk h2).2
theorem TY {fr : QeF} {H H' : QeE} {g3 : Gh} {a3 : Act} {w3 : World} {l : Nat} (r : Rel E g ⟨fr, H⟩ a w) (r3 : Rel (QbN E g H w l) g3 ⟨[], H'⟩ a3 w3) : g.K.le g3.K := fun b o x hx => by
 rw [r3.kx b (r.kr.lt hx) (fun ho => by rw [(PL r ho).1 o] at hx; cases hx)]; exact hx
theorem Rel.endR {fr : QeF} {H H' : QeE} {g3 : Gh} {a3 : Act} {w3 : World} {l : Nat} (hbig : LP fr) (r : Rel E g ⟨fr, H⟩ a w) (hd : a.defers = []) (hE : ∀ k, E.keep k -> 1000000 <= k) (r3 : Rel (QbN E g H w l) g3 ⟨[], H'⟩ a3 w3) : Rel E g3 ⟨fr, H'⟩ a w3 := by
 have kle := TY r r3
 have hkp : ∀ t d, lk fr t = some d -> ∀ k ∈ d.ids, g3.β k = g.β k /\ g3.σ k = g.σ k /\ (lk H' k).isSome = true := fun t d h k hk => by
  obtain ⟨_, q2, q3, q4⟩ := r3.kp k ⟨hbig t d h k hk, r.wfF t d h k hk⟩
  exact ⟨q2, q3, q4⟩
 refine ⟨r.nt, DfOk.nil hd, fun t d h => (r.fr t d h).congr kle fun k hk => ⟨(hkp t d h k hk).1, (hkp t d h k hk).2.1⟩, fun t d h k hk => (hkp t d h k hk).2.2, r3.wfH, fun k b h => ?_, r3.inj, r3.kr,
  ⟨Qe0 r.ext.1 r3.ext.1, fun b hb hf => (r3.ext.2.1 b (Nat.lt_of_lt_of_le hb r.ext.1) (fun ho => (PL r ho).2.elim (fun h => Wa) hf)).trans (r.ext.2.1 b hb hf), r.ext.2.2.trans r3.ext.2.2⟩,
  fun b hb hf => (r3.kx b (Nat.lt_of_lt_of_le hb r.ext.1) (fun ho => (PL r ho).2.elim (fun h => Wa) hf)).trans (r.kx b hb hf), fun k hk => ?_⟩
 ·exact (r3.bx k b h).move ⟨rfl, rfl⟩ (fun _ _ _ _ _ _ => ⟨rfl, rfl⟩) (Kn.le_refl _) fun B e hβ => ⟨rfl, fun _ h => h, fun h => h.elim (fun h => .inl (Qe0 r.ext.1 h)) fun ho => (PL r ho).2⟩
 ·obtain ⟨h1, h2, h3, h4⟩ := r.kp k hk
  obtain ⟨_, q2, q3, q4⟩ := r3.kp k ⟨h1, h4⟩
  exact ⟨h1, q2.trans h2, q3.trans h3, q4⟩
def Inv (E : Env) (g0 : Gh) (fr : QeF) (a0 : Act) (dd : List Nat) (A : QeE -> Prop) (W : World) : Prop :=
 ∃ H g', A H /\ QaK H /\ g0.K.le g'.K /\ Rel E g' ⟨fr, H⟩ a0 W /\ ∀ D ∈ dd, Jg W D
theorem Inv.turn {g0 : Gh} {fr : QeF} {a0 : Act} {dd : List Nat} {A : QeE -> Prop} {W W' : World} {row : Option Nat} {B : Nat} (h : Inv E g0 fr a0 dd A W) (hd : a0.defers = []) (hB : E.B0 <= B) (hdd : ∀ D ∈ dd, D < B) (hg : W.grownBy W' row)
  (hr : ∀ r, row = some r -> B <= r /\ ∃ o : Obj, W.heap[r]? = some o /\ o.isCells = false) : Inv E g0 fr a0 dd A W' := by
 obtain ⟨H, g', h1, h2, h3, r, h4⟩ := h
 refine ⟨H, g', h1, h2, h3, r.aside (fun b => row = some b) (fun b hb hn => hg.block b hb fun e => hn e.symm) hg.size (fun b hb => ?_) rfl (DfOk.nil hd) ⟨hg.os, hg.tape, hg.output⟩, fun D hD => ?_⟩
 ·obtain ⟨q1, o, q2, q3⟩ := hr b hb
  refine ⟨Qe0 hB q1, fun k bx e hk hβ => ?_, fun o' => r.kr.cells q2 q3⟩
  obtain ⟨o2, p1, p2⟩ := (r.bx k bx hk).cells (h2 k bx hk) hβ
  rw [q2] at p1; cases p1; rw [q3] at p2; cases p2
 ·have hDb := h4 D hD
  refine (hg.block D (Array.getElem?_eq_some_iff.1 hDb).1 fun e => ?_).trans hDb
  have := (hr D e.symm).1
  have := hdd D hD
  omega
theorem Ls {nt : Nat} {g : Operand} {ps : List Nat} {asg : Code} {ob : Option ACode} {x : Opd} {p q : Nat} {b : ACode} (h : TU nt g ps asg ob = some (x, p, q, b)) :
  Qu g = some x /\ ps = [p] /\ (∃ id ops, asg = .region id ops false /\ Cs p ops.toList = some q) /\ ob = some b /\ p < nt /\ q < nt /\ b.flat = true := by
 unfold TU at h
 split at h
 ·rename_i x' p' id ops b' e1
  split at h
  ·rename_i q' e2
   split at h
   ·rename_i e3
    cases h
    exact ⟨e1, rfl, ⟨_, _, rfl, e2⟩, rfl, e3.1, e3.2.1, e3.2.2⟩
   ·cases h
  ·cases h
 ·cases h
theorem LO {p q : Nat} {ops : List Oper} (h : Cs p ops = some q) : ∃ o, ops = [o] /\ (o.op = .assign (.tmp p) \/ o.op = .move (.tmp p)) /\ o.dst = some q /\ o.guard = none := by
 unfold Cs at h
 split at h
 ·rename_i o
  split at h
  ·rename_i p' q' e1 e2 e3
   split at h
   ·rename_i e; subst e; cases h; exact ⟨_, rfl, .inl e1, e2, e3⟩
   ·cases h
  ·rename_i p' q' e1 e2 e3
   split at h
   ·rename_i e; subst e; cases h; exact ⟨_, rfl, .inr e1, e2, e3⟩
   ·cases h
  ·cases h
 ·cases h
theorem Bt {n m : Nat} {c : Code} {Q : Exit -> Act -> World -> Prop} (h : c.wpIn Fence.wide n P Q a w) : c.wpIn Fence.wide m P Q a w := fun b k cs hro hb _ => h b k cs hro hb (room_wide _)
theorem CV {K : Kn} {W : World} {l : Nat} {o o' : Obj} (h : KRel K W) (hl : W.heap[l]? = some o) (hc : o.isCells = false) : KRel K (W.putObj l o') := fun b i x hx => by
 obtain ⟨c, e, f, h1, h2⟩ := h b i x hx
 refine ⟨c, e, f, (World.putObj_heap_other (fun hb => ?_)).trans h1, h2⟩
 subst hb
 rw [hl] at h1; cases h1; cases hc
def Qca {α : Type} (J : List α -> QeE -> Prop) (X : AExit -> List α -> QeE -> Prop) (l : List α) : AExit -> St -> Prop
 | .normal, s => ∃ H', s.le ⟨[], H'⟩ /\ J l H' /\ QaK H'
 | e, s => ∃ H', s.le ⟨[], H'⟩ /\ X e l H' /\ QaK H'
theorem LB {nt : Nat} {Q : AExit -> St -> Prop} {x : Opd} {p q : Nat} {body : ACode} {f : Nat} {caps : List D} {α : Type} {iv : α -> Int} {xs : List α} {fr : QeF} {H0 : QeE} (J : List α -> QeE -> Prop) (X : AExit -> List α -> QeE -> Prop)
  (hx : St.ev ⟨fr, H0⟩ x = some (.clo f caps)) (hcp : (caps.all fun d => !d.own) = true) (hit : IterOk P f caps iv xs) (hbig : LP fr) (h0 : J [] H0) (hno : QaK H0)
  (round : ∀ pre y H, J pre H -> pre.length < xs.length -> AW P nt body (Qca J X (pre ++ [y])) ⟨(q, .int .i64 (iv y)) :: (p, .int .i64 (iv y)) :: fr, H⟩)
  (done : ∀ H, J xs H -> Q .normal ⟨fr, H⟩) (exits : ∀ id pre H, pre <+: xs -> X (.exit id) pre H -> Q (.exit id) ⟨fr, H⟩) (rets : ∀ pre H, pre <+: xs -> X .ret pre H -> Q .ret ⟨fr, H⟩) :
  AW P nt (.rangeF x p q body) Q ⟨fr, H0⟩ := fun code E g a w hm hp hn hfl r => by
 cases code <;> simp only [Xh, QeK, reduceCtorEq] at hp
 case rangeFunc gv ps asg b =>
  obtain ⟨t, ht, e⟩ := QeG.1 hp
  have ht' : TU nt gv ps.toList asg (Xh P nt b) = some (x, p, q, body) := by
   obtain ⟨x', p', q', b'⟩ := t
   simp only [ACode.rangeF.injEq] at e
   obtain ⟨rfl, rfl, rfl, rfl⟩ := e
   exact ht
  obtain ⟨e1, e2, ⟨id, ops, rfl, e3⟩, e4, hpn, hqn, hfb⟩ := Ls ht'
  obtain ⟨hrd, n0, hbn, hbd0⟩ := hfl.resolve_right (by simp [ACode.flat])
  rw [hrd]
  have hps : ps = #[p] := by apply Array.ext'; simpa using e2
  subst hps
  obtain ⟨o, ho, hop, hodst, hog⟩ := LO e3
  obtain ⟨⟨lb, hv, hl⟩, _⟩ := Zk r e1 hx
  rw [hit.1.2, List.append_nil] at hl
  have hcaps : RepVs g.K caps lb := hl.to_vs hcp
  obtain ⟨dd, hd1, hd2, hd3⟩ := r.df.ex
  let a0 : Act := { tmps := a.tmps, defers := [] }
  have hbd : n0 <= w.heap.size := Qe0 hbd0 r.ext.1
  have hdd : ∀ D ∈ dd, D < w.heap.size := fun D hD => (Array.getElem?_eq_some_iff.1 (hd3 D hD).1).1
  have rL : Rel (Ly E g H0) g ⟨fr, H0⟩ a0 w := r.toL rfl rfl
  have hown : ∀ A : List α -> QeE -> Prop, OwnFrom w.heap.size (fun pre W => Inv (Ly E g H0) g fr a0 dd (A pre) W) := fun A s W W' row hs hg hr => hs.turn rfl r.ext.1 hdd hg hr
  have hsz : a.tmps.size = nt := r.nt.1.trans hn
  refine Bt (n := 2) (wpIn_rangeFunc_ownG (F := Fence.wide) (n := 2) rfl Wk (gf := f) (lb := lb.toArray) hv trivial (Lk hit.1.1) (hit.2 g.K w lb r.kr hcaps)
   (fun h k hh => k (h hh)) (fun W l o o' _ h1 h2 _ hk => CV hk h1 h2) (Below.refl _ _) (fun _ => rfl)
   (fun pre W => Inv (Ly E g H0) g fr a0 dd (J pre) W)
   (fun c pre W => match c with | .exit id => Inv (Ly E g H0) g fr a0 dd (X (.exit id) pre) W | .ret => Inv (Ly E g H0) g fr a0 dd (X .ret pre) W | _ => False)
   (hown J) (fun c => ?_) ⟨H0, g, h0, hno, Kn.le_refl _, rL, fun D hD => (hd3 D hD).1⟩
   (fun y => { tmps := (a.tmps.setIfInBounds p (.int .i64 (iv y))).setIfInBounds q (.int .i64 (iv y)), defers := [] }) ?_ ?_ ?_ ?_)
  ·intro s W W' row hs hg hr
   cases c <;> first | exact hs.elim | exact hown (X _) s W W' row hs hg hr
  ·-- the assignment
   intro l y W K hK
   have hops : ops = #[o] := by apply Array.ext'; simpa using ho
   subst hops
   refine wpIn_region ?_
   have hw : Region.wanted o (yielded #[o] (a.tmps.setIfInBounds p (.int .i64 (iv y)))) = true := by unfold Region.wanted; rw [hog]
   rw [show (Array.foldl (fun t x => match x with | (p, v) => t.setIfInBounds p v) a.tmps (#[p].zip #[Value.int IntKind.i64 (iv y)])) = a.tmps.setIfInBounds p (.int .i64 (iv y)) from by simp]
   rw [show List.range (#[o] : Array Oper).size = [0] from rfl]
   simp only [wpOpsIn]
   have h00 : (#[o] : Array Oper)[0]? = some o := rfl
   simp only [h00]
   rw [if_pos hw]
   refine Mc (rd := some l) (fun c hc => by rcases hop with h | h <;> rw [h] at hc <;> cases hc) ?_
   unfold Oper.wp
   have hev : Act.eval { tmps := a.tmps.setIfInBounds p (.int .i64 (iv y)), defers := [] } (.tmp p) = .int .i64 (iv y) := by
    show (a.tmps.setIfInBounds p (.int .i64 (iv y))).getD p Go.undef = _
    simp [hsz, hpn]
   have hrun : (execOp (Act.eval { tmps := a.tmps.setIfInBounds p (.int .i64 (iv y)), defers := [] }) o).run P W = .ok (.value (.int .i64 (iv y))) W := by
    rcases hop with h | h <;> simp [execOp, h, hev]
   rw [hrun, Oper.upon_value, hodst]
   exact hK
  ·-- one round
   rintro l pre y W ⟨H, g', hJ, hnH, hle, rW, hmk⟩ hlen
   have rW' : Rel (Ly E g H0) g' ⟨(q, .int .i64 (iv y)) :: (p, .int .i64 (iv y)) :: fr, H⟩ { tmps := (a.tmps.setIfInBounds p (.int .i64 (iv y))).setIfInBounds q (.int .i64 (iv y)), defers := [] } W := by
    have h1 := rW.put (t := p) (d := .int .i64 (iv y)) (v := .int .i64 (iv y)) (by show p < E.nt; rw [hn]; exact hpn) (Rep.of Wx) Wq
    exact h1.put (t := q) (d := .int .i64 (iv y)) (v := .int .i64 (iv y)) (by show q < E.nt; rw [hn]; exact hqn) (Rep.of Wx) Wq
   have rR := rW'.toR rfl l
   have hwp := round pre y H hJ hlen b (QbN (Ly E g H0) g' H W l) g' _ W hm e4 hn (.inr hfb) rR
   refine wpIn_mono (show b.wpIn (fen (some l)) 0 P _ _ W from hwp) ?_
   have fin : ∀ (A : QeE -> Prop) (a3 : Act) (W3 : World) (s' : St) (g3 : Gh), (∃ H', s'.le ⟨[], H'⟩ /\ A H' /\ QaK H') -> Rel (QbN (Ly E g H0) g' H W l) g3 s' a3 W3 -> KeepsFrom w.heap.size W W3 /\ (KRel g.K W -> KRel g.K W3) /\ Inv (Ly E g H0) g fr a0 dd A W3 := by
    rintro A a3 W3 s' g3 ⟨H', hle', hA, hnH'⟩ r3
    obtain ⟨g4, r4⟩ := hle' _ g3 a3 W3 r3
    have hk4 : g'.K.le g4.K := TY rW r4
    have hkeep : ∀ (k : Nat) (o : Obj), W.heap[k]? = some o -> o.isCells = false -> W3.heap[k]? = some o := fun k o hk hc => by
     refine (r4.ext.2.1 k (Array.getElem?_eq_some_iff.1 hk).1 ?_).trans hk
     rintro ⟨j, e, h1, h2⟩
     obtain ⟨bx, hb⟩ := QeN.1 h1
     obtain ⟨o2, p1, p2⟩ := (rW.bx j bx hb).cells (hnH j bx hb) h2
     rw [hk] at p1; cases p1; rw [hc] at p2; cases p2
    refine ⟨⟨r4.ext.1, fun k o _ hk hc => hkeep k o hk hc⟩, fun _ b0 i v hv => r4.kr b0 i v (hk4 _ _ _ (hle _ _ _ hv)), H', g4, hA, hnH', Kn.le_trans hle hk4, rW.endR hbig rfl (fun k hk => hk.1) r4, fun D hD => hkeep D _ (hmk D hD) rfl⟩
   intro e a3 W3 hq
   cases e <;> simp only [AQ] at hq
   ·obtain ⟨s', g3, hq, r3⟩ := hq
    obtain ⟨q1, q2, q3⟩ := fin _ a3 W3 s' g3 hq r3
    exact ⟨q1, q2, q3⟩
   ·obtain ⟨s', g3, hq, r3⟩ := hq
    obtain ⟨q1, _, q3⟩ := fin _ a3 W3 s' g3 hq r3
    exact ⟨q1, q3⟩
   ·obtain ⟨s', g3, hq, r3⟩ := hq
    obtain ⟨q1, _, q3⟩ := fin _ a3 W3 s' g3 hq r3
    exact ⟨q1, q3⟩
  ·-- all have come
   rintro D ys W hD rfl ⟨H, g', hJ, hnH, hle, rW, hmk⟩ hDf
   have hdf : DfOk E.bd { a with defers := { target := .collected D, args := #[] } :: a.defers } W := ⟨D :: dd, by simp [hd1], List.nodup_cons.2 ⟨fun h => by have := hdd D h; omega, hd2⟩, fun D' hD' => by
    rcases QeJ.1 hD' with rfl | h
    ·exact ⟨hDf, by rw [hbn]; exact Qe0 hbd hD⟩
    ·exact ⟨hmk D' h, (hd3 D' h).2⟩⟩
   exact ⟨⟨fr, H⟩, g', done H hJ, rW.ofL r.kp rfl hdf⟩
  ·-- a round has left
   rintro D c pre W hD hpre hI hDf
   have leave : ∀ (A : QeE -> Prop), Inv (Ly E g H0) g fr a0 dd A W -> ∃ H g', A H /\ Rel E g' ⟨fr, H⟩ { a with defers := { target := .collected D, args := #[] } :: a.defers } W := by
    rintro A ⟨H, g', hA, hnH, hle, rW, hmk⟩
    have hdf : DfOk E.bd { a with defers := { target := .collected D, args := #[] } :: a.defers } W := ⟨D :: dd, by simp [hd1], List.nodup_cons.2 ⟨fun h => by have := hdd D h; omega, hd2⟩, fun D' hD' => by
     rcases QeJ.1 hD' with rfl | h
     ·exact ⟨hDf, by rw [hbn]; exact Qe0 hbd hD⟩
     ·exact ⟨hmk D' h, (hd3 D' h).2⟩⟩
    exact ⟨H, g', hA, rW.ofL r.kp rfl hdf⟩
   cases c <;> first | exact hI.elim | skip
   ·rename_i id
    obtain ⟨H, g', hA, r'⟩ := leave _ hI
    exact wpIn_exit ⟨⟨fr, H⟩, g', exits id pre H hpre hA, r'⟩
   ·obtain ⟨H, g', hA, r'⟩ := leave _ hI
    exact wpIn_ret ⟨⟨fr, H⟩, g', rets pre H hpre hA, r'⟩
 all_goals ((repeat' split at hp) <;> first | (cases hp; done) | (obtain ⟨_, _, h⟩ := QeG.1 hp; cases h; done))
end
end Go.Abs
namespace Go.Abs
open Go Go.RowKit
/-! ### Iterators: code that calls its loop's yield. No own boxes; what a round may turn is not looked into but through what is known for good. -/
def D.kfree : D -> Bool
  | .int _ _ | .bool _ | .str _ | .val _ | .undef => true
  | _ => false
theorem DA {g g' : Gh} {d : D} {v : Value} (h : d.kfree = true) (hr : Rep g d v) : Rep g' d v := by
  cases d <;> simp only [D.kfree, QeP] at h <;> exact hr
theorem RH {d : D} (h : d.kfree = true) : d.ids = [] := by
  cases d <;> simp only [D.kfree, QeP] at h <;> rfl
section
variable {P : Program} {nt : Nat} {K : Kn} {α : Type} {iv : α -> Int} {l B N : Nat} {J : Bool -> List α -> World -> Prop}
structure Yc (P : Program) (K : Kn) {α : Type} (iv : α -> Int) (l B N : Nat) (J : Bool -> List α -> World -> Prop) : Prop where
  ab : ∀ t, AbidesFrom B (J t)
  yl : ∀ pre x W, J true pre W -> pre.length < N -> YieldAt Fence.wide 0 P l #[.int .i64 (iv x)] W fun e W' => (e = .returned (.bool true) /\ J true (pre ++ [x]) W' /\ (KRel K W -> KRel K W')) \/ (e = .returned (.bool false) /\ J false (pre ++ [x]) W')
def kOf (K : Kn) (t : Bool) : Kn := if t then K else fun _ _ => none
def QaB (nt : Nat) (w : World) (K : Kn) : Env := ⟨nt, w.heap.size, w, K, fun _ => False, fun _ => False, fun _ => none, fun _ => 0, none, none⟩
def JRel (nt : Nat) (K : Kn) (fr : QeF) (a : Act) (w : World) : Prop := ∃ g, K.le g.K /\ Rel (QaB nt w g.K) g ⟨fr, []⟩ a w
theorem JRel.of {E : Env} {g : Gh} {fr : QeF} {a : Act} {w : World} (r : Rel E g ⟨fr, []⟩ a w) (hn : E.nt = nt) (hb : a.defers = []) (hk : K.le g.K) : JRel nt K fr a w :=
  ⟨g, hk, ⟨⟨r.nt.1.trans hn, hn ▸ r.nt.2⟩, DfOk.nil hb, r.fr, r.wfF, (fun k b h => by cases h), (fun k b h => by cases h), (fun k k' b b' B e e' h => by cases h), r.kr, ⟨Nat.le_refl _, fun _ _ _ => rfl, SameFx.refl _⟩, fun _ _ _ => rfl, fun k h => h.elim⟩⟩
theorem JRel.krel {fr : QeF} {a : Act} {w : World} (h : JRel nt K fr a w) : KRel K w := by
  obtain ⟨g, hk, r⟩ := h
  exact fun b o x hx => r.kr b o x (hk _ _ _ hx)
theorem JRel.next {fr fr' : QeF} {a a' : Act} {w w' : World} {g g' : Gh} {t : Bool} {pre : List α} (hab : AbidesFrom B (J t)) (hk : K.le g.K) (r : Rel (QaB nt w g.K) g ⟨fr, []⟩ a w) (hJ : J t pre w) (r' : Rel (QaB nt w g.K) g' ⟨fr', []⟩ a' w') : JRel nt K fr' a' w' /\ J t pre w' := by
  refine ⟨JRel.of r' rfl r'.df.none (fun b o x hx => ?_), hab pre w w' none hJ ⟨r'.ext.2.2.1, r'.ext.2.2.2.1, r'.ext.2.2.2.2, r'.ext.1, fun k hk' _ => r'.ext.2.1 k hk' (fun h => h)⟩ (fun r e => by cases e)⟩
  rw [r'.kx b (r.kr.lt (hk _ _ _ hx)) (fun h => h)]; exact hk _ _ _ hx
theorem JRel.less {fr fr' : QeF} {a : Act} {w : World} (h : JRel nt K fr a w) (hf : ∀ t d, lk fr' t = some d -> lk fr t = some d) : JRel nt K fr' a w := by
  obtain ⟨g, h2, r⟩ := h
  exact ⟨g, h2, r.less hf (fun _ _ h => h) (fun t d h => r.wfF t d (hf t d h)) r.wfH (fun _ _ h => h)⟩
def FW (P : Program) (K : Kn) {α : Type} (iv : α -> Int) (l N : Nat) (o : AOper) (k : QeF -> Bool -> List α -> Prop) (fr : QeF) (t : Bool) (pre : List α) : Prop :=
    Qal P o (fun s => ∃ fr', s.le ⟨fr', []⟩ /\ k fr' t pre) ⟨fr, []⟩ \/
    (∃ u sz x b off v d, o = ⟨some u, .load false sz x, none⟩ /\ t = true /\ St.ev ⟨fr, []⟩ x = some (.val (.pointer (some ⟨b, off, none⟩))) /\ K b off = some v /\ d.kfree = true /\ RepP K d v /\ k ((u, d) :: fr) t pre) \/
    (∃ u x y gd z, o = ⟨some u, .callV x [y], gd⟩ /\ gw ⟨fr, []⟩ gd = some true /\ St.ev ⟨fr, []⟩ x = some (.val (.func (.yield l) #[] #[])) /\ St.ev ⟨fr, []⟩ y = some (.int .i64 (iv z)) /\ t = true /\ pre.length < N /\ (fr.all fun p => p.2.kfree) = true /\
      k ((u, .bool true) :: fr) true (pre ++ [z]) /\ k ((u, .bool false) :: fr) false (pre ++ [z]))
def QcN (P : Program) (K : Kn) {α : Type} (iv : α -> Int) (l N : Nat) : List AOper -> (QeF -> Bool -> List α -> Prop) -> QeF -> Bool -> List α -> Prop
  | [], k, fr, t, pre => k fr t pre
  | o :: r, k, fr, t, pre => FW P K iv l N o (fun fr' t' pre' => QcN P K iv l N r k fr' t' pre') fr t pre
def Qcv (P : Program) (K : Kn) {α : Type} (iv : α -> Int) (l N : Nat) (ops : Array Oper) (l' : List AOper) (k : QeF -> Bool -> List α -> Prop) : Nat -> Array Bool -> QeF -> Bool -> List α -> Prop
  | 0, listed, fr, t, pre => Region.ready .any ops listed = [] /\ k fr t pre
  | fuel + 1, listed, fr, t, pre =>
    (Region.ready .any ops listed = [] -> k fr t pre) /\
    ∀ i ∈ Region.ready .any ops listed, ∃ o', l'[i]? = some o' /\ FW P K iv l N o' (fun fr' t' pre' => Qcv P K iv l N ops l' k fuel (listed.setIfInBounds i true) fr' t' pre') fr t pre
theorem BI {p : D -> Bool} : ∀ {fr : QeF}, (fr.all fun q => p q.2) = true -> ∀ t d, lk fr t = some d -> p d = true
  | [], _, t, d, h => by cases h
  | (u, x) :: fr, hp, t, d, h => by
    simp only [List.all_cons, QeL] at hp
    rw [Qj] at h
    split at h
    · cases h; exact hp.1
    · exact BI hp.2 t d h
theorem DT {op : Op} {x : Opd} {asg : List Opd} (h : Yk P op = some (.callV x asg)) : ∃ c t, op = .call c /\ c.callee = .value (.tmp t) /\ x = .s t /\ ZA c.args.toList = some asg /\ t < 900000 := by
  cases op <;> simp only [Yk, reduceCtorEq] at h
  case call c =>
    unfold Xt at h
    split at h
    · unfold Jq at h; (repeat' split at h) <;> cases h
    · (repeat' split at h) <;> cases h
    · unfold Yi Xs at h; (repeat' split at h) <;> cases h
    · unfold Jp at h; (repeat' split at h) <;> cases h
    · obtain ⟨_, _, h⟩ := QeG.1 h; cases h
    · rename_i xs t hcal
      split at h
      case isFalse => cases h
      obtain ⟨asg', h1, h2⟩ := QeG.1 h
      cases h2
      exact ⟨c, t, rfl, hcal, rfl, h1, by assumption⟩
    · cases h
  all_goals
    first
      | (cases h; done)
      | (obtain ⟨_, _, h⟩ := QeG.1 h; cases h; done)
      | (simp only [Jo, YH, ZK, YG, Zz, Xu, ZW, Y4, Hk] at h
         (repeat' split at h) <;> first | (cases h; done) | (obtain ⟨_, _, h⟩ := QeG.1 h; cases h; done))
      | ((repeat' split at h) <;> first | (cases h; done) | (obtain ⟨_, _, h⟩ := QeG.1 h; cases h; done))
theorem NV {ops : Array Oper} {Q : Exit -> Act -> World -> Prop} {k : QeF -> Bool -> List α -> Prop} {Kc : Act -> World -> Prop} {o : Oper} {o' : AOper} {fr : QeF} {t : Bool} {pre : List α} {a : Act} {w : World} (hc : Yc P K iv l B N J) (hdst : ∀ (j : Nat) (o' : Oper), ops[j]? = some o' -> ∀ t, o'.dst = some t -> t < nt)
    (e1 : ZG P nt ops o = some o') (r : JRel nt (kOf K t) fr a w) (hJ : J t pre w) (h : FW P K iv l N o' k fr t pre) (hgo : ∀ fr' t' pre' a' w', JRel nt (kOf K t') fr' a' w' -> J t' pre' w' -> k fr' t' pre' -> Kc a' w') :
    if Region.wanted o (yielded ops a.tmps) = true then o.wpIn Fence.wide 0 P a w Kc Q else (∀ f, o.about P w a.eval = some f -> Fence.wide.fn f) /\ Kc (a.put o.dst undef) w := by
  obtain ⟨p1, p2, p3, p4⟩ := QU e1
  rcases h with h | ⟨u, sz, x, b, off, v, d, rfl, rfl, hx, hv, hd, hdv, h⟩ | ⟨u, x, y, gd, z, rfl, hg, hx, hy, rfl, hlen, hfree, h1, h2⟩
  · obtain ⟨g, hkg, rr⟩ := r
    have := TR (Q := Q) (E := QaB nt w g.K) (K' := Kc) rfl rr e1 hdst h fun s' g' a' w' r2 ⟨fr', hle, h2⟩ => by
      obtain ⟨g3, r3⟩ := hle _ g' a' w' r2
      obtain ⟨q1, q2⟩ := JRel.next (hc.ab t) hkg rr hJ r3
      exact hgo fr' t pre a' w' q1 q2 h2
    split
    · rename_i hw
      rw [if_pos hw] at this
      exact Mc (rd := none) (Ho p1) this
    · rename_i hw
      rw [if_neg hw] at this
      exact ⟨fun _ _ => trivial, this⟩
  · have hK := r.krel
    obtain ⟨g, hkg, rr⟩ := r
    have hw : Region.wanted o (yielded ops a.tmps) = true := by
      have : gw (⟨fr, []⟩ : St) none = some true := rfl
      exact XH rr p2 hdst true this
    rw [if_pos hw]
    refine Mc (rd := none) (Ho p1) ?_
    -- a load of what is known for good
    have hload : ∃ ty x0, o.op = .load ty x0 /\ P5 P ty = some false /\ Qu x0 = some x := by
      simp only at p1
      cases ho : o.op <;> rw [ho] at p1 <;> simp only [Yk, reduceCtorEq] at p1
      case load ty x0 =>
        split at p1
        · rename_i bb sz' x' q1 q2 q3
          cases p1; exact ⟨ty, x0, rfl, q1, q3⟩
        · cases p1
      all_goals
        first
          | (cases p1; done)
          | (obtain ⟨_, _, h⟩ := QeG.1 p1; cases h; done)
          | (simp only [Jo, YH, ZK, YG, Zz, Xu, Xt, Jq, Yi, Xs, Jp, ZW, Y4, Hk] at p1
             (repeat' split at p1) <;> first | (cases p1; done) | (obtain ⟨_, _, h⟩ := QeG.1 p1; cases h; done))
          | ((repeat' split at p1) <;> first | (cases p1; done) | (obtain ⟨_, _, h⟩ := QeG.1 p1; cases h; done))
    obtain ⟨ty, x0, ho, hty, hx0⟩ := hload
    have hval : a.eval x0 = .pointer (some ⟨b, off, none⟩) := by
      have := (Zk rr hx0 hx).1
      simp only [Rep, RepS, RepP] at this
      exact this.1
    obtain ⟨c, e, f, hc1, hc2⟩ := hK b off v hv
    have hcell := SA hc1 hc2
    unfold Oper.wp
    have hrun : (execOp a.eval o).run P w = .ok (.value v) w := by
      simp [execOp, ho, hval, Instr.loadAt, Instr.sureAddr, loadVar, Z4 hty, hcell]
    rw [hrun, Oper.upon_value]
    have hod : o.dst = some u := p3.symm
    rw [hod]
    have r2 : Rel (QaB nt w g.K) g ⟨(u, d) :: fr, []⟩ (a.put (some u) v) w := rr.put (t := u) (by show u < nt; exact p4 u hod) (Rep.of (hdv.mono hkg)) (by rw [RH hd]; simp)
    obtain ⟨q1, q2⟩ := JRel.next (hc.ab true) hkg rr hJ r2
    exact hgo _ true pre _ w q1 q2 h
  · have hK := r.krel
    obtain ⟨g, hkg, rr⟩ := r
    have hw : Region.wanted o (yielded ops a.tmps) = true := XH rr p2 hdst true hg
    rw [if_pos hw]
    obtain ⟨c, tt, ho, hcal, rfl, has, htt9⟩ := DT p1
    have hf : a.eval (.tmp tt) = .func (.yield l) #[] #[] := by
      have := rr.frT htt9 hx
      simp only [Rep, RepS, RepP] at this
      exact this.1
    have hargs : c.args.map a.eval = #[.int .i64 (iv z)] := by
      have e0 : (c.args.map a.eval) = (c.args.toList.map a.eval).toArray := by apply Array.ext'; simp
      rw [e0]
      cases hca : c.args.toList with
      | nil => rw [hca] at has; simp [ZA] at has
      | cons y0 ys =>
        rw [hca] at has
        simp only [ZA] at has
        split at has
        · rename_i y1 r1 q1 q2
          cases has
          have hys : ys = [] := by
            cases ys with
            | nil => rfl
            | cons y2 ys => simp only [ZA] at q2; split at q2 <;> cases q2
          subst hys
          have hy0 : a.eval y0 = .int .i64 (iv z) := JY rr q1 hy
          simp [hy0]
        · cases has
    obtain ⟨fn, tmps, assign, body, hyl, hR⟩ := hc.yl pre z w hJ hlen
    refine ⟨fun _ _ => trivial, ?_⟩
    have hrun : (o.semAt Fence.wide.round a.eval).run P w = .ok (.round l fn tmps assign body) w := by
      show (execOp a.eval o).run P w = _
      simp [execOp, ho, resolve, hcal, hf, Deferred.ofValue, invoke, hargs, hyl]
    rw [hrun, Oper.uponIn_round]
    have hod : o.dst = some u := p3.symm
    rw [hod]
    refine ⟨(fun hh => by cases hh), hR.mono ?_⟩
    have go2 : ∀ (tb : Bool) (W' : World), J tb (pre ++ [z]) W' -> (KRel (kOf K tb) W') -> k ((u, .bool tb) :: fr) tb (pre ++ [z]) -> Kc (a.put (some u) (.bool tb)) W' := fun tb W' hj hk' hh => by
      refine hgo _ tb _ _ W' ⟨⟨kOf K tb, fun _ => none, fun _ => 0⟩, Kn.le_refl _, ?_⟩ hj hh
      have hkf := BI hfree
      have r1 : Rel (QaB nt W' (kOf K tb)) ⟨kOf K tb, fun _ => none, fun _ => 0⟩ ⟨fr, []⟩ a W' := ⟨rr.nt, DfOk.nil rr.df.none, fun t d h => DA (hkf t d h) (rr.fr t d h), (fun t d h j hj => by rw [RH (hkf t d h)] at hj; cases hj), (fun k b h => by cases h), (fun k b h => by cases h), (fun k k' b b' B e e' h => by cases h), hk', ⟨Nat.le_refl _, fun _ _ _ => rfl, SameFx.refl _⟩, fun _ _ _ => rfl, fun k h => h.elim⟩
      exact r1.put (t := u) (by show u < nt; exact p4 u hod) (Rep.of Wx) Wq
    rintro e W' (⟨rfl, hj, hk'⟩ | ⟨rfl, hj⟩)
    · exact go2 true W' hj (hk' hK) h1
    · exact go2 false W' hj (fun b o x hx => by cases hx) h2
end
end Go.Abs
