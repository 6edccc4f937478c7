/- Part 4 of the means of the proof: a verified abstract evaluator, the prepared functions, and contracts of functions. It states nothing of the claim by itself. -/
import Derived.Test.YtgikdkfobdfmfaaGreatB3
set_option maxRecDepth 4000
set_option linter.unusedSimpArgs false
set_option linter.unusedVariables false
namespace M25
open Go Go.Abs M3
def MJ (a b c : Int) : Bool := decide (a = 0) && decide (b = 0) && decide (c = 0)
def X4 (a b c : Int) (p q : List UInt8) (part : Int) : Option (Int × Int × Int) :=
 if JT a b c p q = false \/ part < 0 \/ 2 < part then none
 else
  let o := if part = 0 then (a + 1, 0, 0) else if part = 1 then (a, b + 1, 0) else (a, b, c + 1)
  if JT o.1 o.2.1 o.2.2 [] [] = true then some o else none
def dOV (o : Option (Int × Int × Int)) : D := .tup [.agg [.int .i64 (o.getD (0, 0, 0)).1, .int .i64 (o.getD (0, 0, 0)).2.1, .int .i64 (o.getD (0, 0, 0)).2.2, .str [], .str []], .bool o.isSome]
def XA (a b c : Int) (p q : List UInt8) : Nat -> Option (Int × Int × Int)
 | 0 => none
 | n + 1 => if (X4 a b c p q n).isSome = true then X4 a b c p q n else XA a b c p q n
def RB (a b c : Int) (p q : List UInt8) : Option (Int × Int × Int) :=
 if JT a b c p q = false then none else if p ≠ [] then some (a, b, c) else XA a b c p q 3
theorem Hv {a b c : Int} {p q : List UInt8} (h : JT a b c p q = true) : (0 <= a /\ a <= 9999) /\ (0 <= b /\ b <= 9999) /\ (0 <= c /\ c <= 9999) := by
 simp only [JT, Mk, Qez, decide_eq_true_eq] at h
 omega
theorem R6 {a b c : Int} {p q : List UInt8} {m : Nat} (hm : 0 < m) (h : (X4 a b c p q ((m : Int) - 1)).isSome = false) : XA a b c p q m = XA a b c p q (m - 1) := by
 obtain ⟨n, rfl⟩ : ∃ n, m = n + 1 := ⟨m - 1, Wa⟩
 rw [show ((n + 1 : Nat) : Int) - 1 = (n : Int) by omega] at h
 rw [XA, if_neg (by rw [h]; simp)]; rfl
theorem P5 {a b c : Int} {p q : List UInt8} {m : Nat} (hm : 0 < m) (h : (X4 a b c p q ((m : Int) - 1)).isSome = true) : XA a b c p q m = X4 a b c p q ((m : Int) - 1) := by
 obtain ⟨n, rfl⟩ : ∃ n, m = n + 1 := ⟨m - 1, Wa⟩
 rw [show ((n + 1 : Nat) : Int) - 1 = (n : Int) by omega] at h ⊢
 rw [XA, if_pos h]
def dCu (x : Cu) : List D := [.int .i64 x.e, .int .i64 x.a, .int .i64 x.b, .int .i64 x.c, .str x.p, .str x.q, .bool x.f]
def FI (s : Cu × Cu) : List D := dCu s.1 ++ dCu s.2
def ZN (l : List (Cu × Cu)) : D := .sl (l.map FI)
def PO (s : List (Cu × Cu) × List (Cu × Cu)) : D := .agg [ZN s.1, ZN s.2]
def HQ : Cu := ⟨-1, 0, 0, 0, [], [], false⟩
def Mi : Cu := ⟨1, 0, 0, 0, [], [], false⟩
def NM (a b c : Int) : Cu := if MJ a b c = true then HQ else ⟨0, a, b, c, [], [], false⟩
def GJ (a b c : Int) : Cu := match RB a b c [] [] with
 | none => Mi
 | some o => ⟨0, o.1, o.2.1, o.2.2, [], [], false⟩
def Y2 (a b c : Int) (p q : List UInt8) : List (Cu × Cu) × List (Cu × Cu) :=
 if JT a b c p q = false then ([], []) else if p ≠ [] then ([], [(⟨0, a, b, c, p, [], false⟩, ⟨0, a, b, c, p, [], true⟩)]) else ([(NM a b c, GJ a b c)], [])
def MK (e a b c : Int) (p q : List UInt8) (f : Bool) : Bool := !decide (e = 0) || (!f && decide (p = []) && !MJ a b c)
def Cu.sm (x : Cu) : Prop := x.p.length <= 1000000 /\ x.q.length <= 1000000
def Sm (l : List (Cu × Cu)) : Prop := l.length <= 1000000 /\ ∀ s ∈ l, Cu.sm s.1 /\ Cu.sm s.2
theorem Sm.at {l : List (Cu × Cu)} (h : Sm l) {i : Nat} (hi : i < l.length) : (l[i].1.p.length <= 1000000 /\ l[i].1.q.length <= 1000000) /\ (l[i].2.p.length <= 1000000 /\ l[i].2.q.length <= 1000000) := h.2 _ (QeA hi)
def GL (s : Cu × Cu) : Bool := Pq s.1.e s.1.a s.1.b s.1.c s.1.p s.1.q s.1.f s.2.e s.2.a s.2.b s.2.c s.2.p s.2.q s.2.f
def Kr (x y : Cu) : Int := Kp x.e x.a x.b x.c x.p x.q x.f y.e y.a y.b y.c y.p y.q y.f
def QaJ (l : List (Cu × Cu)) (i : Nat) : Bool := match l[i]? with
 | none => true
 | some s => GL s && (decide (i = 0) || match l[i - 1]? with | none => true | some r => decide (Kr r.2 s.1 < 0))
theorem Dj {l : List (Cu × Cu)} {i : Nat} (h : i < l.length) : QaJ l i = (GL l[i] && (decide (i = 0) || decide (Kr (l[i - 1]'Wa).2 l[i].1 < 0))) := by
 unfold QaJ
 rw [List.getElem?_eq_getElem h, List.getElem?_eq_getElem (Wa : i - 1 < l.length)]
theorem Bo {l : List (Cu × Cu)} {i : Nat} (h : i < l.length) (h1 : GL l[i] = true) (h2 : i = 0 \/ Kr (l[i - 1]'Wa).2 l[i].1 < 0) : QaJ l i = true := by
 rw [Dj h, h1]; simpa using h2
theorem MM {l : List (Cu × Cu)} {i : Nat} (h : i < l.length) (h1 : GL l[i] = false \/ (i ≠ 0 /\ 0 <= Kr (l[i - 1]'Wa).2 l[i].1)) : QaJ l i = false := by
 rw [Dj h]
 rcases h1 with h1 | ⟨h1, h2⟩
 ·rw [h1]; rfl
 ·simp only [QeI, Bool.or_eq_false_iff, decide_eq_false_iff_not]
  exact .inr ⟨h1, Wa⟩
def NN (l : List (Cu × Cu)) : Bool := (List.range l.length).all (QaJ l)
theorem JE {n i : Nat} {p : Nat -> Bool} (h : i < n) (hp : p i = false) : (List.range n).all p = false := by
 rw [Bool.eq_false_iff]; intro ha
 rw [QeF] at ha
 rw [ha i (QeS.2 h)] at hp; cases hp
theorem F0 {i : Nat} {p : Nat -> Bool} (h : (List.range i).all p = true) (hp : p i = true) : (List.range (i + 1)).all p = true := by
 rw [List.range_succ, List.all_append, h]; simp [hp]
theorem Px {i : Nat} {p : Nat -> Bool} {n : Nat} (h : (List.range i).all p = true) (hn : n <= i) : (List.range n).all p = true := by
 rw [QeF] at h ⊢
 exact fun x hx => h x (QeS.2 (Nat.lt_of_lt_of_le (QeS.1 hx) hn))
def Qac (s : Cu × Cu) (a b c : Int) (p q : List UInt8) : Bool := Qbn s.1.e s.1.a s.1.b s.1.c s.1.p s.1.q s.1.f s.2.e s.2.a s.2.b s.2.c s.2.p s.2.q s.2.f a b c p q
def Qbm (l : List (Cu × Cu)) (a b c : Int) (p q : List UInt8) : Bool := NN l && l.any fun s => Qac s a b c p q
def inC (x y : Cu) (s : Cu × Cu) : Bool := decide (Kr s.1 x <= 0) && decide (Kr y s.2 <= 0)
theorem Qbg {x y : Cu} {s : Cu × Cu} (h1 : Kr s.1 x <= 0) (h2 : Kr y s.2 <= 0) : inC x y s = true := by simp [inC, h1, h2]
theorem Qbf {x y : Cu} {s : Cu × Cu} (h : ¬ Kr s.1 x <= 0 \/ ¬ Kr y s.2 <= 0) : inC x y s = false := by
 simp only [inC, QeI, decide_eq_false_iff_not]; exact h
def mIn (l : List (Cu × Cu)) (x y : Cu) : Bool := l.any (inC x y)
theorem R3 {α : Type} {s : List α} {p : α -> Bool} {i : Nat} (h : i < s.length) (hp : p s[i] = true) : s.any p = true := List.any_eq_true.2 ⟨_, QeA h, hp⟩
theorem C6 {α : Type} {s : List α} {p : α -> Bool} {i : Nat} (hi : s.length <= i) (h : (s.take i).any p = false) : s.any p = false := by rwa [QeL hi] at h
theorem Mu {α : Type} {s : List α} {p : α -> Bool} {i : Nat} (h : i < s.length) (ha : (s.take i).any p = false) (hp : p s[i] = false) : (s.take (i + 1)).any p = false := by
 rw [List.take_succ_eq_append_getElem h, List.any_append, ha]; simp [hp]
def Kz (x : Cu) : Bool := MK x.e x.a x.b x.c x.p x.q x.f
def Jk (s : List (Cu × Cu) × List (Cu × Cu)) : Bool := NN s.1 && NN s.2 && s.1.all fun x => Kz x.1 && Kz x.2
def Qcc (s : List (Cu × Cu) × List (Cu × Cu)) (a b c : Int) (p q : List UInt8) : Bool :=
 Jk s && JT a b c p q && (if p = [] then Qbm s.1 a b c p q else Qbm s.2 a b c p q)
theorem JQ {s : List (Cu × Cu) × List (Cu × Cu)} (h : NN s.1 = false \/ NN s.2 = false) : Jk s = false := by
 rw [Jk]; rcases h with h | h <;> simp [h]
theorem JP {s : List (Cu × Cu) × List (Cu × Cu)} {i : Nat} (hi : i < s.1.length) (h : Kz s.1[i].1 = false \/ Kz s.1[i].2 = false) : Jk s = false := by
 have : (s.1.all fun x => Kz x.1 && Kz x.2) = false := Yj hi (by rcases h with h | h <;> simp [h])
 rw [Jk, this, Bool.and_false]
theorem GP {s : List (Cu × Cu) × List (Cu × Cu)} {i : Nat} (h1 : NN s.1 = true) (h2 : NN s.2 = true) (hi : s.1.length <= i) (h : (s.1.take i).all (fun x => Kz x.1 && Kz x.2) = true) : Jk s = true := by
 rw [QeL hi] at h
 rw [Jk, h1, h2, h]; rfl
def M5 (l : List Cu) : D := .sl (l.map dCu)
theorem RL {l : List Cu} : ∀ r ∈ l.map dCu, r.length = 7 := fun r hr => by obtain ⟨x, _, rfl⟩ := QeJ.1 hr; rfl
theorem CS {l : List Cu} {a b : Nat} : ∀ r ∈ ((l.map dCu).take a).drop b, r.length = 7 := fun r hr => RL r (QeP (List.mem_of_mem_drop hr))
def Ha : List Cu -> Cu -> List Cu
 | [], c => [c]
 | x :: r, c => if Kr x c < 0 then x :: Ha r c else if Kr x c = 0 then x :: r else c :: x :: r
theorem Da {l : List Cu} {c : Cu} {k : Nat} (hk : k < l.length) (h : Kr l[k] c < 0) (hi : Ha l c = l.take k ++ Ha (l.drop k) c) : Ha l c = l.take (k + 1) ++ Ha (l.drop (k + 1)) c := by
 rw [hi, QeM hk, Ha, if_pos h, List.take_succ_eq_append_getElem hk, List.append_assoc]; rfl
theorem L9 {l : List Cu} {c : Cu} {k : Nat} (hk : k < l.length) (h : Kr l[k] c = 0) (hi : Ha l c = l.take k ++ Ha (l.drop k) c) : Ha l c = l := by
 rw [hi, QeM hk, Ha, if_neg Wa, if_pos h, <- QeM hk, List.take_append_drop]
theorem Tr {l : List Cu} {c : Cu} {k : Nat} (h : l.length <= k \/ ∃ hk : k < l.length, ¬ Kr l[k] c < 0 /\ Kr l[k] c ≠ 0) (hi : Ha l c = l.take k ++ Ha (l.drop k) c) : Ha l c = l.take k ++ c :: l.drop k := by
 rw [hi]
 rcases h with h | ⟨hk, h1, h2⟩
 ·rw [QeQ h, Ha]
 ·rw [QeM hk, Ha, if_neg h1, if_neg h2]
theorem FW : ∀ (l : List Cu) (c : Cu), (Ha l c).length <= l.length + 1
 | [], c => by simp [Ha]
 | x :: r, c => by
  have := FW r c
  simp only [Ha]
  (repeat' split) <;> simp <;> omega
theorem Pp : ∀ {l : List Cu} {c : Cu}, (∀ x ∈ l, Cu.sm x) -> Cu.sm c -> ∀ x ∈ Ha l c, Cu.sm x
 | [], c, _, hc, x, hx => by simp [Ha] at hx; exact hx ▸ hc
 | y :: r, c, hl, hc, x, hx => by
  simp only [Ha] at hx
  split at hx
  ·rcases Qex.1 hx with rfl | hx
   ·exact hl _ Wg
   ·exact Pp (fun z hz => hl z (by simp [hz])) hc x hx
  ·split at hx
   ·exact hl x hx
   ·rcases Qex.1 hx with rfl | hx
    ·exact hc
    ·exact hl x hx
def YW (l : List (Cu × Cu)) : List Cu := l.foldl (fun out s => Ha (Ha out s.1) s.2) [HQ, Mi]
theorem CD {l : List (Cu × Cu)} {i : Nat} (h : i < l.length) : YW (l.take (i + 1)) = Ha (Ha (YW (l.take i)) l[i].1) l[i].2 := by
 rw [List.take_succ_eq_append_getElem h, YW, List.foldl_append]; rfl
theorem MG : ∀ (l : List (Cu × Cu)) (out : List Cu), (l.foldl (fun out s => Ha (Ha out s.1) s.2) out).length <= out.length + 2 * l.length
 | [], out => by simp
 | s :: l, out => by
  have h1 := FW out s.1
  have h2 := FW (Ha out s.1) s.2
  have := MG l (Ha (Ha out s.1) s.2)
  simp only [List.foldl_cons, List.length_cons]; omega
theorem K5 (l : List (Cu × Cu)) : (YW l).length <= 2 + 2 * l.length := MG l _
theorem Ry : ∀ {l : List (Cu × Cu)} {out : List Cu}, (∀ s ∈ l, Cu.sm s.1 /\ Cu.sm s.2) -> (∀ x ∈ out, Cu.sm x) -> ∀ x ∈ l.foldl (fun out s => Ha (Ha out s.1) s.2) out, Cu.sm x
 | [], _, _, h => h
 | s :: l, out, hl, h => by
  rw [List.foldl_cons]
  exact Ry (fun t ht => hl t (by simp [ht])) (Pp (Pp h (hl s Wg).1) (hl s Wg).2)
theorem To {l : List (Cu × Cu)} (hl : ∀ s ∈ l, Cu.sm s.1 /\ Cu.sm s.2) : ∀ x ∈ YW l, Cu.sm x := Ry hl (by
 intro x hx
 simp only [Qex, Qew, or_false] at hx
 rcases hx with rfl | rfl <;> exact ⟨QeH _, QeH _⟩)
theorem FV {l : List (Cu × Cu)} (hl : Sm l) (i : Nat) : (YW (l.take i)).length <= 2000002 /\ ∀ x ∈ YW (l.take i), Cu.sm x := by
 refine ⟨?_, To fun s hs => hl.2 s (QeP hs)⟩
 have := K5 (l.take i)
 have h2 : (l.take i).length <= l.length := List.length_take_le' ..
 have := hl.1
 omega
def K8 (l : List (Cu × Cu)) (x y : Cu) : List (Cu × Cu) := match l.getLast? with
 | some s => if Kr s.2 x = 0 then l.dropLast ++ [(s.1, y)] else l ++ [(x, y)]
 | none => l ++ [(x, y)]
theorem Rz {l : List (Cu × Cu)} {x y : Cu} {i : Nat} (hi : i + 1 = l.length) (h : Kr (l[i]'Wa).2 x = 0) : K8 l x y = l.set i ((l[i]'Wa).1, y) := by
 have hg : l.getLast? = some (l[i]'Wa) := by
  rw [List.getLast?_eq_getElem?, show l.length - 1 = i by omega, List.getElem?_eq_getElem]
 rw [K8, hg]
 simp only [h, if_true]
 rw [List.dropLast_eq_take, show l.length - 1 = i by omega, List.set_eq_take_append_cons_drop, if_pos Wa, QeQ Wa]
theorem GK {l : List (Cu × Cu)} {x y : Cu} (h : l = [] \/ ∃ i, ∃ hi : i + 1 = l.length, Kr (l[i]'Wa).2 x ≠ 0) : K8 l x y = l ++ [(x, y)] := by
 rcases h with rfl | ⟨i, hi, h⟩
 ·rfl
 ·have hg : l.getLast? = some (l[i]'Wa) := by
   rw [List.getLast?_eq_getElem?, show l.length - 1 = i by omega, List.getElem?_eq_getElem]
  rw [K8, hg]
  simp only [if_neg h]
theorem RA (l : List (Cu × Cu)) (x y : Cu) : (K8 l x y).length <= l.length + 1 := by
 unfold K8
 split
 ·split
  ·simp
  ·simp
 ·simp
theorem Tp {l : List (Cu × Cu)} {x y : Cu} (hl : ∀ s ∈ l, Cu.sm s.1 /\ Cu.sm s.2) (hx : Cu.sm x) (hy : Cu.sm y) : ∀ s ∈ K8 l x y, Cu.sm s.1 /\ Cu.sm s.2 := by
 intro s hs
 unfold K8 at hs
 split at hs
 ·rename_i t ht
  have ht' := List.mem_of_getLast? ht
  split at hs
  ·rcases QeG.1 hs with hs | hs
   ·exact hl s (List.dropLast_subset _ hs)
   ·simp at hs; subst hs; exact ⟨(hl t ht').1, hy⟩
  ·rcases QeG.1 hs with hs | hs
   ·exact hl s hs
   ·simp at hs; subst hs; exact ⟨hx, hy⟩
 ·rcases QeG.1 hs with hs | hs
  ·exact hl s hs
  ·simp at hs; subst hs; exact ⟨hx, hy⟩
theorem Ti {α β : Type} {l : List α} {f : α -> β} {i : Nat} (h : i + 1 < l.length) : (l.map f)[((i : Int) + 1).toNat]? = some (f l[i + 1]) := by
 rw [show ((i : Int) + 1).toNat = i + 1 by omega, List.getElem?_map, List.getElem?_eq_getElem h]; rfl
def K6 (f : Cu -> Cu -> Bool) : List Cu -> List (Cu × Cu) -> List (Cu × Cu)
 | x :: y :: r, out => K6 f (y :: r) (if f x y = true then K8 out x y else out)
 | _, out => out
def Sr (l : List (Cu × Cu)) : List (Cu × Cu) := if l.all GL = true then K6 (mIn l) (YW l) [] else []
theorem MH {f : Cu -> Cu -> Bool} {c : List Cu} {out : List (Cu × Cu)} {i : Nat} (h : i + 1 < c.length) : K6 f (c.drop i) out = K6 f (c.drop (i + 1)) (if f c[i] c[i + 1] = true then K8 out c[i] c[i + 1] else out) := by
 rw [QeM (Wa : i < c.length), QeM h, K6]
theorem L8 {f : Cu -> Cu -> Bool} {c : List Cu} {out : List (Cu × Cu)} {i : Nat} (h : c.length <= i + 1) : K6 f (c.drop i) out = out := by
 have : (c.drop i).length <= 1 := by simp; omega
 match hd : c.drop i with
 | [] => rfl
 | [x] => rfl
 | x :: y :: r => rw [hd] at this; simp at this
def FillI (f : Cu -> Cu -> Bool) (c : List Cu) (i : Nat) (out : List (Cu × Cu)) : Prop :=
 out.length <= i /\ (∀ s ∈ out, Cu.sm s.1 /\ Cu.sm s.2) /\ K6 f c [] = K6 f (c.drop i) out
theorem FillI.zero {f : Cu -> Cu -> Bool} {c : List Cu} : FillI f c 0 [] := ⟨QeH _, by simp, by simp⟩
theorem FillI.take {f : Cu -> Cu -> Bool} {c : List Cu} {i : Nat} {out : List (Cu × Cu)} (h : FillI f c i out) (hc : ∀ x ∈ c, Cu.sm x) (hi : i + 1 < c.length) (ht : f c[i] c[i + 1] = true) : FillI f c (i + 1) (K8 out c[i] c[i + 1]) := by
 obtain ⟨h1, h2, h3⟩ := h
 refine ⟨QeO (RA ..) Wa, Tp h2 (hc _ (QeA _)) (hc _ (QeA _)), ?_⟩
 rw [h3, MH hi, if_pos ht]
theorem FillI.skip {f : Cu -> Cu -> Bool} {c : List Cu} {i : Nat} {out : List (Cu × Cu)} (h : FillI f c i out) (hi : i + 1 < c.length) (ht : f c[i] c[i + 1] = false) : FillI f c (i + 1) out := by
 obtain ⟨h1, h2, h3⟩ := h
 exact ⟨Wa, h2, by rw [h3, MH hi, if_neg (by rw [ht]; simp)]⟩
theorem FillI.done {f : Cu -> Cu -> Bool} {c : List Cu} {i : Nat} {out : List (Cu × Cu)} (h : FillI f c i out) (hi : c.length <= i + 1) : K6 f c [] = out := by rw [h.2.2, L8 hi]
theorem YB {l : List (Cu × Cu)} (hl : Sm l) : ∀ x ∈ YW l, Cu.sm x := To hl.2
def Bk (a b : List (Cu × Cu)) : List (Cu × Cu) := if NN a = true /\ NN b = true then Sr (a ++ b) else []
def Ss (a : List (Cu × Cu)) : List (Cu × Cu) := if NN a = true then K6 (fun x y => !mIn a x y) (YW a) [] else []
theorem Br {l : List (Cu × Cu)} : ∀ r ∈ l.map FI, r.length = 14 := fun r hr => by obtain ⟨x, _, rfl⟩ := QeJ.1 hr; rfl
theorem Sm.app {a b : List (Cu × Cu)} (ha : Sm a) (hb : Sm b) (h : a.length + b.length <= 1000000) : Sm (a ++ b) := by
 refine ⟨by simp; omega, fun s hs => ?_⟩
 rcases QeG.1 hs with hs | hs
 ·exact ha.2 s hs
 ·exact hb.2 s hs
theorem Qcb {H : Qes} {S : Nat -> Bool} {k n : Nat} {b : Box} (hS : S k = true) (hb : lk H k = some b) (hp : b.pr = true) (hn : n = b.rows.length) : (D.osl k n).fz H S = .sl b.rows := by
 simp only [D.fz, D.fzS, hS, hb, if_true, hp, hn, and_self]
abbrev N9 := List (Cu × Cu) × List (Cu × Cu)
def D2 (a b : N9) : N9 := if Jk a = true /\ Jk b = true then (Bk a.1 b.1, Bk a.2 b.2) else ([], [])
def NO (a : N9) : N9 := if Jk a = true then (Ss a.1, Ss a.2) else ([], [])
def mPl (v n : Int) : Int := if n < 1 then 0 else NQ v n
theorem FC {v n : Int} : 0 <= mPl v n := by
 unfold mPl; split
 ·omega
 ·exact CN Wa
theorem NP {v n : Int} (h : 1 <= n) : mPl v n < n := by
 rw [mPl, if_neg Wa]; exact CM Wa
def PQ (l : List Int) (i : Int) : Int := if i < 0 \/ (l.length : Int) <= i then i.tmod 3 else l.getD i.toNat 0
theorem L7 {l : List Int} {i : Int} (h0 : 0 <= i) (h : i < l.length) : PQ l i = l[i.toNat]'Wa := by
 rw [PQ, if_neg Wa, List.getD_eq_getElem?_getD, List.getElem?_eq_getElem Wa]; rfl
def I64 (x : Int) : Prop := -9223372036854775808 <= x /\ x <= 9223372036854775807
theorem Tn {l : List Int} {i : Int} (hl : ∀ x ∈ l, I64 x) (hi : I64 i) : I64 (PQ l i) := by
 by_cases h : i < 0 \/ (l.length : Int) <= i
 ·rw [PQ, if_pos h]
  have h1 := Int.tmod_lt_of_pos i (Wa : (0 : Int) < 3)
  have h2 := Int.lt_tmod_of_pos i (Wa : (0 : Int) < 3)
  exact ⟨Wa, Wa⟩
 ·rw [L7 Wa Wa]
  exact hl _ (QeA _)
theorem RY (x : Int) : I64 (IntKind.i64.wrap x) := by
 unfold IntKind.wrap I64
 simp only [IntKind.bits, IntKind.signed, Bool.true_and]
 split
 ·rename_i h
  have := of_decide_eq_true h
  omega
 ·rename_i h
  have : ¬ (x % 2 ^ 64 >= 2 ^ (64 - 1)) := fun hh => h (decide_eq_true hh)
  omega
theorem Fk {α : Type} {k : Nat} {v : α} {l : List (Nat × α)} : lk ((k, v) :: l) k = some v := by rw [Qk, if_pos rfl]
theorem FU {α : Type} {k : Nat} {v : α} {l : List (Nat × α)} : (lk ((k, v) :: l) k).isSome = true := by rw [Fk]; rfl
def gB (L : List Int) (I : Int) (et : Nat) : Box := ⟨[[Zg L, .int .i64 I]], 2, et, true⟩
def nxI (I : Int) : Int := IntKind.i64.wrap (I + 1)
def nx (L : List Int) (I n : Int) : Int := mPl (PQ L (IntKind.i64.wrap (nxI I - 1))) n
def RD (h m : Int) : Int := if KX .and .i64 h m = h then 2 else if KX .and .i64 h m = 0 then 0 else 1
theorem Dn {i : Nat} (h : i <= 62) : 1 <= (2 : Int) ^ i /\ (2 : Int) ^ i <= 4611686018427387904 := by
 have h1 : (2 : Nat) ^ i <= 2 ^ 62 := Nat.pow_le_pow_right Wa h
 have h2 : 1 <= (2 : Nat) ^ i := Nat.one_le_two_pow
 have h3 : ((2 ^ i : Nat) : Int) = (2 : Int) ^ i := by simp
 rw [<- h3]
 have h4 : (2 : Nat) ^ 62 = 4611686018427387904 := by decide
 omega
structure Vr where
 a : Int
 b : Int
 c : Int
 p : List UInt8
 q : List UInt8
def dVr (v : Vr) : List D := [.int .i64 v.a, .int .i64 v.b, .int .i64 v.c, .str v.p, .str v.q]
def Vr.sm (v : Vr) : Prop := v.p.length <= 100 /\ v.q.length <= 100
def versions : List Vr := [⟨1, 0, 0, [], []⟩, ⟨1, 2, 0, [], []⟩, ⟨2, 0, 0, [97, 46, 49], []⟩, ⟨2, 0, 0, [], []⟩]
theorem SL : ∀ v ∈ versions, v.sm := by
 intro v hv
 simp only [versions, Qex, Qew, or_false] at hv
 rcases hv with rfl | rfl | rfl | rfl <;> exact ⟨by decide, by decide⟩
theorem GS {i : Nat} : ((i : Int) - 1).toNat = i - 1 := Wa
end M25
namespace Go.Proofs
open Go Go.Abs M3 M25
theorem Jb {a b c : Int} {p q : List UInt8} : Ok Tryz.prog 84 [.agg [.int .i64 a, .int .i64 b, .int .i64 c, .str p, .str q]] (.agg [.int .i64 a, .int .i64 b, .int .i64 c, .str p, .str []]) := by
 refine Ok.ofT ZR Tryz.func84 Qec (Qev Z) ?_
 show TW _ _ tf84.body _ _
 refine Qb fun K hK => ZC Z Z Z (ZE Z (kc2 hK Z Z ?_))
 refine Qb fun K hK => Qf Z Z (QT Z Z Z Z Z Z Z Z (kc2 hK Z Z ?_))
 refine Qb fun K hK => QL (cs := [_, _, _, _, _]) Z Z Z Z (QT Z Z Z Z Z Z Z Z (kc1 hK Z ?_))
 refine Qr (ZB (cs := [_, _, _, _, _]) Z Z Z Z ?_)
 exact rfl
theorem Y1  : Ok Tryz.prog 86 [] (.agg [.int .i64 (-1), .int .i64 0, .int .i64 0, .int .i64 0, .str [], .str [], .bool false]) := by
 refine Ok.ofT ZR Tryz.func86 Qee (Qev Z) ?_
 show TW _ _ tf86.body _ _
 refine Qb fun K hK => ZE Z (kc1 hK Z ?_)
 refine Qb fun K hK => Q0 Z Z (QT Z Z Z Z Z Z Z Z (kc1 hK Z ?_))
 refine Qr (ZB (cs := [_, _, _, _, _, _, _]) Z Z Z Z ?_)
 exact rfl
theorem Xc  : Ok Tryz.prog 88 [] (.agg [.int .i64 1, .int .i64 0, .int .i64 0, .int .i64 0, .str [], .str [], .bool false]) := by
 refine Ok.ofT ZR Tryz.func88 Qeg (Qev Z) ?_
 show TW _ _ tf88.body _ _
 refine Qb fun K hK => ZE Z (kc1 hK Z ?_)
 refine Qb fun K hK => Q0 Z Z (QT Z Z Z Z Z Z Z Z (kc1 hK Z ?_))
 refine Qr (ZB (cs := [_, _, _, _, _, _, _]) Z Z Z Z ?_)
 exact rfl
theorem YM {a b c : Int} {p q : List UInt8} : Ok Tryz.prog 62 [.agg [.int .i64 a, .int .i64 b, .int .i64 c, .str p, .str q]] (.agg [.int .i64 0, .int .i64 a, .int .i64 b, .int .i64 c, .str p, .str [], .bool false]) := by
 refine Ok.ofT ZR Tryz.func62 QdQ (Qev Z) ?_
 show TW _ _ tf62.body _ _
 refine Qb fun K hK => ZC Z Z Z (ZE Z (kc2 hK Z Z ?_))
 refine Qb fun K hK => QL (cs := [_, _, _, _, _]) Z Z Z Z (QC (Jb) Z Z (.inl Z) (Q0 Z Z (QT Z Z Z Z Z Z Z Z (kc1 hK Z ?_))))
 refine Qr (ZB (cs := [_, _, _, _, _, _, _]) Z Z Z Z ?_)
 exact rfl
theorem KR {a b c : Int} {p q : List UInt8} : Ok Tryz.prog 63 [.agg [.int .i64 a, .int .i64 b, .int .i64 c, .str p, .str q]] (.agg [.int .i64 0, .int .i64 a, .int .i64 b, .int .i64 c, .str p, .str [], .bool true]) := by
 refine Ok.ofT ZR Tryz.func63 QdR (Qev Z) ?_
 show TW _ _ tf63.body _ _
 refine Qb fun K hK => ZC Z Z Z (ZE Z (kc2 hK Z Z ?_))
 refine Qb fun K hK => QL (cs := [_, _, _, _, _]) Z Z Z Z (QC (Jb) Z Z (.inl Z) (Q0 Z Z (QT Z Z Z Z Z Z Z Z (kc1 hK Z ?_))))
 refine Qr (ZB (cs := [_, _, _, _, _, _, _]) Z Z Z Z ?_)
 exact rfl
theorem XU {a b c : Int} {p q : List UInt8} : Ok Tryz.prog 85 [.agg [.int .i64 a, .int .i64 b, .int .i64 c, .str p, .str q]] (.bool (MJ a b c)) := by
 refine Ok.ofT ZR Tryz.func85 Qed (Qev Z) ?_
 show TW _ _ tf85.body _ _
 refine Qb fun K hK => ZC Z Z Z (Qa Z (kc1 hK Z ?_))
 refine Qb fun K hK => Qf Z Z (Qx Z Z Z (Yz Z Z (Qa Z ?_)))
 refine Qv (g := 6) Z (fun h1 => ?_) (fun h1 => ?_)
 ·try rw [h1]
  try simp only [qB] at h1
  refine Qe Z (Qf Z Z (Qe Z (Qx Z Z Z (Qe Z (Yz Z Z (Qh Z Z (Qa Z ?_)))))))
  refine Qv (g := 11) Z (fun h2 => ?_) (fun h2 => ?_)
  ·try rw [h2]
   try simp only [qB] at h2
   refine Qe Z (Qf Z Z (Qe Z (Qx Z Z Z (Qe Z (Yz Z Z (Qh Z Z (Qa Z (kc1 hK Z ?_))))))))
   refine Qr (Qo Z ?_)
   (repeat clear hK K); simp_all [MJ]
  ·try rw [h2]
   try simp only [qB] at h2
   refine gn3 Z Z Z (Qh Z Z (Qa Z (kc1 hK Z ?_)))
   refine Qr (Qo Z ?_)
   (repeat clear hK K); simp_all [MJ]
 ·try rw [h1]
  try simp only [qB] at h1
  refine gn3 Z Z Z (Qh Z Z (Qa Z (gn3 Z Z Z (Qh Z Z (Qa Z (kc1 hK Z ?_))))))
  refine Qr (Qo Z ?_)
  (repeat clear hK K); simp_all [MJ]
open Go Go.Abs M3 M25
theorem H5 {a b c : Int} {p q : List UInt8} (hp : p.length <= 1000000) (hq : q.length <= 1000000) {part : Int} : Ok Tryz.prog 107 [.agg [.int .i64 a, .int .i64 b, .int .i64 c, .str p, .str q], .int .i64 part] (dOV (X4 a b c p q part)) := by
 refine Ok.ofT ZR Tryz.func107 Qct (Qev Z) ?_
 show TW _ _ tf107.body _ _
 refine Qb fun K hK => ZC Z Z Z (ZE Z (Qa Z (kc3 hK Z Z Z ?_)))
 refine QA ?_ -- 0
 refine Qb fun K hK => QL (cs := [_, _, _, _, _]) Z Z Z Z (QC (Zo Wa Wa) Z Z (.inr Z) (Z4 Z (Qa Z ?_)))
 refine Qv (g := 10) Z (fun h1 => ?_) (fun h1 => ?_)
 ·try rw [h1]
  try simp only [qB] at h1
  refine gn2 Z Z (Qh Z Z (Qa Z (gn2 Z Z (Qh Z Z (kc4 hK Z Z Z Z ?_)))))
  refine ZD Z (Qb fun K hK => Q0 Z Z (QT Z Z Z Z Z Z Z Z (Qa Z (kc2 hK Z Z ?_))))
  refine Qr (Qi (Post.eq (Xx (ds := [.int .i64 _, .int .i64 _, .int .i64 _, .str _, .str _]) (d' := .bool _) (cs := [_, _, _, _, _]) Z Z Z Z Z ⟨rfl, rfl⟩) ?_))
  (repeat clear hK K); first | (simp [X4, dOV, h1]; done) | (simp_all [X4, dOV]; done)
 ·try rw [h1]
  try simp only [qB] at h1
  refine Qe Z (Qa Z (Qe Z (Ya Z Z (Qh Z Z (Qa Z ?_)))))
  refine Qv (g := 14) Z (fun h2 => ?_) (fun h2 => ?_)
  ·try rw [h2]
   try simp only [qB] at h2
   refine gn2 Z Z (Qh Z Z (kc4 hK Z Z Z Z ?_))
   refine ZD Z (Qb fun K hK => Q0 Z Z (QT Z Z Z Z Z Z Z Z (Qa Z (kc2 hK Z Z ?_))))
   refine Qr (Qi (Post.eq (Xx (ds := [.int .i64 _, .int .i64 _, .int .i64 _, .str _, .str _]) (d' := .bool _) (cs := [_, _, _, _, _]) Z Z Z Z Z ⟨rfl, rfl⟩) ?_))
   (repeat clear hK K); first | (simp [X4, dOV, h1, h2]; done) | (simp_all [X4, dOV]; done)
  ·try rw [h2]
   try simp only [qB] at h2
   refine Qe Z (Qa Z (Qe Z (JS Z Z (Qh Z Z (kc4 hK Z Z Z Z ?_)))))
   refine Qt Z (fun h3 => ?_) (fun h3 => ?_)
   ·try rw [h3]
    try simp only [qB] at h3
    refine Qb fun K hK => Q0 Z Z (QT Z Z Z Z Z Z Z Z (Qa Z (kc2 hK Z Z ?_)))
    refine Qr (Qi (Post.eq (Xx (ds := [.int .i64 _, .int .i64 _, .int .i64 _, .str _, .str _]) (d' := .bool _) (cs := [_, _, _, _, _]) Z Z Z Z Z ⟨rfl, rfl⟩) ?_))
    (repeat clear hK K); first | (simp [X4, dOV, h1, h2, h3]; done) | (simp_all [X4, dOV]; done)
   ·try rw [h3]
    try simp only [qB] at h3
    refine Qp (ks3 Z Z Z (Qb fun K hK => ZE Z (kc4 hK Z Z Z Z ?_)))
    refine QA ?_ -- 1
    refine Qb fun K hK => Qa Z (kc4 hK Z Z Z Z ?_)
    refine Qy (Qb fun K hK => Yz Z Z (Qa Z (kc5 hK Z Z Z Z Z ?_)))
    refine Qt Z (fun h4 => ?_) (fun h4 => ?_)
    ·try rw [h4]
     try simp only [qB] at h4
     refine QQ fun K hK => Qf Z Z (Qx Z Z Z (Q2 Z Z (Qn (by have := Hv (by simpa using h1); omega) (by have := Hv (by simpa using h1); omega)) (Q0 Z Z (QT Z Z Z Z Z Z Z Z (hK _ ?_)))))
     refine Qd (ks2 Z Z ?_)
     refine QA ?_ -- 2
     refine Qb fun K hK => QL (cs := [_, _, _, _, _]) Z Z Z Z (QC (Zo Wg Wg) Z Z (.inr Z) (Z4 Z (kc3 hK Z Z Z ?_)))
     refine Qt Z (fun h5 => ?_) (fun h5 => ?_)
     ·try rw [h5]
      try simp only [qB] at h5
      refine Qb fun K hK => Q0 Z Z (QT Z Z Z Z Z Z Z Z (Qa Z (kc2 hK Z Z ?_)))
      refine Qr (Qi (Post.eq (Xx (ds := [.int .i64 _, .int .i64 _, .int .i64 _, .str _, .str _]) (d' := .bool _) (cs := [_, _, _, _, _]) Z Z Z Z Z ⟨rfl, rfl⟩) ?_))
      (repeat clear hK K); first | (simp [X4, dOV, h1, h2, h3, h4, h5]; done) | (simp_all [X4, dOV]; done)
     ·try rw [h5]
      try simp only [qB] at h5
      refine Qp (ks2 Z Z (Qb fun K hK => QL (cs := [_, _, _, _, _]) Z Z Z Z (QT Z Z Z Z Z Z Z Z (Qa Z (kc2 hK Z Z ?_)))))
      refine Qr (Post.eq (Xx (ds := [.int .i64 _, .int .i64 _, .int .i64 _, .str _, .str _]) (d' := .bool _) (cs := [_, _, _, _, _]) Z Z Z Z Z ⟨rfl, rfl⟩) ?_)
      (repeat clear hK K); first | (simp [X4, dOV, h1, h2, h3, h4, h5]; done) | (simp_all [X4, dOV]; done)
    ·try rw [h4]
     try simp only [qB] at h4
     refine Qb fun K hK => Yz Z Z (Qa Z (kc4 hK Z Z Z Z ?_))
     refine Qt Z (fun h6 => ?_) (fun h6 => ?_)
     ·try rw [h6]
      try simp only [qB] at h6
      refine QQ fun K hK => Qf Z Z (Qx Z Z Z (Qf Z Z (Qx Z Z Z (Q2 Z Z (Qn (by have := Hv (by simpa using h1); omega) (by have := Hv (by simpa using h1); omega)) (Q0 Z Z (QT Z Z Z Z Z Z Z Z (hK _ ?_)))))))
      refine Qd (ks2 Z Z ?_)
      refine QA ?_ -- 2
      refine Qb fun K hK => QL (cs := [_, _, _, _, _]) Z Z Z Z (QC (Zo Wg Wg) Z Z (.inr Z) (Z4 Z (kc3 hK Z Z Z ?_)))
      refine Qt Z (fun h7 => ?_) (fun h7 => ?_)
      ·try rw [h7]
       try simp only [qB] at h7
       refine Qb fun K hK => Q0 Z Z (QT Z Z Z Z Z Z Z Z (Qa Z (kc2 hK Z Z ?_)))
       refine Qr (Qi (Post.eq (Xx (ds := [.int .i64 _, .int .i64 _, .int .i64 _, .str _, .str _]) (d' := .bool _) (cs := [_, _, _, _, _]) Z Z Z Z Z ⟨rfl, rfl⟩) ?_))
       (repeat clear hK K); first | (simp [X4, dOV, h1, h2, h3, h4, h6, h7]; done) | (simp_all [X4, dOV]; done)
      ·try rw [h7]
       try simp only [qB] at h7
       refine Qp (ks2 Z Z (Qb fun K hK => QL (cs := [_, _, _, _, _]) Z Z Z Z (QT Z Z Z Z Z Z Z Z (Qa Z (kc2 hK Z Z ?_)))))
       refine Qr (Post.eq (Xx (ds := [.int .i64 _, .int .i64 _, .int .i64 _, .str _, .str _]) (d' := .bool _) (cs := [_, _, _, _, _]) Z Z Z Z Z ⟨rfl, rfl⟩) ?_)
       (repeat clear hK K); first | (simp [X4, dOV, h1, h2, h3, h4, h6, h7]; done) | (simp_all [X4, dOV]; done)
     ·try rw [h6]
      try simp only [qB] at h6
      refine QQ fun K hK => Qf Z Z (Qx Z Z Z (Qf Z Z (Qx Z Z Z (Qf Z Z (Qx Z Z Z (Q2 Z Z (Qn (by have := Hv (by simpa using h1); omega) (by have := Hv (by simpa using h1); omega)) (Q0 Z Z (QT Z Z Z Z Z Z Z Z (hK _ ?_)))))))))
      refine Qd (ks2 Z Z ?_)
      refine QA ?_ -- 2
      refine Qb fun K hK => QL (cs := [_, _, _, _, _]) Z Z Z Z (QC (Zo Wg Wg) Z Z (.inr Z) (Z4 Z (kc3 hK Z Z Z ?_)))
      refine Qt Z (fun h8 => ?_) (fun h8 => ?_)
      ·try rw [h8]
       try simp only [qB] at h8
       refine Qb fun K hK => Q0 Z Z (QT Z Z Z Z Z Z Z Z (Qa Z (kc2 hK Z Z ?_)))
       refine Qr (Qi (Post.eq (Xx (ds := [.int .i64 _, .int .i64 _, .int .i64 _, .str _, .str _]) (d' := .bool _) (cs := [_, _, _, _, _]) Z Z Z Z Z ⟨rfl, rfl⟩) ?_))
       (repeat clear hK K); first | (simp [X4, dOV, h1, h2, h3, h4, h6, h8]; done) | (simp_all [X4, dOV]; done)
      ·try rw [h8]
       try simp only [qB] at h8
       refine Qp (ks2 Z Z (Qb fun K hK => QL (cs := [_, _, _, _, _]) Z Z Z Z (QT Z Z Z Z Z Z Z Z (Qa Z (kc2 hK Z Z ?_)))))
       refine Qr (Post.eq (Xx (ds := [.int .i64 _, .int .i64 _, .int .i64 _, .str _, .str _]) (d' := .bool _) (cs := [_, _, _, _, _]) Z Z Z Z Z ⟨rfl, rfl⟩) ?_)
       (repeat clear hK K); first | (simp [X4, dOV, h1, h2, h3, h4, h6, h8]; done) | (simp_all [X4, dOV]; done)
theorem _root_.We {p : Prop} (h : p := by first | exact Qn (by omega) (by omega) | rfl) : p := h
theorem H6 {a b c : Int} {p q : List UInt8} (hp : p.length <= 1000000) (hq : q.length <= 1000000) : Ok Tryz.prog 87 [.agg [.int .i64 a, .int .i64 b, .int .i64 c, .str p, .str q]] (dOV (RB a b c p q)) := by
 refine Ok.ofT ZR Tryz.func87 Qef (Qev Z) ?_
 show TW _ _ tf87.body _ _
 refine Qb fun K hK => ZC Z Z Z (ZE Z (Qa Z (kc2 hK Z Z ?_)))
 refine QA ?_ -- 0
 refine Qb fun K hK => QL (cs := [_, _, _, _, _]) Z Z Z Z (QC (Zo Wa Wa) Z Z (.inr Z) (Z4 Z (kc3 hK Z Z Z ?_)))
 refine Qt Z (fun h1 => ?_) (fun h1 => ?_)
 ·try rw [h1]
  try simp only [qB] at h1
  refine Qb fun K hK => Q0 Z Z (QT Z Z Z Z Z Z Z Z (Qa Z (kc2 hK Z Z ?_)))
  refine Qr (Qi (Post.eq (Xx (ds := [.int .i64 _, .int .i64 _, .int .i64 _, .str _, .str _]) (d' := .bool _) (cs := [_, _, _, _, _]) Z Z Z Z Z ⟨rfl, rfl⟩) ?_))
  simp [RB, dOV, h1]
 ·try rw [h1]
  try simp only [qB] at h1
  refine Qp (ks2 Z Z ?_)
  refine QA ?_ -- 1
  refine Qb fun K hK => Qf Z Z (Qx Z Z Z (Mb Z Z (kc3 hK Z Z Z ?_)))
  refine Qt Z (fun h2 => ?_) (fun h2 => ?_)
  ·try rw [h2]
   try simp only [qB] at h2
   refine Qb fun K hK => Qf Z Z (Qx Z Z Z (Qf Z Z (Qx Z Z Z (Qf Z Z (Qx Z Z Z (Q0 Z Z (QT Z Z Z Z Z Z Z Z (Qa Z (kc2 hK Z Z ?_)))))))))
   refine Qr (Qi (Post.eq (Xx (ds := [.int .i64 _, .int .i64 _, .int .i64 _, .str _, .str _]) (d' := .bool _) (cs := [_, _, _, _, _]) Z Z Z Z Z ⟨rfl, rfl⟩) ?_))
   simp [RB, dOV, h1, h2]
  ·try rw [h2]
   try simp only [qB] at h2
   refine Qp (ks2 Z Z ?_)
   refine QA ?_ -- 2
   refine Qb fun K hK => Qa Z (kc3 hK Z Z Z ?_)
   refine Qy ?_
   refine Zy (ι := Nat) (fun m => ⟨[(1, .ref 1 0 0), (2, .ref 2 0 0), (4, .int .i64 ((m : Int) - 1))], [(1, ⟨[[.int .i64 a, .int .i64 b, .int .i64 c, .str p, .str q]], 5, 58, true⟩), (2, ⟨[[.int .i64 0, .int .i64 0, .int .i64 0, .str [], .str []]], 5, 58, true⟩)]⟩) (fun m => m <= 3 /\ XA a b c p q 3 = XA a b c p q m) (fun m => m) 3 ?_ ?_ ?_
   ·exact QZ (l := [1, 2, 4]) (lH := [1, 2]) (kp3 rfl rfl rfl) (Qc rfl (Qc rfl Ql)) rfl rfl rfl
   ·exact ⟨Wa, rfl⟩
   intro m hI
   obtain ⟨hI1, hI2⟩ := hI
   try dsimp only
   refine QA ?_ -- 3
   refine Qb fun K hK => Qa Z (PX Z Z (kc4 hK Z Z Z Z ?_))
   refine Qt Z (fun h3 => ?_) (fun h3 => ?_)
   ·try rw [h3]
    try simp only [qB] at h3
    rcases Nat.eq_zero_or_pos m with hm | hm <;> first | omega | skip
    refine Qp (ks3 Z Z Z ?_)
    refine QA ?_ -- 4
    refine Qy (Qb fun K hK => QL (cs := [_, _, _, _, _]) Z Z Z Z (Qa Z (QC (H5 Wa Wa) Z Z (.inl Z) (Qa Z (Zl Z Z (Zl Z Z (ZE Z (QT Z Z Z Z Z Z Z Z (Qa Z (kc5 hK Z Z Z Z Z ?_))))))))))
    refine Qb fun K hK => Qa Z (kc5 hK Z Z Z Z Z ?_)
    refine Qt Z (fun h4 => ?_) (fun h4 => ?_)
    ·try rw [h4]
     try simp only [qB] at h4
     refine Qb fun K hK => QL (cs := [_, _, _, _, _]) Z Z Z Z (QT Z Z Z Z Z Z Z Z (Qa Z (kc2 hK Z Z ?_)))
     refine Qr (Qu (Qi (Zb (Qu (Qi (Post.eq (Xx (ds := [.int .i64 _, .int .i64 _, .int .i64 _, .str _, .str _]) (d' := .bool _) (cs := [_, _, _, _, _]) Z Z Z Z Z ⟨rfl, rfl⟩) ?_))))))
     subst h2
     simp [RB, dOV, h1, hI2, P5 hm h4, h4]
    ·try rw [h4]
     try simp only [qB] at h4
     refine Qp (Qd (ks3 Z Z Z (QQ fun K hK => Qa Z (KI Z Z We (Qa Z (hK _ ?_))))))
     refine Qg (m - 1) ?_ ?_ ?_
     ·refine QZ (l := [1, 2, 4]) (lH := [1, 2]) (kp3 Z Z Z) (Qc Z (Qc Z Ql)) ?_ Z rfl; simp only [List.cons.injEq, Prod.mk.injEq, D.int.injEq, and_true, true_and]; omega
     ·exact ⟨Wa, by rw [hI2]; exact R6 hm h4⟩
     ·show m - 1 < m; omega
   ·try rw [h3]
    try simp only [qB] at h3
    rcases Nat.eq_zero_or_pos m with hm | hm <;> first | omega | skip
    refine Zd (QD (Qq (Qz (ks1 Z (Qb fun K hK => Q0 Z Z (QT Z Z Z Z Z Z Z Z (Qa Z (kc2 hK Z Z ?_))))))))
    refine Qr (Post.eq (Xx (ds := [.int .i64 _, .int .i64 _, .int .i64 _, .str _, .str _]) (d' := .bool _) (cs := [_, _, _, _, _]) Z Z Z Z Z ⟨rfl, rfl⟩) ?_)
    subst h2
    subst hm
    have hb : XA a b c [] q 3 = none := hI2
    simp [RB, dOV, h1, hb]
open Go Go.Abs M3 M25
theorem XV {e a b c : Int} {p q : List UInt8} {f : Bool} : Ok Tryz.prog 118 [.agg [.int .i64 e, .int .i64 a, .int .i64 b, .int .i64 c, .str p, .str q, .bool f]] (.bool (MK e a b c p q f)) := by
 refine Ok.ofT ZR Tryz.func118 QcE (Qev Z) ?_
 show TW _ _ tf118.body _ _
 refine Qb fun K hK => ZC Z Z Z (Qa Z (kc1 hK Z ?_))
 refine Qb fun K hK => Qf Z Z (Qx Z Z Z (Xf Z Z (Qa Z ?_)))
 refine Qv (g := 6) Z (fun h1 => ?_) (fun h1 => ?_)
 ·try rw [h1]
  try simp only [qB] at h1
  refine gn4 Z Z Z Z (QO Z (QO Z (QO Z (QO Z (gn2 Z Z (QO Z (QO Z ?_)))))))
  refine QO Z (QO Z (J9 Z (Qh Z Z (Qa Z (kc1 hK Z ?_)))))
  refine Qr (Qo Z ?_)
  (repeat clear hK K); simp_all [MK]
 ·try rw [h1]
  try simp only [qB] at h1
  refine Qe Z (Qf Z Z (Qe Z (Qx Z Z Z (Qe Z (Z4 Z (Qe Z (Qa Z ?_)))))))
  refine Qv (g := 10) Z (fun h2 => ?_) (fun h2 => ?_)
  ·try rw [h2]
   try simp only [qB] at h2
   refine Qe Z (Qf Z Z (Qe Z (Qf Z Z (Qe Z (Qx Z Z Z (Qe Z (JU Z Z (Qe Z (Qh Z Z (Qe Z (Qa Z ?_)))))))))))
   refine Qv (g := 16) Z (fun h3 => ?_) (fun h3 => ?_)
   ·try rw [h3]
    try simp only [qB] at h3
    refine Qe Z (Qf Z Z (Qe Z (QL (cs := [_, _, _, _, _]) Z Z Z Z (Qe Z (QC (XU) Z Z (.inr Z) (Qe Z (Z4 Z (Qe Z (Qh Z Z (Qh Z Z (Qa Z ?_)))))))))))
    refine kc1 hK Z ?_
    refine Qr (Qo Z ?_)
    (repeat clear hK K); simp_all [MK]
   ·try rw [h3]
    try simp only [qB] at h3
    refine gn4 Z Z Z Z (Qe Z (Qh Z Z (Qh Z Z (Qa Z (kc1 hK Z ?_)))))
    refine Qr (Qo Z ?_)
    (repeat clear hK K); simp_all [MK]
  ·try rw [h2]
   try simp only [qB] at h2
   refine gn4 Z Z Z Z (Qe Z (Qh Z Z (Qe Z (Qa Z (gn4 Z Z Z Z ?_)))))
   refine Qe Z (Qh Z Z (Qh Z Z (Qa Z (kc1 hK Z ?_))))
   refine Qr (Qo Z ?_)
   (repeat clear hK K); simp_all [MK]
theorem HK {a b c : Int} {p q : List UInt8} : Ok Tryz.prog 64 [.agg [.int .i64 a, .int .i64 b, .int .i64 c, .str p, .str q]] (.agg (dCu (NM a b c))) := by
 refine Ok.ofT ZR Tryz.func64 QdS (Qev Z) ?_
 show TW _ _ tf64.body _ _
 refine Qb fun K hK => ZC Z Z Z (ZE Z (kc2 hK Z Z ?_))
 refine QA ?_ -- 0
 refine Qb fun K hK => QL (cs := [_, _, _, _, _]) Z Z Z Z (QC (XU) Z Z (.inr Z) (kc3 hK Z Z Z ?_))
 refine Qt Z (fun h1 => ?_) (fun h1 => ?_)
 ·try rw [h1]
  try simp only [qB] at h1
  refine Qb fun K hK => QC (Y1) Z Z (.inl Z) (QT Z Z Z Z Z Z Z Z (kc1 hK Z ?_))
  refine Qr (Qi (Post.eq (ZB (ds := [.int .i64 _, .int .i64 _, .int .i64 _, .int .i64 _, .str _, .str _, .bool _]) (cs := [_, _, _, _, _, _, _]) Z Z Z Z Z) ?_))
  simp [NM, dCu, HQ, h1]
 ·try rw [h1]
  try simp only [qB] at h1
  refine Qp (ks2 Z Z (Qb fun K hK => Qf Z Z (Qx Z Z Z (Qf Z Z (Qx Z Z Z (Qf Z Z (Qx Z Z Z (Q0 Z Z (QC (YM) Z Z (.inl Z) (QT Z Z Z Z Z Z Z Z ?_))))))))))
  refine kc1 hK Z ?_
  refine Qr (Post.eq (ZB (ds := [.int .i64 _, .int .i64 _, .int .i64 _, .int .i64 _, .str _, .str _, .bool _]) (cs := [_, _, _, _, _, _, _]) Z Z Z Z Z) ?_)
  simp [NM, dCu, HQ, h1]
theorem KS {a b c : Int} {p q : List UInt8} : Ok Tryz.prog 65 [.agg [.int .i64 a, .int .i64 b, .int .i64 c, .str p, .str q]] (.agg (dCu (GJ a b c))) := by
 refine Ok.ofT ZR Tryz.func65 QdT (Qev Z) ?_
 show TW _ _ tf65.body _ _
 refine Qb fun K hK => ZC Z Z Z (ZE Z (kc2 hK Z Z ?_))
 refine Qb fun K hK => Qf Z Z (Qx Z Z Z (Qf Z Z (Qx Z Z Z (Qf Z Z (Qx Z Z Z (Q0 Z Z (QC (H6 Wg Wg) Z Z (.inl Z) (Qa Z (Zl Z Z (Zl Z Z ?_))))))))))
 refine ZE Z (QT Z Z Z Z Z Z Z Z (Qa Z (kc3 hK Z Z Z ?_)))
 refine QA ?_ -- 0
 refine Qb fun K hK => Qa Z (Z4 Z (kc3 hK Z Z Z ?_))
 refine Qt Z (fun h1 => ?_) (fun h1 => ?_)
 ·try rw [h1]
  try simp only [qB] at h1
  refine Qb fun K hK => QC (Xc) Z Z (.inl Z) (QT Z Z Z Z Z Z Z Z (kc1 hK Z ?_))
  refine Qr (Qi (Post.eq (ZB (ds := [.int .i64 _, .int .i64 _, .int .i64 _, .int .i64 _, .str _, .str _, .bool _]) (cs := [_, _, _, _, _, _, _]) Z Z Z Z Z) ?_))
  cases hn : RB a b c [] [] <;> simp [GJ, dCu, Mi, hn] at *
 ·try rw [h1]
  try simp only [qB] at h1
  refine Qp (ks2 Z Z (Qb fun K hK => QL (cs := [_, _, _, _, _]) Z Z Z Z (QC (YM) Z Z (.inl Z) (QT Z Z Z Z Z Z Z Z (kc1 hK Z ?_)))))
  refine Qr (Post.eq (ZB (ds := [.int .i64 _, .int .i64 _, .int .i64 _, .int .i64 _, .str _, .str _, .bool _]) (cs := [_, _, _, _, _, _, _]) Z Z Z Z Z) ?_)
  cases hn : RB a b c [] [] <;> simp [GJ, dCu, Mi, hn] at *
theorem XW  : Ok Tryz.prog 110 [] (ZN [(HQ, Mi)]) := by
 refine Ok.ofT ZR Tryz.func110 Qcw (Qev Z) ?_
 show TW _ _ tf110.body _ _
 refine Qb fun K hK => Qa Z (hK _ _ (HV (Zj) ?_))
 refine Qb fun K hK => QC (Y1) Z Z (.inl Z) (QC (Xc) Z Z (.inl Z) (Q0 Z Z (QJ Z Z (Qa Z (kc1 hK Z ?_)))))
 refine Qr (ZP Z ?_)
 rfl
theorem Z5  : Ok Tryz.prog 61 [] (PO ([], [])) := by
 refine Ok.ofT ZR Tryz.func61 QdP (Qev Z) ?_
 show TW _ _ tf61.body _ _
 refine Qb fun K hK => ZE Z (kc1 hK Z ?_)
 refine Qb fun K hK => Q0 Z Z (QT Z Z Z Z Z Z Z Z (kc1 hK Z ?_))
 refine Qr (Post.eq (ZB (ds := [.sl _, .sl _]) (cs := [_, _]) Z Z Z Z Z) ?_)
 rfl
theorem Gs  : Ok Tryz.prog 90 [] (PO ([(HQ, Mi)], [(HQ, Mi)])) := by
 refine Ok.ofT ZR Tryz.func90 Qei (Qev Z) ?_
 show TW _ _ tf90.body _ _
 refine Qb fun K hK => ZE Z (kc1 hK Z ?_)
 refine Qb fun K hK => QC (XW) Z Z (.inl Z) (QC (XW) Z Z (.inl Z) (Q0 Z Z (QT Z Z Z Z Z Z Z Z (kc1 hK Z ?_))))
 refine Qr (Post.eq (ZB (ds := [.sl _, .sl _]) (cs := [_, _]) Z Z Z Z Z) ?_)
 rfl
theorem XT {a b c : Int} {p q : List UInt8} (hp : p.length <= 1000000) (hq : q.length <= 1000000) : Ok Tryz.prog 33 [.agg [.int .i64 a, .int .i64 b, .int .i64 c, .str p, .str q]] (PO (Y2 a b c p q)) := by
 refine Ok.ofT ZR Tryz.func33 Qds (Qev Z) ?_
 show TW _ _ tf33.body _ _
 refine Qb fun K hK => ZC Z Z Z (ZE Z (kc2 hK Z Z ?_))
 refine QA ?_ -- 0
 refine Qb fun K hK => QL (cs := [_, _, _, _, _]) Z Z Z Z (QC (Zo Wa Wa) Z Z (.inr Z) (Z4 Z (kc3 hK Z Z Z ?_)))
 refine Qt Z (fun h1 => ?_) (fun h1 => ?_)
 ·try rw [h1]
  try simp only [qB] at h1
  refine Qb fun K hK => QC (Z5) Z Z (.inl Z) (QT Z Z Z Z Z Z Z Z (kc1 hK Z ?_))
  refine Qr (Qi (Post.eq (ZB (ds := [.sl _, .sl _]) (cs := [_, _]) Z Z Z Z Z) ?_))
  simp [Y2, PO, ZN, FI, dCu, h1]
 ·try rw [h1]
  try simp only [qB] at h1
  refine Qp (ks2 Z Z ?_)
  refine QA ?_ -- 1
  refine Qb fun K hK => Qf Z Z (Qx Z Z Z (Mb Z Z (kc3 hK Z Z Z ?_)))
  refine Qt Z (fun h2 => ?_) (fun h2 => ?_)
  ·try rw [h2]
   try simp only [qB] at h2
   refine Qb fun K hK => QP (ds0 := [6, 3, 2, 1, 0]) (cs := [_, _, _, _, _]) Z Z Z Z Z Z (Q1 (ds0 := [3, 2, 1, 0]) (YM) Z Z (.inl Z) Z Z (QP (ds0 := [4, 3, 2, 1, 0]) (cs := [_, _, _, _, _]) Z Z Z Z Z Z (Q1 (ds0 := [3, 2, 1, 0]) (KR) Z Z (.inl Z) Z Z (Q0 Z Z (QJ Z Z (Q0 Z Z (Xg (ds0 := []) Z Z Z Z Z Z Z Z Z Z (kc1 hK Z ?_))))))))
   refine Qr (Qi (Post.eq (ZB (ds := [.sl _, .sl _]) (cs := [_, _]) Z Z Z Z Z) ?_))
   simp [Y2, PO, ZN, FI, dCu, h1, h2]
  ·try rw [h2]
   try simp only [qB] at h2
   refine Qp (ks2 Z Z (Qb fun K hK => QP (ds0 := [6, 3, 2, 1, 0]) (cs := [_, _, _, _, _]) Z Z Z Z Z Z (Q1 (ds0 := [3, 2, 1, 0]) (HK) Z Z (.inl Z) Z Z (QP (ds0 := [4, 3, 2, 1, 0]) (cs := [_, _, _, _, _]) Z Z Z Z Z Z (Q1 (ds0 := [3, 2, 1, 0]) (KS) Z Z (.inl Z) Z Z (Q0 Z Z (QJ Z Z (Q0 Z Z (Xg (ds0 := []) Z Z Z Z Z Z Z Z Z Z (kc1 hK Z ?_))))))))))
   refine Qr (Post.eq (ZB (ds := [.sl _, .sl _]) (cs := [_, _]) Z Z Z Z Z) ?_)
   subst h2
   simp [Y2, PO, ZN, FI, dCu, h1]
open Go Go.Abs M3 M25
theorem Yd {l : List (Cu × Cu)} (hl : Sm l) : Ok Tryz.prog 117 [ZN l] (.bool (NN l)) := by
 refine Ok.ofT ZR Tryz.func117 QcD (Qev Z) ?_
 show TW _ _ tf117.body _ _
 have hn := hl.1
 refine Qb fun K hK => Qa Z (kc1 hK Z ?_)
 refine QA ?_ -- 0
 refine Qb fun K hK => Qa Z (kc2 hK Z Z ?_)
 refine Qy ?_
 refine Zy (ι := Nat) (fun i => ⟨[(0, ZN l), (3, .int .i64 i)], []⟩) (fun i => i <= l.length /\ (List.range i).all (QaJ l) = true) (fun i => l.length - i) 0 ?_ ?_ ?_
 ·exact QU (kp2 rfl rfl)
 ·exact ⟨QeH _, rfl⟩
 intro i hI
 try dsimp only
 refine QA ?_ -- 1
 refine Qb fun K hK => mv2 Z Z (QI Z Z (Ya Z Z (kc3 hK Z Z Z ?_)))
 refine Qt Z (fun h1 => ?_) (fun h1 => ?_)
 ·try rw [h1]
  try simp only [qA] at h1
  refine Qp (ks2 Z Z ?_)
  refine QA ?_ -- 2
  refine Qy (Qb fun K hK => mv2 Z Z (QG Z Z Z Wa (Q7 Wa) Z (QP (ds0 := [20, 19, 18, 17, 16, 15, 14, 13, 12, 11, 10, 9, 8, 7, 6, 5, 4, 3, 2, 1, 0]) (cs := [_, _, _, _, _, _, _, _, _, _, _, _, _, _]) Z Z Z Z Z Z (Q1 (ds0 := [19, 18, 17, 16, 15, 14, 13, 12, 11, 10, 9, 8, 7, 6, 5, 4, 3, 2, 1, 0]) (Xt (hl.at (i := i) Wa).1.1 (hl.at (i := i) Wa).1.2 (hl.at (i := i) Wa).2.1 (hl.at (i := i) Wa).2.2) Z Z (.inr Z) Z Z (Z4 Z (Qa Z ?_))))))
  refine Qv (g := 16) Z (fun h2 => ?_) (fun h2 => ?_)
  ·try rw [h2]
   try simp only [qA] at h2
   refine gn3 Z Z Z (QO Z (QO Z (QO Z (QO Z (QO Z (QO Z (QO Z (QO Z (QO Z ?_)))))))))
   refine QO Z (QO Z (QO Z (QO Z (J9 Z (Qh Z Z (kc3 hK Z Z Z ?_))))))
   refine ZD Z (Qb fun K hK => Qa Z (kc1 hK Z ?_))
   refine Qr (Qu (Qi (Zb (Qu (Qi (Qo Z ?_))))))
   first
    | exact (Px hI.2 Wa).symm
    | exact (JE (i := i) Wa (MM Wa (.inl h2))).symm
    | (simp only [GS] at *; exact (JE (i := i) Wa (MM Wa (.inr ⟨Wa, h4⟩))).symm)
  ·try rw [h2]
   try simp only [qA] at h2
   refine Qe Z (Qa Z (Qe Z (JS Z Z (Qe Z (Qa Z ?_)))))
   refine Qv (g := 19) Z (fun h3 => ?_) (fun h3 => ?_)
   ·try rw [h3]
    try simp only [qA] at h3
    refine Qe Z (Qa Z (Qe Z (Qa Z (Qe Z (KI Z Z We (Qe Z (QG Z Z Z Wa (Z7 Wa Wa) Z (Qe Z (ZY Z Z (Qe Z (QP (ds0 := [3, 2, 1, 0]) (cs := [_, _, _, _, _, _, _]) Z Z Z Z Z Z ?_)))))))))))
    refine Qe Z (Qa Z (Qe Z (Qa Z (Qe Z (QG Z Z Z Wa (Q7 Wa) Z (Qe Z (ZY Z Z (Qe Z (QP (ds0 := [3, 2, 1, 0]) (cs := [_, _, _, _, _, _, _]) Z Z Z Z Z Z (Qe Z (Q1 (ds0 := [2, 1, 0]) (Zx (hl.at (i := ((i : Int) - 1).toNat) Wa).2.1 (hl.at (i := ((i : Int) - 1).toNat) Wa).2.2 (hl.at (i := i) Wa).1.1 (hl.at (i := i) Wa).1.2) Z Z (.inr Z) Z Z ?_)))))))))))
    refine Qe Z (PX Z Z (Qe Z (Qh Z Z (Qh Z Z (kc3 hK Z Z Z ?_)))))
    refine Qt Z (fun h4 => ?_) (fun h4 => ?_)
    ·try rw [h4]
     try simp only [qA] at h4
     refine Qb fun K hK => Qa Z (kc1 hK Z ?_)
     refine Qr (Qu (Qi (Zb (Qu (Qi (Qo Z ?_))))))
     first
      | exact (Px hI.2 Wa).symm
      | exact (JE (i := i) Wa (MM Wa (.inl h2))).symm
      | (simp only [GS] at *; exact (JE (i := i) Wa (MM Wa (.inr ⟨Wa, h4⟩))).symm)
    ·try rw [h4]
     try simp only [qA] at h4
     refine Qp (Qd (ks2 Z Z (QQ fun K hK => Qa Z (Q2 Z Z We (Qa Z (hK _ ?_))))))
     refine Qg (i + 1) ?_ ?_ ?_
     ·exact QU (kp2 rfl rfl)
     ·exact ⟨Wa, F0 hI.2 (Bo Wa h2 (by first | exact .inl Wa | (simp only [GS] at *; exact .inr (Int.not_le.1 h4))))⟩
     ·first | omega | (simp only; omega) | (dsimp only; omega)
   ·try rw [h3]
    try simp only [qA] at h3
    refine gn4 Z Z Z Z (gn4 Z Z Z Z (gn4 Z Z Z Z ?_))
    refine J9 Z (Qe Z (Qh Z Z (Qh Z Z (kc3 hK Z Z Z ?_))))
    refine Zp Z (Qp (Qd (ks2 Z Z (QQ fun K hK => Qa Z (Q2 Z Z We (Qa Z (hK _ ?_)))))))
    refine Qg (i + 1) ?_ ?_ ?_
    ·exact QU (kp2 rfl rfl)
    ·exact ⟨Wa, F0 hI.2 (Bo Wa h2 (by first | exact .inl Wa | (simp only [GS] at *; exact .inr (Int.not_le.1 h4))))⟩
    ·first | omega | (simp only; omega) | (dsimp only; omega)
 ·try rw [h1]
  try simp only [qA] at h1
  refine Zd (QD (Qq (Qz (QY (Zj) (Qb fun K hK => Qa Z (kc1 hK Z ?_))))))
  refine Qr (Qo Z ?_)
  first
   | exact (Px hI.2 Wa).symm
   | exact (JE (i := i) Wa (MM Wa (.inl h2))).symm
   | (simp only [GS] at *; exact (JE (i := i) Wa (MM Wa (.inr ⟨Wa, h4⟩))).symm)
theorem JW {l : List (Cu × Cu)} (hl : Sm l) {x y : Cu} (hx : Cu.sm x) (hy : Cu.sm y) : Ok Tryz.prog 121 [ZN l, .agg (dCu x), .agg (dCu y)] (.bool (mIn l x y)) := by
 refine Ok.ofT ZR Tryz.func121 QcH (Qev Z) ?_
 show TW _ _ tf121.body _ _
 have hn := hl.1
 refine Qb fun K hK => ZC Z Z Z (ZC Z Z Z (Qa Z (kc3 hK Z Z Z ?_)))
 refine QA ?_ -- 0
 refine Qb fun K hK => Qa Z (kc4 hK Z Z Z Z ?_)
 refine Qy ?_
 refine Zy (ι := Nat) (fun i => ⟨[(0, ZN l), (4, .ref 4 0 0), (5, .ref 5 0 0), (7, .int .i64 i)], [(4, ⟨[dCu x], 7, 102, true⟩), (5, ⟨[dCu y], 7, 102, true⟩)]⟩) (fun i => i <= l.length /\ (l.take i).any (inC x y) = false) (fun i => l.length - i) 0 ?_ ?_ ?_
 ·exact QZ (l := [0, 4, 5, 7]) (lH := [4, 5]) (kp4 rfl rfl rfl rfl) (Qc rfl (Qc rfl Ql)) rfl rfl rfl
 ·exact ⟨QeH _, by simp⟩
 intro i hI
 try dsimp only
 refine QA ?_ -- 1
 refine Qb fun K hK => mv2 Z Z (QI Z Z (Ya Z Z (kc5 hK Z Z Z Z Z ?_)))
 refine Qt Z (fun h1 => ?_) (fun h1 => ?_)
 ·try rw [h1]
  try simp only [qA] at h1
  refine Qp (ks4 Z Z Z Z ?_)
  refine QA ?_ -- 2
  refine Qy (Qb fun K hK => mv2 Z Z (QG Z Z Z Wa (Q7 Wa) Z (ZY Z Z (QP (ds0 := [11, 10, 9, 8, 7, 6, 5, 4, 3, 2, 1, 0]) (cs := [_, _, _, _, _, _, _]) Z Z Z Z Z Z (QP (ds0 := [11, 10, 9, 8, 7, 6, 5, 4, 3, 2, 1, 0]) (cs := [_, _, _, _, _, _, _]) Z Z Z Z Z Z (Q1 (ds0 := [10, 9, 8, 7, 6, 5, 4, 3, 2, 1, 0]) (Zx (hl.at (i := i) Wa).1.1 (hl.at (i := i) Wa).1.2 hx.1 hx.2) Z Z (.inr Z) Z Z (Le Z Z (Qa Z ?_))))))))
  refine Qv (g := 22) Z (fun h2 => ?_) (fun h2 => ?_)
  ·try rw [h2]
   try simp only [qA] at h2
   refine Qe Z (QP (ds0 := [2, 1, 0]) (cs := [_, _, _, _, _, _, _]) Z Z Z Z Z Z (Qe Z (Qa Z (Qe Z (Qa Z (Qe Z (QG Z Z Z Wa (Q7 Wa) Z (Qe Z (ZY Z Z (Qe Z (QP (ds0 := [2, 1, 0]) (cs := [_, _, _, _, _, _, _]) Z Z Z Z Z Z ?_)))))))))))
   refine Qe Z (Q1 (ds0 := [1, 0]) (Zx hy.1 hy.2 (hl.at (i := i) Wa).2.1 (hl.at (i := i) Wa).2.2) Z Z (.inr Z) Z Z (Qe Z (Le Z Z (Qh Z Z (kc5 hK Z Z Z Z Z ?_)))))
   refine Qt Z (fun h3 => ?_) (fun h3 => ?_)
   ·try rw [h3]
    try simp only [qA] at h3
    refine Qb fun K hK => Qa Z (kc1 hK Z ?_)
    refine Qr (Qu (Qi (Zb (Qu (Qi (Qo Z ?_))))))
    first
     | exact (C6 (i := i) Wa hI.2).symm
     | exact (R3 (i := i) Wa (Qbg h2 h3)).symm
   ·try rw [h3]
    try simp only [qA] at h3
    refine Qp (Qd (ks4 Z Z Z Z (QQ fun K hK => Qa Z (Q2 Z Z We (Qa Z (hK _ ?_))))))
    refine Qg (i + 1) ?_ ?_ ?_
    ·exact QZ (l := [0, 4, 5, 7]) (lH := [4, 5]) (kp4 rfl rfl rfl rfl) (Qc rfl (Qc rfl Ql)) rfl rfl rfl
    ·exact ⟨Wa, Mu Wa hI.2 (Qbf (by first | exact .inl h2 | exact .inr h3))⟩
    ·first | omega | (simp only; omega) | (dsimp only; omega)
  ·try rw [h2]
   try simp only [qA] at h2
   refine gn4 Z Z Z Z (gn4 Z Z Z Z (Qh Z Z (kc5 hK Z Z Z Z Z ?_)))
   refine Zp Z (Qp (Qd (ks4 Z Z Z Z (QQ fun K hK => Qa Z (Q2 Z Z We (Qa Z (hK _ ?_)))))))
   refine Qg (i + 1) ?_ ?_ ?_
   ·exact QZ (l := [0, 4, 5, 7]) (lH := [4, 5]) (kp4 rfl rfl rfl rfl) (Qc rfl (Qc rfl Ql)) rfl rfl rfl
   ·exact ⟨Wa, Mu Wa hI.2 (Qbf (by first | exact .inl h2 | exact .inr h3))⟩
   ·first | omega | (simp only; omega) | (dsimp only; omega)
 ·try rw [h1]
  try simp only [qA] at h1
  refine Zd (QD (Qq (Qz (QY (Zj) (Qb fun K hK => Qa Z (kc1 hK Z ?_))))))
  refine Qr (Qo Z ?_)
  first
   | exact (C6 (i := i) Wa hI.2).symm
   | exact (R3 (i := i) Wa (Qbg h2 h3)).symm
open Go Go.Abs M3 M25
theorem YI {s : List (Cu × Cu) × List (Cu × Cu)} (h1s : Sm s.1) (h2s : Sm s.2) : Ok Tryz.prog 108 [PO s] (.bool (Jk s)) := by
 refine Ok.ofT ZR Tryz.func108 Qcu (Qev Z) ?_
 show TW _ _ tf108.body _ _
 have hn := h1s.1
 refine Qb fun K hK => ZC Z Z Z (Qa Z (kc1 hK Z ?_))
 refine QA ?_ -- 0
 refine Qb fun K hK => Qf Z Z (Qx Z Z Z (QC (Yd h1s) Z Z (.inr Z) (Z4 Z (Qa Z ?_))))
 refine Qv (g := 8) Z (fun h1 => ?_) (fun h1 => ?_)
 ·try rw [h1]
  try simp only [qA] at h1
  refine gn4 Z Z Z Z (Qh Z Z (kc2 hK Z Z ?_))
  refine ZD Z (Qb fun K hK => Qa Z (kc1 hK Z ?_))
  refine Qr (Qi (Qo Z ?_))
  first
   | exact (GP (i := i) h1 h2 Wa hI.2).symm
   | exact (JP (i := i) Wa (.inl h4)).symm
   | exact (JP (i := i) Wa (.inr h5)).symm
   | exact (JQ (.inl h1)).symm
   | exact (JQ (.inr h2)).symm
 ·try rw [h1]
  try simp only [qA] at h1
  refine Qe Z (Qf Z Z (Qe Z (Qx Z Z Z (Qe Z (QC (Yd h2s) Z Z (.inr Z) (Qe Z (Z4 Z (Qh Z Z (kc2 hK Z Z ?_)))))))))
  refine Qt Z (fun h2 => ?_) (fun h2 => ?_)
  ·try rw [h2]
   try simp only [qA] at h2
   refine Qb fun K hK => Qa Z (kc1 hK Z ?_)
   refine Qr (Qi (Qo Z ?_))
   first
    | exact (GP (i := i) h1 h2 Wa hI.2).symm
    | exact (JP (i := i) Wa (.inl h4)).symm
    | exact (JP (i := i) Wa (.inr h5)).symm
    | exact (JQ (.inl h1)).symm
    | exact (JQ (.inr h2)).symm
  ·try rw [h2]
   try simp only [qA] at h2
   refine Qp (ks1 Z ?_)
   refine QA ?_ -- 1
   refine Qb fun K hK => Qa Z (kc2 hK Z Z ?_)
   refine Qy ?_
   refine Zy (ι := Nat) (fun i => ⟨[(1, .ref 1 0 0), (3, .int .i64 i)], [(1, ⟨[[ZN s.1, ZN s.2]], 2, 78, true⟩)]⟩) (fun i => i <= s.1.length /\ (s.1.take i).all (fun x => Kz x.1 && Kz x.2) = true) (fun i => s.1.length - i) 0 ?_ ?_ ?_
   ·exact QZ (l := [1, 3]) (lH := [1]) (kp2 rfl rfl) (Qc rfl Ql) rfl rfl rfl
   ·exact ⟨QeH _, by simp⟩
   intro i hI
   try dsimp only
   refine QA ?_ -- 2
   refine Qb fun K hK => Qa Z (Qf Z Z (Qx Z Z Z (QI Z Z (Ya Z Z (kc3 hK Z Z Z ?_)))))
   refine Qt Z (fun h3 => ?_) (fun h3 => ?_)
   ·try rw [h3]
    try simp only [qA] at h3
    refine Qp (ks2 Z Z ?_)
    refine QA ?_ -- 3
    refine Qy (Qb fun K hK => Qf Z Z (Qx Z Z Z (Qa Z (QG Z Z Z Wa (Q7 Wa) Z (ZY Z Z (QL (cs := [_, _, _, _, _, _, _]) Z Z Z Z (QC (XV) Z Z (.inr Z) (Z4 Z (Qa Z ?_)))))))))
    refine Qv (g := 29) Z (fun h4 => ?_) (fun h4 => ?_)
    ·try rw [h4]
     try simp only [qA] at h4
     refine gn4 Z Z Z Z (gn4 Z Z Z Z (Qh Z Z (kc3 hK Z Z Z ?_)))
     refine ZD Z (Qb fun K hK => Qa Z (kc1 hK Z ?_))
     refine Qr (Qu (Qi (Zb (Qu (Qi (Qo Z ?_))))))
     first
      | exact (GP (i := i) h1 h2 Wa hI.2).symm
      | exact (JP (i := i) Wa (.inl h4)).symm
      | exact (JP (i := i) Wa (.inr h5)).symm
      | exact (JQ (.inl h1)).symm
      | exact (JQ (.inr h2)).symm
    ·try rw [h4]
     try simp only [qA] at h4
     refine Qe Z (Qf Z Z (Qe Z (Qx Z Z Z (Qe Z (Qa Z (Qe Z (QG Z Z Z Wa (Q7 Wa) Z (Qe Z (ZY Z Z (Qe Z (QL (cs := [_, _, _, _, _, _, _]) Z Z Z Z ?_)))))))))))
     refine Qe Z (QC (XV) Z Z (.inr Z) (Qe Z (Z4 Z (Qh Z Z (kc3 hK Z Z Z ?_)))))
     refine Qt Z (fun h5 => ?_) (fun h5 => ?_)
     ·try rw [h5]
      try simp only [qA] at h5
      refine Qb fun K hK => Qa Z (kc1 hK Z ?_)
      refine Qr (Qu (Qi (Zb (Qu (Qi (Qo Z ?_))))))
      first
       | exact (GP (i := i) h1 h2 Wa hI.2).symm
       | exact (JP (i := i) Wa (.inl h4)).symm
       | exact (JP (i := i) Wa (.inr h5)).symm
       | exact (JQ (.inl h1)).symm
       | exact (JQ (.inr h2)).symm
     ·try rw [h5]
      try simp only [qA] at h5
      refine Qp (Qd (ks2 Z Z (QQ fun K hK => Qa Z (Q2 Z Z We (Qa Z (hK _ ?_))))))
      refine Qg (i + 1) ?_ ?_ ?_
      ·exact QZ (l := [1, 3]) (lH := [1]) (kp2 rfl rfl) (Qc rfl Ql) rfl rfl rfl
      ·exact ⟨Wa, Zk Wa hI.2 (by rw [show Kz s.1[i].1 = true from h4, show Kz s.1[i].2 = true from h5]; rfl)⟩
      ·first | omega | (simp only; omega) | (dsimp only; omega)
   ·try rw [h3]
    try simp only [qA] at h3
    refine Zd (QD (Qq (Qz (QY (Zj) (Qb fun K hK => Qa Z (kc1 hK Z ?_))))))
    refine Qr (Qo Z ?_)
    first
     | exact (GP (i := i) h1 h2 Wa hI.2).symm
     | exact (JP (i := i) Wa (.inl h4)).symm
     | exact (JP (i := i) Wa (.inr h5)).symm
     | exact (JQ (.inl h1)).symm
     | exact (JQ (.inr h2)).symm
open Go Go.Abs M3 M25
theorem _root_.Wt {p : Prop} (h : p := by first | exact .inl (by omega) | exact .inr ⟨by omega, by assumption, by assumption⟩) : p := h
theorem Jx {l : List Cu} {c : Cu} (hl : l.length <= 3000000) (hs : ∀ x ∈ l, Cu.sm x) (hc : Cu.sm c) : Ok Tryz.prog 126 [M5 l, .agg (dCu c)] (M5 (Ha l c)) := by
 refine Ok.ofT ZR Tryz.func126 QcM (Qev Z) ?_
 show TW _ _ tf126.body _ _
 refine Qb fun K hK => ZC Z Z Z (Qa Z (kc2 hK Z Z ?_))
 refine Qb fun K hK => Qa Z (kc3 hK Z Z Z ?_)
 refine QA ?_ -- 0
 refine Qy ?_
 refine Zy (ι := Nat) (fun k => ⟨[(0, M5 l), (3, .ref 3 0 0), (5, .int .i64 k)], [(3, ⟨[dCu c], 7, 102, true⟩)]⟩) (fun k => k <= l.length /\ Ha l c = l.take k ++ Ha (l.drop k) c) (fun k => l.length - k) 0 ?_ ?_ ?_
 ·exact QZ (l := [0, 3, 5]) (lH := [3]) (kp3 rfl rfl rfl) (Qc rfl Ql) rfl rfl rfl
 ·exact ⟨QeH _, by simp⟩
 intro k hI
 try dsimp only
 refine QA ?_ -- 1
 refine Qb fun K hK => mv2 Z Z (QI Z Z (Ya Z Z (Qa Z ?_)))
 refine Qv (g := 10) Z (fun h1 => ?_) (fun h1 => ?_)
 ·try rw [h1]
  try simp only [qA] at h1
  refine Qe Z (Qa Z (Qe Z (Qa Z (Qe Z (QG Z Z Z Wa (Q7 Wa) Z (Qe Z (QP (ds0 := [2, 1, 0]) (cs := [_, _, _, _, _, _, _]) Z Z Z Z Z Z (Qe Z (QP (ds0 := [2, 1, 0]) (cs := [_, _, _, _, _, _, _]) Z Z Z Z Z Z (Qe Z (Q1 (ds0 := [1, 0]) (Zx (hs _ (QeA Wa)).1 (hs _ (QeA Wa)).2 hc.1 hc.2) Z Z (.inr Z) Z Z ?_)))))))))))
  refine Qe Z (Ya Z Z (Qh Z Z (kc4 hK Z Z Z Z ?_)))
  refine Qt Z (fun h2 => ?_) (fun h2 => ?_)
  ·try rw [h2]
   try simp only [qA] at h2
   refine Qp (ks3 Z Z Z (Qy (QQ fun K hK => Qa Z (Q2 Z Z We (Qa Z (hK _ ?_))))))
   refine Qd ?_
   refine Qg (k + 1) ?_ ?_ ?_
   ·exact QZ (l := [0, 3, 5]) (lH := [3]) (kp3 rfl rfl rfl) (Qc rfl Ql) rfl rfl rfl
   ·exact ⟨Wa, Da Wa h2 hI.2⟩
   ·first | omega | (simp only; omega) | (dsimp only; omega)
  ·try rw [h2]
   try simp only [qA] at h2
   refine Zd (QD (Qq (Qz (ks3 Z Z Z ?_))))
   refine QA ?_ -- 2
   refine Qb fun K hK => mv2 Z Z (QI Z Z (Ya Z Z (Qa Z ?_)))
   refine Qv (g := 25) Z (fun h3 => ?_) (fun h3 => ?_)
   ·try rw [h3]
    try simp only [qA] at h3
    refine Qe Z (Qa Z (Qe Z (Qa Z (Qe Z (QG Z Z Z Wa (Q7 Wa) Z (Qe Z (QP (ds0 := [2, 1, 0]) (cs := [_, _, _, _, _, _, _]) Z Z Z Z Z Z (Qe Z (QP (ds0 := [2, 1, 0]) (cs := [_, _, _, _, _, _, _]) Z Z Z Z Z Z (Qe Z (Q1 (ds0 := [1, 0]) (Zx (hs _ (QeA Wa)).1 (hs _ (QeA Wa)).2 hc.1 hc.2) Z Z (.inr Z) Z Z ?_)))))))))))
    refine Qe Z (Yz Z Z (Qh Z Z (kc4 hK Z Z Z Z ?_)))
    refine Qt Z (fun h4 => ?_) (fun h4 => ?_)
    ·try rw [h4]
     try simp only [qA] at h4
     refine Qb fun K hK => mv2 Z Z (kc1 hK Z ?_)
     refine Qr (Qi (ZP Z ?_))
     rw [L9 (k := k) Wa Wd hI.2]; rfl
    ·try rw [h4]
     try simp only [qA] at h4
     refine Qp (ks3 Z Z Z (Qb fun K hK => mv2 Z Z (G7 Z Z Z Z Wa Wa Wi RL Z (R0 (ds0 := [5, 1, 0]) Z Z (fun _ h => ⟨CS, h⟩) Z (.inl Z) Wg Wi Wi Z Z (QP (ds0 := [6, 5, 1, 0]) (cs := [_, _, _, _, _, _, _]) Z Z Z Z Z Z (QJ Z Z (F8 (ds0 := [1, 0]) Z Z Wq ⟨_, rfl, rfl, rfl, rfl, rfl⟩ Z Z Wg Z Z Wi Wi Z Z (mv2 Z Z ?_))))))))
     refine G7 Z Z Z Z Wa Wi Wg RL Z (F8 (ds0 := [0]) Z Z Wq ⟨rfl, CS, rfl⟩ Z Z Wg Z Z Wi Wi Z Z (Qa Z (kc1 hK Z ?_)))
     refine Qr (ZP Z ?_)
     rw [Tr (k := k) Wt hI.2]; simp [XP, D.fz, D.fzS, G4, lk, D.can, D.canS, M5, D.sid, (show ∀ a b : Nat, a + 1 + b = a + (b + 1) from fun a b => Wa), QeL (show (l.map dCu).length <= l.length by simp)] <;> rfl
   ·try rw [h3]
    try simp only [qA] at h3
    exact absurd h1 h3
 ·try rw [h1]
  try simp only [qA] at h1
  refine gn4 Z Z Z Z (gn3 Z Z Z (Qh Z Z (kc4 hK Z Z Z Z ?_)))
  refine Zp Z (Zd (QD (Qq (Qz (ks3 Z Z Z ?_)))))
  refine QA ?_ -- 2
  refine Qb fun K hK => mv2 Z Z (QI Z Z (Ya Z Z (Qa Z ?_)))
  refine Qv (g := 25) Z (fun h5 => ?_) (fun h5 => ?_)
  ·try rw [h5]
   try simp only [qA] at h5
   exact absurd h5 h1
  ·try rw [h5]
   try simp only [qA] at h5
   refine gn4 Z Z Z Z (gn3 Z Z Z (Qh Z Z (kc4 hK Z Z Z Z ?_)))
   refine Zp Z (Qp (ks3 Z Z Z (Qb fun K hK => mv2 Z Z (G7 Z Z Z Z Wa Wa Wi RL Z (R0 (ds0 := [5, 1, 0]) Z Z (fun _ h => ⟨CS, h⟩) Z (.inl Z) Wg Wi Wi Z Z (QP (ds0 := [6, 5, 1, 0]) (cs := [_, _, _, _, _, _, _]) Z Z Z Z Z Z (QJ Z Z (F8 (ds0 := [1, 0]) Z Z Wq ⟨_, rfl, rfl, rfl, rfl, rfl⟩ Z Z Wg Z Z Wi Wi Z Z (Qa Z ?_)))))))))
   refine Qa Z (G7 Z Z Z Z Wa Wi Wg RL Z (F8 (ds0 := [0]) Z Z Wq ⟨rfl, CS, rfl⟩ Z Z Wg Z Z Wi Wi Z Z (Qa Z (kc1 hK Z ?_))))
   refine Qr (ZP Z ?_)
   rw [Tr (k := k) Wt hI.2]; simp [XP, D.fz, D.fzS, G4, lk, D.can, D.canS, M5, D.sid, (show ∀ a b : Nat, a + 1 + b = a + (b + 1) from fun a b => Wa), QeL (show (l.map dCu).length <= l.length by simp)] <;> rfl
theorem Jd {l : List (Cu × Cu)} (hl : Sm l) : Ok Tryz.prog 120 [ZN l] (M5 (YW l)) := by
 refine Ok.ofT ZR Tryz.func120 QcG (Qev Z) ?_
 show TW _ _ tf120.body _ _
 have hn := hl.1
 refine Qb fun K hK => Qa Z (kc1 hK Z ?_)
 refine Qb fun K hK => QC (Y1) Z Z (.inl Z) (QC (Xc) Z Z (.inl Z) (QJ Z Z (Qa Z (kc2 hK Z Z ?_))))
 refine QA ?_ -- 0
 refine Qb fun K hK => Qa Z (kc3 hK Z Z Z ?_)
 refine Qy ?_
 refine Zy (ι := Nat) (fun i => ⟨[(0, ZN l), (3, M5 (YW (l.take i))), (4, .int .i64 i)], []⟩) (fun i => i <= l.length) (fun i => l.length - i) 0 ?_ ?_ ?_
 ·exact le_trans (L1 7 _ Wl) (QZ (l := [0, 3, 4]) (lH := []) (kp3 rfl rfl rfl) Ql rfl rfl rfl)
 ·exact QeH _
 intro i hI
 try dsimp only
 refine QA ?_ -- 1
 refine Qb fun K hK => mv2 Z Z (QI Z Z (Ya Z Z (kc4 hK Z Z Z Z ?_)))
 refine Qt Z (fun h1 => ?_) (fun h1 => ?_)
 ·try rw [h1]
  try simp only [qA] at h1
  refine Qp (ks3 Z Z Z ?_)
  refine QA ?_ -- 2
  refine Qy (QQ fun K hK => mv2 Z Z (Qa Z (QG Z Z Z Wa (Q7 Wa) Z (ZY Z Z (QP (ds0 := [7, 1, 0]) (cs := [_, _, _, _, _, _, _]) Z Z Z Z Z Z (Q1 (ds0 := [1, 0]) (Jx (QeO (FV hl i).1 Wa) (FV hl i).2 (hl.2 _ (QeA Wa)).1) Z Z (.inl Z) Z Z (mv2 Z Z (QG Z Z Z Wa (Q7 Wa) Z ?_))))))))
  refine ZY Z Z (QP (ds0 := [1, 0]) (cs := [_, _, _, _, _, _, _]) Z Z Z Z Z Z (Q1 (ds0 := [0]) (Jx (QeO (FW _ _) (by have := (FV hl i).1; omega)) (Pp (FV hl i).2 (hl.2 _ (QeA Wa)).1) (hl.2 _ (QeA Wa)).2) Z Z (.inl Z) Z Z (Qa Z (hK _ ?_))))
  refine Qd (ks3 Z Z Z (QQ fun K hK => Qa Z (Q2 Z Z We (Qa Z (hK _ ?_)))))
  refine Qg (i + 1) ?_ ?_ ?_
  ·exact QZ (l := [0, 3, 4]) (lH := []) (kp3 rfl rfl rfl) Ql (by rw [CD Wa]; rfl) rfl rfl
  ·omega
  ·first | omega | (simp only; omega) | (dsimp only; omega)
 ·try rw [h1]
  try simp only [qA] at h1
  refine Zd (QD (Qq (Qz (ks1 Z (Qb fun K hK => mv2 Z Z (kc1 hK Z ?_))))))
  refine Qr (ZP Z ?_)
  rw [QeL (Wa : l.length <= i)]; rfl
open Go Go.Abs M3 M25
theorem Je {l : List (Cu × Cu)} {x y : Cu} (hn : l.length <= 3000000) (hl : ∀ s ∈ l, Cu.sm s.1 /\ Cu.sm s.2) (hx : Cu.sm x) (hy : Cu.sm y) : OkH Tryz.prog 122 [.osl 500000 l.length, .agg (dCu x), .agg (dCu y)] [(500000, ⟨l.map FI, 14, 105, true⟩)] (.osl 500000 (K8 l x y).length) [(500000, ⟨(K8 l x y).map FI, 14, 105, true⟩)] := by
 refine OkH.mv ZR Tryz.func122 QcI (Qev Z) Z ?_
 show TW _ _ tf122.body _ _
 refine Qb fun K hK => ZC Z Z Z (ZC Z Z Z (Qa Z (kc3 hK Z Z Z ?_)))
 refine QA ?_ -- 0
 refine Qb fun K hK => Qa Z (QI Z Z (KI Z Z We (Qa Z (kc4 hK Z Z Z Z ?_))))
 refine Qb fun K hK => Qa Z (PX Z Z (Qa Z ?_))
 refine Qv (g := 13) Z (fun h1 => ?_) (fun h1 => ?_)
 ·try rw [h1]
  try simp only [qA] at h1
  refine Qe Z (Qa Z (Qe Z (Qa Z (Qe Z (KH (ds0 := [5, 4, 2, 1, 0]) Z Z Z Wg Wa Wa Z Z Z (Qe Z (Qf Z Z (Qe Z (QP (ds0 := [2, 1, 0]) (cs := [_, _, _, _, _, _, _]) Z (Yk Z (Z7 Wa Wa)) Z Z Z Z (Qe Z (QP (ds0 := [2, 1, 0]) (cs := [_, _, _, _, _, _, _]) Z Z Z Z Z Z ?_)))))))))))
  refine Qe Z (Q1 (ds0 := [1, 0]) (Zx (hl _ (QeA Wa)).2.1 (hl _ (QeA Wa)).2.2 hx.1 hx.2) Z Z (.inr Z) Z Z (Qe Z (Yz Z Z (Qh Z Z (kc5 hK Z Z Z Z Z ?_)))))
  refine Qt Z (fun h2 => ?_) (fun h2 => ?_)
  ·try rw [h2]
   try simp only [qA] at h2
   refine Qb fun K hK => mv2 Z Z (QL (cs := [_, _, _, _, _, _, _]) Z Z Z Z (Xz Z Z Z Wg Wa Wa Z (Qf Z Z (QT Z Z (Z7 Wa Wa) Z Z Z Z Z (kc1 hK Z ?_)))))
   refine Qb fun K hK => mv2 Z Z (kc1 hK Z ?_)
   refine Qr (Qi ?_)
   refine Jm Z ?_ (SF ?_)
   ·rw [Rz (i := ((l.length : Int) - 1).toNat) Wa h2]; simp [D1, D.fz, D.fzS, Mp, D.can, D.canS]
   ·rw [Rz (i := ((l.length : Int) - 1).toNat) Wa h2]; simp [lk, List.map_set, FI, dCu, setRow, D.sid]
  ·try rw [h2]
   try simp only [qA] at h2
   refine Qp (ks3 Z Z Z (Qb fun K hK => Qa Z (QL (cs := [_, _, _, _, _, _, _]) Z Z Z Z (QL (cs := [_, _, _, _, _, _, _]) Z Z Z Z (Q0 Z Z (QJ Z Z (XD Z Z (fun _ h => XK Z Z Z h) Z Wg Z Z Z Wi Wi (Qa Z (kc1 hK Z ?_)))))))))
   refine Qr ?_
   refine Jm Z ?_ (SF ?_)
   ·rw [GK (.inr ⟨((l.length : Int) - 1).toNat, Wa, h2⟩)]; simp [D1, D.fz, D.fzS, Mp, D.can, D.canS]
   ·rw [GK (.inr ⟨((l.length : Int) - 1).toNat, Wa, h2⟩)]; simp [lk, FI, dCu, D.sid]
 ·try rw [h1]
  try simp only [qA] at h1
  refine gn4 Z Z Z Z (gn4 Z Z Z Z (Qh Z Z (kc5 hK Z Z Z Z Z ?_)))
  refine Zp Z (Qp (ks3 Z Z Z (Qb fun K hK => Qa Z (QL (cs := [_, _, _, _, _, _, _]) Z Z Z Z (QL (cs := [_, _, _, _, _, _, _]) Z Z Z Z (Q0 Z Z (QJ Z Z (XD Z Z (fun _ h => XK Z Z Z h) Z Wg Z Z Z Wi Wi (Qa Z (kc1 hK Z ?_))))))))))
  refine Qr ?_
  have h0 : l = [] := List.eq_nil_of_length_eq_zero Wa
  refine Jm Z ?_ (SF ?_)
  ·rw [GK (.inl h0)]; simp [D1, D.fz, D.fzS, Mp, D.can, D.canS]
  ·rw [GK (.inl h0)]; simp [lk, FI, dCu, D.sid]
open Go Go.Abs M3 M25
theorem H8 {l : List (Cu × Cu)} (hl : Sm l) : Ok Tryz.prog 119 [ZN l] (.tup [ZN (Sr l), .bool (l.all GL)]) := by
  refine Ok.ofT ZR Tryz.func119 QcF (Qev Z) ?_
  show TW _ _ tf119.body _ _
  have hn := hl.1
  have hc1 := K5 l
  refine Qb fun K hK => mv2 Z Z (kc1 hK Z ?_)
  refine QA ?_ -- 0
  refine Qb fun K hK => Qa Z (kc2 hK Z Z ?_)
  refine Qy ?_
  refine Zy (ι := Nat) (fun i => ⟨[(0, ZN l), (4, .int .i64 i)], []⟩) (fun i => i <= l.length /\ (l.take i).all GL = true) (fun i => l.length - i) 0 ?_ ?_ ?_
  · exact QU (kp2 rfl rfl)
  · exact ⟨QeH _, by simp⟩
  intro i hI
  try dsimp only
  refine QA ?_ -- 1
  refine Qb fun K hK => mv2 Z Z (QI Z Z (Ya Z Z (kc3 hK Z Z Z ?_)))
  refine Qt Z (fun h1 => ?_) (fun h1 => ?_)
  · try rw [h1]
    try simp only [qA] at h1
    refine Qp (ks2 Z Z ?_)
    refine QA ?_ -- 2
    refine Qy (Qb fun K hK => mv2 Z Z (QG Z Z Z Wa (Q7 Wa) Z (QL (cs := [_, _, _, _, _, _, _, _, _, _, _, _, _, _]) Z Z Z Z (QC (Xt (hl.at (i := i) Wa).1.1 (hl.at (i := i) Wa).1.2 (hl.at (i := i) Wa).2.1 (hl.at (i := i) Wa).2.2) Z Z (.inr Z) (Z4 Z (kc3 hK Z Z Z ?_))))))
    refine Qt Z (fun h2 => ?_) (fun h2 => ?_)
    · try rw [h2]
      try simp only [qA] at h2
      refine Qb fun K hK => mv2 Z Z (kc2 hK Z Z ?_)
      refine Qr (Qu (Qi (Zb (Qu (Qi ?_)))))
      first
        | exact ZQ rfl rfl ⟨by rw [Sr, if_neg (by rw [Yj (i := i) Wa Wd]; simp)]; rfl, by rw [Yj (i := i) Wa Wd]; rfl⟩
        | (have ha : l.all GL = true := Xb Wa hI.2
           exact ZQ rfl rfl ⟨by rw [Sr, if_pos ha, hI2.done Wa]; simp [XP, D.fz, D.fzS, G4, lk, D.can, D.canS, ZN], by rw [ha]; rfl⟩)
    · try rw [h2]
      try simp only [qA] at h2
      refine Qp (Qd (ks2 Z Z (QQ fun K hK => Qa Z (Q2 Z Z We (Qa Z (hK _ ?_))))))
      refine Qg (i + 1) ?_ ?_ ?_
      · exact QU (kp2 rfl rfl)
      · exact ⟨Wa, Zk Wa hI.2 Wd⟩
      · first | omega | (simp only; omega) | (dsimp only; omega)
  · try rw [h1]
    try simp only [qA] at h1
    refine Zd (QD (Qq (Qz (ks1 Z (Qb fun K hK => Qa Z (kc2 hK Z Z ?_))))))
    refine Qb fun K hK => Qa Z (QC (Jd hl) Z Z (.inl Z) (Qa Z (kc3 hK Z Z Z ?_)))
    refine QA ?_ -- 3
    refine Qb fun K hK => Qa Z (kc4 hK Z Z Z Z ?_)
    refine Qy ?_
    refine Zy (ι := Nat × List (Cu × Cu)) (fun ⟨i, out⟩ => ⟨[(0, ZN l), (5, .osl 5 out.length), (6, M5 (YW l)), (7, .int .i64 i)], [(5, ⟨out.map FI, 14, 105, true⟩)]⟩) (fun ⟨i, out⟩ => i <= (YW l).length /\ FillI (mIn l) (YW l) i out) (fun ⟨i, out⟩ => (YW l).length - i) (0, []) ?_ ?_ ?_
    · exact le_trans (Yl 5 5 14 105 rfl rfl) (QZ (l := [0, 5, 6, 7]) (lH := [5]) (kp4 rfl rfl rfl rfl) (Qc rfl Ql) rfl rfl rfl)
    · exact ⟨QeH _, FillI.zero⟩
    intro ⟨i, out⟩ hI
    obtain ⟨hI1, hI2⟩ := hI
    have hI3 := hI2.1
    try dsimp only
    refine QA ?_ -- 4
    refine Qb fun K hK => Qa Z (Q2 Z Z We (Qa Z (QI Z Z (Ya Z Z (kc5 hK Z Z Z Z Z ?_)))))
    refine Qt Z (fun h3 => ?_) (fun h3 => ?_)
    · try rw [h3]
      try simp only [qA] at h3
      refine Qp (ks4 Z Z Z Z ?_)
      refine QA ?_ -- 5
      refine Qy (Qb fun K hK => mv2 Z Z (Qa Z (QG Z Z Z Wa (Q7 Wa) Z (QP (ds0 := [0]) (cs := [_, _, _, _, _, _, _]) Z Z Z Z Z Z (mv2 Z Z (Q2 Z Z We (QG Z Z Z Wa (Ti Wa) Z (QP (ds0 := [0]) (cs := [_, _, _, _, _, _, _]) Z Z Z Z Z Z ?_))))))))
      refine Q1 (ds0 := []) (JW hl (YB hl _ (QeA Wa)) (YB hl _ (QeA Wa))) Z Z (.inr Z) Z Z (kc5 hK Z Z Z Z Z ?_)
      refine Qt Z (fun h4 => ?_) (fun h4 => ?_)
      · try rw [h4]
        try simp only [qA] at h4
        refine QQ fun K hK => Qa rfl (Qa rfl (Qa rfl (QG rfl rfl rfl Wa (Q7 Wa) rfl (QP (ds0 := [1, 0]) (cs := [_, _, _, _, _, _, _]) rfl rfl rfl rfl rfl rfl (Qa rfl (Qa rfl (Q2 rfl rfl We (QG rfl rfl rfl Wa (Ti Wa) rfl (QP (ds0 := [1, 0]) (cs := [_, _, _, _, _, _, _]) rfl rfl rfl rfl rfl rfl (SS (ds0 := [0]) (Bb (k := 5) rfl rfl rfl Wl rfl Wl (by simp [D.ids, D.sid, dCu]) ⟨.osl 5 out.length, by simp, by simp [D.ids, D.sid]⟩ rfl rfl (Je Wa hI2.2.1 (YB hl _ (QeA Wa)) (YB hl _ (QeA Wa)))) (fun _ h => by cases h) rfl rfl ?_))))))))))
        refine Qa Z (hK _ ?_)
        refine Qd (ks4 Z Z Z Z (QQ fun K hK => Qa Z (Q2 Z Z We (Qa Z (hK _ ?_)))))
        refine Qg (i + 1, K8 out (YW l)[i] (YW l)[i + 1]) ?_ ?_ ?_
        · exact le_trans (LZ (l := [0, 6, 7]) (t := 50) (u := 5) 5 (kp3 rfl rfl rfl) rfl rfl rfl rfl) (QZ (l := [0, 5, 6, 7]) (lH := [5]) (kp4 rfl rfl rfl rfl) (Qc rfl Ql) rfl rfl rfl)
        · exact ⟨Wa, hI2.take (YB hl) Wa Wd⟩
        · show (YW l).length - (i + 1) < (YW l).length - i; omega
      · try rw [h4]
        try simp only [qA] at h4
        refine Qp (Qd (ks4 Z Z Z Z (QQ fun K hK => Qa Z (Q2 Z Z We (Qa Z (hK _ ?_))))))
        refine Qg (i + 1, out) ?_ ?_ ?_
        · exact QZ (l := [0, 5, 6, 7]) (lH := [5]) (kp4 rfl rfl rfl rfl) (Qc rfl Ql) rfl rfl rfl
        · exact ⟨Wa, hI2.skip Wa Wd⟩
        · show (YW l).length - (i + 1) < (YW l).length - i; omega
    · try rw [h3]
      try simp only [qA] at h3
      refine Zd (QD (Qq (Qz (ks1 Z (Qb fun K hK => mv2 Z Z (Qa Z (kc2 hK Z Z ?_)))))))
      refine Qr ?_
      first
        | exact ZQ rfl rfl ⟨by rw [Sr, if_neg (by rw [Yj (i := i) Wa Wd]; simp)]; rfl, by rw [Yj (i := i) Wa Wd]; rfl⟩
        | (have ha : l.all GL = true := Xb Wa hI.2
           exact ZQ rfl rfl ⟨by rw [Sr, if_pos ha, hI2.done Wa]; simp [XP, D.fz, D.fzS, G4, lk, D.can, D.canS, ZN], by rw [ha]; rfl⟩)
open Go Go.Abs M3 M25
theorem JV {a b : List (Cu × Cu)} (ha : Sm a) (hb : Sm b) (hab : a.length + b.length <= 1000000) : Ok Tryz.prog 109 [ZN a, ZN b] (ZN (Bk a b)) := by
 refine Ok.ofT ZR Tryz.func109 Qcv (Qev Z) ?_
 show TW _ _ tf109.body _ _
 refine Qb fun K hK => Qa Z (kc2 hK Z Z ?_)
 refine QA ?_ -- 0
 refine Qb fun K hK => Qa Z (QC (Yd ha) Z Z (.inr Z) (Z4 Z (Qa Z ?_)))
 refine Qv (g := 10) Z (fun h1 => ?_) (fun h1 => ?_)
 ·try rw [h1]
  try simp only [qB] at h1
  refine gn3 Z Z Z (Qh Z Z (kc3 hK Z Z Z ?_))
  refine ZD Z (Qb fun K hK => Qa Z (kc1 hK Z ?_))
  refine Qr (Qi (ZP Z ?_))
  rw [Bk, if_neg (by simp [h1])]; rfl
 ·try rw [h1]
  try simp only [qB] at h1
  refine Qe Z (Qa Z (Qe Z (QC (Yd hb) Z Z (.inr Z) (Qe Z (Z4 Z (Qh Z Z (kc3 hK Z Z Z ?_)))))))
  refine Qt Z (fun h2 => ?_) (fun h2 => ?_)
  ·try rw [h2]
   try simp only [qB] at h2
   refine Qb fun K hK => Qa Z (kc1 hK Z ?_)
   refine Qr (Qi (ZP Z ?_))
   rw [Bk, if_neg (by simp [h1, h2])]; rfl
  ·try rw [h2]
   try simp only [qB] at h2
   refine Qp (ks2 Z Z (Qb fun K hK => Qa Z (QaS Z Z (fun _ h => Bw Br h) Z (.inl Z) Wg Wi Wi (Qa Z (XD Z Z (fun _ h => Bw Br h) Z Wg Z Z Z Wi Wi ?_)))))
   apply MT [17] Wg
   ·simp [St.freezeL, St.freeze, rem, D.fz, D.fzS, Box.fz, lk, D.scrub]; exact ⟨rfl, rfl⟩
   ·exact H8 (ha.app hb hab)
   ·rfl
   ·simp [XP, D.fz, D.fzS, G4, D.can, D.canS, ZN]
   ·exact .inl rfl
   refine Qa Z (Zl Z Z (Zl Z Z (mv2 Z Z (kc1 hK Z ?_))))
   refine Qb fun K hK => mv2 Z Z (kc1 hK Z ?_)
   refine Qr (ZP Z ?_)
   rw [Bk, if_pos ⟨h1, h2⟩]; rfl
theorem Jw {a : List (Cu × Cu)} (ha : Sm a) : Ok Tryz.prog 111 [ZN a] (ZN (Ss a)) := by
 refine Ok.ofT ZR Tryz.func111 Qcx (Qev Z) ?_
 show TW _ _ tf111.body _ _
 have hn := ha.1
 have hc1 := K5 a
 refine Qb fun K hK => Qa Z (kc1 hK Z ?_)
 refine QA ?_ -- 0
 refine Qb fun K hK => Qa Z (QC (Yd ha) Z Z (.inr Z) (Z4 Z (kc2 hK Z Z ?_)))
 refine Qt Z (fun h1 => ?_) (fun h1 => ?_)
 ·try rw [h1]
  try simp only [qA] at h1
  refine Qb fun K hK => Qa Z (kc1 hK Z ?_)
  refine Qr (Qi (ZP Z ?_))
  rw [Ss, if_neg (by simp [h1])]; rfl
 ·try rw [h1]
  try simp only [qA] at h1
  refine Qp (ks1 Z (Qb fun K hK => Qa Z (kc2 hK Z Z ?_)))
  refine Qb fun K hK => Qa Z (QC (Jd ha) Z Z (.inl Z) (Qa Z (kc3 hK Z Z Z ?_)))
  refine QA ?_ -- 1
  refine Qb fun K hK => Qa Z (kc4 hK Z Z Z Z ?_)
  refine Qy ?_
  refine Zy (ι := Nat × List (Cu × Cu)) (fun ⟨i, out⟩ => ⟨[(0, ZN a), (3, .osl 3 out.length), (4, M5 (YW a)), (5, .int .i64 i)], [(3, ⟨out.map FI, 14, 105, true⟩)]⟩) (fun ⟨i, out⟩ => i <= (YW a).length /\ FillI (fun x y => !mIn a x y) (YW a) i out) (fun ⟨i, out⟩ => (YW a).length - i) (0, []) ?_ ?_ ?_
  ·exact le_trans (Yl 3 3 14 105 rfl rfl) (QZ (l := [0, 3, 4, 5]) (lH := [3]) (kp4 rfl rfl rfl rfl) (Qc rfl Ql) rfl rfl rfl)
  ·exact ⟨QeH _, FillI.zero⟩
  intro ⟨i, out⟩ hI
  obtain ⟨hI1, hI2⟩ := hI
  have hI3 := hI2.1
  try dsimp only
  refine QA ?_ -- 2
  refine Qb fun K hK => Qa Z (Q2 Z Z We (Qa Z (QI Z Z (Ya Z Z (kc5 hK Z Z Z Z Z ?_)))))
  refine Qt Z (fun h2 => ?_) (fun h2 => ?_)
  ·try rw [h2]
   try simp only [qA] at h2
   refine Qp (ks4 Z Z Z Z ?_)
   refine QA ?_ -- 3
   refine Qy (Qb fun K hK => mv2 Z Z (Qa Z (QG Z Z Z Wa (Q7 Wa) Z (QP (ds0 := [1, 0]) (cs := [_, _, _, _, _, _, _]) Z Z Z Z Z Z (mv2 Z Z (Q2 Z Z We (QG Z Z Z Wa (Ti Wa) Z (QP (ds0 := [1, 0]) (cs := [_, _, _, _, _, _, _]) Z Z Z Z Z Z ?_))))))))
   refine Q1 (ds0 := [0]) (JW ha (YB ha _ (QeA Wa)) (YB ha _ (QeA Wa))) Z Z (.inr Z) Z Z (Z4 Z (kc5 hK Z Z Z Z Z ?_))
   refine Qt Z (fun h3 => ?_) (fun h3 => ?_)
   ·try rw [h3]
    try simp only [qA] at h3
    refine QQ fun K hK => Qa rfl (Qa rfl (Qa rfl (QG rfl rfl rfl Wa (Q7 Wa) rfl (QP (ds0 := [1, 0]) (cs := [_, _, _, _, _, _, _]) rfl rfl rfl rfl rfl rfl (Qa rfl (Qa rfl (Q2 rfl rfl We (QG rfl rfl rfl Wa (Ti Wa) rfl (QP (ds0 := [1, 0]) (cs := [_, _, _, _, _, _, _]) rfl rfl rfl rfl rfl rfl (SS (ds0 := [0]) (Bb (k := 3) rfl rfl rfl Wl rfl Wl (by simp [D.ids, D.sid, dCu]) ⟨.osl 3 out.length, by simp, by simp [D.ids, D.sid]⟩ rfl rfl (Je Wa hI2.2.1 (YB ha _ (QeA Wa)) (YB ha _ (QeA Wa)))) (fun _ h => by cases h) rfl rfl ?_))))))))))
    refine Qa Z (hK _ ?_)
    refine Qd (ks4 Z Z Z Z (QQ fun K hK => Qa Z (Q2 Z Z We (Qa Z (hK _ ?_)))))
    refine Qg (i + 1, K8 out (YW a)[i] (YW a)[i + 1]) ?_ ?_ ?_
    ·exact le_trans (LZ (l := [0, 4, 5]) (t := 40) (u := 3) 3 (kp3 rfl rfl rfl) rfl rfl rfl rfl) (QZ (l := [0, 3, 4, 5]) (lH := [3]) (kp4 rfl rfl rfl rfl) (Qc rfl Ql) rfl rfl rfl)
    ·exact ⟨Wa, hI2.take (YB ha) Wa (by simp; assumption)⟩
    ·show (YW a).length - (i + 1) < (YW a).length - i; omega
   ·try rw [h3]
    try simp only [qA] at h3
    refine Qp (Qd (ks4 Z Z Z Z (QQ fun K hK => Qa Z (Q2 Z Z We (Qa Z (hK _ ?_))))))
    refine Qg (i + 1, out) ?_ ?_ ?_
    ·exact QZ (l := [0, 3, 4, 5]) (lH := [3]) (kp4 rfl rfl rfl rfl) (Qc rfl Ql) rfl rfl rfl
    ·exact ⟨Wa, hI2.skip Wa (by simp; assumption)⟩
    ·show (YW a).length - (i + 1) < (YW a).length - i; omega
  ·try rw [h2]
   try simp only [qA] at h2
   refine Zd (QD (Qq (Qz (ks1 Z (Qb fun K hK => mv2 Z Z (kc1 hK Z ?_))))))
   refine Qr (ZP Z ?_)
   rw [Ss, if_pos h1, hI2.done Wa]; simp [XP, D.fz, D.fzS, G4, lk, D.can, D.canS, ZN]
open Go Go.Abs M3 M25
theorem G8 {a b : N9} (h1a : Sm a.1) (h2a : Sm a.2) (h1b : Sm b.1) (h2b : Sm b.2) (hl1 : a.1.length + b.1.length <= 1000000) (hl2 : a.2.length + b.2.length <= 1000000) : Ok Tryz.prog 89 [PO a, PO b] (PO (D2 a b)) := by
 refine Ok.ofT ZR Tryz.func89 Qeh (Qev Z) ?_
 show TW _ _ tf89.body _ _
 refine Qb fun K hK => ZC Z Z Z (ZC Z Z Z (ZE Z (kc3 hK Z Z Z ?_)))
 refine QA ?_ -- 0
 refine Qb fun K hK => QL (cs := [_, _]) Z Z Z Z (QC (YI h1a h2a) Z Z (.inr Z) (Z4 Z (Qa Z ?_)))
 refine Qv (g := 8) Z (fun h1 => ?_) (fun h1 => ?_)
 ·try rw [h1]
  try simp only [qB] at h1
  refine gn3 Z Z Z (Qh Z Z (kc4 hK Z Z Z Z ?_))
  refine ZD Z (Qb fun K hK => QC (Z5) Z Z (.inl Z) (QT Z Z Z Z Z Z Z Z (kc1 hK Z ?_)))
  refine Qr (Qi (Post.eq (ZB (ds := [.sl _, .sl _]) (cs := [_, _]) Z Z Z Z Z) ?_))
  rw [D2, if_neg (by simp [h1])]; rfl
 ·try rw [h1]
  try simp only [qB] at h1
  refine Qe Z (QL (cs := [_, _]) Z Z Z Z (Qe Z (QC (YI h1b h2b) Z Z (.inr Z) (Qe Z (Z4 Z (Qh Z Z (kc4 hK Z Z Z Z ?_)))))))
  refine Qt Z (fun h2 => ?_) (fun h2 => ?_)
  ·try rw [h2]
   try simp only [qB] at h2
   refine Qb fun K hK => QC (Z5) Z Z (.inl Z) (QT Z Z Z Z Z Z Z Z (kc1 hK Z ?_))
   refine Qr (Qi (Post.eq (ZB (ds := [.sl _, .sl _]) (cs := [_, _]) Z Z Z Z Z) ?_))
   rw [D2, if_neg (by simp [h1, h2])]; rfl
  ·try rw [h2]
   try simp only [qB] at h2
   refine Qp (ks3 Z Z Z (Qb fun K hK => Qf Z Z (Zc (ds0 := [7, 1, 0]) Z Z Z Z Z (Qf Z Z (Zc (ds0 := [7, 1, 0]) Z Z Z Z Z (Q1 (ds0 := [1, 0]) (JV h1a h1b hl1) Z Z (.inl Z) Z Z (Qf Z Z (Zc (ds0 := [2, 1, 0]) Z Z Z Z Z (Qf Z Z (Zc (ds0 := [2, 1, 0]) Z Z Z Z Z ?_))))))))))
   refine Q1 (ds0 := [1, 0]) (JV h2a h2b hl2) Z Z (.inl Z) Z Z (Q0 Z Z (Xg (ds0 := []) Z Z Z Z Z Z Z Z Z Z (kc1 hK Z ?_)))
   refine Qr (Post.eq (ZB (ds := [.sl _, .sl _]) (cs := [_, _]) Z Z Z Z Z) ?_)
   rw [D2, if_pos ⟨h1, h2⟩]; rfl
theorem Gt {a : N9} (h1a : Sm a.1) (h2a : Sm a.2) : Ok Tryz.prog 91 [PO a] (PO (NO a)) := by
 refine Ok.ofT ZR Tryz.func91 Qej (Qev Z) ?_
 show TW _ _ tf91.body _ _
 refine Qb fun K hK => ZC Z Z Z (ZE Z (kc2 hK Z Z ?_))
 refine QA ?_ -- 0
 refine Qb fun K hK => QL (cs := [_, _]) Z Z Z Z (QC (YI h1a h2a) Z Z (.inr Z) (Z4 Z (kc3 hK Z Z Z ?_)))
 refine Qt Z (fun h1 => ?_) (fun h1 => ?_)
 ·try rw [h1]
  try simp only [qB] at h1
  refine Qb fun K hK => QC (Z5) Z Z (.inl Z) (QT Z Z Z Z Z Z Z Z (kc1 hK Z ?_))
  refine Qr (Qi (Post.eq (ZB (ds := [.sl _, .sl _]) (cs := [_, _]) Z Z Z Z Z) ?_))
  rw [NO, if_neg (by simp [h1])]; rfl
 ·try rw [h1]
  try simp only [qB] at h1
  refine Qp (ks2 Z Z (Qb fun K hK => Qf Z Z (Zc (ds0 := [5, 1, 0]) Z Z Z Z Z (Q1 (ds0 := [1, 0]) (Jw h1a) Z Z (.inl Z) Z Z (Qf Z Z (Zc (ds0 := [2, 1, 0]) Z Z Z Z Z (Q1 (ds0 := [1, 0]) (Jw h2a) Z Z (.inl Z) Z Z (Q0 Z Z (Xg (ds0 := []) Z Z Z Z Z Z Z Z Z Z (kc1 hK Z ?_))))))))))
  refine Qr (Post.eq (ZB (ds := [.sl _, .sl _]) (cs := [_, _]) Z Z Z Z Z) ?_)
  rw [NO, if_pos h1]; rfl
open Go Go.Abs M3 M25
theorem Yh {v n : Int} (hn : n <= 9223372036854775807) (hv : I64 v) : Ok Tryz.prog 10 [.int .i64 v, .int .i64 n] (.int .i64 (mPl v n)) := by
 refine Ok.ofT ZR Tryz.func10 Qdb (Qev Z) ?_
 show TW _ _ tf10.body _ _
 refine Qb fun K hK => Qa Z (kc2 hK Z Z ?_)
 refine QA ?_ -- 0
 refine Qb fun K hK => Qa Z (Ya Z Z (kc3 hK Z Z Z ?_))
 refine Qt Z (fun h1 => ?_) (fun h1 => ?_)
 ·try rw [h1]
  try simp only [qB] at h1
  refine Qb fun K hK => Qa Z (kc1 hK Z ?_)
  refine Qr (Qi (Qs Z ?_))
  rw [mPl, if_pos h1]
 ·try rw [h1]
  try simp only [qB] at h1
  refine Qp (ks2 Z Z (Qb fun K hK => mv2 Z Z (D8 Z Z Wa (Qa Z (kc2 hK Z Z ?_)))))
  refine QA ?_ -- 1
  refine Qb fun K hK => Qa Z (Ya Z Z (kc3 hK Z Z Z ?_))
  refine Qt Z (fun h2 => ?_) (fun h2 => ?_)
  ·try rw [h2]
   try simp only [qB] at h2
   refine Qb fun K hK => mv2 Z Z (Q2 Z Z (Qn (by have := Int.lt_tmod_of_pos v (Wa : 0 < n); omega) (by have := Int.tmod_lt_of_pos v (Wa : 0 < n); omega)) (Qa Z (kc1 hK Z ?_)))
   refine Qr (Qi (Qs Z ?_))
   rw [mPl, if_neg h1, NQ, if_pos h2]
  ·try rw [h2]
   try simp only [qB] at h2
   refine Qp (ks1 Z (Qb fun K hK => mv2 Z Z (kc1 hK Z ?_)))
   refine Qr (Qs Z ?_)
   rw [mPl, if_neg h1, NQ, if_neg h2]
theorem Xu {l : List Int} {i : Int} : Ok Tryz.prog 26 [Zg l, .int .i64 i] (.int .i64 (PQ l i)) := by
 refine Ok.ofT ZR Tryz.func26 Qdl (Qev Z) ?_
 show TW _ _ tf26.body _ _
 refine Qb fun K hK => Qa Z (kc2 hK Z Z ?_)
 refine QA ?_ -- 0
 refine Qb fun K hK => Qa Z (Ya Z Z (Qa Z ?_))
 refine Qv (g := 7) Z (fun h1 => ?_) (fun h1 => ?_)
 ·try rw [h1]
  try simp only [qA] at h1
  refine gn4 Z Z Z Z (Qh Z Z (kc3 hK Z Z Z ?_))
  refine ZD Z (Qb fun K hK => Qa Z (D8 Z Z Wa (Qa Z (kc1 hK Z ?_))))
  refine Qr (Qi (Qs Z ?_))
  rw [PQ, if_pos Wa]
 ·try rw [h1]
  try simp only [qA] at h1
  refine Qe Z (Qa Z (Qe Z (Qa Z (Qe Z (QI Z Z (Qe Z (PX Z Z (Qh Z Z (kc3 hK Z Z Z ?_)))))))))
  refine Qt Z (fun h2 => ?_) (fun h2 => ?_)
  ·try rw [h2]
   try simp only [qA] at h2
   refine Qb fun K hK => Qa Z (D8 Z Z Wa (Qa Z (kc1 hK Z ?_)))
   refine Qr (Qi (Qs Z ?_))
   rw [PQ, if_pos Wa]
  ·try rw [h2]
   try simp only [qA] at h2
   refine Qp (ks2 Z Z (Qb fun K hK => mv2 Z Z (QG Z Z Z Wa (Z7 Wa Wa) Z (Qx Z Z Z (Qa Z (kc1 hK Z ?_))))))
   refine Qr (Qs Z ?_)
   exact (L7 Wa Wa).symm
theorem XG {k : Nat} {L : List Int} {I n : Int} (hk : 1000000 <= k) (hL : ∀ x ∈ L, I64 x) (hn : n <= 9223372036854775807) (et : Nat) : OkH Tryz.prog 34 [.ref k 0 0, .int .i64 n] [(k, gB L I et)] (.int .i64 (nx L I n)) ((k, gB L (nxI I) et) :: [(k, gB L I et)]) := by
 refine OkH.lent hk ZR Tryz.func34 Qdt (Qev Z) Z ?_
 show TW _ _ tf34.body _ _
 refine Qb fun K hK => Qa Z (kc2 hK Z Z ?_)
 refine Qb fun K hK => Qa Z (Yb Z Z (Qf Z FU (Qx Z (Yk Fk Z) Z (Q2 Z Z Z (Yb Z Z (Qf Z FU (QT Z Fk Z Z Z Z Z Z (kc2 hK Z Z ?_))))))))
 refine Qb fun K hK => Qa Z (Yb Z Z (Qf Z FU (Zc (ds0 := [3, 1, 0]) Z (Yk Fk Z) Z Z Z (Qa Z (Yb Z Z (Qf Z FU (Zc (ds0 := [4, 3, 1, 0]) Z (Yk Fk Z) Z Z Z (KI Z Z Z (Q1 (ds0 := [1, 0]) (Xu) Z Z (.inr Z) Z Z (Qa Z ?_))))))))))
 refine Q1 (ds0 := [0]) (Yh hn (Tn hL (RY _))) Z Z (.inr Z) Z Z (Qa Z (kc1 hK Z ?_))
 refine Qr ?_
 exact Jm rfl rfl (Qav Fk)
open Go Go.Abs M3 M25
theorem H4 {v : Int} (h0 : 0 <= v) (h1v : v <= 61) : Ok Tryz.prog 79 [.int .i64 v] (.int .i64 (2 ^ v.toNat)) := by
 refine Ok.ofT ZR Tryz.func79 Qd7 (Qev Z) ?_
 show TW _ _ tf79.body _ _
 refine Qb fun K hK => Qa Z (kc1 hK Z ?_)
 refine Qb fun K hK => Qa Z (kc2 hK Z Z ?_)
 refine QA ?_ -- 0
 refine Qb fun K hK => Qa Z (kc3 hK Z Z Z ?_)
 refine Qy ?_
 refine Zy (ι := Nat) (fun i => ⟨[(0, .int .i64 v), (3, .int .i64 (2 ^ i)), (4, .int .i64 i)], []⟩) (fun i => (i : Int) <= v) (fun i => v.toNat - i) 0 ?_ ?_ ?_
 ·exact QU (kp3 rfl rfl rfl)
 ·exact h0
 intro i hI
 have hp := Dn (i := i + 1) Wa
 rw [Int.pow_succ] at hp
 try dsimp only
 refine QA ?_ -- 1
 refine Qb fun K hK => mv2 Z Z (Ya Z Z (kc4 hK Z Z Z Z ?_))
 refine Qt Z (fun h1 => ?_) (fun h1 => ?_)
 ·try rw [h1]
  try simp only [qB] at h1
  refine Qp (ks3 Z Z Z ?_)
  refine QA ?_ -- 2
  refine Qy (QQ fun K hK => Qa rfl (Lf rfl rfl (Qn (by obtain ⟨p1, p2⟩ := hp; generalize (2 : Int) ^ i = z at *; omega) (by obtain ⟨p1, p2⟩ := hp; generalize (2 : Int) ^ i = z at *; omega)) (Qa rfl (hK _ ?_))))
  refine Qd (ks3 Z Z Z (QQ fun K hK => Qa Z (Q2 Z Z (Qn Wa Wa) (Qa Z (hK _ ?_)))))
  refine Qg (i + 1) ?_ ?_ ?_
  ·exact QZ (l := [0, 3, 4]) (lH := []) (kp3 rfl rfl rfl) Ql (by rw [Int.pow_succ]; rfl) rfl rfl
  ·show ((i + 1 : Nat) : Int) <= v; omega
  ·first | omega | (simp only; omega) | (dsimp only; omega)
 ·try rw [h1]
  try simp only [qB] at h1
  refine Zd (QD (Qq (Qz (ks1 Z (Qb fun K hK => mv2 Z Z (kc1 hK Z ?_))))))
  refine Qr (Qs Z ?_)
  rw [show v.toNat = i by omega]
open Go Go.Abs M3 M25
theorem Ys  : Ok Tryz.prog 29 [] (.sl (versions.map dVr)) := by
 refine Ok.ofT ZR Tryz.func29 Qdo (Qev Z) ?_
 show TW _ _ tf29.body _ _
 refine Qb fun K hK => Qa Z (hK _ _ (HV (Zj) ?_))
 refine Qb fun K hK => Q0 Z Z (Q0 Z Z (Q0 Z Z (Q0 Z Z (QJ Z Z (Qa Z (kc1 hK Z ?_))))))
 refine Qr (ZP Z ?_)
 rfl
end Go.Proofs
namespace M25
open Go Go.Abs M3
structure WantT where
 u : Int
 s : N9
structure CandT where
 v : Vr
 sh : Int
 ns : List (List WantT)
 bs : List WantT
structure Yp where
 n : List UInt8
 f : List UInt8
 cs : List CandT
abbrev QK := List Yp
def Nu (x : WantT) : List D := [.int .i64 x.u, ZN x.s.1, ZN x.s.2]
def Q6 (l : List WantT) : D := .sl (l.map Nu)
def QS (l : List (List WantT)) : D := .sl (l.map fun r => [Q6 r])
def Qbb (c : CandT) : List D := [.int .i64 c.v.a, .int .i64 c.v.b, .int .i64 c.v.c, .str c.v.p, .str c.v.q, .int .i64 c.sh, QS c.ns, Q6 c.bs]
def S3 (l : List CandT) : D := .sl (l.map Qbb)
def Z6 (u : Yp) : List D := [.str u.n, .str u.f, S3 u.cs]
def Jf (w : QK) : D := .agg [.sl (w.map Z6)]
structure FH where
 u : Int
 m : Int
 deriving DecidableEq
structure KA where
 u : Int
 m : Int
 l : Int
 c : Int
 deriving DecidableEq
structure RowT where
 k : Int
 u : Int
 a : Int
 b : Int
 t : List FH
abbrev Lm (a b : Int) : Int := KX .and .i64 a b
abbrev bor (a b : Int) : Int := KX .or .i64 a b
abbrev Qc4 (a b : Int) : Int := KX .andNot .i64 a b
def uAt (w : QK) (u : Int) : Option Yp := if u < 0 then none else w[u.toNat]?
theorem By {w : QK} {u : Int} (h0 : 0 <= u) (h : u < w.length) : uAt w u = some (w[u.toNat]'Wa) := by
 rw [uAt, if_neg Wa, List.getElem?_eq_getElem Wa]
theorem Qax {w : QK} {u : Int} (h : u < 0 \/ (w.length : Int) <= u) : uAt w u = none := by
 unfold uAt
 split
 ·rfl
 ·rw [List.getElem?_eq_none]; omega
def Qbl (w : QK) (u : Int) : Int := match uAt w u with
 | none => 0
 | some x => 2 ^ (min x.cs.length 16 + 1) - 1
def Gi (v : Vr) : Prop := v.p.length <= 1000000 /\ v.q.length <= 1000000
structure WSm (w : QK) : Prop where
 len : w.length <= 48
 cs : ∀ u ∈ w, u.cs.length <= 16
 vs : ∀ u ∈ w, ∀ c ∈ u.cs, Gi c.v
 ns : ∀ u ∈ w, ∀ c ∈ u.cs, c.ns.length <= 1000 /\ c.bs.length <= 1000
 nl : ∀ u ∈ w, ∀ c ∈ u.cs, ∀ r ∈ c.ns, r.length <= 1000
 nw : ∀ u ∈ w, ∀ c ∈ u.cs, ∀ r ∈ c.ns, ∀ x ∈ r, Sm x.s.1 /\ Sm x.s.2
 bw : ∀ u ∈ w, ∀ c ∈ u.cs, ∀ x ∈ c.bs, Sm x.s.1 /\ Sm x.s.2
def Qc7 (s : N9) (v : Vr) : Bool := Qcc s v.a v.b v.c v.p v.q
def Qbq (s : N9) (l : List CandT) : Nat -> Int
 | 0 => 0
 | n + 1 => Qbq s l n + match l[n]? with
  | some c => if Qc7 s c.v = true then 2 ^ (n + 1) else 0
  | none => 0
def Qc8 (w : QK) (x : WantT) : Int := match uAt w x.u with
 | none => 0
 | some un => Qbq x.s un.cs (min un.cs.length 16)
def FD (w : QK) (c : List Int) (u : Int) : Int := match uAt w u with
 | none => 0
 | some x => if (c.length : Int) <= u then 0 else if c.getD u.toNat 0 < -1 \/ ((min x.cs.length 16 : Nat) : Int) <= c.getD u.toNat 0 then 0 else 2 ^ (c.getD u.toNat 0 + 1).toNat
def inW (w : QK) (u : Int) : Bool := decide (0 <= u) && decide (u < w.length)
/-! ### Trails -/
def Ml (w : QK) (l : List KA) (u : Int) : Int := l.foldl (fun a s => if s.u = u /\ inW w u = true then s.m else a) (Qbl w u)
def Qbo (l : List KA) : Int := match l.getLast? with
 | none => 0
 | some s => s.l
def CE (l : List KA) (u : Int) : Bool := l.any fun s => decide (s.u = u) && decide (s.c = -1)
def Qce (w : QK) (l : List KA) (inc : List FH) : Bool := inc.all fun t => decide (RD (Ml w l t.u) t.m = 2)
def Pu (have_ : Int -> Int) : List FH -> Int -> Int
 | [], at_ => at_
 | t :: r, at_ => if RD (have_ t.u) t.m = 0 then -1 else if RD (have_ t.u) t.m = 1 then (if 0 <= at_ then -1 else Pu have_ r t.u) else Pu have_ r at_
def Qbp (w : QK) (l : List KA) (inc : List FH) : Int := Pu (Ml w l) inc (-1)
def TC (w : QK) (l : List KA) : Nat -> List (List FH) -> Int × Int
 | _, [] => (-1, -1)
 | i, x :: r => if Qce w l x = true then (i, -1) else if 0 <= Qbp w l x then (i, Qbp w l x) else TC w l (i + 1) r
def Qcd (w : QK) (db : List (List FH)) (l : List KA) : Int × Int := TC w l 0 db
end M25
namespace M25
open Go Go.Abs M3
section
variable {fr : Qet} {H : Qes} {t u : Nat}
theorem Cb {k n : Nat} {b : Box} {d : D} (hb : lk H k = some b) (hp : b.pr = true) (hn : n = b.rows.length) (hd : .sl b.rows = d) : XP ⟨fr, H⟩ (.osl k n) = d := by
 unfold XP; rw [Qcb (S := G4) rfl hb hp hn]; exact hd
theorem JD {e : Yy} {k n : Nat} {b : Box} {d : D} (h : lk fr t = some (.osl k n)) (hb : lk H k = some b) (hp : b.pr = true) (hn : n = b.rows.length) (hd : .sl b.rows = d) (he : e = .ret \/ e = .normal := by first | exact .inl rfl | exact .inr rfl) : Post [.tmp t] d e ⟨fr, H⟩ :=
 ZP h (Cb hb hp hn hd) he
end
theorem X9 {w : QK} {c : List Int} {u : Int} (h : (u < 0 \/ (w.length : Int) <= u) \/ (c.length : Int) <= u) : FD w c u = 0 := by
 unfold FD
 split
 ·rfl
 ·rename_i x hx
  rcases h with h | h
  ·rw [Qax h] at hx; cases hx
  ·rw [if_pos h]
theorem X8 {w : QK} {c : List Int} {u : Int} (h0 : 0 <= u) (h1 : u < w.length) (h2 : u < c.length) (h : c[u.toNat]'Wa < -1 \/ min (((w[u.toNat]'Wa).cs.length : Nat) : Int) 16 <= c[u.toNat]'Wa) : FD w c u = 0 := by
 rw [FD, By h0 h1]
 simp only []
 rw [if_neg Wa, List.getD_eq_getElem?_getD, List.getElem?_eq_getElem Wa]
 simp only [Option.getD_some]
 rw [if_pos]
 rcases h with h | h
 ·exact .inl h
 ·right; omega
theorem Jl {w : QK} {c : List Int} {u : Int} (h0 : 0 <= u) (h1 : u < w.length) (h2 : u < c.length) (h : ¬ c[u.toNat]'Wa < -1) (h' : ¬ min (((w[u.toNat]'Wa).cs.length : Nat) : Int) 16 <= c[u.toNat]'Wa) : FD w c u = 2 ^ (c[u.toNat]'Wa + 1).toNat := by
 rw [FD, By h0 h1]
 simp only []
 rw [if_neg Wa, List.getD_eq_getElem?_getD, List.getElem?_eq_getElem Wa]
 simp only [Option.getD_some]
 rw [if_neg]
 omega
theorem RU {α : Type} {a b : List α} {i : Nat} (ha : i < a.length) (hb : i < b.length) (h : a.take i = b.take i) (he : a[i] = b[i]) : a.take (i + 1) = b.take (i + 1) := by
 rw [List.take_succ_eq_append_getElem ha, List.take_succ_eq_append_getElem hb, h, he]
theorem DD {α : Type} [DecidableEq α] {a b : List α} {i : Nat} (ha : i < a.length) (hb : i < b.length) (he : ¬ a[i] = b[i]) : decide (a = b) = false := decide_eq_false fun e => he (by subst e; rfl)
theorem TJ {e : Int} (h1 : 0 <= e) (h2 : e <= 18446744073709551615) : IntKind.u64.wrap e = e := by
 unfold IntKind.wrap
 simp only [IntKind.bits, IntKind.signed, Bool.false_and, QeD, if_false]
 omega
end M25
namespace Go.Proofs
open Go Go.Abs M3 M25
theorem KQ {w : QK} (hw : WSm w) {c : List Int} {u : Int} : Ok Tryz.prog 54 [Jf w, Zg c, .int .i64 u] (.int .i64 (FD w c u)) := by
 refine Ok.ofT ZR Tryz.func54 QdI (Qev Z) ?_
 show TW _ _ tf54.body _ _
 refine Qb fun K hK => ZC Z Z Z (Qa Z (kc3 hK Z Z Z ?_))
 refine QA ?_ -- 0
 refine Qb fun K hK => Qa Z (Ya Z Z (Qa Z ?_))
 refine Qv (g := 9) Z (fun h1 => ?_) (fun h1 => ?_)
 ·try rw [h1]
  try simp only [qA] at h1
  refine gn4 Z Z Z Z (J9 Z (Qh Z Z (Qa Z (gn4 Z Z Z Z (Qh Z Z ?_)))))
  refine kc4 hK Z Z Z Z ?_
  refine ZD Z (Qb fun K hK => Qa Z (kc1 hK Z ?_))
  refine Qr (Qi (Qs Z ?_))
  first | rw [X9 Wa] | rw [X8 Wa Wa Wa (by first | exact .inl Wd | exact .inr (by simpa using h5))] | rw [Jl Wa Wa Wa Wd (by simpa using h5)]
 ·try rw [h1]
  try simp only [qA] at h1
  refine Qe Z (Qa Z (Qe Z (Qf Z Z (Qe Z (Qx Z Z Z (Qe Z (QI Z Z (Qe Z (PX Z Z (Qh Z Z (Qa Z ?_)))))))))))
  refine Qv (g := 16) Z (fun h2 => ?_) (fun h2 => ?_)
  ·try rw [h2]
   try simp only [qA] at h2
   refine gn4 Z Z Z Z (Qh Z Z (kc4 hK Z Z Z Z ?_))
   refine ZD Z (Qb fun K hK => Qa Z (kc1 hK Z ?_))
   refine Qr (Qi (Qs Z ?_))
   first | rw [X9 Wa] | rw [X8 Wa Wa Wa (by first | exact .inl Wd | exact .inr (by simpa using h5))] | rw [Jl Wa Wa Wa Wd (by simpa using h5)]
  ·try rw [h2]
   try simp only [qA] at h2
   refine Qe Z (Qa Z (Qe Z (Qa Z (Qe Z (QI Z Z (Qe Z (PX Z Z (Qh Z Z (kc4 hK Z Z Z Z ?_)))))))))
   refine Qt Z (fun h3 => ?_) (fun h3 => ?_)
   ·try rw [h3]
    try simp only [qA] at h3
    refine Qb fun K hK => Qa Z (kc1 hK Z ?_)
    refine Qr (Qi (Qs Z ?_))
    first | rw [X9 Wa] | rw [X8 Wa Wa Wa (by first | exact .inl Wd | exact .inr (by simpa using h5))] | rw [Jl Wa Wa Wa Wd (by simpa using h5)]
   ·try rw [h3]
    try simp only [qA] at h3
    refine Qp (ks3 Z Z Z ?_)
    refine QA ?_ -- 1
    refine Qb fun K hK => mv2 Z Z (QG Z Z Z Wa (Z7 Wa Wa) Z (Zc (ds0 := [15, 14, 13, 12, 11, 10, 9, 8, 7, 6, 5, 4, 3, 2, 1, 0]) Z Z Z Z Z (Ya Z Z (Qa Z ?_))))
    refine Qv (g := 27) Z (fun h4 => ?_) (fun h4 => ?_)
    ·try rw [h4]
     try simp only [qA] at h4
     refine gn4 Z Z Z Z (gn4 Z Z Z Z (gn4 Z Z Z Z ?_))
     refine J9 Z (Qh Z Z (kc3 hK Z Z Z ?_))
     refine ZD Z (Qb fun K hK => Qa Z (kc1 hK Z ?_))
     refine Qr (Qi (Qs Z ?_))
     first | rw [X9 Wa] | rw [X8 Wa Wa Wa (by first | exact .inl Wd | exact .inr (by simpa using h5))] | rw [Jl Wa Wa Wa Wd (by simpa using h5)]
    ·try rw [h4]
     try simp only [qA] at h4
     refine Qe Z (Qa Z (Qe Z (Qa Z (Qe Z (QG Z Z Z Wa (Z7 Wa Wa) Z (Qe Z (Zc (ds0 := [1, 0]) Z Z Z Z Z (Qe Z (Qf Z Z (Qe Z (Zc (ds0 := [6, 5, 4, 3, 2, 1, 0]) Z Z Z Z Z ?_)))))))))))
     refine Qe Z (Qa Z (Qe Z (QG Z Z Z Wa (Z7 Wa Wa) Z (Qe Z (ZY Z Z (Qe Z (Zc (ds0 := [3, 2, 1, 0]) Z Z Z Z Z (Qe Z (QI Z Z (Qe Z (QaV Z Z ?_)))))))))))
     refine Qe Z (PX Z Z (Qh Z Z (kc3 hK Z Z Z ?_)))
     refine Qt Z (fun h5 => ?_) (fun h5 => ?_)
     ·try rw [h5]
      try simp only [qA] at h5
      refine Qb fun K hK => Qa Z (kc1 hK Z ?_)
      refine Qr (Qi (Qs Z ?_))
      first | rw [X9 Wa] | rw [X8 Wa Wa Wa (by first | exact .inl Wd | exact .inr (by simpa using h5))] | rw [Jl Wa Wa Wa Wd (by simpa using h5)]
     ·try rw [h5]
      try simp only [qA] at h5
      refine Qp (ks2 Z Z (Qb fun K hK => mv2 Z Z (QG Z Z Z Wa (Z7 Wa Wa) Z (Qx Z Z Z (Q2 Z Z We (QC (H4 Wa Wa) Z Z (.inr Z) (Qa Z (kc1 hK Z ?_))))))))
      refine Qr (Qs Z ?_)
      first | rw [X9 Wa] | rw [X8 Wa Wa Wa (by first | exact .inl Wd | exact .inr (by simpa using h5))] | rw [Jl Wa Wa Wa Wd (by simpa using h5)]
end Go.Proofs
namespace M25
open Go Go.Abs M3
theorem WSm.csLen {w : QK} (hw : WSm w) {u : Nat} (hu : u < w.length) : w[u].cs.length <= 16 := hw.cs _ (QeA _)
open Go Go.Abs M3
/-! ### Bits of numbers -/
theorem SQ (e : Int) : IntKind.i64.wrap e = (BitVec.ofInt 64 e).toInt := by
 have hb : (BitVec.ofInt 64 e).toInt = if e % 18446744073709551616 < 9223372036854775808 then e % 18446744073709551616 else e % 18446744073709551616 - 18446744073709551616 := by
  rw [BitVec.toInt_ofInt]; rfl
 rw [hb]
 unfold IntKind.wrap
 simp only [IntKind.bits, IntKind.signed, Bool.true_and]
 split
 ·rename_i h
  have := of_decide_eq_true h
  split <;> omega
 ·rename_i h
  have : ¬ (e % 2 ^ 64 >= 2 ^ (64 - 1)) := fun hh => h (decide_eq_true hh)
  split <;> omega
theorem NW (b : BitVec 64) : BitVec.ofInt 64 (b.toNat : Int) = b := by
 rw [BitVec.ofInt_natCast, BitVec.ofNat_toNat, BitVec.setWidth_eq]
theorem Qa8 (x y : Int) : BitVec.ofInt 64 (Lm x y) = BitVec.ofInt 64 x &&& BitVec.ofInt 64 y := by
 show BitVec.ofInt 64 (IntKind.i64.wrap ((BitVec.ofInt 64 x &&& BitVec.ofInt 64 y).toNat : Int)) = _
 rw [SQ, BitVec.ofInt_toInt, NW]
theorem Qb5 (x y : Int) : BitVec.ofInt 64 (bor x y) = BitVec.ofInt 64 x ||| BitVec.ofInt 64 y := by
 show BitVec.ofInt 64 (IntKind.i64.wrap ((BitVec.ofInt 64 x ||| BitVec.ofInt 64 y).toNat : Int)) = _
 rw [SQ, BitVec.ofInt_toInt, NW]
theorem Cv {x : Int} (h : I64 x) : IntKind.i64.wrap x = x := Qn h.1 h.2
theorem C9 {x : Int} (h : I64 x) : (BitVec.ofInt 64 x).toInt = x := by rw [<- SQ, Cv h]
theorem Si (x y : Int) : I64 (Lm x y) := RY _
def tb (x : Int) (i : Nat) : Bool := (BitVec.ofInt 64 x).getLsbD i
theorem DM (x y : Int) (i : Nat) : tb (Lm x y) i = (tb x i && tb y i) := by rw [tb, Qa8, BitVec.getLsbD_and]; rfl
theorem QbG (x y : Int) (i : Nat) : tb (bor x y) i = (tb x i || tb y i) := by rw [tb, Qb5, BitVec.getLsbD_or]; rfl
theorem Qcl (x : Int) {i : Nat} (h : 64 <= i) : tb x i = false := BitVec.getLsbD_of_ge _ i h
theorem Bx {x y : Int} (hx : I64 x) (hy : I64 y) (h : ∀ i, tb x i = tb y i) : x = y := by
 rw [<- C9 hx, <- C9 hy]
 congr 1
 exact BitVec.eq_of_getLsbD_eq fun i _ => h i
theorem DP (i : Nat) : tb 0 i = false := by
 show (BitVec.ofInt 64 0).getLsbD i = false
 rw [show BitVec.ofInt 64 0 = 0#64 from rfl, BitVec.getLsbD_zero]
theorem Sg {x : Int} (hx : I64 x) : x = 0 ↔ ∀ i, tb x i = false := by
 constructor
 ·rintro rfl i; exact DP i
 ·intro h; exact Bx hx ⟨Wa, Wa⟩ fun i => by rw [h i, DP]
theorem QbF (n : Nat) {i : Nat} (h : i < 64) : tb (n : Int) i = n.testBit i := by
 rw [tb, BitVec.ofInt_natCast, BitVec.getLsbD_ofNat]; simp [h]
theorem DO {k : Nat} (hk : k < 64) (i : Nat) : tb ((2 : Int) ^ k) i = decide (i = k) := by
 have e : ((2 ^ k : Nat) : Int) = (2 : Int) ^ k := by simp
 by_cases h : i < 64
 ·rw [<- e, QbF _ h, Nat.testBit_two_pow]
  exact decide_eq_decide.2 eq_comm
 ·rw [Qcl _ Wa]; exact (decide_eq_false Wa).symm
theorem Ca {x m : Int} : Lm x m = 0 ↔ ∀ i, tb x i = true -> tb m i = false := by
 rw [Sg (Si x m)]
 refine forall_congr' fun i => ?_
 rw [DM]; cases tb x i <;> cases tb m i <;> simp
def Lo (x : Int) : Prop := 0 <= x /\ x < 131072
theorem Cd {x : Int} {k : Nat} (hk : k < 64) : Lm x (2 ^ k) = 0 ↔ tb x k = false := by
 rw [Ca]
 constructor
 ·intro h
  cases hx : tb x k
  ·rfl
  ·have := h k hx; rw [DO hk] at this; simp at this
 ·intro h i hi
  rw [DO hk]
  by_cases e : i = k
  ·subst e; rw [h] at hi; cases hi
  ·exact decide_eq_false e
open Go Go.Abs M3
/-! ### Trails: the loops' laws -/
def QaR (w : QK) (l : List KA) : Prop := ∀ s ∈ l, Lo s.m
open Go Go.Abs M3
def T5 : List Yp -> Int -> Int
 | [], n => n
 | u :: r, n => if n < 1000000 then T5 r (n * ((u.cs.length : Int) + 1)) else n
def Su (w : QK) : Int := T5 w 1
theorem Qck {w : QK} {i : Nat} {n : Int} (h : i < w.length) (hn : n < 1000000) : T5 (w.drop i) n = T5 (w.drop (i + 1)) (n * ((w[i].cs.length : Int) + 1)) := by
 rw [QeM h, T5, if_pos hn]
theorem QbC {w : QK} {i : Nat} {n : Int} (h : w.length <= i) : T5 (w.drop i) n = n := by rw [QeQ h, T5]
theorem QbB {w : QK} {i : Nat} {n : Int} (hn : ¬ n < 1000000) : T5 (w.drop i) n = n := by
 cases h : w.drop i with
 | nil => rfl
 | cons u r => rw [T5, if_neg hn]
theorem CY {n : Int} {k : Nat} (h0 : 1 <= n) (h1 : n < 1000000) (hk : k <= 16) : 1 <= n * ((k : Int) + 1) /\ n * ((k : Int) + 1) <= 17000000 := by
 obtain ⟨m, rfl⟩ := Int.eq_ofNat_of_zero_le (Wa : 0 <= n)
 have h2 : m * (k + 1) <= 1000000 * 17 := Nat.mul_le_mul Wa Wa
 have h3 : 1 * 1 <= m * (k + 1) := Nat.mul_le_mul Wa Wa
 have e : (m : Int) * ((k : Int) + 1) = ((m * (k + 1) : Nat) : Int) := by simp
 rw [e]; omega
def chN (w : QK) (n : Int) : Nat -> Int
 | 0 => n
 | i + 1 => match w[i]? with
  | some u => (chN w n i).tdiv ((u.cs.length : Int) + 1)
  | none => chN w n i
def chL (w : QK) (n : Int) : Nat -> List Int
 | 0 => []
 | i + 1 => match w[i]? with
  | some u => chL w n i ++ [(chN w n i).tmod ((u.cs.length : Int) + 1) - 1]
  | none => chL w n i
def Po (w : QK) (n : Int) : List Int := chL w n w.length
theorem Qa9 {w : QK} {n : Int} {i : Nat} (h : i < w.length) : chN w n (i + 1) = (chN w n i).tdiv ((w[i].cs.length : Int) + 1) := by rw [chN, List.getElem?_eq_getElem h]
theorem Lv {w : QK} {n : Int} {i : Nat} (h : i < w.length) : chL w n (i + 1) = chL w n i ++ [(chN w n i).tmod ((w[i].cs.length : Int) + 1) - 1] := by rw [chL, List.getElem?_eq_getElem h]
theorem DQ {a : Int} {k : Nat} (h0 : 0 <= a) : 0 <= a.tdiv ((k : Int) + 1) /\ a.tdiv ((k : Int) + 1) <= a := by
 obtain ⟨m, rfl⟩ := Int.eq_ofNat_of_zero_le h0
 have : ((m : Int)).tdiv ((k : Int) + 1) = ((m / (k + 1) : Nat) : Int) := by
  rw [show (k : Int) + 1 = ((k + 1 : Nat) : Int) by simp, Int.ofNat_tdiv]
 rw [this]
 have := Nat.div_le_self m (k + 1)
 exact ⟨Int.natCast_nonneg _, Int.ofNat_le.2 this⟩
theorem Lw {w : QK} {n : Int} (h0 : 0 <= n) : ∀ i, 0 <= chN w n i /\ chN w n i <= n
 | 0 => ⟨h0, Int.le_refl _⟩
 | i + 1 => by
  obtain ⟨h1, h2⟩ := Lw (w := w) h0 i
  rw [chN]
  split
  ·rename_i u _
   have := DQ (k := u.cs.length) h1
   omega
  ·exact ⟨h1, h2⟩
theorem Lt (w : QK) (n : Int) : ∀ i, (chL w n i).length <= i
 | 0 => Nat.le_refl _
 | i + 1 => by
  have := Lt w n i
  rw [chL]; split <;> simp <;> omega
theorem QaD {a : Int} {k : Nat} (hk : k <= 16) : IntKind.i64.wrap (a.tmod ((k : Int) + 1) - 1) = a.tmod ((k : Int) + 1) - 1 := by
 have h1 := Int.lt_tmod_of_pos a (Wa : (0 : Int) < (k : Int) + 1)
 have h2 := Int.tmod_lt_of_pos a (Wa : (0 : Int) < (k : Int) + 1)
 exact Qn Wa Wa
theorem QaC {a : Int} {k : Nat} (h0 : 0 <= a) (h1 : a <= 9223372036854775807) : IntKind.i64.wrap (a.tdiv ((k : Int) + 1)) = a.tdiv ((k : Int) + 1) := by
 have := DQ (k := k) h0
 exact Qn Wa Wa
theorem DZ {v : Int} (h : (v + 1).toNat <= 61) : IntKind.i64.wrap ((1 : Int) * 2 ^ min (v + 1).toNat IntKind.i64.bits) = 2 ^ (v + 1).toNat := by
 rw [show min (v + 1).toNat IntKind.i64.bits = (v + 1).toNat from by simp only [IntKind.bits]; omega, Int.one_mul]
 have := Dn (i := (v + 1).toNat) Wa
 exact Qn Wa Wa
end M25
namespace Go.Proofs
open Go Go.Abs M3 M25
theorem HX {w : QK} (hw : WSm w) : Ok Tryz.prog 25 [Jf w] (.int .i64 (Su w)) := by
 refine Ok.ofT ZR Tryz.func25 Qdk (Qev Z) ?_
 show TW _ _ tf25.body _ _
 have hn := hw.len
 refine Qb fun K hK => ZC Z Z Z (Qa Z (kc1 hK Z ?_))
 refine Qb fun K hK => Qa Z (kc2 hK Z Z ?_)
 refine QA ?_ -- 0
 refine Qb fun K hK => Qa Z (kc3 hK Z Z Z ?_)
 refine Qy ?_
 refine Zy (ι := Nat × Int) (fun ⟨i, n⟩ => ⟨[(1, .ref 1 0 0), (3, .int .i64 n), (4, .int .i64 i)], [(1, ⟨[[.sl ((w).map Z6)]], 1, 27, true⟩)]⟩) (fun ⟨i, n⟩ => i <= w.length /\ 1 <= n /\ Su w = T5 (w.drop i) n) (fun ⟨i, n⟩ => w.length - i) (0, 1) ?_ ?_ ?_
 ·exact QZ (l := [1, 3, 4]) (lH := [1]) (kp3 rfl rfl rfl) (Qc rfl Ql) rfl rfl rfl
 ·exact ⟨QeH _, Int.le_refl _, rfl⟩
 intro ⟨i, n⟩ hI
 obtain ⟨hI1, hI2, hI3⟩ := hI
 try dsimp only at hI1 hI2 hI3
 try dsimp only
 refine QA ?_ -- 1
 refine Qb fun K hK => Qa Z (Qf Z Z (Qx Z Z Z ?_))
 first | refine QI rfl QH ?_ | refine QI rfl rfl ?_
 refine Ya Z Z (Qa Z ?_)
 refine Qv (g := 10) Z (fun h1 => ?_) (fun h1 => ?_)
 ·try rw [h1]
  try simp only [qA] at h1
  refine Qe Z (Qa Z (Qe Z (Ya Z Z (Qh Z Z (kc4 hK Z Z Z Z ?_)))))
  refine Qt Z (fun h2 => ?_) (fun h2 => ?_)
  ·try rw [h2]
   try simp only [qA] at h2
   refine Qp (ks3 Z Z Z ?_)
   refine QA ?_ -- 2
   refine Qy (QQ fun K hK => Qa Z (Qf Z Z (Qx Z Z Z (Qa Z (QG Z Z Z Wa (Q7 Wa) Z (ZY Z Z (Qx Z Z Z ?_)))))))
   first | refine QI rfl QH ?_ | refine QI rfl rfl ?_
   refine Q2 Z Z (Qn (by have := hw.csLen (Wa : i < w.length); omega) (by have := hw.csLen (Wa : i < w.length); omega)) (Lf Z Z (Qn (by have := CY hI2 h2 (hw.csLen (Wa : i < w.length)); omega) (by have := CY hI2 h2 (hw.csLen (Wa : i < w.length)); omega)) (Qa Z (hK _ ?_)))
   refine Qd (ks3 Z Z Z (QQ fun K hK => Qa Z (Q2 Z Z We (Qa Z (hK _ ?_)))))
   refine Qg (i + 1, n * (((w[i]'Wa).cs.length : Int) + 1)) ?_ ?_ ?_
   ·exact QZ (l := [1, 3, 4]) (lH := [1]) (kp3 rfl rfl rfl) (Qc rfl Ql) rfl rfl rfl
   ·exact ⟨Wa, (CY hI2 h2 (hw.csLen Wa)).1, by rw [hI3, Qck Wa h2]⟩
   ·show w.length - (i + 1) < w.length - i; omega
  ·try rw [h2]
   try simp only [qA] at h2
   refine Zd (QD (Qq (Qz (ks1 Z (Qb fun K hK => mv2 Z Z (kc1 hK Z ?_))))))
   refine Qr (Qs Z ?_)
   rw [hI3, QbB Wa]
 ·try rw [h1]
  try simp only [qA] at h1
  refine gn2 Z Z (Qh Z Z (kc4 hK Z Z Z Z ?_))
  refine Zp Z (Zd (QD (Qq (Qz (ks1 Z (Qb fun K hK => mv2 Z Z (kc1 hK Z ?_)))))))
  refine Qr (Qs Z ?_)
  rw [hI3, QbC Wa]
theorem KN {w : QK} (hw : WSm w) {n : Int} (h0n : 0 <= n) (h1n : n <= 9223372036854775807) : Ok Tryz.prog 24 [Jf w, .int .i64 n] (Zg (Po w n)) := by
 refine Ok.ofT ZR Tryz.func24 Qdj (Qev Z) ?_
 show TW _ _ tf24.body _ _
 have hn := hw.len
 refine Qb fun K hK => ZC Z Z Z (Qa Z (kc2 hK Z Z ?_))
 refine Qb fun K hK => Qa Z (kc3 hK Z Z Z ?_)
 refine QA ?_ -- 0
 refine Qb fun K hK => Qa Z (kc4 hK Z Z Z Z ?_)
 refine Qy ?_
 refine Zy (ι := Nat) (fun i => ⟨[(1, .int .i64 (chN w n i)), (2, .ref 2 0 0), (5, .osl 5 (chL w n i).length), (6, .int .i64 i)], [(2, ⟨[[.sl ((w).map Z6)]], 1, 27, true⟩), (5, ⟨(chL w n i).map (fun x => [.int .i64 x]), 1, 3, true⟩)]⟩) (fun i => i <= w.length) (fun i => w.length - i) 0 ?_ ?_ ?_
 ·exact le_trans (Yl 5 5 1 3 rfl rfl) (QZ (l := [1, 2, 5, 6]) (lH := [2, 5]) (kp4 rfl rfl rfl rfl) (Qc rfl (Qc rfl Ql)) rfl rfl rfl)
 ·exact QeH _
 intro i hI
 have hlen := Lt w n i
 have hbd := Lw (w := w) h0n i
 try dsimp only
 refine QA ?_ -- 1
 refine Qb fun K hK => Qa Z (Qf Z Z (Qx Z Z Z ?_))
 first | refine QI rfl QH ?_ | refine QI rfl rfl ?_
 refine Ya Z Z (kc5 hK Z Z Z Z Z ?_)
 refine Qt Z (fun h1 => ?_) (fun h1 => ?_)
 ·try rw [h1]
  try simp only [qA] at h1
  refine Qp (ks4 Z Z Z Z ?_)
  refine QA ?_ -- 2
  refine Qy (Qb fun K hK => Qf Z Z (Qx Z Z Z (Qa Z (QG Z Z Z Wa (Q7 Wa) Z (ZY Z Z (Qx Z Z Z ?_))))))
  first | refine QI rfl QH ?_ | refine QI rfl rfl ?_
  refine Q2 Z Z (Qn Wa (by have := hw.csLen (Wa : i < w.length); omega)) (Qa Z (kc5 hK Z Z Z Z Z ?_))
  refine Qb fun K hK => mv2 Z Z (Qa Z (D8 Z Z Wa (KI Z Z (QaD (hw.csLen Wa)) (QJ Z Z (XD Z Z (fun _ h => XK Z Z Z h) Z Wg Z Z Z Wi Wi (Qa Z (kc5 hK Z Z Z Z Z ?_)))))))
  refine QQ fun K hK => mv2 Z Z (QbV Z Z Wa (QaC hbd.1 Wa) (Qa Z (hK _ ?_)))
  refine Qd (ks4 Z Z Z Z (QQ fun K hK => Qa Z (Q2 Z Z We (Qa Z (hK _ ?_)))))
  refine Qg (i + 1) ?_ ?_ ?_
  ·exact QZ (l := [1, 2, 5, 6]) (lH := [2, 5]) (kp4 rfl rfl rfl rfl) (Qc rfl (Qc rfl Ql)) (by rw [Lv Wa, Qa9 Wa, List.length_append]; rfl) (by rw [Lv Wa, List.map_append]; rfl) rfl
  ·omega
  ·first | omega | (simp only; omega) | (dsimp only; omega)
 ·try rw [h1]
  try simp only [qA] at h1
  refine Zd (QD (Qq (Qz (ks1 Z (Qb fun K hK => mv2 Z Z (kc1 hK Z ?_))))))
  refine Qr ?_
  exact JD rfl rfl rfl Wg (by rw [Po, show w.length = i by omega]; rfl)
end Go.Proofs
namespace M25
open Go Go.Abs M3
/-! ### prop: what is left of each unit, scans -/
structure QaQ (w : QK) (db : List (List FH)) (l : List KA) (a : Nat) (k : Nat) : Prop where
  ha : a < db.length
  hk : k < db[a].length
  eq : Qcd w db l = ((a : Int), db[a][k].u)
  one : RD (Ml w l db[a][k].u) db[a][k].m = 1
  two : ∀ j, ∀ hj : j < db[a].length, j ≠ k -> RD (Ml w l db[a][j].u) db[a][j].m = 2
def Qc5 (w : QK) (l : List KA) (t : FH) (c : Int) : KA := ⟨t.u, Qc4 (Ml w l t.u) t.m, Qbo l, c⟩
open Go Go.Abs M3
/-! ### Sets that are made: moderate sizes -/
theorem Ct (l : List (Cu × Cu)) (x y : Cu) : (K8 l x y).length <= l.length + 1 := RA l x y
theorem M9 (f : Cu -> Cu -> Bool) : ∀ (c : List Cu) (out : List (Cu × Cu)), (∀ x ∈ c, Cu.sm x) -> (∀ s ∈ out, Cu.sm s.1 /\ Cu.sm s.2) -> (K6 f c out).length <= out.length + c.length /\ ∀ s ∈ K6 f c out, Cu.sm s.1 /\ Cu.sm s.2
 | [], out, _, h => ⟨by simp [K6], by simpa [K6] using h⟩
 | [x], out, _, h => ⟨by simp [K6], by simpa [K6] using h⟩
 | x :: y :: r, out, hc, h => by
  rw [K6]
  have hxy := Ct out x y
  split
  ·obtain ⟨h1, h2⟩ := M9 f (y :: r) (K8 out x y) (fun z hz => hc z (by simp at hz ⊢; exact .inr hz)) (Tp h (hc x Wg) (hc y Wg))
   exact ⟨by simp only [List.length_cons] at h1 ⊢; omega, h2⟩
  ·obtain ⟨h1, h2⟩ := M9 f (y :: r) out (fun z hz => hc z (by simp at hz ⊢; exact .inr hz)) h
   exact ⟨by simp only [List.length_cons] at h1 ⊢; omega, h2⟩
def SmN (n : Nat) (l : List (Cu × Cu)) : Prop := l.length <= n /\ ∀ s ∈ l, Cu.sm s.1 /\ Cu.sm s.2
theorem SmN.sm {n : Nat} {l : List (Cu × Cu)} (h : SmN n l) (hn : n <= 1000000) : Sm l := ⟨QeO h.1 hn, h.2⟩
theorem SmN.up {n m : Nat} {l : List (Cu × Cu)} (h : SmN n l) (hn : n <= m) : SmN m l := ⟨QeO h.1 hn, h.2⟩
theorem SmN.nil (n : Nat) : SmN n [] := ⟨QeH _, by simp⟩
theorem Bp {a b : List (Cu × Cu)} {n m : Nat} (ha : SmN n a) (hb : SmN m b) (h : n + m <= 1000000) : SmN (2 + 2 * (n + m)) (Bk a b) := by
 unfold Bk
 split
 ·have hab : Sm (a ++ b) := (ha.sm Wa).app (hb.sm Wa) (by have := ha.1; have := hb.1; omega)
  unfold Sr
  split
  ·obtain ⟨h1, h2⟩ := M9 (mIn (a ++ b)) (YW (a ++ b)) [] (YB hab) Wg
   have := K5 (a ++ b)
   have := ha.1
   have := hb.1
   exact ⟨by simp only [List.length_nil, List.length_append] at *; omega, h2⟩
  ·exact SmN.nil _
 ·exact SmN.nil _
theorem De {a : List (Cu × Cu)} {n : Nat} (ha : SmN n a) (h : n <= 1000000) : SmN (2 + 2 * n) (Ss a) := by
 unfold Ss
 split
 ·obtain ⟨h1, h2⟩ := M9 (fun x y => !mIn a x y) (YW a) [] (YB (ha.sm h)) Wg
  have := K5 a
  have := ha.1
  exact ⟨by simp only [List.length_nil] at *; omega, h2⟩
 ·exact SmN.nil _
def TM (n : Nat) (s : N9) : Prop := SmN n s.1 /\ SmN n s.2
theorem Qbt {a b : N9} {n m : Nat} (ha : TM n a) (hb : TM m b) (h : n + m <= 1000000) : TM (2 + 2 * (n + m)) (D2 a b) := by
 unfold D2
 split
 ·exact ⟨Bp ha.1 hb.1 h, Bp ha.2 hb.2 h⟩
 ·exact ⟨SmN.nil _, SmN.nil _⟩
theorem Df {a : N9} {n : Nat} (ha : TM n a) (h : n <= 1000000) : TM (2 + 2 * n) (NO a) := by
 unfold NO
 split
 ·exact ⟨De ha.1 h, De ha.2 h⟩
 ·exact ⟨SmN.nil _, SmN.nil _⟩
theorem Hz (e a b c : Int) (f : Bool) : Cu.sm ⟨e, a, b, c, [], [], f⟩ := ⟨QeH _, QeH _⟩
theorem Hq {a b c : Int} {p q : List UInt8} (hp : p.length <= 1000000) : TM 1 (Y2 a b c p q) := by
 unfold Y2
 split
 ·exact ⟨SmN.nil _, SmN.nil _⟩
 ·split
  ·refine ⟨SmN.nil _, ⟨Nat.le_refl _, fun s hs => ?_⟩⟩
   simp only [QeE] at hs; subst hs
   exact ⟨⟨hp, QeH _⟩, ⟨hp, QeH _⟩⟩
  ·refine ⟨⟨Nat.le_refl _, fun s hs => ?_⟩, SmN.nil _⟩
   simp only [QeE] at hs; subst hs
   constructor
   ·unfold NM; split
    ·exact Hz ..
    ·exact Hz ..
   ·unfold GJ; split
    ·exact Hz ..
    ·exact Hz ..
def TN : N9 := ([(HQ, Mi)], [(HQ, Mi)])
theorem C5 : TM 1 TN := by
 have h : SmN 1 [(HQ, Mi)] := ⟨Nat.le_refl _, fun s hs => by simp only [QeE] at hs; subst hs; exact ⟨Hz .., Hz ..⟩⟩
 exact ⟨h, h⟩
def bnd (i : Nat) : Nat := 4 * 2 ^ i
theorem C8 {i : Nat} (h : i <= 16) : bnd i <= 262144 := by
 have : 2 ^ i <= 2 ^ 16 := Nat.pow_le_pow_right Wa h
 have e : (2 : Nat) ^ 16 = 65536 := by decide
 unfold bnd; omega
theorem Qbx {s : N9} {i : Nat} (h : TM (bnd i - 4) s) {a b c : Int} {p q : List UInt8} (hp : p.length <= 1000000) (hi : i <= 16) : TM (bnd (i + 1) - 4) (D2 s (Y2 a b c p q)) := by
 have h1 := C8 hi
 have h4 : 4 <= bnd i := by unfold bnd; have := Nat.one_le_two_pow (n := i); omega
 have := Qbt h (Hq (a := a) (b := b) (c := c) (q := q) hp) Wa
 have e : bnd (i + 1) = 2 * bnd i := by unfold bnd; rw [Nat.pow_succ]; omega
 exact ⟨this.1.up Wa, this.2.up Wa⟩
theorem CU {s : N9} {i : Nat} (h : TM (bnd i - 4) s) : TM (bnd (i + 1) - 4) s := by
 have e : bnd (i + 1) = 2 * bnd i := by unfold bnd; rw [Nat.pow_succ]; omega
 exact ⟨h.1.up Wa, h.2.up Wa⟩
def SetOk (s : N9) : Prop := TM 600000 s
theorem SetOk.sm {s : N9} (h : SetOk s) : Sm s.1 /\ Sm s.2 := ⟨h.1.sm Wa, h.2.sm Wa⟩
def v0 : Vr := ⟨0, 0, 0, [], []⟩
/-! ### Made sets may be -/
def exV (v : Vr) : N9 := Y2 v.a v.b v.c v.p v.q
def Rm (L : List Vr) : N9 := L.foldl (fun s v => D2 s (exV v)) ([], [])
theorem Cn (L : List Vr) (v : Vr) : Rm (L ++ [v]) = D2 (Rm L) (exV v) := by simp [Rm]
def Mq : List Vr -> List (List Vr)
 | [] => [[]]
 | v :: l => Mq l ++ (Mq l).map (v :: ·)
theorem F1 : ∀ {l L : List Vr}, L.Sublist l -> L ∈ Mq l
 | _, _, .slnil => by simp [Mq]
 | _, _, .cons a h => by rw [Mq, QeG]; exact .inl (F1 h)
 | _, _, .cons_cons a h => by rw [Mq, QeG]; exact .inr (QeJ.2 ⟨_, F1 h, rfl⟩)
theorem Co : ((Mq versions ++ Mq [v0]).all fun L => Jk (Rm L) && Jk (NO (Rm L))) = true := by decide +kernel
theorem Qbc : ((v0 :: versions).all fun v => Jk (exV v) && JT v.a v.b v.c v.p v.q) = true := by decide +kernel
theorem BJ : Jk TN = true := by decide +kernel
def VsL (l : List Vr) : Prop := l.Sublist versions \/ l = [v0]
theorem VsL.fold {l L : List Vr} (h : VsL l) (hL : L.Sublist l) : Jk (Rm L) = true /\ Jk (NO (Rm L)) = true := by
 have hm : L ∈ Mq versions ++ Mq [v0] := by
  rcases h with h | rfl
  ·exact List.mem_append_left _ (F1 (hL.trans h))
  ·exact QeK _ (F1 hL)
 have := QeF.1 Co L hm
 rw [Qez] at this; exact this
theorem VsL.ex {l : List Vr} (h : VsL l) {v : Vr} (hv : v ∈ l) : Jk (exV v) = true /\ JT v.a v.b v.c v.p v.q = true := by
 have hm : v ∈ v0 :: versions := by
  rcases h with h | rfl
  ·exact List.mem_cons_of_mem _ (h.subset hv)
  ·simp only [QeE] at hv; subst hv; simp
 have := QeF.1 Qbc v hm
 rw [Qez] at this; exact this
def SetMay (s : N9) : Prop := SetOk s /\ Jk s = true
theorem SetMay.sm {s : N9} (h : SetMay s) : Sm s.1 /\ Sm s.2 := h.1.sm
structure CR where
 v : Vr
 x : D
 y : D
 z : D
def dCR (r : CR) : List D := [.int .i64 r.v.a, .int .i64 r.v.b, .int .i64 r.v.c, .str r.v.p, .str r.v.q, r.x, r.y, r.z]
def CR.ren (r : CR) : CR := ⟨r.v, r.x.renS upN, r.y.renS upN, r.z.renS upN⟩
def VsOk (zs : List CR) : Prop := VsL (zs.map CR.v)
theorem VsOk.ren {zs : List CR} (h : VsOk zs) : VsOk (zs.map CR.ren) := by
 have e : (zs.map CR.ren).map CR.v = zs.map CR.v := by rw [List.map_map]; rfl
 unfold VsOk; rw [e]; exact h
theorem Lz (l : List CR) : (l.map dCR).map (fun r => r.map (D.renS upN)) = (l.map CR.ren).map dCR := by
 rw [List.map_map, List.map_map]; rfl
structure UR where
 n : List UInt8
 f : List UInt8
 k : Nat
 cs : List CR
def dUR (u : UR) : List D := [.str u.n, .str u.f, .osl u.k u.cs.length]
def UR.ren (u : UR) : UR := ⟨u.n, u.f, upN u.k, u.cs.map CR.ren⟩
theorem B5 (l : List UR) : (l.map dUR).map (fun r => r.map (D.renS upN)) = (l.map UR.ren).map dUR := by
 rw [List.map_map, List.map_map]
 refine List.map_congr_left fun u _ => ?_
 simp [dUR, UR.ren, D.renS]
structure Fam (H : Qes) (kg ku eu ec : Nat) (us : List UR) : Prop where
 ne : ku ≠ kg
 u : ∃ pr, lk H ku = some ⟨us.map dUR, 3, eu, pr⟩
 c : ∀ y ∈ us, y.k ≠ kg /\ ∃ pr, lk H y.k = some ⟨y.cs.map dCR, 8, ec, pr⟩
 v : ∀ y ∈ us, y.cs.length <= 16 /\ ∀ z ∈ y.cs, Gi z.v
 vs : ∀ y ∈ us, VsOk y.cs
theorem Fam.up {H : Qes} {kg ku eu ec : Nat} {us : List UR} (h : Fam H kg ku eu ec us) : Fam (upH H) (upN kg) (upN ku) eu ec (us.map UR.ren) := by
 obtain ⟨h1, ⟨pu, h2⟩, h3, h4, h5⟩ := h
 refine ⟨fun e => h1 (SK e), ⟨pu, ?_⟩, fun y hy => ?_, fun y hy => ?_, fun y hy => by
  obtain ⟨u, hu, rfl⟩ := QeJ.1 hy
  exact (h5 u hu).ren⟩
 ·rw [JB, h2, Option.map_some, Box.ren, B5]
 ·obtain ⟨u, hu, rfl⟩ := QeJ.1 hy
  obtain ⟨q1, pr, q2⟩ := h3 u hu
  refine ⟨fun e => q1 (SK e), pr, ?_⟩
  show lk (upH H) (upN u.k) = _
  rw [JB, q2, Option.map_some, Box.ren, Lz]; rfl
 ·obtain ⟨u, hu, rfl⟩ := QeJ.1 hy
  obtain ⟨q1, q2⟩ := h4 u hu
  refine ⟨by simpa [UR.ren] using q1, fun z hz => ?_⟩
  obtain ⟨z0, hz0, rfl⟩ := QeJ.1 hz
  exact q2 z0 hz0
theorem Fam.cons {H : Qes} {kg ku eu ec : Nat} {us : List UR} (h : Fam H kg ku eu ec us) {b : Box} : Fam ((kg, b) :: H) kg ku eu ec us := by
 obtain ⟨h1, ⟨pu, h2⟩, h3, h4, h5⟩ := h
 exact ⟨h1, ⟨pu, Qj (Ne.symm h1) h2⟩, fun y hy => let ⟨q1, pr, q2⟩ := h3 y hy; ⟨q1, pr, Qj (Ne.symm q1) q2⟩, h4, h5⟩
def Qa3 (n : Nat) (x : WantT) : Prop := 1 <= x.u /\ x.u < n /\ SetOk x.s
def WantMay (n : Nat) (x : WantT) : Prop := Qa3 n x /\ Jk x.s = true
theorem SM {l L : List Vr} {i : Nat} (hL : L.Sublist (l.take i)) : L.Sublist (l.take (i + 1)) := by
 refine hL.trans ?_
 rw [show l.take i = (l.take (i + 1)).take i by rw [List.take_take, Nat.min_eq_left Wa]]
 exact List.take_sublist _ _
theorem QcQ {zs : List CR} {i : Nat} (h : i < zs.length) {L : List Vr} (hL : L.Sublist ((zs.map CR.v).take i)) : (L ++ [zs[i].v]).Sublist ((zs.map CR.v).take (i + 1)) := by
 rw [List.take_succ_eq_append_getElem (by simpa using h)]
 simp only [List.getElem_map]
 exact hL.append (List.Sublist.refl _)
def PZ (n : Nat) (r : List WantT) : Prop := (1 <= r.length /\ r.length <= 2) /\ ∀ x ∈ r, WantMay n x
def F7 (n : Nat) (m : Int) (ns : List (List WantT)) : Prop := (ns.length : Int) <= m /\ ∀ r ∈ ns, PZ n r
theorem Qam {n : Nat} {x : WantT} (h : WantMay n x) : PZ n [x] := ⟨by simp, by intro y hy; simp only [QeE] at hy; subst hy; exact h⟩
theorem Qan {n : Nat} {x y : WantT} (h : WantMay n x) (h' : WantMay n y) : PZ n [x, y] := ⟨by simp, by
 intro z hz
 simp only [Qex, Qew, or_false] at hz
 rcases hz with rfl | rfl
 ·exact h
 ·exact h'⟩
theorem Dz {n : Nat} {ns : List (List WantT)} {r : List WantT} (h : ∀ r ∈ ns, PZ n r) (hr : PZ n r) : ∀ x ∈ ns ++ [r], PZ n x := fun x hx => by
 rcases QeG.1 hx with hx | hx
 ·exact h x hx
 ·simp only [QeE] at hx; subst hx; exact hr
end M25
namespace M25
open Go Go.Abs M3
/-! ### The boxes of a world under way -/
def fbx (ec : Nat) (us : List UR) : Qes := us.map fun u => (u.k, ⟨u.cs.map dCR, 8, ec, true⟩)
def Z8 (us : List UR) : Prop := ∀ j, ∀ h : j < us.length, us[j].k = 500001 + j
theorem Ru {us : List UR} {u : UR} (h : Z8 us) (hu : u.k = 500001 + us.length) : Z8 (us ++ [u]) := fun j hj => by
 rw [List.length_append, List.length_singleton] at hj
 by_cases e : j < us.length
 ·rw [List.getElem_append_left e]; exact h j e
 ·have : j = us.length := Wa
  subst this
  rw [List.getElem_append_right (Nat.le_refl _)]; simpa using hu
theorem Nx (ec : Nat) (us : List UR) : D6 (fbx ec us) := fun p hp => by
 obtain ⟨u, _, rfl⟩ := QeJ.1 hp; rfl
theorem MF {ec : Nat} : ∀ {us : List UR} {k : Nat} {b : Box}, lk (fbx ec us) k = some b -> ∃ u ∈ us, k = u.k /\ b = ⟨u.cs.map dCR, 8, ec, true⟩
 | [], _, _, h => by cases h
 | u :: us, k, b, h => by
  simp only [fbx, List.map_cons] at h
  rw [Qk] at h
  split at h
  ·rename_i e; cases h; exact ⟨u, by simp, e.symm, rfl⟩
  ·obtain ⟨v, hv, q⟩ := MF (us := us) h
   exact ⟨v, by simp [hv], q⟩
theorem Kl {us : List UR} (h : Z8 us) {u : UR} (hu : u ∈ us) : 500001 <= u.k /\ u.k < 500001 + us.length := by
 obtain ⟨j, hj, rfl⟩ := QeR hu
 have := h j hj
 omega
theorem M7 {ec : Nat} {us : List UR} (h : Z8 us) : QcT 500001 (fbx ec us) := fun k b hk => by
 obtain ⟨u, hu, rfl, _⟩ := MF hk
 exact (Kl h hu).1
theorem YU {ec : Nat} {us : List UR} (h : Z8 us) {k : Nat} (hk : k < 500001 \/ 500001 + us.length <= k) : lk (fbx ec us) k = none := by
 cases hh : lk (fbx ec us) k with
 | none => rfl
 | some b =>
  obtain ⟨u, hu, rfl, _⟩ := MF hh
  have := Kl h hu
  omega
theorem LG {ec : Nat} : ∀ {us : List UR} {n : Nat}, (∀ j, ∀ h : j < us.length, us[j].k = n + j) -> ∀ j, ∀ h : j < us.length, lk (fbx ec us) (n + j) = some ⟨us[j].cs.map dCR, 8, ec, true⟩
 | [], _, _, j, hj => by simp at hj
 | u :: us, n, hk, 0, _ => by
  have := hk 0 Wg
  simp only [List.getElem_cons_zero, Nat.add_zero] at this
  simp only [fbx, List.map_cons, Nat.add_zero]
  rw [Qk, if_pos this]; rfl
 | u :: us, n, hk, j + 1, hj => by
  have h0 := hk 0 Wg
  simp only [List.getElem_cons_zero, Nat.add_zero] at h0
  simp only [fbx, List.map_cons]
  rw [Qk, if_neg Wa]
  have := LG (ec := ec) (us := us) (n := n + 1) (fun i hi => by
   have := hk (i + 1) (by simpa using hi)
   simp only [List.getElem_cons_succ] at this
   omega) j (by simpa using hj)
  rw [show n + 1 + j = n + (j + 1) by omega] at this
  simp only [List.getElem_cons_succ]
  exact this
theorem LF {ec : Nat} {us : List UR} (h : Z8 us) {j : Nat} (hj : j < us.length) : lk (fbx ec us) (500001 + j) = some ⟨us[j].cs.map dCR, 8, ec, true⟩ := LG h j hj
theorem S9 (ec : Nat) (us : List UR) (u : UR) : fbx ec (us ++ [u]) = fbx ec us ++ [(u.k, ⟨u.cs.map dCR, 8, ec, true⟩)] := by simp [fbx]
theorem Ck {ec : Nat} {us : List UR} (h : Z8 us) {kg : Nat} {x y : Box} {u : UR} (hu : u.k = 500001 + us.length) (hkg : u.k ≠ kg) (k : Nat) :
  lk ((u.k, ⟨u.cs.map dCR, 8, ec, true⟩) :: (500000, x) :: (kg, y) :: fbx ec us) k = lk ((500000, x) :: (kg, y) :: fbx ec (us ++ [u])) k := by
 rw [S9]
 by_cases e : u.k = k
 ·subst e
  rw [Qw, Qk, if_neg Wa, Qk, if_neg (Ne.symm hkg), YV (YU h (.inr Wa)), Qw]
 ·rw [Qk, if_neg e, Qk, Qk, Qk, Qk]
  split
  ·rfl
  ·split
   ·rfl
   ·rw [ZV]
    cases h2 : lk (fbx ec us) k with
    | some v => rfl
    | none => rw [Qk, if_neg e]; rfl
def zr (v : Vr) (sh : Int) : CR := ⟨v, .int .i64 sh, .fsl [], .fsl []⟩
def QaO (u : UR) : Prop := u.cs.length <= 4 /\ ∀ z ∈ u.cs, ∃ v sh, z = zr v sh /\ Gi v
theorem Bf {u : UR} : (dUR u).flatMap D.sid = [u.k] := by simp [dUR, D.sid]
theorem Kv {us : List UR} {e et : Nat} {k : Nat} (h : k ∈ (Box.ids ⟨us.map dUR, e, et, false⟩)) : ∃ u ∈ us, k = u.k := by
 simp only [Box.ids, QeD, if_false, QeC, QeJ] at h
 obtain ⟨r, ⟨u, hu, rfl⟩, hk⟩ := h
 have : k ∈ (dUR u).flatMap D.sid := QeC.2 hk
 rw [Bf] at this
 exact ⟨u, hu, by simpa using this⟩
theorem Qaz {us : List UR} (h : Z8 us) : ∀ r ∈ us.map dUR, ∀ d ∈ r, 500000 ∉ d.sid := fun r hr d hd hk => by
 obtain ⟨u, hu, rfl⟩ := QeJ.1 hr
 have : 500000 ∈ (dUR u).flatMap D.sid := QeC.2 ⟨d, hd, hk⟩
 rw [Bf] at this
 have h2 := Kl h hu
 simp only [QeE] at this
 omega
theorem MU {B F : Qes} {j : Nat} (h : (lk F j).isSome = true) : (lk (B ++ F) j).isSome = true := by
 rw [ZV]; split
 ·rfl
 ·exact h
theorem GA {ec : Nat} {us : List UR} (h : Z8 us) {u : UR} (hu : u ∈ us) : (lk (fbx ec us) u.k).isSome = true := by
 obtain ⟨j, hj, rfl⟩ := QeR hu
 rw [h j hj, LF h hj]; rfl
theorem M8 {ec : Nat} {us : List UR} {u : UR} (h : Z8 us) (hu : u.k = 500001 + us.length) : lk (fbx ec (us ++ [u])) (500001 + us.length) = some ⟨u.cs.map dCR, 8, ec, true⟩ := by
 rw [S9, YV (YU h (.inr (Nat.le_refl _))), <- hu, Qw]
section
variable {l : List Nat} {fr fr1 fr' : Qet} {B : Qes} {kg eg eu ec : Nat} {L : List Int} {J : Int} {us : List UR}
theorem Qc1 (hf : Zf l fr = fr1) (ef : fr1 = fr') (hK : Z8 us) (hu : lk B 500000 = some ⟨us.map dUR, 3, eu, false⟩) (hg : lk B kg = some (gB L J eg)) (hB : ∀ p ∈ B, 500001 <= p.1 -> p.1 = kg) (hkg : kg ≠ 500000)
  (hfr : ∀ p ∈ fr', ∀ k ∈ p.2.ids, k = 500000 \/ k = kg \/ ∃ u ∈ us, k = u.k) : St.le ⟨fr, B ++ fbx ec us⟩ ⟨fr', [(500000, ⟨us.map dUR, 3, eu, false⟩), (kg, gB L J eg)] ++ fbx ec us⟩ := by
 have s0 : ∀ k, (k = 500000 \/ k = kg \/ ∃ u ∈ us, k = u.k) -> (lk ([(500000, (⟨us.map dUR, 3, eu, false⟩ : Box)), (kg, gB L J eg)] ++ fbx ec us) k).isSome = true := fun k hk => by
  rcases hk with rfl | rfl | ⟨u, hu, rfl⟩
  ·exact QW
  ·exact QV QW
  ·exact MU (GA hK hu)
 refine Sp (N := 500001) hf ef (fun p hp => ?_) rfl (fun p hp j hj => s0 j ?_) (fun p hp h => ?_) (M7 hK) (Nx ec us) (fun p hp k hk => s0 k (hfr p hp k hk))
 ·simp only [Qex, Qew, or_false] at hp
  rcases hp with rfl | rfl
  ·exact hu
  ·exact hg
 ·simp only [Qex, Qew, or_false] at hp
  rcases hp with rfl | rfl
  ·exact .inr (.inr (Kv hj))
  ·simp [Box.ids, gB] at hj
 ·rw [hB p hp h]; exact QV QW
theorem QaM {cs : List CR} (hf : Zf l fr = fr1) (ef : fr1 = fr') (hK : Z8 us) (hc : lk B (500001 + us.length) = some ⟨cs.map dCR, 8, ec, true⟩) (hu : lk B 500000 = some ⟨us.map dUR, 3, eu, false⟩) (hg : lk B kg = some (gB L J eg)) (hB : ∀ p ∈ B, 500001 <= p.1 -> p.1 = kg \/ p.1 = 500001 + us.length)
  (hfr : ∀ p ∈ fr', ∀ k ∈ p.2.ids, k = 500000 \/ k = kg \/ k = 500001 + us.length \/ ∃ u ∈ us, k = u.k) : St.le ⟨fr, B ++ fbx ec us⟩ ⟨fr', [(500001 + us.length, ⟨cs.map dCR, 8, ec, true⟩), (500000, ⟨us.map dUR, 3, eu, false⟩), (kg, gB L J eg)] ++ fbx ec us⟩ := by
 have s0 : ∀ k, (k = 500000 \/ k = kg \/ k = 500001 + us.length \/ ∃ u ∈ us, k = u.k) -> (lk ([(500001 + us.length, (⟨cs.map dCR, 8, ec, true⟩ : Box)), (500000, (⟨us.map dUR, 3, eu, false⟩ : Box)), (kg, gB L J eg)] ++ fbx ec us) k).isSome = true := fun k hk => by
  rcases hk with rfl | rfl | rfl | ⟨u, hu, rfl⟩
  ·exact QV QW
  ·exact QV (QV QW)
  ·exact QW
  ·exact MU (GA hK hu)
 refine Sp (N := 500001) hf ef (fun p hp => ?_) rfl (fun p hp j hj => s0 j ?_) (fun p hp h => ?_) (M7 hK) (Nx ec us) (fun p hp k hk => s0 k (hfr p hp k hk))
 ·simp only [Qex, Qew, or_false] at hp
  rcases hp with rfl | rfl | rfl
  ·exact hc
  ·exact hu
  ·exact hg
 ·simp only [Qex, Qew, or_false] at hp
  rcases hp with rfl | rfl | rfl
  ·simp [Box.ids] at hj
  ·exact .inr (.inr (.inr (Kv hj)))
  ·simp [Box.ids, gB] at hj
 ·rcases hB p hp h with e | e
  ·rw [e]; exact QV (QV QW)
  ·rw [e]; exact QW
theorem QbH {u : UR} (hf : Zf l fr = fr1) (ef : fr1 = fr') (hK : Z8 us) (huk : u.k = 500001 + us.length) (hc : lk B (500001 + us.length) = some ⟨u.cs.map dCR, 8, ec, true⟩) (hu : lk B 500000 = some ⟨(us ++ [u]).map dUR, 3, eu, false⟩) (hg : lk B kg = some (gB L J eg)) (hB : ∀ p ∈ B, 500001 <= p.1 -> p.1 = kg \/ p.1 = 500001 + us.length) (hkg : 1000000 <= kg) (hlen : us.length <= 100)
  (hfr : ∀ p ∈ fr', ∀ k ∈ p.2.ids, k = 500000 \/ k = kg \/ ∃ v ∈ us ++ [u], k = v.k) : St.le ⟨fr, B ++ fbx ec us⟩ ⟨fr', [(500000, ⟨(us ++ [u]).map dUR, 3, eu, false⟩), (kg, gB L J eg)] ++ fbx ec (us ++ [u])⟩ := by
 have hK1 := Ru hK huk
 have mv := fun k => Ck (ec := ec) hK (kg := kg) (x := ⟨(us ++ [u]).map dUR, 3, eu, false⟩) (y := gB L J eg) huk Wa k
 have s0 : ∀ k, (k = 500000 \/ k = kg \/ ∃ v ∈ us ++ [u], k = v.k) -> (lk ([(u.k, (⟨u.cs.map dCR, 8, ec, true⟩ : Box)), (500000, (⟨(us ++ [u]).map dUR, 3, eu, false⟩ : Box)), (kg, gB L J eg)] ++ fbx ec us) k).isSome = true := fun k hk => by
  show (lk ((u.k, _) :: (500000, _) :: (kg, _) :: fbx ec us) k).isSome = true
  rw [mv]
  rcases hk with rfl | rfl | ⟨v, hv, rfl⟩
  ·exact QW
  ·exact QV QW
  ·exact QV (QV (GA hK1 hv))
 refine le_trans (Sp (N := 500001) (A' := [(u.k, ⟨u.cs.map dCR, 8, ec, true⟩), (500000, ⟨(us ++ [u]).map dUR, 3, eu, false⟩), (kg, gB L J eg)]) hf ef (fun p hp => ?_) rfl (fun p hp j hj => s0 j ?_) (fun p hp h => ?_) (M7 hK) (Nx ec us) (fun p hp k hk => s0 k (hfr p hp k hk))) (Sn ⟨fun _ => rfl, mv⟩)
 ·simp only [Qex, Qew, or_false] at hp
  rcases hp with rfl | rfl | rfl
  ·rw [huk]; exact hc
  ·exact hu
  ·exact hg
 ·simp only [Qex, Qew, or_false] at hp
  rcases hp with rfl | rfl | rfl
  ·simp [Box.ids] at hj
  ·exact .inr (.inr (Kv hj))
  ·simp [Box.ids, gB] at hj
 ·rcases hB p hp h with e | e
  ·rw [e]; exact QV (QV QW)
  ·rw [e, <- huk]; exact QW
end
def u0 (v : Vr) : UR := ⟨[], [], 500001, [zr v (-1)]⟩
theorem CX {kg a b : Nat} (h : 1000000 <= kg) (ha : a < 1000000) (hb : b < 1000000) : KF a b kg = kg := by
 unfold KF; rw [if_neg Wa, if_neg Wa]
theorem L2 {l : List Nat} {fr fr1 fr' : Qet} {kg eg eu ec : Nat} {L : List Int} {I : Int} (hkg : 1000000 <= kg) (hf : Zf l fr = fr1) (ef : fr1.map (fun p => (p.1, (p.2.ren (KF 18 500000)).ren (KF 16 500001))) = fr') :
  St.le ⟨fr, [(18, ⟨[[.str [], .str [], .osl 16 1]], 3, eu, false⟩), (16, ⟨[dCR (zr v0 (-1))], 8, ec, true⟩), (kg, gB L I eg)]⟩ ⟨fr', [(500000, ⟨[u0 v0].map dUR, 3, eu, false⟩), (kg, gB L I eg)] ++ fbx ec [u0 v0]⟩ := by
 subst hf ef
 have k1 := CX (a := 18) (b := 500000) hkg Wl Wl
 have k2 := CX (a := 16) (b := 500001) hkg Wl Wl
 refine le_trans (K1 l fr _) (le_trans (So 18 500000 Wl Wl _) (le_trans (So 16 500001 Wl Wl _) ?_))
 have hH : ∀ k, lk ([(500000, (⟨[u0 v0].map dUR, 3, eu, false⟩ : Box)), (kg, gB L I eg)] ++ fbx ec [u0 v0]) k = lk (PR (KF 16 500001) (PR (KF 18 500000) [(18, ⟨[[.str [], .str [], .osl 16 1]], 3, eu, false⟩), (16, ⟨[dCR (zr v0 (-1))], 8, ec, true⟩), (kg, gB L I eg)])) k := fun k => by
  have e : PR (KF 16 500001) (PR (KF 18 500000) [(18, (⟨[[.str [], .str [], .osl 16 1]], 3, eu, false⟩ : Box)), (16, ⟨[dCR (zr v0 (-1))], 8, ec, true⟩), (kg, gB L I eg)]) = [(500000, ⟨[u0 v0].map dUR, 3, eu, false⟩), (500001, ⟨[dCR (zr v0 (-1))], 8, ec, true⟩), (kg, gB L I eg)] := by
   simp only [PR, List.map_cons, List.map_nil, k1, k2]; rfl
  rw [e]
  show lk ((500000, _) :: (kg, _) :: (500001, _) :: []) k = _
  rw [Qk, Qk, Qk, Qk, Qk, Qk]
  by_cases h1 : 500000 = k
  ·rw [if_pos h1, if_pos h1]
  ·rw [if_neg h1, if_neg h1]
   by_cases h2 : kg = k
   ·rw [if_pos h2, if_neg Wa, if_pos h2]
   ·rw [if_neg h2, if_neg h2]; rfl
 refine Km (by simp only [St.ren, List.map_map]; rfl) fun k => (hH k).symm
def names5 : List (List UInt8) := [[97, 110, 116], [98, 101, 101], [99, 111, 119], [100, 111, 103], [101, 108, 107]]
theorem Q8 : names5.length = 5 := rfl
theorem Hk : versions.length = 4 := rfl
theorem DT {i : Nat} (h : i < versions.length) : Gi versions[i] := by
 have := SL _ (QeA h)
 exact ⟨QeO this.1 Wa, QeO this.2 Wa⟩
structure UnitsIn (us : List UR) : Prop where
 keys : Z8 us
 fresh : ∀ u ∈ us, QaO u
 first : ∃ z rest, us = ⟨[], [], 500001, [z]⟩ :: rest
theorem UnitsIn.zero : UnitsIn [u0 v0] := by
 refine ⟨fun j hj => ?_, fun u hu => ?_, ⟨zr v0 (-1), [], rfl⟩⟩
 ·have : j = 0 := by simp at hj; exact hj
  subst this; rfl
 ·simp only [QeE] at hu; subst hu
  refine ⟨by simp [u0], fun z hz => ?_⟩
  simp only [u0, QeE] at hz; subst hz
  exact ⟨v0, -1, rfl, ⟨QeH _, QeH _⟩⟩
theorem UnitsIn.snoc {us : List UR} (h : UnitsIn us) {n f : List UInt8} {cs : List CR} (hc : cs.length <= 4) (hz : ∀ z ∈ cs, ∃ v sh, z = zr v sh /\ Gi v) : UnitsIn (us ++ [⟨n, f, 500001 + us.length, cs⟩]) := by
 obtain ⟨h1, h2, z, rest, h3⟩ := h
 refine ⟨Ru h1 rfl, fun u hu => ?_, z, rest ++ [⟨n, f, 500001 + us.length, cs⟩], by rw [h3]; rfl⟩
 rcases QeG.1 hu with hu | hu
 ·exact h2 u hu
 ·simp only [QeE] at hu; subst hu; exact ⟨hc, hz⟩
def CsIn (n : Nat) (cs : List CR) : Prop := cs.length <= n /\ ∀ z ∈ cs, ∃ v sh, z = zr v sh /\ Gi v
theorem CsIn.nil (n : Nat) : CsIn n [] := ⟨QeH _, by simp⟩
theorem CsIn.keep {n : Nat} {cs : List CR} (h : CsIn n cs) : CsIn (n + 1) cs := ⟨Nat.le_succ_of_le h.1, h.2⟩
theorem CsIn.snoc {n : Nat} {cs : List CR} (h : CsIn n cs) {v : Vr} (hv : Gi v) {sh : Int} : CsIn (n + 1) (cs ++ [zr v sh]) := by
 refine ⟨by simp; exact h.1, fun z hz => ?_⟩
 rcases QeG.1 hz with hz | hz
 ·exact h.2 z hz
 ·simp only [QeE] at hz; subst hz; exact ⟨v, sh, rfl, hv⟩
theorem CsIn.at {n : Nat} {cs : List CR} (h : CsIn n cs) {i : Nat} (hi : i < cs.length) : Gi cs[i].v := by
 obtain ⟨v, sh, e, hv⟩ := h.2 _ (QeA hi)
 rw [e]; exact hv
/-! ### What units are called, and of which versions they are -/
def nmR (r : Nat) : List UInt8 := names5.getD (r / 2) []
def ftR (r : Nat) : List UInt8 := if r % 2 = 1 then [102] else []
def shp (u : UR) : List UInt8 × List UInt8 × List Vr := (u.n, u.f, u.cs.map CR.v)
inductive UL : Nat -> List (List UInt8 × List UInt8 × List Vr) -> Prop
 | base : UL 0 [([], [], [v0])]
 | snoc {b r : Nat} {l : List (List UInt8 × List UInt8 × List Vr)} {vs : List Vr} (h : UL b l) (hb : b <= r) (hr : r < 10) (hf : r % 2 = 1 -> 2 <= l.length) (hc : vs.Sublist versions) : UL (r + 1) (l ++ [(nmR r, ftR r, vs)])
 | up {b b' : Nat} {l : List (List UInt8 × List UInt8 × List Vr)} (h : UL b l) (hb : b <= b') : UL b' l
theorem Dd {n : Nat} (h : n < names5.length) : nmR (2 * n) = names5[n] /\ ftR (2 * n) = [] /\ nmR (2 * n + 1) = names5[n] /\ ftR (2 * n + 1) = [102] := by
 refine ⟨?_, ?_, ?_, ?_⟩
 ·rw [nmR, show 2 * n / 2 = n by omega, List.getD_eq_getElem?_getD, List.getElem?_eq_getElem h]; rfl
 ·rw [ftR, if_neg Wa]
 ·rw [nmR, show (2 * n + 1) / 2 = n by omega, List.getD_eq_getElem?_getD, List.getElem?_eq_getElem h]; rfl
 ·rw [ftR, if_pos Wa]
theorem DR {n : Nat} {us : List UR} {k : Nat} {cs : List CR} (h : UL (2 * n) (us.map shp)) (hn : n < names5.length) (hc : (cs.map CR.v).Sublist versions) : UL (2 * n + 1) ((us ++ [UR.mk names5[n] [] k cs]).map shp) := by
 obtain ⟨e1, e2, _, _⟩ := Dd hn
 have := UL.snoc h (Nat.le_refl _) (by have := Q8; omega) (fun e => Wa) hc
 rw [List.map_append]
 show UL _ (_ ++ [(names5[n], [], cs.map CR.v)])
 rw [<- e1, <- e2]; exact this
theorem QcO {n : Nat} {us : List UR} {k : Nat} {cs : List CR} (h : UL (2 * n + 1) (us.map shp)) (hn : n < names5.length) (h2 : 2 <= us.length) (hc : (cs.map CR.v).Sublist versions) : UL (2 * (n + 1)) ((us ++ [UR.mk names5[n] [102] k cs]).map shp) := by
 obtain ⟨_, _, e1, e2⟩ := Dd hn
 have := UL.snoc h (Nat.le_refl _) (by have := Q8; omega) (fun _ => by simpa using h2) hc
 rw [List.map_append]
 show UL (2 * n + 1 + 1) (_ ++ [(names5[n], [102], cs.map CR.v)])
 rw [<- e1, <- e2]; exact this
theorem UL.pos {b : Nat} {l : List (List UInt8 × List UInt8 × List Vr)} (h : UL b l) : 1 <= l.length := by
 induction h with
 | base => exact Nat.le_refl _
 | snoc _ _ _ _ _ ih => rw [List.length_append]; omega
 | up _ _ ih => exact ih
theorem UL.vs {b : Nat} {l : List (List UInt8 × List UInt8 × List Vr)} (h : UL b l) : ∀ s ∈ l, VsL s.2.2 := by
 induction h with
 | base => intro s hs; simp only [QeE] at hs; subst hs; exact .inr rfl
 | snoc _ _ _ _ hc ih =>
  intro s hs
  rcases QeG.1 hs with hs | hs
  ·exact ih s hs
  ·simp only [QeE] at hs; subst hs; exact .inl hc
 | up _ _ ih => exact ih
theorem UL.feat {b : Nat} {l : List (List UInt8 × List UInt8 × List Vr)} (h : UL b l) : ∀ i (hi : i < l.length), l[i].2.1 ≠ [] -> 2 <= i := by
 induction h with
 | base =>
  intro i hi hf
  have : i = 0 := by simp at hi; exact hi
  subst this; exact absurd rfl hf
 | @snoc b r l vs h _ _ hr _ ih =>
  intro i hi hf
  rw [List.length_append, List.length_singleton] at hi
  by_cases e : i < l.length
  ·rw [List.getElem_append_left e] at hf; exact ih i e hf
  ·have : i = l.length := Wa
   subst this
   rw [List.getElem_append_right (Nat.le_refl _)] at hf
   simp only [Nat.sub_self, List.getElem_cons_zero, ftR] at hf
   split at hf
   ·rename_i q; exact hr q
   ·exact absurd rfl hf
 | up _ _ ih => exact ih
theorem QbJ {l : List Vr} {cs : List CR} {i : Nat} {x : Int} (h : i < l.length) (hL : (cs.map CR.v).Sublist (l.take i)) : ((cs ++ [zr l[i] x]).map CR.v).Sublist (l.take (i + 1)) := by
 rw [List.map_append, List.take_succ_eq_append_getElem h]
 exact hL.append (List.Sublist.refl _)
theorem QbI {cs c2 : List CR} {m : Nat} {x : Int} (h : m < cs.length) (hL : (c2.map CR.v).Sublist ((cs.map CR.v).take m)) : ((c2 ++ [zr cs[m].v x]).map CR.v).Sublist ((cs.map CR.v).take (m + 1)) := by
 rw [List.map_append, List.take_succ_eq_append_getElem (by simpa using h)]
 simp only [List.getElem_map]
 exact hL.append (List.Sublist.refl _)
theorem TG {L : List Vr} {i : Nat} (h : L.Sublist (versions.take i)) : L.Sublist versions := h.trans (List.take_sublist _ _)
theorem Tm {α : Type} {k : Nat} {v v' : α} {l : List (Nat × α)} (h : v = v') : lk ((k, v) :: l) k = some v' := by rw [Qw, h]
theorem RP {us : List UR} {e et : Nat} (h : Z8 us) : Box.scrub (500001 + us.length) ⟨us.map dUR, e, et, false⟩ = ⟨us.map dUR, e, et, false⟩ := RO fun hk => by
 obtain ⟨u, hu, e⟩ := Kv hk
 have := Kl h hu
 omega
theorem TF {us : List UR} (h : Z8 us) {n f : List UInt8} {k m : Nat} (hk : k ≠ 500000) : ∀ r ∈ us.map dUR ++ [[D.str n, D.str f, D.osl k m]], ∀ d ∈ r, 500000 ∉ d.sid := fun r hr d hd => by
 rcases QeG.1 hr with hr | hr
 ·exact Qaz h r hr d hd
 ·simp only [QeE] at hr; subst hr
  simp only [Qex, Qew, or_false] at hd
  rcases hd with rfl | rfl | rfl <;> simp [D.sid]
  exact Ne.symm hk
theorem Qay {us : List UR} {u : UR} : (us ++ [u]).map dUR = us.map dUR ++ [dUR u] := by simp
theorem B4 {cs : List CR} {z : CR} : (cs ++ [z]).map dCR = cs.map dCR ++ [dCR z] := by simp
theorem J8 {us : List UR} (h : Z8 us) {kg eu ec : Nat} {g1 g2 g3 : Box} (hkg : 1000000 <= kg) (h1 : g1.pr = true) (h2 : g2.pr = true) (hlen : us.length <= 100) :
  (∀ k, 1000000 <= k -> (lk [(kg, g1)] k).isSome = true -> (lk (((500000, (⟨us.map dUR, 3, eu, false⟩ : Box)) :: fbx ec us) ++ [(kg, g2), (kg, g1)]) k).isSome = true) /\
  (∀ k b, lk (((500000, (⟨us.map dUR, 3, eu, false⟩ : Box)) :: fbx ec us) ++ [(kg, g2), (kg, g1)]) k = some b -> 500000 <= k /\ ∀ j ∈ b.ids, (lk (((500000, (⟨us.map dUR, 3, eu, false⟩ : Box)) :: fbx ec us) ++ [(kg, g2), (kg, g1)]) j).isSome = true) /\
  (∀ k b, lk (((500000, (⟨us.map dUR, 3, eu, false⟩ : Box)) :: fbx ec us) ++ [(kg, g2), (kg, g1)]) k = some b -> lk ((kg, g2) :: (500000, ⟨us.map dUR, 3, eu, false⟩) :: (kg, g3) :: fbx ec us) k = some b) := by
 have cs : ∀ k b, lk (((500000, (⟨us.map dUR, 3, eu, false⟩ : Box)) :: fbx ec us) ++ [(kg, g2), (kg, g1)]) k = some b -> (k = 500000 /\ b = ⟨us.map dUR, 3, eu, false⟩) \/ (∃ u ∈ us, k = u.k /\ b = ⟨u.cs.map dCR, 8, ec, true⟩) \/ (k = kg /\ b = g2) := fun k b hk => by
  rw [List.cons_append, Qk] at hk
  split at hk
  ·rename_i e; cases hk; exact .inl ⟨e.symm, rfl⟩
  ·rw [ZV] at hk
   cases hh : lk (fbx ec us) k with
   | some v =>
    rw [hh] at hk; cases hk
    exact .inr (.inl (MF hh))
   | none =>
    rw [hh] at hk
    simp only at hk
    rw [Qk] at hk
    split at hk
    ·rename_i e; cases hk; exact .inr (.inr ⟨e.symm, rfl⟩)
    ·rename_i e
     rw [Qk, if_neg e] at hk; cases hk
 refine ⟨fun k _ hk => ?_, fun k b hk => ?_, fun k b hk => ?_⟩
 ·obtain ⟨b, hb⟩ := QeB.1 hk
  obtain ⟨rfl, _⟩ := XY hb
  exact MU QW
 ·rcases cs k b hk with ⟨rfl, rfl⟩ | ⟨u, hu, rfl, rfl⟩ | ⟨rfl, rfl⟩
  ·refine ⟨Nat.le_refl _, fun j hj => ?_⟩
   obtain ⟨u, hu, rfl⟩ := Kv hj
   rw [List.cons_append]
   refine QV ?_
   obtain ⟨b, hb⟩ := QeB.1 (GA (ec := ec) h hu)
   rw [Yu hb]; rfl
  ·have := Kl h hu
   exact ⟨Wa, fun j hj => by simp [Box.ids] at hj⟩
  ·exact ⟨Wa, fun j hj => by rw [X5 h2] at hj; cases hj⟩
 ·rcases cs k b hk with ⟨rfl, rfl⟩ | ⟨u, hu, rfl, rfl⟩ | ⟨rfl, rfl⟩
  ·exact Qj Wa Qw
  ·have hm := Kl h hu
   obtain ⟨j, hj, rfl⟩ := QeR hu
   refine Qj Wa (Qj Wa (Qj Wa ?_))
   rw [h j hj]; exact LF h hj
  ·exact Qw
end M25
namespace M25
open Go Go.Abs M3
/-! ### A world under way: one candidate after the other is filled -/
def PureC (z : CR) : Prop := z.x.sid = [] /\ z.y.sid = [] /\ z.z.sid = []
theorem PureC.all {z : CR} (h : PureC z) : ∀ d ∈ dCR z, d.sid = [] := fun d hd => by
 simp only [dCR, Qex, Qew, or_false] at hd
 rcases hd with rfl | rfl | rfl | rfl | rfl | rfl | rfl | rfl
 ·rfl
 ·rfl
 ·rfl
 ·rfl
 ·rfl
 ·exact h.1
 ·exact h.2.1
 ·exact h.2.2
def G5 (u : UR) (k : Nat) (z : CR) : UR := { u with cs := u.cs.set k z }
def Hj (us : List UR) (i k : Nat) (z : CR) : List UR := us.modify i fun u => G5 u k z
theorem Zt (us : List UR) (i k : Nat) (z : CR) : (Hj us i k z).length = us.length := List.length_modify ..
theorem TE (us : List UR) (i k : Nat) (z : CR) : (Hj us i k z).map dUR = us.map dUR := by
 refine List.ext_getElem (by simp [Hj]) fun j h1 h2 => ?_
 simp only [List.getElem_map, Hj, List.getElem_modify]
 split <;> simp [dUR, G5]
theorem Jp {us : List UR} {i k : Nat} {z : CR} {j : Nat} (h : j < us.length) : (Hj us i k z)[j]'(by rw [Zt]; exact h) = if i = j then G5 us[j] k z else us[j] := by
 simp only [Hj, List.getElem_modify]
theorem GZ {us : List UR} {i k : Nat} {z : CR} (h : Z8 us) : Z8 (Hj us i k z) := fun j hj => by
 rw [Zt] at hj
 rw [Jp hj]
 split
 ·exact h j hj
 ·exact h j hj
def wA (us : List UR) (eu ec eg : Nat) (L : List Int) (J : Int) (b4 : Box) : Qes := [(500000, ⟨us.map dUR, 3, eu, false⟩), (12, gB L J eg), (4, b4)] ++ fbx ec us
theorem Kw {us : List UR} {eu ec eg : Nat} {L : List Int} {J : Int} {b4 : Box} (h : Z8 us) {k : Nat} {b : Box} (hk : lk (wA us eu ec eg L J b4) k = some b) : (k = 500000 /\ b = ⟨us.map dUR, 3, eu, false⟩) \/ (k = 12 /\ b = gB L J eg) \/ (k = 4 /\ b = b4) \/ ∃ j, ∃ hj : j < us.length, k = 500001 + j /\ b = ⟨us[j].cs.map dCR, 8, ec, true⟩ := by
 unfold wA at hk
 rcases NJ hk with hk | ⟨_, hk⟩
 ·simp only [Qex, Qew, or_false, Prod.mk.injEq] at hk
  rcases hk with h | h | h
  ·exact .inl h
  ·exact .inr (.inl h)
  ·exact .inr (.inr (.inl h))
 ·obtain ⟨u, hu, e1, e2⟩ := MF hk
  obtain ⟨j, hj, rfl⟩ := QeR hu
  exact .inr (.inr (.inr ⟨j, hj, e1.trans (h j hj), e2⟩))
section
variable {us : List UR} {eu ec eg : Nat} {L : List Int} {J : Int} {b4 : Box}
theorem F3 : lk (wA us eu ec eg L J b4) 500000 = some ⟨us.map dUR, 3, eu, false⟩ := rfl
theorem FG : lk (wA us eu ec eg L J b4) 12 = some (gB L J eg) := rfl
theorem Ma : lk (wA us eu ec eg L J b4) 4 = some b4 := rfl
theorem Gj (h : Z8 us) {j : Nat} (hj : j < us.length) : lk (wA us eu ec eg L J b4) (500001 + j) = some ⟨us[j].cs.map dCR, 8, ec, true⟩ := by
 show lk ((500000, _) :: (12, _) :: (4, _) :: fbx ec us) _ = _
 rw [Qk, if_neg Wa, Qk, if_neg Wa, Qk, if_neg Wa]
 exact LF h hj
theorem ZZ (h : Z8 us) {k : Nat} (h1 : k ≠ 500000) (h2 : k ≠ 12) (h3 : k ≠ 4) (h4 : k < 500001 \/ 500001 + us.length <= k) : lk (wA us eu ec eg L J b4) k = none := by
 show lk ((500000, _) :: (12, _) :: (4, _) :: fbx ec us) _ = _
 rw [Qk, if_neg (Ne.symm h1), Qk, if_neg (Ne.symm h2), Qk, if_neg (Ne.symm h3)]
 exact YU h h4
theorem SN (h : Z8 us) {k : Nat} (hk : k = 500000 \/ k = 12 \/ k = 4 \/ ∃ u ∈ us, k = u.k) : (lk (wA us eu ec eg L J b4) k).isSome = true := by
 rcases hk with rfl | rfl | rfl | ⟨u, hu, rfl⟩
 ·rfl
 ·rfl
 ·rfl
 ·obtain ⟨j, hj, rfl⟩ := QeR hu
  rw [h j hj, Gj h hj]; rfl
theorem Jq (h : Z8 us) (h4 : b4.pr = true) : Closed (wA us eu ec eg L J b4) := fun k b hk j hj => by
 rcases Kw h hk with ⟨rfl, rfl⟩ | ⟨rfl, rfl⟩ | ⟨rfl, rfl⟩ | ⟨i, hi, rfl, rfl⟩
 ·exact SN h (.inr (.inr (.inr (Kv hj))))
 ·simp [Box.ids, gB] at hj
 ·rw [X5 h4] at hj; cases hj
 ·simp [Box.ids] at hj
theorem Fo {α : Type} : ∀ {l : List α} {k : Nat} {a x : α}, x ∈ l.set k a -> x = a \/ x ∈ l
 | [], k, a, x, h => by simp at h
 | b :: l, 0, a, x, h => by
  simp only [List.set_cons_zero, Qex] at h ⊢
  rcases h with h | h
  ·exact .inl h
  ·exact .inr (.inr h)
 | b :: l, k + 1, a, x, h => by
  simp only [List.set_cons_succ, Qex] at h ⊢
  rcases h with h | h
  ·exact .inr (.inl h)
  ·rcases Fo h with h | h
   ·exact .inl h
   ·exact .inr (.inr h)
theorem NF {l : List Nat} {fr fr1 fr' : Qet} {H : Qes} {i k : Nat} {row : List D} {p : Bool} (kk : Nat) (z' : CR) (hf : Zf l fr = fr1) (ef : fr1 = fr') (hK : Z8 us) (hi : i < us.length) (hk : k < us[i].cs.length)
  (hKi : lk H (500001 + i) = some ⟨(us[i].cs.map dCR).set k row, 8, ec, p⟩) (hp : p = true -> row.map (D.fzS H (· == kk)) = row) (hrow : (row.map (D.fzS H (· == kk))).map D.canS = dCR z') (hoth : ∀ z ∈ us[i].cs, PureC z) (hz : PureC z')
  (hF : ∀ j, ∀ hj : j < us.length, j ≠ i -> lk H (500001 + j) = some ⟨us[j].cs.map dCR, 8, ec, true⟩) (hu : lk H 500000 = some ⟨us.map dUR, 3, eu, false⟩) (hg : lk H 12 = some (gB L J eg)) (h4 : lk H 4 = some b4) (hb4 : b4.pr = true) (hkk : kk < 500000 /\ kk ≠ 12 /\ kk ≠ 4) (hsm : ∀ j, 1000000 <= j -> lk H j = none) (hlen : us.length <= 100)
  (hfr : ∀ p ∈ fr', ∀ j ∈ p.2.ids, j = 500000 \/ j = 12 \/ j = 4 \/ ∃ u ∈ us, j = u.k) : St.le ⟨fr, H⟩ ⟨fr', wA (Hj us i k z') eu ec eg L J b4⟩ := by
 subst hf ef
 have nokk : ∀ j, (j = 500000 \/ j = 12 \/ j = 4 \/ ∃ u ∈ us, j = u.k) -> j ≠ kk := fun j hj e => by
  subst e
  rcases hj with rfl | rfl | rfl | ⟨u, hu, rfl⟩
  ·omega
  ·exact hkk.2.1 rfl
  ·exact hkk.2.2 rfl
  ·have := (Kl hK hu).1; omega
 have eqkk : ∀ j, j ≠ kk -> (j == kk) = false := fun j hj => by simp [hj]
 have some1 : ∀ b j, (j = 500000 \/ j = 12 \/ j = 4 \/ ∃ u ∈ us, j = u.k) -> (lk ((500001 + i, b) :: wA us eu ec eg L J b4) j).isSome = true := fun b j hj => QV (SN hK hj)
 have rowsz : ∀ r ∈ us[i].cs.map dCR, r.map (D.fzS H (· == kk)) = r := fun r hr => by
  obtain ⟨z, hzm, rfl⟩ := QeJ.1 hr
  exact Y3 fun d hd => Fh fun j hj => by rw [(hoth z hzm).all d hd] at hj; cases hj
 have mapz : ((us[i].cs.map dCR).set k row).map (fun r => r.map (D.fzS H (· == kk))) = (us[i].cs.map dCR).set k (row.map (D.fzS H (· == kk))) := by
  refine List.ext_getElem Wg fun j h1 h2 => ?_
  simp only [List.getElem_map, List.getElem_set]
  split
  ·rfl
  ·exact rowsz _ (List.mem_map_of_mem (QeA _))
 refine le_trans (K1 l fr H) (le_trans (Bh kk (H' := (500001 + i, ⟨(us[i].cs.map dCR).set k (row.map (D.fzS H (· == kk))), 8, ec, p⟩) :: wA us eu ec eg L J b4) Wa (fr' := Zf l fr) (fun t d h => ⟨d, h, Rn fun j hj => eqkk j (nokk j (hfr (t, d) (Ym h) j hj))⟩) (fun j b h => ?_) (fun t d h j hj => some1 _ j (hfr (t, d) (Ym h) j hj)) (fun j b h j2 hj2 => ?_) fun j hj hs => ?_) ?_)
 ·rw [Qk] at h
  split at h
  ·rename_i e; cases h; subst e
   refine ⟨Wa, _, hKi, ?_⟩
   cases p with
   | true => rw [hp rfl]; rfl
   | false => show Box.mk _ _ _ _ = _; rw [mapz]
  ·rename_i e
   rcases Kw hK h with ⟨rfl, rfl⟩ | ⟨rfl, rfl⟩ | ⟨rfl, rfl⟩ | ⟨i2, hi2, rfl, rfl⟩
   ·refine ⟨Wa, _, hu, XF (.inr fun j hj => eqkk j (nokk j (.inr (.inr (.inr (Kv hj))))))⟩
   ·exact ⟨Ne.symm hkk.2.1, _, hg, rfl⟩
   ·exact ⟨Ne.symm hkk.2.2, _, h4, XF (.inl hb4)⟩
   ·exact ⟨Wa, _, hF i2 hi2 (fun e2 => e Wa), rfl⟩
 ·rw [Qk] at h
  split at h
  ·cases h
   cases hpp : p with
   | true => rw [X5 hpp] at hj2; cases hj2
   | false =>
   simp only [Box.ids, hpp, QeD, if_false, QeC] at hj2
   obtain ⟨r, hr, d, hd, hj3⟩ := hj2
   rcases Fo hr with rfl | hr
   ·have : (d.canS).sid = [] := hz.all _ (by rw [<- hrow]; exact List.mem_map_of_mem hd)
    rw [Hm] at this
    rw [this] at hj3; cases hj3
   ·obtain ⟨z, hzm, rfl⟩ := QeJ.1 hr
    rw [(hoth z hzm).all d hd] at hj3; cases hj3
  ·exact QV (Jq hK hb4 j b h j2 hj2)
 ·rw [hsm j hj] at hs; cases hs
 ·refine le_trans (Cz k Qw) (le_trans (Sl Qw (fun e => ?_) (fun r hr d hd => ?_)) (Km rfl fun j => ?_))
  ·have := congrArg List.length e
   simp only [List.length_modify, List.length_set, List.length_map, List.length_nil] at this
   omega
  ·rcases JY hr with h | ⟨y, hy, rfl⟩
   ·rcases Fo h with rfl | h
    ·have : (d.canS).sid = [] := hz.all _ (by rw [<- hrow]; exact List.mem_map_of_mem hd)
     rwa [Hm] at this
    ·obtain ⟨z, hzm, rfl⟩ := QeJ.1 h
     exact (hoth z hzm).all d hd
   ·obtain ⟨d0, hd0, rfl⟩ := QeJ.1 hd
    rw [Hm]
    rcases Fo hy with rfl | h
    ·have : (d0.canS).sid = [] := hz.all _ (by rw [<- hrow]; exact List.mem_map_of_mem hd0)
     rwa [Hm] at this
    ·obtain ⟨z, hzm, rfl⟩ := QeJ.1 h
     exact (hoth z hzm).all d0 hd0
  ·have erows : ((us[i].cs.map dCR).set k (row.map (D.fzS H (· == kk)))).modify k (fun r => r.map D.canS) = ((us[i].cs.set k z').map dCR) := by
    refine List.ext_getElem Wg fun m h1 h2 => ?_
    simp only [List.getElem_modify, List.getElem_set, List.getElem_map]
    by_cases e : k = m
    ·subst e
     simp only [if_true]
     exact hrow
    ·simp only [if_neg e]
   have hK' := GZ (i := i) (k := k) (z := z') hK
   by_cases e : 500001 + i = j
   ·subst e
    rw [Qw, Gj hK' (by rw [Zt]; exact hi)]
    simp only [Jp hi, if_true, erows]; rfl
   ·rw [Qk, if_neg e, Qk, if_neg e, Qk, if_neg e]
    cases h : lk (wA us eu ec eg L J b4) j with
    | none =>
     cases h' : lk (wA (Hj us i k z') eu ec eg L J b4) j with
     | none => rfl
     | some b =>
      have : (lk (wA us eu ec eg L J b4) j).isSome = true := by
       rcases Kw hK' h' with ⟨rfl, _⟩ | ⟨rfl, _⟩ | ⟨rfl, _⟩ | ⟨m, hm, rfl, _⟩
       ·rfl
       ·rfl
       ·rfl
       ·rw [Zt] at hm; rw [Gj hK hm]; rfl
      rw [h] at this; cases this
    | some b =>
     rcases Kw hK h with ⟨rfl, rfl⟩ | ⟨rfl, rfl⟩ | ⟨rfl, rfl⟩ | ⟨m, hm, rfl, rfl⟩
     ·rw [F3, TE]
     ·rfl
     ·rfl
     ·rw [Gj hK' (by rw [Zt]; exact hm)]
      simp only [Jp hm, if_neg (Wa : ¬ i = m)]
end
theorem GH : ∀ {H : Qes} {j : Nat}, j ∈ H.map Prod.fst -> (lk H j).isSome = true
 | [], _, h => by cases h
 | (k, b) :: H, j, h => by
  by_cases e : k = j
  ·subst e; exact QW
  ·refine QV (GH ?_)
   simp only [List.map_cons, Qex] at h
   exact h.resolve_left (Ne.symm e)
theorem C0 {us : List UR} (h : Z8 us) {i : Nat} (hi : i < us.length) : (us.map dUR)[((i : Nat) : Int).toNat]? = some [.str us[i].n, .str us[i].f, .osl (500001 + i) us[i].cs.length] := by
 rw [Int.toNat_natCast, List.getElem?_map, List.getElem?_eq_getElem hi, Option.map_some, dUR, h i hi]
theorem Qb9 {cs : List CR} {k : Nat} (hk : k < cs.length) : (cs.map dCR)[((k : Nat) : Int).toNat]? = some (dCR cs[k]) := by
 rw [Int.toNat_natCast, List.getElem?_map, List.getElem?_eq_getElem hk]; rfl
theorem SI {us : List UR} {eu ec eg : Nat} {L : List Int} {J : Int} {b4 g1 : Box} (h : Z8 us) (k : Nat) : lk (((500000, (⟨us.map dUR, 3, eu, false⟩ : Box)) :: fbx ec us) ++ ([(12, gB L J eg)] ++ [(12, g1), (4, b4)])) k = lk (wA us eu ec eg L J b4) k := by
 show lk ((500000, _) :: (fbx ec us ++ [(12, gB L J eg), (12, g1), (4, b4)])) k = lk ((500000, _) :: (12, _) :: (4, _) :: fbx ec us) k
 rw [Qk, Qk]
 split
 ·rfl
 ·rw [ZV]
  cases hh : lk (fbx ec us) k with
  | some v =>
   have := M7 h k v hh
   simp only
   rw [Qk, if_neg Wa, Qk, if_neg Wa, hh]
  | none =>
   simp only [Qk, hh]
   by_cases e : 12 = k
   ·rw [if_pos e, if_pos e]
   ·rw [if_neg e, if_neg e, if_neg e]; rfl
theorem TH {us : List UR} {eu ec eg : Nat} {L : List Int} {J : Int} {b4 : Box} (h : Z8 us) (hv : ∀ y ∈ us, y.cs.length <= 16 /\ ∀ z ∈ y.cs, Gi z.v) (hvs : ∀ y ∈ us, VsOk y.cs) : Fam (wA us eu ec eg L J b4) 12 500000 eu ec us := by
 refine ⟨by decide, ⟨false, rfl⟩, fun y hy => ?_, hv, hvs⟩
 obtain ⟨j, hj, rfl⟩ := QeR hy
 refine ⟨by rw [h j hj]; omega, true, by rw [h j hj]; exact Gj h hj⟩
/-! ### Filled candidates -/
def D9 (n : Nat) (x : WantT) : Prop := 0 < x.u /\ x.u < n /\ SetMay x.s
theorem WantMay.w {n : Nat} {x : WantT} (h : WantMay n x) : D9 n x := ⟨by have := h.1.1; omega, h.1.2.1, h.1.2.2, h.2⟩
structure Js (n : Nat) (c : CandT) : Prop where
 v : Gi c.v
 nl : c.ns.length <= 10
 nr : ∀ r ∈ c.ns, (1 <= r.length /\ r.length <= 2) /\ ∀ x ∈ r, D9 n x
 bl : c.bs.length <= 1
 bw : ∀ x ∈ c.bs, D9 n x
def PN (c : CandT) : CR := ⟨c.v, .int .i64 c.sh, QS c.ns, Q6 c.bs⟩
def DoneC (n : Nat) (z : CR) : Prop := ∃ c, z = PN c /\ Js n c
def FreshC (z : CR) : Prop := ∃ v sh, z = zr v sh /\ Gi v
theorem DoneC.pure {n : Nat} {z : CR} (h : DoneC n z) : PureC z := by obtain ⟨c, rfl, _⟩ := h; exact ⟨rfl, rfl, rfl⟩
theorem FreshC.pure {z : CR} (h : FreshC z) : PureC z := by obtain ⟨v, sh, rfl, _⟩ := h; exact ⟨rfl, rfl, rfl⟩
theorem DoneC.vr {n : Nat} {z : CR} (h : DoneC n z) : Gi z.v := by obtain ⟨c, rfl, q⟩ := h; exact q.v
theorem FreshC.vr {z : CR} (h : FreshC z) : Gi z.v := by obtain ⟨v, sh, rfl, q⟩ := h; exact q
structure Prog (n : Nat) (us : List UR) (i k : Nat) : Prop where
 keys : Z8 us
 len : us.length = n /\ 2 <= n /\ n <= 11
 cl : ∀ u ∈ us, u.cs.length <= 4
 done : ∀ j, ∀ hj : j < us.length, ∀ m, ∀ hm : m < us[j].cs.length, (j < i \/ (j = i /\ m < k)) -> DoneC n us[j].cs[m]
 fresh : ∀ j, ∀ hj : j < us.length, ∀ m, ∀ hm : m < us[j].cs.length, ¬ (j < i \/ (j = i /\ m < k)) -> FreshC us[j].cs[m]
 ul : ∃ b, UL b (us.map shp)
theorem Prog.vs {n : Nat} {us : List UR} {i k : Nat} (h : Prog n us i k) : ∀ y ∈ us, VsOk y.cs := fun y hy => by
 obtain ⟨b, hb⟩ := h.ul
 exact hb.vs (shp y) (QeJ.2 ⟨y, hy, rfl⟩)
theorem Prog.feat {n : Nat} {us : List UR} {i k j : Nat} (h : Prog n us i k) (hj : j < us.length) (hf : us[j].f ≠ []) : 2 <= j := by
 obtain ⟨b, hb⟩ := h.ul
 refine hb.feat j (by simpa using hj) ?_
 simpa [shp] using hf
theorem Prog.exm {n : Nat} {us : List UR} {i k j m : Nat} (h : Prog n us i k) (hj : j < us.length) (hm : m < us[j].cs.length) : Jk (exV us[j].cs[m].v) = true :=
 (VsL.ex (h.vs us[j] (QeA hj)) (QeJ.2 ⟨_, QeA hm, rfl⟩)).1
theorem PD {us : List UR} {i k : Nat} {z : CR} (hi : i < us.length) (hk : k < us[i].cs.length) (hv : z.v = us[i].cs[k].v) : (Hj us i k z).map shp = us.map shp := by
 refine List.ext_getElem (by simp [Zt]) fun j h1 h2 => ?_
 simp only [List.getElem_map]
 have hj : j < us.length := by simpa using h2
 rw [Jp (i := i) (k := k) (z := z) hj]
 split
 ·rename_i e; subst e
  simp only [shp, G5, List.map_set, hv]
  rw [show us[i].cs[k].v = (us[i].cs.map CR.v)[k]'(by simpa using hk) by simp, List.set_getElem_self]
 ·rfl
theorem Prog.pure {n : Nat} {us : List UR} {i k : Nat} (h : Prog n us i k) {j : Nat} (hj : j < us.length) : ∀ z ∈ us[j].cs, PureC z /\ Gi z.v := fun z hz => by
 obtain ⟨m, hm, rfl⟩ := QeR hz
 by_cases hd : j < i \/ (j = i /\ m < k)
 ·exact ⟨(h.done j hj m hm hd).pure, (h.done j hj m hm hd).vr⟩
 ·exact ⟨(h.fresh j hj m hm hd).pure, (h.fresh j hj m hm hd).vr⟩
theorem Prog.fam {n : Nat} {us : List UR} {i k : Nat} (h : Prog n us i k) : ∀ y ∈ us, y.cs.length <= 16 /\ ∀ z ∈ y.cs, Gi z.v := fun y hy => by
 obtain ⟨j, hj, rfl⟩ := QeR hy
 exact ⟨QeO (h.cl _ hy) Wa, fun z hz => (h.pure hj z hz).2⟩
theorem Prog.put {n : Nat} {us : List UR} {i k : Nat} (h : Prog n us i k) (hi : i < us.length) (hk : k < us[i].cs.length) {z : CR} (hz : DoneC n z) (hv : z.v = us[i].cs[k].v) : Prog n (Hj us i k z) i (k + 1) := by
 have at' := fun (j : Nat) (hj : j < us.length) => Jp (i := i) (k := k) (z := z) hj
 refine ⟨GZ h.keys, by rw [Zt]; exact h.len, fun u hu => ?_, fun j hj m hm hd => ?_, fun j hj m hm hd => ?_, by rw [PD hi hk hv]; exact h.ul⟩
 ·obtain ⟨j, hj, rfl⟩ := QeR hu
  rw [Zt] at hj
  rw [at' j hj]
  split
  ·simp only [G5, List.length_set]; exact h.cl _ (QeA _)
  ·exact h.cl _ (QeA _)
 ·rw [Zt] at hj
  have e := at' j hj
  by_cases hij : i = j
  ·subst hij
   rw [if_pos rfl] at e
   have hm' : m < (G5 us[i] k z).cs.length := by rw [<- e]; exact hm
   have e2 : (Hj us i k z)[i].cs[m] = (G5 us[i] k z).cs[m]'hm' := by congr 1; rw [e]
   rw [e2]
   simp only [G5, List.getElem_set]
   split
   ·exact hz
   ·simp only [G5, List.length_set] at hm'
    exact h.done i hi m hm' Wa
  ·rw [if_neg hij] at e
   have hm' : m < us[j].cs.length := by rw [<- e]; exact hm
   have e2 : (Hj us i k z)[j].cs[m] = us[j].cs[m]'hm' := by congr 1; rw [e]
   rw [e2]; exact h.done j hj m hm' Wa
 ·rw [Zt] at hj
  have e := at' j hj
  by_cases hij : i = j
  ·subst hij
   rw [if_pos rfl] at e
   have hm' : m < (G5 us[i] k z).cs.length := by rw [<- e]; exact hm
   have e2 : (Hj us i k z)[i].cs[m] = (G5 us[i] k z).cs[m]'hm' := by congr 1; rw [e]
   rw [e2]
   simp only [G5, List.length_set] at hm'
   simp only [G5, List.getElem_set]
   rw [if_neg Wa]
   exact h.fresh i hi m hm' Wa
  ·rw [if_neg hij] at e
   have hm' : m < us[j].cs.length := by rw [<- e]; exact hm
   have e2 : (Hj us i k z)[j].cs[m] = us[j].cs[m]'hm' := by congr 1; rw [e]
   rw [e2]; exact h.fresh j hj m hm' Wa
theorem Prog.next {n : Nat} {us : List UR} {i k : Nat} (h : Prog n us i k) (hi : i < us.length) (hk : us[i].cs.length <= k) : Prog n us (i + 1) 0 := by
 refine ⟨h.keys, h.len, h.cl, fun j hj m hm hd => h.done j hj m hm ?_, fun j hj m hm hd => h.fresh j hj m hm Wa, h.ul⟩
 by_cases e : j = i
 ·subst e; exact .inr ⟨rfl, Wa⟩
 ·exact .inl Wa
theorem Prog.again {n : Nat} {us : List UR} {i k : Nat} (h : Prog n us i (k + 1)) (hi : i < us.length) (hk : k < us[i].cs.length) {z : CR} (hz : DoneC n z) (hv : z.v = us[i].cs[k].v) : Prog n (Hj us i k z) i (k + 1) := by
 have at' := fun (j : Nat) (hj : j < us.length) => Jp (i := i) (k := k) (z := z) hj
 refine ⟨GZ h.keys, by rw [Zt]; exact h.len, fun u hu => ?_, fun j hj m hm hd => ?_, fun j hj m hm hd => ?_, by rw [PD hi hk hv]; exact h.ul⟩
 ·obtain ⟨j, hj, rfl⟩ := QeR hu
  rw [Zt] at hj
  rw [at' j hj]
  split
  ·simp only [G5, List.length_set]; exact h.cl _ (QeA _)
  ·exact h.cl _ (QeA _)
 ·rw [Zt] at hj
  have e := at' j hj
  by_cases hij : i = j
  ·subst hij
   rw [if_pos rfl] at e
   have hm' : m < (G5 us[i] k z).cs.length := by rw [<- e]; exact hm
   have e2 : (Hj us i k z)[i].cs[m] = (G5 us[i] k z).cs[m]'hm' := by congr 1; rw [e]
   rw [e2]
   simp only [G5, List.getElem_set]
   split
   ·exact hz
   ·simp only [G5, List.length_set] at hm'
    exact h.done i hi m hm' Wa
  ·rw [if_neg hij] at e
   have hm' : m < us[j].cs.length := by rw [<- e]; exact hm
   have e2 : (Hj us i k z)[j].cs[m] = us[j].cs[m]'hm' := by congr 1; rw [e]
   rw [e2]; exact h.done j hj m hm' Wa
 ·rw [Zt] at hj
  have e := at' j hj
  by_cases hij : i = j
  ·subst hij
   rw [if_pos rfl] at e
   have hm' : m < (G5 us[i] k z).cs.length := by rw [<- e]; exact hm
   have e2 : (Hj us i k z)[i].cs[m] = (G5 us[i] k z).cs[m]'hm' := by congr 1; rw [e]
   rw [e2]
   simp only [G5, List.length_set] at hm'
   simp only [G5, List.getElem_set]
   rw [if_neg Wa]
   exact h.fresh i hi m hm' Wa
  ·rw [if_neg hij] at e
   have hm' : m < us[j].cs.length := by rw [<- e]; exact hm
   have e2 : (Hj us i k z)[j].cs[m] = us[j].cs[m]'hm' := by congr 1; rw [e]
   rw [e2]; exact h.fresh j hj m hm' Wa
theorem L0 {l : List Nat} {fr fr1 fr' : Qet} {us : List UR} {eu ec eg e1 e3 : Nat} {L : List Int} {J : Int} {b4 bK : Box} {i : Nat} {x : WantT} (hf : Zf l fr = fr1) (ef : fr1 = fr') (hK : Z8 us) (hi : i < us.length) (hb4 : b4.pr = true) (hbK : ∀ j ∈ bK.ids, j = 64)
  (hfr : ∀ p ∈ fr', ∀ j ∈ p.2.ids, j = 500000 \/ j = 12 \/ j = 4 \/ ∃ u ∈ us, j = u.k) :
  St.le ⟨fr, (500001 + i, bK) :: (64, ⟨[[.osl 63 1]], 1, e1, false⟩) :: (63, ⟨[Nu x], 3, e3, true⟩) :: wA us eu ec eg L J b4⟩ ⟨fr', (500001 + i, bK) :: (64, ⟨[[Q6 [x]]], 1, e1, true⟩) :: wA us eu ec eg L J b4⟩ := by
 subst hf ef
 have no63 : ∀ j, (j = 500000 \/ j = 12 \/ j = 4 \/ ∃ u ∈ us, j = u.k) -> j ≠ 63 := fun j hj e => by
  subst e
  rcases hj with h | h | h | ⟨u, hu, h⟩
  ·cases h
  ·cases h
  ·cases h
  ·have := (Kl hK hu).1; omega
 have eq63 : ∀ j, j ≠ 63 -> (j == 63) = false := fun j hj => by simp [hj]
 have up : ∀ b b' j, (lk (wA us eu ec eg L J b4) j).isSome = true -> (lk ((500001 + i, b) :: (64, b') :: wA us eu ec eg L J b4) j).isSome = true := fun b b' j hj => QV (QV hj)
 refine le_trans (K1 l fr _) (le_trans (Bh 63 (H' := (500001 + i, bK) :: (64, ⟨[[Q6 [x]]], 1, e1, false⟩) :: wA us eu ec eg L J b4) Wl (fr' := Zf l fr) (fun t d h => ⟨d, h, Rn fun j hj => eq63 j (no63 j (hfr (t, d) (Ym h) j hj))⟩) (fun j b h => ?_) (fun t d h j hj => up _ _ j (SN hK (hfr (t, d) (Ym h) j hj))) (fun j b h j2 hj2 => ?_) fun j hj hs => ?_) ?_)
 ·rw [Qk] at h
  split at h
  ·rename_i e; cases h; subst e
   refine ⟨Wa, _, Qw, XF (.inr fun j hj => ?_)⟩
   rw [hbK j hj]; rfl
  ·rename_i e
   rw [Qk] at h
   split at h
   ·rename_i e2; cases h; subst e2
    refine ⟨by decide, _, Qj e Qw, ?_⟩
    have h63 : lk ((500001 + i, bK) :: (64, (⟨[[.osl 63 1]], 1, e1, false⟩ : Box)) :: (63, ⟨[Nu x], 3, e3, true⟩) :: wA us eu ec eg L J b4) 63 = some ⟨[Nu x], 3, e3, true⟩ := Qj Wa (Qj Wl Qw)
    simp only [Box.fz, QeD, if_false, List.map_cons, List.map_nil, D.fzS, beq_self_eq_true, if_true, h63, List.length_singleton, and_self, Q6]
   ·rename_i e2
    have h2 : lk ((500001 + i, bK) :: (64, (⟨[[.osl 63 1]], 1, e1, false⟩ : Box)) :: (63, ⟨[Nu x], 3, e3, true⟩) :: wA us eu ec eg L J b4) j = some b := by
     have hj : j ≠ 63 := by
      rcases Kw hK h with ⟨rfl, _⟩ | ⟨rfl, _⟩ | ⟨rfl, _⟩ | ⟨m, _, rfl, _⟩ <;> omega
     exact Qj e (Qj e2 (Qj (Ne.symm hj) h))
    rcases Kw hK h with ⟨rfl, rfl⟩ | ⟨rfl, rfl⟩ | ⟨rfl, rfl⟩ | ⟨m, hm, rfl, rfl⟩
    ·exact ⟨by decide, _, h2, XF (.inr fun j hj => eq63 j (no63 j (.inr (.inr (.inr (Kv hj))))))⟩
    ·exact ⟨by decide, _, h2, rfl⟩
    ·exact ⟨by decide, _, h2, XF (.inl hb4)⟩
    ·exact ⟨Wa, _, h2, rfl⟩
 ·rw [Qk] at h
  split at h
  ·cases h
   rw [hbK j2 hj2]; exact QV QW
  ·rw [Qk] at h
   split at h
   ·cases h; simp [Box.ids, D.sid, Q6] at hj2
   ·exact up _ _ j2 (Jq hK hb4 j b h j2 hj2)
 ·by_cases e : 500001 + i = j
  ·subst e; exact QW
  ·rw [Qk, if_neg e, Qk, if_neg Wa, Qk, if_neg Wa] at hs
   exact up _ _ j hs
 ·have h64 : lk ((500001 + i, bK) :: (64, (⟨[[Q6 [x]]], 1, e1, false⟩ : Box)) :: wA us eu ec eg L J b4) 64 = some ⟨[[Q6 [x]]], 1, e1, false⟩ := Qj Wa Qw
  refine le_trans (Sl h64 Wg (by intro r hr d hd; simp only [QeE] at hr; subst hr; simp only [QeE] at hd; subst hd; rfl)) (Km rfl fun j => ?_)
  by_cases e : 64 = j
  ·subst e; rw [Qw, Qk, if_neg Wa, Qw]
  ·by_cases eK : 500001 + i = j
   ·subst eK; rw [Qk, if_neg e, Qw, Qw]
   ·rw [Qk, if_neg e, Qk, if_neg eK, Qk, if_neg e, Qk, if_neg eK, Qk, if_neg e]
theorem LA {n : Nat} : ∀ {cs : List CR}, (∀ z ∈ cs, DoneC n z) -> ∃ l : List CandT, cs = l.map PN /\ ∀ c ∈ l, Js n c
 | [], _ => ⟨[], rfl, by simp⟩
 | z :: cs, h => by
  obtain ⟨l, h1, h2⟩ := LA (cs := cs) fun y hy => h y (by simp [hy])
  obtain ⟨c, rfl, hc⟩ := h z Wg
  exact ⟨c :: l, by rw [h1]; rfl, fun y hy => by
   rcases Qex.1 hy with rfl | hy
   ·exact hc
   ·exact h2 y hy⟩
def Qa1 (n : Nat) (u : UR) (x : Yp) : Prop := x.n = u.n /\ x.f = u.f /\ u.cs = x.cs.map PN /\ ∀ c ∈ x.cs, Js n c
theorem LB {n : Nat} : ∀ {us : List UR}, (∀ u ∈ us, ∀ z ∈ u.cs, DoneC n z) -> ∃ w : QK, w.length = us.length /\ ∀ j, ∀ h : j < us.length, ∀ h' : j < w.length, Qa1 n us[j] w[j]
 | [], _ => ⟨[], rfl, fun j h => by simp at h⟩
 | u :: us, h => by
  obtain ⟨w, h1, h2⟩ := LB (us := us) fun y hy => h y (by simp [hy])
  obtain ⟨l, q1, q2⟩ := LA (h u Wg)
  refine ⟨⟨u.n, u.f, l⟩ :: w, by simp [h1], fun j hj hj' => ?_⟩
  cases j with
  | zero => exact ⟨rfl, rfl, q1, q2⟩
  | succ j => simp only [List.getElem_cons_succ]; exact h2 j (by simpa using hj) (by simpa using hj')
def Qar (x : Yp) : List UInt8 × List UInt8 × List Vr := (x.n, x.f, x.cs.map CandT.v)
structure WMade (w : QK) : Prop where
 sm : WSm w
 len : 2 <= w.length /\ w.length <= 11
 cs : ∀ u ∈ w, u.cs.length <= 4
 cand : ∀ u ∈ w, ∀ c ∈ u.cs, Js w.length c
 ul : ∃ b, UL b (w.map Qar)
theorem Qag {w : QK} (h2 : 2 <= w.length) (h11 : w.length <= 11) (hc : ∀ u ∈ w, u.cs.length <= 4) (hd : ∀ u ∈ w, ∀ c ∈ u.cs, Js w.length c) (hul : ∃ b, UL b (w.map Qar)) : WMade w := by
 refine ⟨⟨Wa, fun u hu => QeO (hc u hu) Wa, fun u hu c hcm => (hd u hu c hcm).v, fun u hu c hcm => ⟨QeO (hd u hu c hcm).nl Wa, QeO (hd u hu c hcm).bl Wa⟩, fun u hu c hcm r hr => QeO ((hd u hu c hcm).nr r hr).1.2 Wa, fun u hu c hcm r hr x hx => (((hd u hu c hcm).nr r hr).2 x hx).2.2.sm, fun u hu c hcm x hx => ((hd u hu c hcm).bw x hx).2.2.sm⟩, ⟨h2, h11⟩, hc, hd, hul⟩
theorem CA {n : Nat} {us : List UR} {eu ec eg : Nat} {L : List Int} {J : Int} {b4 : Box} {k : Nat} (h : Prog n us us.length k) (hb4 : b4.pr = true) :
  ∃ w : QK, w.length = us.length /\ WMade w /\ ∀ {l : List Nat} {fr fr1 fr' : Qet}, Zf l fr = fr1 -> fr1 = fr' -> (∀ p ∈ fr', ∀ j ∈ p.2.ids, j = 500000 \/ j = 4) -> St.le ⟨fr, wA us eu ec eg L J b4⟩ ⟨fr', [(500000, ⟨w.map Z6, 3, eu, true⟩), (4, b4)]⟩ := by
 obtain ⟨w, hw1, hw2⟩ := LB (n := n) (us := us) fun u hu z hz => by
  obtain ⟨j, hj, rfl⟩ := QeR hu
  obtain ⟨m, hm, rfl⟩ := QeR hz
  exact h.done j hj m hm (.inl hj)
 have hcs : ∀ u ∈ w, u.cs.length <= 4 /\ ∀ c ∈ u.cs, Js n c := fun u hu => by
  obtain ⟨j, hj, rfl⟩ := QeR hu
  obtain ⟨_, _, q3, q4⟩ := hw2 j Wa hj
  have := h.cl us[j] (QeA _)
  rw [q3, List.length_map] at this
  exact ⟨this, q4⟩
 have hlen := h.len
 refine ⟨w, hw1, Qag Wa Wa (fun u hu => (hcs u hu).1) (fun u hu c hc => by have := (hcs u hu).2 c hc; rwa [show w.length = n by omega]) (by
  obtain ⟨b, hb⟩ := h.ul
  refine ⟨b, ?_⟩
  have e : w.map Qar = us.map shp := by
   refine List.ext_getElem (by simp [hw1]) fun j h1 h2 => ?_
   simp only [List.getElem_map]
   obtain ⟨q1, q2, q3, _⟩ := hw2 j (by simpa using h2) (by simpa using h1)
   simp only [Qar, shp, q1, q2, q3, List.map_map]; rfl
  rw [e]; exact hb), ?_⟩
 intro l fr fr1 fr' hf ef hfr
 subst hf ef
 have hK := h.keys
 let S : Nat -> Bool := fun k => decide (500001 <= k) && decide (k < 1000000)
 have hS1 : ∀ k, k < 500001 -> S k = false := fun k hk => by
  show (decide (500001 <= k) && decide (k < 1000000)) = false
  rw [decide_eq_false Wa]; rfl
 have hS2 : ∀ k, 500001 <= k -> k < 1000000 -> S k = true := fun k h1 h2 => by
  show (decide (500001 <= k) && decide (k < 1000000)) = true
  rw [decide_eq_true h1, decide_eq_true h2]; rfl
 have hrow : ∀ j, ∀ h1 : j < us.length, ∀ h2 : j < w.length, (dUR us[j]).map (D.fzS (wA us eu ec eg L J b4) S) = Z6 w[j] := fun j h1 h2 => by
  obtain ⟨q1, q2, q3, q4⟩ := hw2 j h1 h2
  have hk := hK j h1
  have hc := Gj (eu := eu) (ec := ec) (eg := eg) (L := L) (J := J) (b4 := b4) hK h1
  generalize us[j] = u at q1 q2 q3 hk hc
  generalize w[j] = x at q1 q2 q3 q4
  obtain ⟨un, uf, uk, ucs⟩ := u
  simp only at q1 q2 q3 hk hc
  subst hk q3
  simp only [dUR, Z6, List.map_cons, List.map_nil, D.fzS]
  rw [hS2 _ Wa Wa, hc]
  simp only [if_true, true_and, List.length_map, q1, q2, S3, List.map_map]
  rfl
 have hrows : (us.map dUR).map (fun r => r.map (D.fzS (wA us eu ec eg L J b4) S)) = w.map Z6 := by
  refine List.ext_getElem (by simp [hw1]) fun j h1 h2 => ?_
  simp only [List.getElem_map]
  exact hrow j (by simpa using h1) (by simpa using h2)
 refine le_trans (K1 l fr _) (le_trans (Qaa S (fun k hk => by
  simp only [S, Qez, decide_eq_true_eq] at hk; exact hk.2) (fr' := Zf l fr) (H' := [(500000, ⟨w.map Z6, 3, eu, false⟩), (4, b4)]) (fun t d hd => ⟨d, hd, Rn fun j hj => ?_⟩) (fun j b hj => ?_) (fun t d hd j hj => ?_) (fun j b hb i hi => ?_) fun j hj hs => ?_) (le_trans (Sl (k := 500000) (b := ⟨w.map Z6, 3, eu, false⟩) rfl (fun e => ?_) (fun r hr d hd => ?_)) (Km rfl fun j => ?_)))
 ·rcases hfr (t, d) (Ym hd) j hj with rfl | rfl
  ·exact hS1 _ Wl
  ·exact hS1 _ Wl
 ·rw [Qk] at hj
  split at hj
  ·rename_i e; cases hj; subst e
   refine ⟨hS1 _ Wl, _, F3, ?_⟩
   simp only [Box.fz, QeD, if_false, hrows]
  ·rw [Qk] at hj
   split at hj
   ·rename_i e; cases hj; subst e
    exact ⟨hS1 _ Wl, _, Ma, XF (.inl hb4)⟩
   ·cases hj
 ·rcases hfr (t, d) (Ym hd) j hj with rfl | rfl
  ·rfl
  ·rfl
 ·rw [Qk] at hb
  split at hb
  ·cases hb
   simp only [Box.ids, QeD, if_false, QeC, QeJ] at hi
   obtain ⟨r, ⟨u, _, rfl⟩, d, hd, hi⟩ := hi
   simp only [Z6, Qex, Qew, or_false] at hd
   rcases hd with rfl | rfl | rfl <;> simp [D.sid, S3] at hi
  ·rw [Qk] at hb
   split at hb
   ·cases hb; rw [X5 hb4] at hi; cases hi
   ·cases hb
 ·obtain ⟨b, hb⟩ := QeB.1 hs
  rcases Kw hK hb with ⟨rfl, _⟩ | ⟨rfl, _⟩ | ⟨rfl, _⟩ | ⟨m, hm, rfl, _⟩ <;> omega
 ·have := congrArg List.length e
  simp only [List.length_map, List.length_nil] at this
  omega
 ·obtain ⟨u, _, rfl⟩ := QeJ.1 hr
  simp only [Z6, Qex, Qew, or_false] at hd
  rcases hd with rfl | rfl | rfl <;> rfl
 ·by_cases e : 500000 = j
  ·subst e; rfl
  ·rw [Qk, if_neg e, Qk, if_neg e]; rw [Qk (k := 500000), if_neg e]
def Sb (us : List UR) (i : Nat) : Nat := match us[i]? with
 | some u => u.cs.length
 | none => 0
theorem JM {us : List UR} {i : Nat} (h : i < us.length) : Sb us i = us[i].cs.length := by rw [Sb, List.getElem?_eq_getElem h]
theorem Jy (us : List UR) (i k : Nat) (z : CR) : Sb (Hj us i k z) i = Sb us i := by
 by_cases h : i < us.length
 ·rw [JM h, JM (by rw [Zt]; exact h), Jp h, if_pos rfl]
  simp [G5]
 ·have e : (Hj us i k z).length = us.length := Zt ..
  rw [Sb, Sb, List.getElem?_eq_none (Wa : us.length <= i), List.getElem?_eq_none (Wa : (Hj us i k z).length <= i)]
theorem RQ {us : List UR} {i k : Nat} {z : CR} (hi : i < us.length) (hk : k < us[i].cs.length) {us2 : List UR} (e : us2 = Hj us i k z) (hi2 : i < us2.length) (hk2 : k < us2[i].cs.length) : us2[i].cs[k] = z := by
 subst e
 have e1 := Jp (i := i) (k := k) (z := z) hi
 rw [if_pos rfl] at e1
 have e2 : (Hj us i k z)[i].cs[k] = (G5 us[i] k z).cs[k]'(by simpa [G5] using hk) := by congr 1; rw [e1]
 rw [e2]; simp [G5]
theorem B3 {cs : List CR} {k : Nat} {z : CR} (hk : k < cs.length) (hz : cs[k] = z) : (cs.map dCR)[((k : Nat) : Int).toNat]? = some (dCR z) := by rw [Qb9 hk, hz]
theorem Bv {cs : List CR} {k : Nat} {row : List D} (hk : k < cs.length) : ((cs.map dCR).set ((k : Nat) : Int).toNat row)[((k : Nat) : Int).toNat]? = some row := by
 rw [Int.toNat_natCast, List.getElem?_set_self (by simpa using hk)]
theorem Rx {K k e t : Nat} {L : List (List D)} {r1 r2 : List D} {p : Bool} {H : Qes} : lk ((K, (⟨(L.set k r1).set k r2, e, t, p⟩ : Box)) :: H) K = some ⟨L.set k r2, e, t, p⟩ := by rw [Qw, List.set_set]
theorem FR {H : Qes} {kk m e t : Nat} {ys : List (List D)} {v : Vr} {sh : Int} (h : lk H kk = some ⟨ys, e, t, true⟩) (hm : m = ys.length) : ([D.int .i64 v.a, .int .i64 v.b, .int .i64 v.c, .str v.p, .str v.q, .int .i64 sh, .osl kk m, .fsl []].map (D.fzS H (· == kk))).map D.canS = [.int .i64 v.a, .int .i64 v.b, .int .i64 v.c, .str v.p, .str v.q, .int .i64 sh, .sl ys, .sl []] := by
 simp only [List.map_cons, List.map_nil, D.fzS, beq_self_eq_true, if_true, h, hm, and_self, D.canS]
theorem LK {H : Qes} {kk m e t : Nat} {ys : List (List D)} {v : Vr} {sh : Int} {ns : List (List WantT)} (h : lk H kk = some ⟨ys, e, t, true⟩) (hm : m = ys.length) : ([D.int .i64 v.a, .int .i64 v.b, .int .i64 v.c, .str v.p, .str v.q, .int .i64 sh, QS ns, .osl kk m].map (D.fzS H (· == kk))).map D.canS = [.int .i64 v.a, .int .i64 v.b, .int .i64 v.c, .str v.p, .str v.q, .int .i64 sh, QS ns, .sl ys] := by
 simp only [QS, List.map_cons, List.map_nil, D.fzS, beq_self_eq_true, if_true, h, hm, and_self, D.canS]
theorem QbK {us : List UR} {eu ec eg : Nat} {L : List Int} {J J2 : Int} {b4 : Box} (k : Nat) : lk ((12, gB L J2 eg) :: wA us eu ec eg L J b4) k = lk (wA us eu ec eg L J2 b4) k := by
 show lk ((12, _) :: (500000, _) :: (12, _) :: (4, _) :: fbx ec us) k = lk ((500000, _) :: (12, _) :: (4, _) :: fbx ec us) k
 by_cases e : 12 = k
 ·subst e; rfl
 ·rw [Qk, if_neg e, Qk, Qk (k := 500000)]
  split
  ·rfl
  ·rw [Qk, if_neg e, Qk (k := 12), if_neg e]
theorem SB {cs : List CR} {k e t : Nat} {row : List D} (h : ∀ z ∈ cs, PureC z) (hr : ∀ d ∈ row, ∀ j ∈ d.sid, j = 64) : ∀ j ∈ Box.ids ⟨(cs.map dCR).set k row, e, t, false⟩, j = 64 := fun j hj => by
 simp only [Box.ids, QeD, if_false, QeC] at hj
 obtain ⟨r, hrm, d, hd, hj⟩ := hj
 rcases Fo hrm with rfl | hrm
 ·exact hr d hd j hj
 ·obtain ⟨z, hz, rfl⟩ := QeJ.1 hrm
  rw [(h z hz).all d hd] at hj; cases hj
theorem Qc6 {us : List UR} {eu ec eg : Nat} {L : List Int} {J : Int} {b4 b64 : Box} {n i k : Nat} (h : Prog n us i k) (hi : i < us.length) (hk : k < us[i].cs.length) {zx : CR} (hv : Gi zx.v) (hrow : zx.x.sid = [] /\ zx.y.sid = [64] /\ zx.z.sid = []) (hb4 : b4.pr = true) (h64 : b64.pr = true) (hve : zx.v = us[i].cs[k].v) :
  Fam ((500001 + i, ⟨(us[i].cs.map dCR).set k (dCR zx), 8, ec, false⟩) :: (64, b64) :: wA us eu ec eg L J b4) 12 500000 eu ec (Hj us i k zx) /\ Closed ((500001 + i, ⟨(us[i].cs.map dCR).set k (dCR zx), 8, ec, false⟩) :: (64, b64) :: wA us eu ec eg L J b4) := by
 refine ⟨⟨by decide, ⟨false, ?_⟩, fun y hy => ?_, fun y hy => ?_, fun y hy => by
  obtain ⟨b, hb⟩ := h.ul
  refine hb.vs (shp y) ?_
  rw [<- PD hi hk hve]; exact QeJ.2 ⟨y, hy, rfl⟩⟩, ?_⟩
 ·rw [Qk, if_neg Wa, Qk, if_neg Wl, F3, TE]
 ·obtain ⟨j, hj, rfl⟩ := QeR hy
  have hK' := GZ (i := i) (k := k) (z := zx) h.keys
  have hj' := hj
  rw [Zt] at hj'
  refine ⟨by rw [hK' j hj]; omega, ?_⟩
  rw [hK' j hj]
  by_cases e : i = j
  ·subst e
   refine ⟨false, ?_⟩
   rw [Qw, Jp hj', if_pos rfl, G5, List.map_set]
  ·refine ⟨true, ?_⟩
   rw [Qk, if_neg Wa, Qk, if_neg Wa, Gj h.keys hj', Jp hj', if_neg e]
 ·obtain ⟨j, hj, rfl⟩ := QeR hy
  have hj' := hj
  rw [Zt] at hj'
  rw [Jp hj']
  have hfam := h.fam us[j] (QeA _)
  split
  ·refine ⟨by simpa [G5] using hfam.1, fun z hz => ?_⟩
   rcases Fo hz with rfl | hz
   ·exact hv
   ·exact hfam.2 z hz
  ·exact hfam
 ·refine ((Jq h.keys hb4).pr h64).cons fun j hj => ?_
  have := SB (e := 8) (t := ec) (k := k) (row := dCR zx) (fun z hz => (h.pure hi z hz).1) (fun d hd j hj => by
   simp only [dCR, Qex, Qew, or_false] at hd
   rcases hd with rfl | rfl | rfl | rfl | rfl | rfl | rfl | rfl
   ·cases hj
   ·cases hj
   ·cases hj
   ·cases hj
   ·cases hj
   ·rw [hrow.1] at hj; cases hj
   ·rw [hrow.2.1] at hj; simpa using hj
   ·rw [hrow.2.2] at hj; cases hj) j hj
  subst this; exact QW
theorem Prog.start {us : List UR} (h : UnitsIn us) (h2 : 2 <= us.length) (h11 : us.length <= 11) (hul : ∃ b, UL b (us.map shp)) : Prog us.length us 0 0 := by
 refine ⟨h.keys, ⟨rfl, h2, h11⟩, fun u hu => (h.fresh u hu).1, fun j hj m hm hd => Wa, fun j hj m hm _ => ?_, hul⟩
 obtain ⟨v, sh, e, hv⟩ := (h.fresh _ (QeA hj)).2 _ (QeA hm)
 exact ⟨v, sh, e, hv⟩
theorem Ff {n : Nat} {m : Int} {v : Vr} {sh : Int} {ns : List (List WantT)} (hv : Gi v) (h : F7 n m ns) (hm : m <= 3) : Js n ⟨v, sh, ns, []⟩ :=
 ⟨hv, by show ns.length <= 10; have := h.1; omega, fun r hr => ⟨(h.2 r hr).1, fun x hx => ((h.2 r hr).2 x hx).w⟩, QeH _, fun x hx => by cases hx⟩
theorem Rb {n i : Nat} {m : Int} {v : Vr} {sh : Int} {ns : List (List WantT)} (hv : Gi v) (h : F7 n m ns) (hm : m <= 3) (h1 : 2 <= i) (hmm : Jk (exV v) = true) (hi : i < n) : Js n ⟨v, sh, [⟨(i : Int) - 1, Y2 v.a v.b v.c v.p v.q⟩] :: ns, []⟩ := by
 refine ⟨hv, by show (_ :: ns).length <= 10; have := h.1; simp only [List.length_cons]; omega, fun r hr => ?_, QeH _, fun x hx => by cases hx⟩
 rcases Qex.1 hr with rfl | hr
 ·refine ⟨by simp, fun x hx => ?_⟩
  simp only [QeE] at hx; subst hx
  have := Hq (a := v.a) (b := v.b) (c := v.c) (q := v.q) hv.1
  exact ⟨by show 0 < (i : Int) - 1; omega, by show (i : Int) - 1 < n; omega, ⟨this.1.up Wa, this.2.up Wa⟩, hmm⟩
 ·exact ⟨(h.2 r hr).1, fun x hx => ((h.2 r hr).2 x hx).w⟩
theorem Ra {n : Nat} {v : Vr} {sh : Int} {ns : List (List WantT)} (h : Js n ⟨v, sh, ns, []⟩) {x : WantT} (hx : WantMay n x) : Js n ⟨v, sh, ns, [x]⟩ := ⟨h.v, h.nl, h.nr, by simp, by intro y hy; simp only [QeE] at hy; subst hy; exact hx.w⟩
theorem RR {us : List UR} {i k : Nat} {z : CR} (hi : i < us.length) (hk : k < us[i].cs.length) {us2 : List UR} (e : Hj us i k z = us2) (hi2 : i < us2.length) : k < us2[i].cs.length := by
 rw [<- JM hi2, <- e, Jy, JM hi]; exact hk
theorem Bs {l : List (List WantT)} : ∀ r ∈ l.map (fun r => [Q6 r]), r.length = 1 := fun r hr => by obtain ⟨x, _, rfl⟩ := QeJ.1 hr; rfl
end M25
namespace M25
open Go Go.Abs M3
/-! ### Trails that may be -/
open Go Go.Abs M3
/-! ### What every program says -/
/-! ### A world's facts, and more -/
open Go Go.Abs M3
/-! ### Powers of two -/
/-! ### Steps that may be: the program's -/
/-! ### Deciding -/
open Go Go.Abs M3
/-! ### Back, Sure, When -/
/-! ### What valid trails are -/
/-! ### Levels -/
open Go Go.Abs M3
def Tq {α : Type} (p : α -> Bool) (l : List α) : Int := match l.findIdx? p with
 | some i => i
 | none => -1
theorem XX {α : Type} {p : α -> Bool} {l : List α} {i : Nat} (h : i < l.length) (ha : (l.take i).any p = false) (hp : p l[i] = true) : Tq p l = i := by
 have e : l.findIdx? p = some i := by
  rw [List.findIdx?_eq_some_iff_getElem]
  refine ⟨h, hp, fun j hj => ?_⟩
  have := List.any_eq_false.1 ha l[j] (by
   rw [List.mem_take_iff_getElem]
   exact ⟨j, Wa, rfl⟩)
  simpa using this
 rw [Tq, e]
theorem Tg {α : Type} {p : α -> Bool} {l : List α} {i : Nat} (h : l.length <= i) (ha : (l.take i).any p = false) : Tq p l = -1 := by
 have e : l.findIdx? p = none := by
  rw [List.findIdx?_eq_none_iff]
  rw [QeL h] at ha
  intro x hx
  simpa using List.any_eq_false.1 ha x hx
 rw [Tq, e]
theorem LV {α : Type} (p : α -> Bool) (l : List α) : decide (Tq p l >= 0) = l.any p := by
 cases e : l.findIdx? p with
 | none =>
  rw [Tq, e]
  rw [List.findIdx?_eq_none_iff] at e
  have : l.any p = false := List.any_eq_false.2 fun x hx => by simpa using e x hx
  rw [this]; rfl
 | some i =>
  rw [Tq, e]
  rw [List.findIdx?_eq_some_iff_getElem] at e
  obtain ⟨h, hp, _⟩ := e
  rw [R3 h hp]
  simp
/-! ### The first row of lefts -/
open Go Go.Abs M3
/-! ### When, PS by PS -/
/-! ### The Mp world -/
end M25
namespace M25
open Go Go.Abs M3
/-! ### What a run is: steps, one open after the other -/
inductive Lh (w : QK) (db : List (List FH)) : List KA -> List KA -> Prop
 | nil (l : List KA) : Lh w db l l
 | cons {l x : List KA} (a k : Nat) (ho : QaQ w db l a k) (h : Lh w db (l ++ [Qc5 w l ((db[a]'ho.ha)[k]'ho.hk) a]) x) : Lh w db l x
section
variable {w : QK} {db : List (List FH)}
def Below (w : QK) (b l : List KA) : Prop := ∀ u i, tb (Ml w b u) i = true -> tb (Ml w l u) i = true
/-! ### Sound: a choice stays -/
end
end M25
namespace M25
open Go Go.Abs M3
end M25
namespace M25
open Go Go.Abs M3
/-! ### More of runs -/
open Go Go.Abs M3
/-! ### The facts in another order -/
open Go Go.Abs M3
/-! ### How long a run is -/
structure Good (w : QK) (l : List KA) : Prop where
 p : QaR w l
 nz : ∀ u, inW w u = true -> Ml w l u ≠ 0
 le : ∀ u i, tb (Ml w l u) i = true -> tb (Qbl w u) i = true
open Go Go.Abs M3
/-! ### Masks are of values that there are -/
/-! ### Each PS of a run -/
end M25
namespace M25
open Go Go.Abs M3
open Go Go.Abs M3
/-! ### Derive again -/
/-! ### Sure, and what holds -/
open Go Go.Abs M3
/-! ### The choice that a trail has decided -/
end M25
namespace Go.Proofs
open Go Go.Abs M3 M25
theorem Kc {a b : List Int} (ha : a.length <= 10000000) : Ok Tryz.prog 21 [Zg a, Zg b] (.bool (decide (a = b))) := by
 refine Ok.ofT ZR Tryz.func21 Qdh (Qev Z) ?_
 show TW _ _ tf21.body _ _
 refine Qb fun K hK => Qa Z (kc2 hK Z Z ?_)
 refine QA ?_ -- 0
 refine Qb fun K hK => Qa Z ?_
 first | refine QI rfl QH ?_ | refine QI rfl rfl ?_
 refine Qa Z ?_
 first | refine QI rfl QH ?_ | refine QI rfl rfl ?_
 refine Xf Z Z (kc3 hK Z Z Z ?_)
 refine Qt Z (fun h1 => ?_) (fun h1 => ?_)
 ·try rw [h1]
  try simp only [qA] at h1
  refine Qb fun K hK => Qa Z (kc1 hK Z ?_)
  refine Qr (Qi (Qo Z ?_))
  rw [decide_eq_false fun e => h1 (by rw [e])]
 ·try rw [h1]
  try simp only [qA] at h1
  refine Qp (ks2 Z Z ?_)
  refine QA ?_ -- 1
  refine Qb fun K hK => Qa Z (kc3 hK Z Z Z ?_)
  refine Qy ?_
  refine Zy (ι := Nat) (fun i => ⟨[(0, Zg a), (1, Zg b), (5, .int .i64 i)], []⟩) (fun i => i <= a.length /\ a.take i = b.take i) (fun i => a.length - i) 0 ?_ ?_ ?_
  ·exact QU (kp3 rfl rfl rfl)
  ·exact ⟨QeH _, by simp⟩
  intro i hI
  try dsimp only
  refine QA ?_ -- 2
  refine Qb fun K hK => mv2 Z Z ?_
  first | refine QI rfl QH ?_ | refine QI rfl rfl ?_
  refine Ya Z Z (kc4 hK Z Z Z Z ?_)
  refine Qt Z (fun h2 => ?_) (fun h2 => ?_)
  ·try rw [h2]
   try simp only [qA] at h2
   refine Qp (ks3 Z Z Z ?_)
   refine QA ?_ -- 3
   refine Qy (Qb fun K hK => mv2 Z Z (QG Z Z Z Wa (Q7 Wa) Z (Zc (ds0 := [0]) Z Z Z Z Z (mv2 Z Z (QG Z Z Z Wa (Q7 Wa) Z (Zc (ds0 := [0]) Z Z Z Z Z ?_))))))
   first | refine Xf rfl rfl ?_ | refine Mb rfl rfl ?_
   refine kc4 hK Z Z Z Z ?_
   refine Qt Z (fun h3 => ?_) (fun h3 => ?_)
   ·try rw [h3]
    try simp only [qA] at h3
    refine Qb fun K hK => Qa Z (kc1 hK Z ?_)
    refine Qr (Qu (Qi (Zb (Qu (Qi (Qo Z ?_))))))
    rw [DD (i := i) Wa Wa h3]
   ·try rw [h3]
    try simp only [qA] at h3
    refine Qp (Qd (ks3 Z Z Z (QQ fun K hK => Qa Z (Q2 Z Z Wb (Qa Z (hK _ ?_))))))
    refine Qg (i + 1) ?_ ?_ ?_
    ·exact QU (kp3 rfl rfl rfl)
    ·exact ⟨Wa, RU Wa Wa hI.2 h3⟩
    ·first | omega | (simp only; omega) | (dsimp only; omega)
  ·try rw [h2]
   try simp only [qA] at h2
   refine Zd (QD (Qq (Qz (QY (Zj) (Qb fun K hK => Qa Z (kc1 hK Z ?_))))))
   refine Qr (Qo Z ?_)
   rw [QeL Wa, QeL Wa] at hI; exact (decide_eq_true hI.2).symm
open Go Go.Abs M3 M25
theorem Xo {s : St} {args : List Opd} {kg : Nat} {L : List Int} {I n : Int} {et : Nat} (ha : Zn s args = some [.ref kg 0 0, .int .i64 n]) (hg : lk s.H kg = some (gB L I et)) (hL : ∀ x ∈ L, I64 x) (hn : n <= 9223372036854775807) : KD Tryz.prog 34 args s [(kg, gB L I et)] [] [(kg, gB L (nxI I) et)] (.int .i64 (nx L I n)) := by
 refine SX (b' := gB L (nxI I) et) (ds' := [.ref (upN kg) 0 0, .int .i64 n]) ha (fun j x h => ?_) (fun k b hk j hj => ?_) (fun x hx j hj => ?_) ?_ Z Z Z Z ?_
 ·obtain ⟨rfl, rfl⟩ := XY h; exact hg
 ·obtain ⟨rfl, rfl⟩ := XY hk; simp [Box.ids, gB] at hj
 ·simp only [Qex, Qew, or_false] at hx
  rcases hx with rfl | rfl
  ·simp [D.ids, D.sid] at hj; subst hj; rw [Qw]; rfl
  ·simp [D.ids, D.sid] at hj
 ·rw [Qw]; rfl
 ·exact XG (by unfold upN; omega) hL hn et
theorem _root_.Wj {p : Prop} (h : p := by first | decide | omega) : p := h
theorem _root_.Ww {p : Prop} (h : p := by simp [Dr.ok, KV]) : p := h
theorem _root_.Wm {p : Prop} (h : p := by repeat (first | exact Qw | refine Qj (by first | decide | omega) ?_)) : p := h
theorem Gp {H : Qes} {kg kc : Nat} {L : List Int} {I : Int} {eg ec : Nat} {pr : Bool} {zs : List CR} (hkg : 1000000 <= kg) (hg : lk H kg = some (gB L I eg)) (hc : lk H kc = some ⟨zs.map dCR, 8, ec, pr⟩) (hne : kg ≠ kc) (hB : Big H) (hC : Closed H) (hL : ∀ x ∈ L, I64 x) (hz : ∀ z ∈ zs, Gi z.v) (hn : zs.length <= 16) (hvs : VsOk zs) : ∃ d H2, (∃ s I2, SetMay s /\ d = PO s /\ H2 = (kg, gB L I2 eg) :: H) /\ OkH Tryz.prog 66 [.ref kg 0 0, .osl kc zs.length] H d H2 := by
 have hkc := hB _ _ hc
 refine OkH.ofX (R := fun d H2 => ∃ s I2, SetMay s /\ d = PO s /\ H2 = (kg, gB L I2 eg) :: H) ZR Tryz.func66 QdU (Qev Z) ?_
 show TX _ _ tf66.body _ _
 refine Q5 fun K hK => ?_
 refine ZE (by repeat (first | exact hB.none Wl | refine Zw Wj ?_)) ?_
 refine hK _ _ (QM (kp3 Z Z Z) ?_)
 refine Q5 fun K hK => Qa Z (Z9 (Xo (I := I) Z (Qj Wa hg) hL Wa) (Qa Z (hK _ _ (QM (kp4 Z Z Z Z) ?_))))
 refine Q5 fun K hK => QC (Z5) Z Z (.inl Z) ?_
 refine ZE (by repeat (first | exact hB.none Wl | refine Zw Wj ?_)) ?_
 refine QT Z Z Z Z Z Z Z Z (hK _ _ (QM (kp5 Z Z Z Z Z) ?_))
 refine XE ?_ -- 0
 refine Q5 fun K hK => Qa Z (hK _ _ (QM (kp6 Z Z Z Z Z Z) ?_))
 refine YC ?_
 refine Fy (ι := Nat × N9) (fun ⟨i, s⟩ => ⟨[(0, .ref kg 0 0), (1, .osl kc zs.length), (4, .ref 4 0 0), (5, .int .i64 (nx L I 8)), (6, .ref 6 0 0), (7, .int .i64 i)], [(4, ⟨[[.fsl [], .fsl []]], 2, 78, true⟩), (6, ⟨[[ZN s.1, ZN s.2]], 2, 78, true⟩), (kg, gB L (nxI I) eg)] ++ H⟩) (fun ⟨i, s⟩ => (i <= zs.length /\ TM (bnd i - 4) s) /\ ∃ L, L.Sublist ((zs.map CR.v).take i) /\ s = Rm L) (fun ⟨i, s⟩ => zs.length - i) (0, ([], [])) ?_ ?_ ?_
 ·exact NG (l := [0, 1, 4, 5, 6, 7]) (B := [_, _, _, _]) (kp6 rfl rfl rfl rfl rfl rfl) rfl (by intro p hp; simp only [Qex, Qew, or_false] at hp; rcases hp with rfl | rfl | rfl <;> exact ⟨by repeat (first | exact Qw | refine Qj Wj ?_), rfl⟩) rfl (by intro p hp h; simp only [Qex, Qew, or_false] at hp; rcases hp with rfl | rfl | rfl | rfl <;> first | (simp only at h; omega) | (repeat (first | exact QW | refine QV ?_))) hB hC (by intro p hp k hk; simp only [Qex, Qew, or_false] at hp; rcases hp with rfl | rfl | rfl | rfl | rfl | rfl <;> first | (simp [D.ids, D.sid, Q6, QS, Zg] at hk; done) | (simp [D.ids, D.sid, Q6, QS, Zg] at hk; subst hk; repeat (first | exact QW | exact Zu hg | exact Zu hc | refine QV ?_)))
 ·exact ⟨⟨QeH _, SmN.nil _, SmN.nil _⟩, [], List.nil_sublist _, rfl⟩
 intro ⟨i, s⟩ hI
 try dsimp only at hI
 have hb16 := C8 (i := i) Wa
 try dsimp only
 refine XE ?_ -- 1
 refine Q5 fun K hK => mv2 Z Z ?_
 first | refine QI rfl QH ?_ | refine QI rfl rfl ?_
 refine Ya Z Z (hK _ _ (QM (kp7 Z Z Z Z Z Z Z) ?_))
 refine YG Z (fun h1 => ?_) (fun h1 => ?_)
 ·try rw [h1]
  try simp only [qA] at h1
  refine YZ (Q4 (kp6 Z Z Z Z Z Z) ?_)
  refine XE ?_ -- 2
  refine YC (Q5 fun K hK => mv2 Z Z (Ms Z (TJ Wa Wa) (QaX Z Z Wa (BE Z Z (Yz Z Z (hK _ _ (QM (kp7 Z Z Z Z Z Z Z) ?_)))))))
  refine YG Z (fun h2 => ?_) (fun h2 => ?_)
  ·try rw [h2]
   try simp only [qA] at h2
   have hvp := (hz _ (QeA (Wa : i < zs.length))).1
   refine ZI fun K hK => QP (ds0 := [1, 0]) (cs := [_, _]) Z Z Z Z Ww Z (mv2 Z Z (KH (ds0 := [4, 3, 2, 1, 0]) Z Z (Qj Wa (Qj Wa (Qj Wa hc))) Wg Wa Wa Z Ww Z (Qf Z (Zu (Qj Wa (Qj Wa (Qj Wa hc)))) (QP (ds0 := [2, 1, 0]) (cs := [_, _, _, _, _]) Z (Yk (Qj Wa (Qj Wa (Qj Wa hc))) (Q7 Wa)) Z Z Ww Z (Q1 (ds0 := [1, 0]) (XT (hz _ (QeA Wa)).1 (hz _ (QeA Wa)).2) Z Z (.inl Z) Ww Z (Q1 (ds0 := [0]) (G8 (a := s) (b := (Y2 (zs[i]'Wa).v.a (zs[i]'Wa).v.b (zs[i]'Wa).v.c (zs[i]'Wa).v.p (zs[i]'Wa).v.q)) (hI.1.2.1.sm Wa) (hI.1.2.2.sm Wa) ((Hq hvp).1.sm Wa) ((Hq hvp).2.sm Wa) (by have := hI.1.2.1.1; have := (Hq (a := (zs[i]'Wa).v.a) (b := (zs[i]'Wa).v.b) (c := (zs[i]'Wa).v.c) (q := (zs[i]'Wa).v.q) hvp).1.1; omega) (by have := hI.1.2.2.1; have := (Hq (a := (zs[i]'Wa).v.a) (b := (zs[i]'Wa).v.b) (c := (zs[i]'Wa).v.c) (q := (zs[i]'Wa).v.q) hvp).2.1; omega)) Z Z (.inl Z) Ww Z (Xg (ds0 := []) Z Z Z Z Z Z Z Z Ww Z (hK _ ?_))))))))
   refine Qd (Q4 (kp6 Z Z Z Z Z Z) (ZI fun K hK => Qa Z (Q2 Z Z We (Qa Z (hK _ ?_)))))
   refine Qg (i + 1, D2 s (Y2 (zs[i]'Wa).v.a (zs[i]'Wa).v.b (zs[i]'Wa).v.c (zs[i]'Wa).v.p (zs[i]'Wa).v.q)) ?_ ?_ ?_
   ·exact NG (l := [0, 1, 4, 5, 6, 7]) (B := [_, _, _, _]) (kp6 rfl rfl rfl rfl rfl rfl) rfl (by intro p hp; simp only [Qex, Qew, or_false] at hp; rcases hp with rfl | rfl | rfl <;> exact ⟨by repeat (first | exact Qw | refine Qj Wj ?_), rfl⟩) rfl (by intro p hp h; simp only [Qex, Qew, or_false] at hp; rcases hp with rfl | rfl | rfl | rfl <;> first | (simp only at h; omega) | (repeat (first | exact QW | refine QV ?_))) hB hC (by intro p hp k hk; simp only [Qex, Qew, or_false] at hp; rcases hp with rfl | rfl | rfl | rfl | rfl | rfl <;> first | (simp [D.ids, D.sid, Q6, QS, Zg] at hk; done) | (simp [D.ids, D.sid, Q6, QS, Zg] at hk; subst hk; repeat (first | exact QW | exact Zu hg | exact Zu hc | refine QV ?_)))
   ·exact ⟨⟨by show i + 1 <= _; omega, Qbx hI.1.2 (hz _ (QeA Wa)).1 Wa⟩, by obtain ⟨L, hL, hs⟩ := hI.2; exact ⟨_, QcQ Wa hL, by rw [Cn, <- hs]; rfl⟩⟩
   ·show zs.length - (i + 1) < zs.length - i; omega
  ·try rw [h2]
   try simp only [qA] at h2
   have hvp := (hz _ (QeA (Wa : i < zs.length))).1
   refine YZ (Qd (Q4 (kp6 Z Z Z Z Z Z) (ZI fun K hK => Qa Z (Q2 Z Z We (Qa Z (hK _ ?_))))))
   refine Qg (i + 1, s) ?_ ?_ ?_
   ·exact NG (l := [0, 1, 4, 5, 6, 7]) (B := [_, _, _]) (kp6 rfl rfl rfl rfl rfl rfl) rfl (by intro p hp; simp only [Qex, Qew, or_false] at hp; rcases hp with rfl | rfl | rfl <;> exact ⟨by repeat (first | exact Qw | refine Qj Wj ?_), rfl⟩) rfl (by intro p hp h; simp only [Qex, Qew, or_false] at hp; rcases hp with rfl | rfl | rfl <;> first | (simp only at h; omega) | (repeat (first | exact QW | refine QV ?_))) hB hC (by intro p hp k hk; simp only [Qex, Qew, or_false] at hp; rcases hp with rfl | rfl | rfl | rfl | rfl | rfl <;> first | (simp [D.ids, D.sid, Q6, QS, Zg] at hk; done) | (simp [D.ids, D.sid, Q6, QS, Zg] at hk; subst hk; repeat (first | exact QW | exact Zu hg | exact Zu hc | refine QV ?_)))
   ·exact ⟨⟨by show i + 1 <= _; omega, CU hI.1.2⟩, by obtain ⟨L, hL, hs⟩ := hI.2; exact ⟨L, SM hL, hs⟩⟩
   ·show zs.length - (i + 1) < zs.length - i; omega
 ·try rw [h1]
  try simp only [qA] at h1
  refine HN (Y6 (Qq (Qz (Q4 (kp3 Z Z Z) ?_))))
  refine XE ?_ -- 3
  refine Q5 fun K hK => Qa Z (Z9 (Xo (I := nxI I) Z (Qj Wa (Qj Wa Qw)) hL Wa) (hK _ _ (QM (kp3 Z Z Z) ?_)))
  refine YC (Q5 fun K hK => Yz Z Z (Qa Z (hK _ _ (QM (kp4 Z Z Z Z) ?_))))
  refine YG Z (fun h3 => ?_) (fun h3 => ?_)
  ·try rw [h3]
   try simp only [qA] at h3
   refine Q5 fun K hK => QC (Gs) Z Z (.inl Z) (QT Z (Qj Wa Z) Z Z Z Z Z Z (hK _ _ (QM (kp1 Z) ?_)))
   refine Mc (Qu (TD ?_))
   refine ⟨PO TN, (kg, gB L (nxI (nxI I)) eg) :: H, ⟨TN, _, ⟨⟨C5.1.up Wa, C5.2.up Wa⟩, BJ⟩, rfl, rfl⟩, (XC hB hC hkg rfl).1, (XC hB hC hkg rfl).2, ?_⟩
   refine Hx (cs := [ZN TN.1, ZN TN.2]) Z (Yk Wm Z) Z Z Z ?_
   exact Jz (B := [_, _, _, _, _]) hB Wm (by intro p hp h; simp only [Qex, Qew, or_false] at hp; rcases hp with rfl | rfl | rfl | rfl | rfl <;> first | rfl | (simp only at h; omega))
  ·try rw [h3]
   try simp only [qA] at h3
   refine Q5 fun K hK => Yz Z Z (Qa Z (hK _ _ (QM (kp3 Z Z Z) ?_)))
   refine YG Z (fun h4 => ?_) (fun h4 => ?_)
   ·try rw [h4]
    try simp only [qA] at h4
    refine Q5 fun K hK => QL (cs := [_, _]) Z (Yk (Qj Wa Z) Z) Z Z (QC (Gt (a := s) (hI.1.2.1.sm Wa) (hI.1.2.2.sm Wa)) Z Z (.inl Z) (QT Z (Qj Wa Z) Z Z Z Z Z Z (hK _ _ (QM (kp1 Z) ?_))))
    refine Mc (Qu (TD ?_))
    refine ⟨PO (NO s), (kg, gB L (nxI (nxI I)) eg) :: H, ⟨(NO s), _, ⟨⟨(Df hI.1.2 Wa).1.up Wa, (Df hI.1.2 Wa).2.up Wa⟩, by obtain ⟨L, hL, hs⟩ := hI.2; rw [hs]; exact (VsL.fold hvs (hL.trans (List.take_sublist _ _))).2⟩, rfl, rfl⟩, (XC hB hC hkg rfl).1, (XC hB hC hkg rfl).2, ?_⟩
    refine Hx (cs := [ZN (NO s).1, ZN (NO s).2]) Z (Yk Wm Z) Z Z Z ?_
    exact Jz (B := [_, _, _, _, _]) hB Wm (by intro p hp h; simp only [Qex, Qew, or_false] at hp; rcases hp with rfl | rfl | rfl | rfl | rfl <;> first | rfl | (simp only at h; omega))
   ·try rw [h4]
    try simp only [qA] at h4
    refine YZ (Qd (Q4 (kp2 Z Z) (Q5 fun K hK => QL (cs := [_, _]) Z (Yk (Qj Wa Z) Z) Z Z (QT Z (Qj Wa Z) Z Z Z Z Z Z (hK _ _ (QM (kp1 Z) ?_))))))
    refine Mc ?_
    refine ⟨PO s, (kg, gB L (nxI (nxI I)) eg) :: H, ⟨s, _, ⟨⟨hI.1.2.1.up Wa, hI.1.2.2.up Wa⟩, by obtain ⟨L, hL, hs⟩ := hI.2; rw [hs]; exact (VsL.fold hvs (hL.trans (List.take_sublist _ _))).1⟩, rfl, rfl⟩, (XC hB hC hkg rfl).1, (XC hB hC hkg rfl).2, ?_⟩
    refine Hx (cs := [ZN s.1, ZN s.2]) Z (Yk Wm Z) Z Z Z ?_
    exact Jz (B := [_, _, _, _, _]) hB Wm (by intro p hp h; simp only [Qex, Qew, or_false] at hp; rcases hp with rfl | rfl | rfl | rfl | rfl <;> first | rfl | (simp only at h; omega))
open Go Go.Abs M3 M25
/-- The call of 'set', over boxes that are lent. -/
theorem Qcf {H : Qes} {kg kc : Nat} {L : List Int} {I : Int} {eg ec : Nat} {pr : Bool} {zs : List CR} (hg : lk H kg = some (gB L I eg)) (hc : lk H kc = some ⟨zs.map dCR, 8, ec, pr⟩) (hne : kg ≠ kc) (hC : Closed H) (hL : ∀ x ∈ L, I64 x) (hz : ∀ z ∈ zs, Gi z.v) (hn : zs.length <= 16) (hvs : VsOk zs) :
  ∃ s I2, SetMay s /\ ∀ (st : St) (args : List Opd), Zn st args = some [.ref kg 0 0, .osl kc zs.length] -> (∀ j x, lk H j = some x -> lk st.H j = some x) -> KD Tryz.prog 66 args st H [] [(kg, gB L I2 eg)] (PO s) := by
 obtain ⟨d, H2, ⟨s, I2, hs, rfl, rfl⟩, hok⟩ := Gp (H := upH H) (kg := upN kg) (kc := upN kc) (L := L) (I := I) (eg := eg) (ec := ec) (pr := pr) (zs := zs.map CR.ren) (by unfold upN; omega) (by rw [JB, hg]; rfl) (by rw [JB, hc, Option.map_some, Box.ren, Lz]) (fun e => hne (SK e)) SJ (Fv hC) hL
  (fun z hz' => by obtain ⟨z0, h0, rfl⟩ := QeJ.1 hz'; exact hz z0 h0) (by simpa using hn) hvs.ren
 refine ⟨s, I2, hs, fun st args ha hF => SX (b' := gB L I2 eg) (ds' := [.ref (upN kg) 0 0, .osl (upN kc) zs.length]) ha hF hC (fun x hx j hj => ?_) (Zu hg) Z Z Z Z ?_⟩
 ·simp only [Qex, Qew, or_false] at hx
  rcases hx with rfl | rfl
  ·simp [D.ids, D.sid] at hj; subst hj; exact Zu hg
  ·simp [D.ids, D.sid] at hj; subst hj; exact Zu hc
 ·rw [List.length_map] at hok; exact hok
theorem HY {H : Qes} {kg ku : Nat} {L : List Int} {I : Int} {eg eu ec : Nat} {us : List UR} (hkg : 1000000 <= kg) (hg : lk H kg = some (gB L I eg)) (hU : Fam H kg ku eu ec us) (hB : Big H) (hC : Closed H) (hL : ∀ x ∈ L, I64 x) (h2n : 2 <= us.length) (hn : us.length <= 48) : ∃ d H2, (∃ x I2, WantMay us.length x /\ d = .agg (Nu x) /\ H2 = (kg, gB L I2 eg) :: H) /\ OkH Tryz.prog 35 [.ref kg 0 0, .osl ku us.length] H d H2 := by
 obtain ⟨pu, hu⟩ := hU.u
 have hku := hB _ _ hu
 have hne := hU.ne
 have hx0 := FC (v := PQ L (IntKind.i64.wrap (nxI I - 1))) (n := (us.length : Int) - 1)
 have hx1 := NP (v := PQ L (IntKind.i64.wrap (nxI I - 1))) (n := (us.length : Int) - 1) Wa
 change 0 <= nx L I ((us.length : Int) - 1) at hx0
 change nx L I ((us.length : Int) - 1) < _ at hx1
 obtain ⟨hyk, pr, hy⟩ := hU.c (us[(1 + nx L I ((us.length : Int) - 1)).toNat]'Wa) (QeA _)
 obtain ⟨hv1, hv2⟩ := hU.v (us[(1 + nx L I ((us.length : Int) - 1)).toNat]'Wa) (QeA _)
 obtain ⟨s, I2, hs, hcall⟩ := Qcf (H := (kg, gB L (nxI I) eg) :: H) Qw (Qj (Ne.symm hyk) hy) (Ne.symm hyk) (hC.pr rfl) hL hv2 hv1 (hU.vs _ (QeA _))
 refine OkH.ofX (R := fun d H2 => ∃ x I2, WantMay us.length x /\ d = .agg (Nu x) /\ H2 = (kg, gB L I2 eg) :: H) ZR Tryz.func35 Qdu (Qev Z) ?_
 show TX _ _ tf35.body _ _
 refine Q5 fun K hK => ?_
 refine ZE (by repeat (first | exact hB.none Wl | refine Zw Wj ?_)) ?_
 refine hK _ _ (QM (kp3 Z Z Z) ?_)
 refine Q5 fun K hK => mv2 Z Z ?_
 first | refine QI rfl QH ?_ | refine QI rfl rfl ?_
 refine KI Z Z We (Z9 (Xo (I := I) Z (Qj Wa hg) hL Wa) (Q2 Z Z We (Qa Z (hK _ _ (QM (kp4 Z Z Z Z) ?_)))))
 refine Q5 fun K hK => Qa rfl (Qa rfl (Qa rfl (Qa rfl (Xz rfl rfl (Qj Wa (Qj Wa hu)) Wg Wa Wa rfl (Qf rfl (Zu (Qj Wa (Qj Wa hu))) (Qx rfl (Yk (Qj Wa (Qj Wa hu)) (Z7 Wa Wa)) rfl (Z9 (hcall _ _ rfl (Jz (B := [_, _]) hB Qw (by intro p hp h; simp only [Qex, Qew, or_false] at hp; rcases hp with rfl | rfl <;> first | rfl | (simp only at h; omega)))) (Q0 rfl rfl (QT rfl (Qj Wa (Qj Wa rfl)) rfl rfl rfl rfl rfl rfl (hK _ _ (QM (kp1 rfl) ?_)))))))))))
 refine Mc ?_
 refine ⟨.agg (Nu ⟨1 + nx L I ((us.length : Int) - 1), s⟩), (kg, gB L I2 eg) :: H, ⟨⟨1 + nx L I ((us.length : Int) - 1), s⟩, _, ⟨⟨by show 1 <= 1 + _; omega, by show 1 + _ < (us.length : Int); omega, hs.1⟩, hs.2⟩, rfl, rfl⟩, (XC hB hC hkg rfl).1, (XC hB hC hkg rfl).2, ?_⟩
 refine Hx (cs := Nu ⟨1 + nx L I ((us.length : Int) - 1), s⟩) Z (Yk Wm Z) Z Z Z ?_
 exact Jz (B := [_, _, _, _]) hB Wm (by intro p hp h; simp only [Qex, Qew, or_false] at hp; rcases hp with rfl | rfl | rfl | rfl <;> first | rfl | (simp only at h; omega))
/-- The call of 'want'. -/
theorem Tv {H : Qes} {kg ku : Nat} {L : List Int} {I : Int} {eg eu ec : Nat} {us : List UR} (hg : lk H kg = some (gB L I eg)) (hU : Fam H kg ku eu ec us) (hC : Closed H) (hL : ∀ x ∈ L, I64 x) (h2 : 2 <= us.length) (hn : us.length <= 48) :
  ∃ x I2, WantMay us.length x /\ ∀ (st : St) (args : List Opd), Zn st args = some [.ref kg 0 0, .osl ku us.length] -> (∀ j x, lk H j = some x -> lk st.H j = some x) -> KD Tryz.prog 35 args st H [] [(kg, gB L I2 eg)] (.agg (Nu x)) := by
 obtain ⟨d, H2, ⟨x, I2, hx, rfl, rfl⟩, hok⟩ := HY (H := upH H) (kg := upN kg) (ku := upN ku) (L := L) (I := I) (eg := eg) (eu := eu) (ec := ec) (us := us.map UR.ren) (by unfold upN; omega) (by rw [JB, hg]; rfl) hU.up SJ (Fv hC) hL (by simpa using h2) (by simpa using hn)
 obtain ⟨pu, hu⟩ := hU.u
 rw [List.length_map] at hx hok
 refine ⟨x, I2, hx, fun st args ha hF => SX (b' := gB L I2 eg) (ds' := [.ref (upN kg) 0 0, .osl (upN ku) us.length]) ha hF hC (fun x hx j hj => ?_) (Zu hg) Z Z Z Z hok⟩
 simp only [Qex, Qew, or_false] at hx
 rcases hx with rfl | rfl
 ·simp [D.ids, D.sid] at hj; subst hj; exact Zu hg
 ·simp [D.ids, D.sid] at hj; subst hj; exact Zu hu
open Go Go.Abs M3 M25
theorem _root_.Wp {p : Prop} (h : p := by first | (simp; done) | (simp; omega)) : p := h
theorem HC {H : Qes} {kg ku : Nat} {L : List Int} {I most : Int} {eg eu ec : Nat} {us : List UR} (hkg : 1000000 <= kg) (hg : lk H kg = some (gB L I eg)) (hU : Fam H kg ku eu ec us) (hB : Big H) (hC : Closed H) (hL : ∀ x ∈ L, I64 x) (h2n : 2 <= us.length) (hn : us.length <= 48) (hm0 : 0 <= most) (hm1 : most <= 10) : ∃ d H2, (∃ ns I2, F7 us.length most ns /\ d = QS ns /\ H2 = (kg, gB L I2 eg) :: H) /\ OkH Tryz.prog 32 [.ref kg 0 0, .osl ku us.length, .int .i64 most] H d H2 := by
 obtain ⟨pu, hu⟩ := hU.u
 have hku := hB _ _ hu
 have hne := hU.ne
 have hk0 : 0 <= nx L I (most + 1) := FC
 have hk1 : nx L I (most + 1) < most + 1 := NP Wa
 refine OkH.ofX (R := fun d H2 => ∃ ns I2, F7 us.length most ns /\ d = QS ns /\ H2 = (kg, gB L I2 eg) :: H) ZR Tryz.func32 Qdr (Qev Z) ?_
 show TX _ _ tf32.body _ _
 refine Q5 fun K hK => Qa Z (hK _ _ (QM (kp3 Z Z Z) ?_))
 refine Q5 fun K hK => Qa Z (hK _ _ (QM (kp4 Z Z Z Z) ?_))
 refine XE ?_ -- 0
 refine Q5 fun K hK => mv2 Z Z (Q2 Z Z We (Z9 (Xo (I := I) Z hg hL Wa) (Qa Z (hK _ _ (QM (kp4 Z Z Z Z) ?_)))))
 refine YC ?_
 refine Fy (ι := Nat × List (List WantT) × Int) (fun ⟨k, ns, J⟩ => ⟨[(0, .ref kg 0 0), (1, .osl ku us.length), (7, .osl 7 ns.length), (8, .int .i64 k)], [(7, ⟨(ns).map (fun r => [Q6 r]), 1, 60, true⟩), (kg, gB L J eg)] ++ H⟩) (fun ⟨k, ns, J⟩ => (ns.length : Int) + k <= most /\ ∀ r ∈ ns, PZ us.length r) (fun ⟨k, ns, J⟩ => k) ((nx L I (most + 1)).toNat, [], nxI I) ?_ ?_ ?_
 ·exact le_trans (Yl 7 7 1 60 rfl (by repeat (first | exact hB.none Wl | refine Zw Wj ?_))) (NG (l := [0, 1, 7, 8]) (B := [_, _]) (kp4 rfl rfl rfl rfl) (by simp only [Int.toNat_of_nonneg hk0] <;> rfl) (by intro p hp; simp only [Qex, Qew, or_false] at hp; rcases hp with rfl | rfl <;> exact ⟨by repeat (first | exact Qw | refine Qj Wj ?_), rfl⟩) rfl (by intro p hp h; simp only [Qex, Qew, or_false] at hp; rcases hp with rfl | rfl <;> first | (simp only at h; omega) | (repeat (first | exact QW | refine QV ?_))) hB hC (by intro p hp k hk; simp only [Qex, Qew, or_false] at hp; rcases hp with rfl | rfl | rfl | rfl <;> first | (simp [D.ids, D.sid, Q6, QS, Zg] at hk; done) | (simp [D.ids, D.sid, Q6, QS, Zg] at hk; subst hk; repeat (first | exact QW | exact Zu hg | exact Zu hu | refine QV ?_))))
 ·exact ⟨by simp only [List.length_nil]; omega, by simp⟩
 intro ⟨k, ns, J⟩ hI
 try dsimp only at hI
 try dsimp only
 refine XE ?_ -- 1
 refine Q5 fun K hK => Qa Z (JS Z Z (hK _ _ (QM (kp5 Z Z Z Z Z) ?_)))
 refine YG Z (fun h1 => ?_) (fun h1 => ?_)
 ·try rw [h1]
  try simp only [qA] at h1
  refine YZ (Q4 (kp4 Z Z Z Z) ?_)
  refine XE ?_ -- 2
  refine YC (Q5 fun K hK => mv2 Z Z ?_)
  obtain ⟨x1, J1, hx1, hc1⟩ := Tv (I := J) (H := (kg, gB L (J) eg) :: H) Qw hU.cons (hC.pr rfl) hL h2n hn
  refine Z9 (hc1 _ _ rfl (Jz (B := [_, _]) hB Wm (by intro p hp h; simp only [Qex, Qew, or_false] at hp; rcases hp with rfl | rfl <;> first | rfl | (simp only at h; omega)))) ?_
  refine QJ Z (by repeat (first | exact hB.none Wl | refine Zw Wj ?_)) ?_
  refine Qa Z (hK _ _ (QM (kp5 Z Z Z Z Z) ?_))
  refine Lk (ι := List WantT × Int) (fun ⟨r, J4⟩ => ⟨[(0, .ref kg 0 0), (1, .osl ku us.length), (7, .osl 7 ns.length), (8, .int .i64 k), (9, Q6 r)], [(7, ⟨(ns).map (fun r => [Q6 r]), 1, 60, true⟩), (kg, gB L J4 eg)] ++ H⟩) (fun ⟨r, J4⟩ => PZ us.length r) ?_ ?_
  ·skip
   refine Q5 fun K hK => Qa Z (Z9 (Xo (I := J1) Z (Qj Wa Qw) hL Wa) (Yz Z Z (hK _ _ (QM (kp6 Z Z Z Z Z Z) ?_))))
   refine YG Z (fun h2 => ?_) (fun h2 => ?_)
   ·try rw [h2]
    try simp only [qA] at h2
    refine ZI fun K hK => mv2 Z Z (Qa Z ?_)
    obtain ⟨x2, J2, hx2, hc2⟩ := Tv (I := nxI J1) (H := (kg, gB L (nxI J1) eg) :: H) Qw hU.cons (hC.pr rfl) hL h2n hn
    refine Z9 (hc2 _ _ rfl (Jz (B := [_, _, _, _, _]) hB Wm (by intro p hp h; simp only [Qex, Qew, or_false] at hp; rcases hp with rfl | rfl | rfl | rfl | rfl <;> first | rfl | (simp only at h; omega)))) ?_
    refine QJ Z (by repeat (first | exact hB.none Wl | refine Zw Wj ?_)) ?_
    refine BF Z Z Wq ⟨_, rfl, rfl, rfl, rfl, rfl⟩ (by repeat (first | exact hB.none Wl | refine Zw Wj ?_)) (Qj Wl (Qj Wa (Qj Wa Z))) Z Z Z Wg Wg ?_
    refine Qa Z (hK _ ?_)
    refine Zh ([x1, x2], J2) ?_ ?_
    ·exact le_trans (Sk (l := [0, 1, 7, 8]) (B := [_, _, _, _, _, _, _, _, _]) (A := [(7, ⟨(ns).map (fun r => [Q6 r]), 1, 60, true⟩), (kg, gB L J2 eg)]) 30 9 (kp4 rfl rfl rfl rfl) rfl rfl rfl Wp (by intro p hp hk; simp only [Qex, Qew, or_false] at hp; rcases hp with rfl | rfl | rfl | rfl <;> first | (simp [D.ids, D.sid, Q6, QS, Zg] at hk; done) | (simp [D.ids, D.sid, Q6, QS, Zg] at hk; omega)) (by intro p hp; simp only [Qex, Qew, or_false] at hp; rcases hp with rfl | rfl <;> exact ⟨by first | decide | (simp only; omega), by repeat (first | exact Qw | refine Qj Wj ?_), rfl⟩) (by intro p hp h; simp only [Qex, Qew, or_false] at hp; rcases hp with rfl | rfl | rfl | rfl | rfl | rfl | rfl | rfl | rfl <;> first | (simp only at h; omega) | (repeat (first | exact QW | refine QV ?_))) hB hC (by intro p hp k hk; simp only [Qex, Qew, or_false] at hp; rcases hp with rfl | rfl | rfl | rfl <;> first | (simp [D.ids, D.sid, Q6, QS, Zg] at hk; done) | (simp [D.ids, D.sid, Q6, QS, Zg] at hk; subst hk; repeat (first | exact QW | exact Zu hg | exact Zu hu | refine QV ?_)))) (NG (l := [0, 1, 7, 8, 9]) (B := [_, _]) (kp5 rfl rfl rfl rfl rfl) rfl (by intro p hp; simp only [Qex, Qew, or_false] at hp; rcases hp with rfl | rfl <;> exact ⟨by repeat (first | exact Qw | refine Qj Wj ?_), rfl⟩) rfl (by intro p hp h; simp only [Qex, Qew, or_false] at hp; rcases hp with rfl | rfl <;> first | (simp only at h; omega) | (repeat (first | exact QW | refine QV ?_))) hB hC (by intro p hp k hk; simp only [Qex, Qew, or_false] at hp; rcases hp with rfl | rfl | rfl | rfl | rfl <;> first | (simp [D.ids, D.sid, Q6, QS, Zg] at hk; done) | (simp [D.ids, D.sid, Q6, QS, Zg] at hk; subst hk; repeat (first | exact QW | exact Zu hg | exact Zu hu | refine QV ?_))))
    ·exact Qan hx1 hx2
   ·try rw [h2]
    try simp only [qA] at h2
    refine YZ ?_
    refine Zh ([x1], nxI J1) ?_ ?_
    ·exact le_trans (Sk (l := [0, 1, 7, 8]) (B := [_, _, _, _, _]) (A := [(7, ⟨(ns).map (fun r => [Q6 r]), 1, 60, true⟩), (kg, gB L (nxI J1) eg)]) 21 9 (kp4 rfl rfl rfl rfl) rfl (Qj Wa rfl) rfl Wp (by intro p hp hk; simp only [Qex, Qew, or_false] at hp; rcases hp with rfl | rfl | rfl | rfl <;> first | (simp [D.ids, D.sid, Q6, QS, Zg] at hk; done) | (simp [D.ids, D.sid, Q6, QS, Zg] at hk; omega)) (by intro p hp; simp only [Qex, Qew, or_false] at hp; rcases hp with rfl | rfl <;> exact ⟨by first | decide | (simp only; omega), by repeat (first | exact Qw | refine Qj Wj ?_), rfl⟩) (by intro p hp h; simp only [Qex, Qew, or_false] at hp; rcases hp with rfl | rfl | rfl | rfl | rfl <;> first | (simp only at h; omega) | (repeat (first | exact QW | refine QV ?_))) hB hC (by intro p hp k hk; simp only [Qex, Qew, or_false] at hp; rcases hp with rfl | rfl | rfl | rfl <;> first | (simp [D.ids, D.sid, Q6, QS, Zg] at hk; done) | (simp [D.ids, D.sid, Q6, QS, Zg] at hk; subst hk; repeat (first | exact QW | exact Zu hg | exact Zu hu | refine QV ?_)))) (NG (l := [0, 1, 7, 8, 9]) (B := [_, _]) (kp5 rfl rfl rfl rfl rfl) rfl (by intro p hp; simp only [Qex, Qew, or_false] at hp; rcases hp with rfl | rfl <;> exact ⟨by repeat (first | exact Qw | refine Qj Wj ?_), rfl⟩) rfl (by intro p hp h; simp only [Qex, Qew, or_false] at hp; rcases hp with rfl | rfl <;> first | (simp only at h; omega) | (repeat (first | exact QW | refine QV ?_))) hB hC (by intro p hp k hk; simp only [Qex, Qew, or_false] at hp; rcases hp with rfl | rfl | rfl | rfl | rfl <;> first | (simp [D.ids, D.sid, Q6, QS, Zg] at hk; done) | (simp [D.ids, D.sid, Q6, QS, Zg] at hk; subst hk; repeat (first | exact QW | exact Zu hg | exact Zu hu | refine QV ?_))))
    ·exact Qam hx1
  intro ⟨r, J4⟩ hJ
  try dsimp only at hJ
  try dsimp only
  refine ZI fun K hK => mv2 Z Z ?_
  refine QJ Z (by repeat (first | exact hB.none Wl | refine Zw Wj ?_)) ?_
  refine XD Z Z (fun _ h => XK Z Z Z h) Z Wg Z Z Z Wi Wi (Qa Z (hK _ ?_))
  refine Qd (Q4 (kp4 Z Z Z Z) (ZI fun K hK => Qa Z (KI Z Z We (Qa Z (hK _ ?_)))))
  refine Qg (k - 1, ns ++ [r], J4) ?_ ?_ ?_
  ·exact le_trans (Qbj (B := [_, _, _, _]) 7 hB hC) (NG (l := [0, 1, 7, 8]) (A := [(7, ⟨ns.map (fun r => [Q6 r]) ++ [[Q6 r]], 1, 60, true⟩), (kg, gB L J4 eg)]) (B := [_, _, _, _]) (kp4 rfl rfl rfl rfl) (by simp [D.scrub, show ¬ kg = 7 by omega, show ¬ ku = 7 by omega] <;> omega) (by intro p hp; simp only [Qex, Qew, or_false] at hp; rcases hp with rfl | rfl <;> exact ⟨by repeat (first | exact Qw | refine Qj Wj ?_), rfl⟩) Wg (by intro p hp h; simp only [Qex, Qew, or_false] at hp; rcases hp with rfl | rfl | rfl | rfl <;> first | (simp only at h; omega) | (repeat (first | exact QW | refine QV ?_))) hB hC (by intro p hp k hk; simp only [Qex, Qew, or_false] at hp; rcases hp with rfl | rfl | rfl | rfl <;> first | (simp [D.ids, D.sid, Q6, QS, Zg] at hk; done) | (simp [D.ids, D.sid, Q6, QS, Zg] at hk; subst hk; repeat (first | exact QW | exact Zu hg | exact Zu hu | refine QV ?_))))
  ·exact ⟨by simp only [List.length_append, List.length_singleton]; omega, Dz hI.2 hJ⟩
  ·show k - 1 < k; omega
 ·try rw [h1]
  try simp only [qA] at h1
  refine HN (Y6 (Qq (Qz (Q4 (kp1 Z) (Q5 fun K hK => mv2 Z Z (hK _ _ (QM (kp1 Z) ?_)))))))
  refine Mc ?_
  refine ⟨QS ns, (kg, gB L J eg) :: H, ⟨ns, _, ⟨Wa, hI.2⟩, rfl, rfl⟩, (XC hB hC hkg rfl).1, (XC hB hC hkg rfl).2, ?_⟩
  refine Jm Z (by simp [D1, D.fz, D.fzS, Mp, lk, D.can, D.canS, QS]) ?_
  exact Jz (B := [_, _]) hB Wm (by intro p hp h; simp only [Qex, Qew, or_false] at hp; rcases hp with rfl | rfl <;> first | rfl | (simp only at h; omega))
open Go Go.Abs M3 M25
theorem _root_.Wh {p : Prop} (h : p := by repeat (first | exact Qw | refine Qj (by omega) ?_)) : p := h
theorem HD {kg : Nat} {L : List Int} {I most : Int} {eg eu ec : Nat} (heu : eu = 65) (hec : ec = 62) (hkg : 1000000 <= kg) (hL : ∀ x ∈ L, I64 x) (hm0 : 1 <= most) (hm1 : most <= 5) : ∃ d H2, (∃ us I2, (UnitsIn us /\ 2 <= us.length /\ us.length <= 11 /\ ∃ b, UL b (us.map shp)) /\ d = .osl 500000 us.length /\ H2 = ((500000, ⟨us.map dUR, 3, eu, false⟩) :: fbx ec us) ++ [(kg, gB L I2 eg), (kg, gB L I eg)]) /\ OkH Tryz.prog 31 [.ref kg 0 0, .int .i64 most] [(kg, gB L I eg)] d H2 := by
 subst heu hec
 have e3 : ¬ kg = 500000 := Wa
 have k1 := CX (a := 18) (b := 500000) hkg Wl Wl
 have k2 := CX (a := 16) (b := 500001) hkg Wl Wl
 refine OkH.ofX (R := fun d H2 => ∃ us I2, (UnitsIn us /\ 2 <= us.length /\ us.length <= 11 /\ ∃ b, UL b (us.map shp)) /\ d = .osl 500000 us.length /\ H2 = ((500000, ⟨us.map dUR, 3, 65, false⟩) :: fbx 62 us) ++ [(kg, gB L I2 eg), (kg, gB L I eg)]) ZR Tryz.func31 Qdq (Qev Z) ?_
 show TX _ _ tf31.body _ _
 refine Q5 fun K hK => Qa Z (hK _ _ (QM (kp2 Z Z) ?_))
 refine Q5 fun K hK => ?_
 refine QJ Z (by repeat (first | exact Z | refine Zw Wj ?_)) ?_
 refine Qa Z (hK _ _ (QM (kp3 Z Z Z) ?_))
 refine Lj (Sk (l := [0, 1]) (B := [_]) (A := []) (H0 := [(kg, gB L I eg)]) 14 5 (kp2 rfl rfl) rfl rfl rfl rfl (by intro p hp hk; simp only [Qex, Qew, or_false] at hp; rcases hp with rfl | rfl <;> first | (simp [D.ids, D.sid, Q6, QS, Zg] at hk; done) | (simp [D.ids, D.sid, Q6, QS, Zg] at hk; omega)) (by intro p hp; cases hp) (by intro p hp h; simp only [QeE] at hp; subst hp; simp only at h; omega) (fun k b h => by obtain ⟨rfl, rfl⟩ := XY h; exact hkg) (fun k b h j hj => by obtain ⟨rfl, rfl⟩ := XY h; simp [Box.ids, gB] at hj) (by intro p hp k hk; simp only [Qex, Qew, or_false] at hp; rcases hp with rfl | rfl <;> first | (simp [D.ids, D.sid, Q6, QS, Zg] at hk; done) | (simp [D.ids, D.sid, Q6, QS, Zg] at hk; subst hk; repeat (first | exact QW | refine QV ?_)))) ?_
 refine Q5 fun K hK => Q0 Z Z ?_
 refine QJ Z (by repeat (first | exact Z | refine Zw Wj ?_)) ?_
 refine Q0 Z Z ?_
 refine QJ Z (by repeat (first | exact Z | refine Zw Wj ?_)) ?_
 refine Qa Z (hK _ _ (QM (kp4 Z Z Z Z) ?_))
 refine Q5 fun K hK => QC (Ys) Z Z (.inl Z) (Qa Z (hK _ _ (QM (kp5 Z Z Z Z Z) ?_)))
 refine XE ?_ -- 0
 refine Q5 fun K hK => Qa Z (hK _ _ (QM (kp6 Z Z Z Z Z Z) ?_))
 refine YC ?_
 refine Fy (ι := List UR × Int × Nat) (fun ⟨us, J, n⟩ => ⟨[(0, .ref kg 0 0), (1, .int .i64 most), (5, .sl (Yg names5)), (6, .osl 500000 us.length), (7, .sl (versions.map dVr)), (8, .int .i64 n)], [(500000, ⟨(us).map dUR, 3, 65, false⟩), (kg, gB L (J) eg)] ++ fbx 62 (us)⟩) (fun ⟨us, J, n⟩ => UnitsIn us /\ us.length <= 1 + 2 * n /\ n <= 5 /\ 1 + n <= us.length /\ UL (2 * n) (us.map shp)) (fun ⟨us, J, n⟩ => 5 - n) ([u0 v0], I, 0) ?_ ?_ ?_
 ·refine L2 (l := [0, 1, 5, 6, 7, 8]) hkg (kp6 Z Z Z Z Z Z) ?_; simp only [List.map_cons, List.map_nil, D.ren, D.renS, k1, k2]; rfl
 ·exact ⟨UnitsIn.zero, by simp, Wa, by simp, UL.base⟩
 intro ⟨us, J, n⟩ hI
 try dsimp only at hI
 have e1 : ¬ kg = 500001 + us.length := Wa
 have e2 : ¬ 500000 = 500001 + us.length := Wa
 have e4 : ¬ 500001 + us.length = 500000 := Wa
 have hx0 : 0 <= nx L J most := FC
 have hx1 : nx L J most < most := NP Wa
 have hn5 := Q8
 have hv4 := Hk
 try dsimp only
 refine XE ?_ -- 1
 refine Q5 fun K hK => mv2 Z Z (Qa Z ?_)
 refine Z9 (Xo (I := J) Z Wh hL Wa) ?_
 refine Q2 Z Z We (Ya Z Z (Qa Z ?_))
 refine Qv (g := 26) Z (fun h1 => ?_) (fun h1 => ?_)
 ·try rw [h1]
  try simp only [qA] at h1
  refine Qe Z (Qa Z (Qe Z (Qa Z (Qe Z ?_))))
  first | refine QI rfl QH ?_ | refine QI rfl rfl ?_
  refine Qe Z (Ya Z Z (Qh Z Z (hK _ _ (QM (kp7 Z Z Z Z Z Z Z) ?_))))
  refine YG Z (fun h2 => ?_) (fun h2 => ?_)
  ·try rw [h2]
   try simp only [qA] at h2
   refine YZ (Q4 (kp6 Z Z Z Z Z Z) ?_)
   refine XE ?_ -- 2
   refine YC (Q5 fun K hK => Qa Z (hK _ _ (QM (kp7 Z Z Z Z Z Z Z) ?_)))
   refine Q5 fun K hK => Qa Z ?_
   refine Z9 (Xo (I := nxI J) Z Wh hL Wa) ?_
   refine Qa Z (hK _ _ (QM (kp8 Z Z Z Z Z Z Z Z) ?_))
   refine XE ?_ -- 3
   refine Q5 fun K hK => Qa Z (hK _ _ (QM (kp9 Z Z Z Z Z Z Z Z Z) ?_))
   refine YC ?_
   refine Fy (ι := List CR × Nat) (fun ⟨cs, i⟩ => ⟨[(0, .ref kg 0 0), (1, .int .i64 most), (5, .sl (Yg names5)), (6, .osl 500000 us.length), (7, .sl (versions.map dVr)), (8, .int .i64 n), (9, .osl (500001 + us.length) cs.length), (10, .int .i64 (nx L (nxI J) 16)), (11, .int .i64 i)], [(500001 + (us).length, ⟨(cs).map dCR, 8, 62, true⟩), (500000, ⟨(us).map dUR, 3, 65, false⟩), (kg, gB L (nxI (nxI J)) eg)] ++ fbx 62 (us)⟩) (fun ⟨cs, i⟩ => (i <= 4 /\ CsIn i cs) /\ (cs.map CR.v).Sublist (versions.take i)) (fun ⟨cs, i⟩ => 4 - i) ([], 0) ?_ ?_ ?_
   ·exact le_trans (Yl 9 (500001 + us.length) 8 62 rfl (by repeat (first | exact YU hI.1.keys (.inr Wa) | refine Zw Wa ?_))) (QaM (l := [0, 1, 5, 6, 7, 8, 9, 10, 11]) (B := [_, _, _, _, _]) (kp9 rfl rfl rfl rfl rfl rfl rfl rfl rfl) rfl hI.1.keys Wh Wh Wh (by intro p hp h; simp only [Qex, Qew, or_false] at hp; rcases hp with rfl | rfl | rfl | rfl | rfl <;> first | (simp only at h; omega) | exact .inl rfl | exact .inr rfl) (by intro p hp k hk; simp only [Qex, Qew, or_false] at hp; rcases hp with rfl | rfl | rfl | rfl | rfl | rfl | rfl | rfl | rfl <;> first | (simp [D.ids, D.sid, Q6, QS, Zg] at hk; done) | (simp [D.ids, D.sid, Q6, QS, Zg] at hk; subst hk; first | exact .inl rfl | exact .inr (.inl rfl) | exact .inr (.inr (.inl rfl)) | (refine .inr (.inr (.inl ?_)); simp; done) | (first | exact .inr (.inr ⟨_, QeK _ (QeE.2 rfl), rfl⟩) | exact .inr (.inr (.inr ⟨_, QeK _ (QeE.2 rfl), rfl⟩))))))
   ·exact ⟨⟨Wa, CsIn.nil _⟩, List.nil_sublist _⟩
   intro ⟨cs, i⟩ hC
   try dsimp only at hC
   have hcl := hC.1.2.1
   try dsimp only
   refine XE ?_ -- 4
   refine Q5 fun K hK => mv2 Z Z ?_
   first | refine QI rfl QH ?_ | refine QI rfl rfl ?_
   refine Ya Z Z (hK _ _ (QM (T0 Z Z Z Z Z Z Z Z Z Z) ?_))
   refine YG Z (fun h3 => ?_) (fun h3 => ?_)
   ·try rw [h3]
    try simp only [qA] at h3
    refine YZ (Q4 (kp9 Z Z Z Z Z Z Z Z Z) ?_)
    refine XE ?_ -- 5
    refine YC (Q5 fun K hK => mv2 Z Z (Ms Z (TJ Wa Wa) (QaX Z Z Wa (BE Z Z (Yz Z Z (hK _ _ (QM (T0 Z Z Z Z Z Z Z Z Z Z) ?_)))))))
    refine YG Z (fun h4 => ?_) (fun h4 => ?_)
    ·try rw [h4]
     try simp only [qA] at h4
     refine ZI fun K hK => mv2 Z Z (Qa Z (QG Z Z Z Wa (Q7 Wa) Z (QL (cs := [_, _, _, _, _]) Z Z Z Z (Q0 Z Z ?_))))
     refine QJ Z (by repeat (first | exact YU hI.1.keys (.inl Wa) | exact YU hK1.keys (.inl Wa) | refine Zw Wj ?_)) ?_
     refine XD (hk0 := Wa) Z Z (fun _ h => XK Z Z Z h) (Qj Wa Qw) Wg Z Z Z Wi Wi (Qa Z (hK _ ?_))
     refine Qd (Q4 (kp9 Z Z Z Z Z Z Z Z Z) (ZI fun K hK => Qa Z (Q2 Z Z We (Qa Z (hK _ ?_)))))
     refine Qg (cs ++ [zr (versions[i]'Wa) 0], i + 1) ?_ ?_ ?_
     ·exact le_trans (Pj (B := [_, _, _, _, _]) (500001 + us.length) (Nx _ _)) (QaM (l := [0, 1, 5, 6, 7, 8, 9, 10, 11]) (B := [_, _, _, _, _]) (kp9 rfl rfl rfl rfl rfl rfl rfl rfl rfl) (by simp [D.scrub, e1, e2, e3, e4] <;> omega) hI.1.keys (by rw [List.map_append]; exact Qw) (by repeat (first | exact Qw | exact Tm (RP hI.1.keys) | refine Qj Wa ?_)) Wh (by intro p hp h; simp only [Qex, Qew, or_false] at hp; rcases hp with rfl | rfl | rfl | rfl | rfl <;> first | (simp only at h; omega) | exact .inl rfl | exact .inr rfl) (by intro p hp k hk; simp only [Qex, Qew, or_false] at hp; rcases hp with rfl | rfl | rfl | rfl | rfl | rfl | rfl | rfl | rfl <;> first | (simp [D.ids, D.sid, Q6, QS, Zg] at hk; done) | (simp [D.ids, D.sid, Q6, QS, Zg] at hk; subst hk; first | exact .inl rfl | exact .inr (.inl rfl) | exact .inr (.inr (.inl rfl)) | (refine .inr (.inr (.inl ?_)); simp; done) | (first | exact .inr (.inr ⟨_, QeK _ (QeE.2 rfl), rfl⟩) | exact .inr (.inr (.inr ⟨_, QeK _ (QeE.2 rfl), rfl⟩))))))
     ·try dsimp only
      exact ⟨⟨Wa, hC.1.2.snoc (DT Wa)⟩, QbJ Wa hC.2⟩
     ·show 4 - (i + 1) < 4 - i; omega
    ·try rw [h4]
     try simp only [qA] at h4
     refine YZ (Qd (Q4 (kp9 Z Z Z Z Z Z Z Z Z) (ZI fun K hK => Qa Z (Q2 Z Z We (Qa Z (hK _ ?_))))))
     refine Qg (cs, i + 1) ?_ ?_ ?_
     ·exact QaM (l := [0, 1, 5, 6, 7, 8, 9, 10, 11]) (B := [_, _, _]) (kp9 rfl rfl rfl rfl rfl rfl rfl rfl rfl) rfl hI.1.keys Wh Wh Wh (by intro p hp h; simp only [Qex, Qew, or_false] at hp; rcases hp with rfl | rfl | rfl <;> first | (simp only at h; omega) | exact .inl rfl | exact .inr rfl) (by intro p hp k hk; simp only [Qex, Qew, or_false] at hp; rcases hp with rfl | rfl | rfl | rfl | rfl | rfl | rfl | rfl | rfl <;> first | (simp [D.ids, D.sid, Q6, QS, Zg] at hk; done) | (simp [D.ids, D.sid, Q6, QS, Zg] at hk; subst hk; first | exact .inl rfl | exact .inr (.inl rfl) | exact .inr (.inr (.inl rfl)) | (refine .inr (.inr (.inl ?_)); simp; done) | (first | exact .inr (.inr ⟨_, QeK _ (QeE.2 rfl), rfl⟩) | exact .inr (.inr (.inr ⟨_, QeK _ (QeE.2 rfl), rfl⟩)))))
     ·try dsimp only
      exact ⟨⟨Wa, hC.1.2.keep⟩, SM hC.2⟩
     ·show 4 - (i + 1) < 4 - i; omega
   ·try rw [h3]
    try simp only [qA] at h3
    refine HN (Y6 (Qq (Qz (Q4 (kp7 Z Z Z Z Z Z Z) (Q5 fun K hK => mv2 Z Z (Qa Z (QG Z Z Z Wa (Q7 Wa) Z (Qx Z Z Z (Qa Z ?_)))))))))
    refine Q0 Z Z ?_
    refine QJ Z (by repeat (first | exact YU hI.1.keys (.inl Wa) | exact YU hK1.keys (.inl Wa) | refine Zw Wj ?_)) ?_
    refine R1 (hk0 := by decide) Z Z (fun _ h => XK Z Z Z h) (Qj Wa (Qj Wa Qw)) Wg Z Z (.inr (TF hI.1.keys Wa)) Wi Wi (Qa Z (hK _ _ (QM (kp7 Z Z Z Z Z Z Z) ?_)))
    have hc4 : CsIn 4 cs := ⟨Wa, hC.1.2.2⟩
    refine Lj (le_trans (Pj (B := [_, _, _, _, _]) 500000 (Nx _ _)) (QbH (u := (UR.mk (names5[n]'(by have := Q8; omega)) [] (500001 + us.length) cs)) (l := [0, 1, 5, 6, 7, 8, 9]) (fr' := [(0, .ref kg 0 0), (1, .int .i64 most), (5, .sl (Yg names5)), (6, .osl 500000 (us ++ [(UR.mk (names5[n]'(by have := Q8; omega)) [] (500001 + us.length) cs)]).length), (7, .sl (versions.map dVr)), (8, .int .i64 n), (9, .osl (500001 + us.length) cs.length)]) (B := [_, _, _, _, _]) (kp7 rfl rfl rfl rfl rfl rfl rfl) (by simp [D.scrub, e1, e2, e3, e4]) hI.1.keys rfl Wh (by rw [List.map_append]; exact Qw) Wh (by intro p hp h; simp only [Qex, Qew, or_false] at hp; rcases hp with rfl | rfl | rfl | rfl | rfl <;> first | (simp only at h; omega) | exact .inl rfl | exact .inr rfl) hkg Wa (by intro p hp k hk; simp only [Qex, Qew, or_false] at hp; rcases hp with rfl | rfl | rfl | rfl | rfl | rfl | rfl <;> first | (simp [D.ids, D.sid, Q6, QS, Zg] at hk; done) | (simp [D.ids, D.sid, Q6, QS, Zg] at hk; subst hk; first | exact .inl rfl | exact .inr (.inl rfl) | (first | exact .inr (.inr ⟨_, QeK _ (QeE.2 rfl), rfl⟩) | exact .inr (.inr (.inr ⟨_, QeK _ (QeE.2 rfl), rfl⟩))))))) ?_
    have hK1 := hI.1.snoc (n := (names5[n]'(by have := Q8; omega))) (f := []) hc4.1 hc4.2
    have hl1 : (us ++ [(UR.mk (names5[n]'(by have := Q8; omega)) [] (500001 + us.length) cs)]).length = us.length + 1 := by simp
    have f1 : ¬ kg = 500001 + (us ++ [(UR.mk (names5[n]'(by have := Q8; omega)) [] (500001 + us.length) cs)]).length := Wa
    have f2 : ¬ 500000 = 500001 + (us ++ [(UR.mk (names5[n]'(by have := Q8; omega)) [] (500001 + us.length) cs)]).length := Wa
    have f4 : ¬ 500001 + (us ++ [(UR.mk (names5[n]'(by have := Q8; omega)) [] (500001 + us.length) cs)]).length = 500000 := Wa
    have f5 : ¬ 500001 + us.length = 500001 + (us ++ [(UR.mk (names5[n]'(by have := Q8; omega)) [] (500001 + us.length) cs)]).length := Wa
    refine Q5 fun K hK => Qa Z (Ya Z Z (Qa Z ?_))
    refine Qv (g := 67) Z (fun h5 => ?_) (fun h5 => ?_)
    ·try rw [h5]
     try simp only [qA] at h5
     refine Qe Z (Qa Z (Qe Z ?_))
     refine Z9 (Xo (I := nxI (nxI J)) Z Wh hL Wa) ?_
     refine Qe Z (Yz Z Z (Qh Z Z (hK _ _ (QM (kp8 Z Z Z Z Z Z Z Z) ?_))))
     refine YG Z (fun h6 => ?_) (fun h6 => ?_)
     ·try rw [h6]
      try simp only [qA] at h6
      refine Q5 fun K hK => Qa Z (hK _ _ (QM (kp8 Z Z Z Z Z Z Z Z) ?_))
      refine XE ?_ -- 6
      refine Q5 fun K hK => Qa Z (hK _ _ (QM (kp9 Z Z Z Z Z Z Z Z Z) ?_))
      refine YC ?_
      refine Fy (ι := List CR × Nat × Int) (fun ⟨c2, m, J3⟩ => ⟨[(0, .ref kg 0 0), (1, .int .i64 most), (5, .sl (Yg names5)), (6, .osl 500000 (us ++ [(UR.mk (names5[n]'(by have := Q8; omega)) [] (500001 + us.length) cs)]).length), (7, .sl (versions.map dVr)), (8, .int .i64 n), (9, .osl (500001 + us.length) cs.length), (12, .osl (500001 + (us ++ [(UR.mk (names5[n]'(by have := Q8; omega)) [] (500001 + us.length) cs)]).length) c2.length), (13, .int .i64 m)], [(500001 + (us ++ [(UR.mk (names5[n]'(by have := Q8; omega)) [] (500001 + us.length) cs)]).length, ⟨(c2).map dCR, 8, 62, true⟩), (500000, ⟨(us ++ [(UR.mk (names5[n]'(by have := Q8; omega)) [] (500001 + us.length) cs)]).map dUR, 3, 65, false⟩), (kg, gB L (J3) eg)] ++ fbx 62 (us ++ [(UR.mk (names5[n]'(by have := Q8; omega)) [] (500001 + us.length) cs)])⟩) (fun ⟨c2, m, J3⟩ => (m <= cs.length /\ CsIn m c2) /\ (c2.map CR.v).Sublist ((cs.map CR.v).take m)) (fun ⟨c2, m, J3⟩ => cs.length - m) ([], 0, nxI (nxI (nxI J))) ?_ ?_ ?_
      ·exact le_trans (Yl 12 (500001 + (us ++ [(UR.mk (names5[n]'(by have := Q8; omega)) [] (500001 + us.length) cs)]).length) 8 62 rfl (by repeat (first | exact YU hK1.keys (.inr Wa) | refine Zw Wa ?_))) (QaM (l := [0, 1, 5, 6, 7, 8, 9, 12, 13]) (B := [_, _, _, _]) (kp9 rfl rfl rfl rfl rfl rfl rfl rfl rfl) rfl hK1.keys Wh Wh Wh (by intro p hp h; simp only [Qex, Qew, or_false] at hp; rcases hp with rfl | rfl | rfl | rfl <;> first | (simp only at h; omega) | exact .inl rfl | exact .inr rfl) (by intro p hp k hk; simp only [Qex, Qew, or_false] at hp; rcases hp with rfl | rfl | rfl | rfl | rfl | rfl | rfl | rfl | rfl <;> first | (simp [D.ids, D.sid, Q6, QS, Zg] at hk; done) | (simp [D.ids, D.sid, Q6, QS, Zg] at hk; subst hk; first | exact .inl rfl | exact .inr (.inl rfl) | exact .inr (.inr (.inl rfl)) | (refine .inr (.inr (.inl ?_)); simp; done) | (first | exact .inr (.inr ⟨_, QeK _ (QeE.2 rfl), rfl⟩) | exact .inr (.inr (.inr ⟨_, QeK _ (QeE.2 rfl), rfl⟩))))))
      ·exact ⟨⟨Wa, CsIn.nil _⟩, List.nil_sublist _⟩
      intro ⟨c2, m, J3⟩ hM
      try dsimp only at hM
      have hcl2 := hM.1.2.1
      try dsimp only
      refine XE ?_ -- 7
      refine Q5 fun K hK => mv2 Z Z ?_
      first | refine QI rfl QH ?_ | refine QI rfl rfl ?_
      refine Ya Z Z (hK _ _ (QM (T0 Z Z Z Z Z Z Z Z Z Z) ?_))
      refine YG Z (fun h7 => ?_) (fun h7 => ?_)
      ·try rw [h7]
       try simp only [qA] at h7
       refine YZ (Q4 (kp9 Z Z Z Z Z Z Z Z Z) ?_)
       refine XE ?_ -- 8
       refine YC (Q5 fun K hK => Qa Z ?_)
       refine Z9 (Xo (I := J3) Z Wh hL Wa) ?_
       refine JS Z Z (hK _ _ (QM (T0 Z Z Z Z Z Z Z Z Z Z) ?_))
       refine YG Z (fun h8 => ?_) (fun h8 => ?_)
       ·try rw [h8]
        try simp only [qA] at h8
        refine ZI fun K hK => mv2 Z Z (Qa Z (Xz Z Z (Qj Wa (Qj Wa (Qj Wa (Qj Wa (M8 (u := (UR.mk (names5[n]'(by have := Q8; omega)) [] (500001 + us.length) cs)) hI.1.keys Z))))) Wg Wa Wa Z (Qf Z (Zu (Qj Wa (Qj Wa (Qj Wa (Qj Wa (M8 (u := (UR.mk (names5[n]'(by have := Q8; omega)) [] (500001 + us.length) cs)) hI.1.keys Z)))))) (QL (cs := [_, _, _, _, _]) Z (Yk (Qj Wa (Qj Wa (Qj Wa (Qj Wa (M8 (u := (UR.mk (names5[n]'(by have := Q8; omega)) [] (500001 + us.length) cs)) hI.1.keys Z))))) (Q7 (l := cs) Wa)) Z Z (Q0 Z Z ?_)))))
        refine QJ Z (by repeat (first | exact YU hI.1.keys (.inl Wa) | exact YU hK1.keys (.inl Wa) | refine Zw Wj ?_)) ?_
        refine XD (hk0 := Wa) Z Z (fun _ h => XK Z Z Z h) (Qj Wa (Qj Wa Qw)) Wg Z Z Z Wi Wi (Qa Z (hK _ ?_))
        refine Qd (Q4 (kp9 Z Z Z Z Z Z Z Z Z) (ZI fun K hK => Qa Z (Q2 Z Z We (Qa Z (hK _ ?_)))))
        refine Qg (c2 ++ [zr (cs[m]'Wa).v 0], m + 1, nxI J3) ?_ ?_ ?_
        ·exact le_trans (Pj (B := [_, _, _, _, _, _]) (500001 + (us ++ [(UR.mk (names5[n]'(by have := Q8; omega)) [] (500001 + us.length) cs)]).length) (Nx _ _)) (QaM (l := [0, 1, 5, 6, 7, 8, 9, 12, 13]) (B := [_, _, _, _, _, _]) (kp9 rfl rfl rfl rfl rfl rfl rfl rfl rfl) (by simp [D.scrub, f1, f2, f4, f5] <;> omega) hK1.keys (by rw [B4 (cs := c2)]; exact Qw) (by repeat (first | exact Qw | exact Tm (RP hK1.keys) | refine Qj Wa ?_)) Wh (by intro p hp h; simp only [Qex, Qew, or_false] at hp; rcases hp with rfl | rfl | rfl | rfl | rfl | rfl <;> first | (simp only at h; omega) | exact .inl rfl | exact .inr rfl) (by intro p hp k hk; simp only [Qex, Qew, or_false] at hp; rcases hp with rfl | rfl | rfl | rfl | rfl | rfl | rfl | rfl | rfl <;> first | (simp [D.ids, D.sid, Q6, QS, Zg] at hk; done) | (simp [D.ids, D.sid, Q6, QS, Zg] at hk; subst hk; first | exact .inl rfl | exact .inr (.inl rfl) | exact .inr (.inr (.inl rfl)) | (refine .inr (.inr (.inl ?_)); simp; done) | (first | exact .inr (.inr ⟨_, QeK _ (QeE.2 rfl), rfl⟩) | exact .inr (.inr (.inr ⟨_, QeK _ (QeE.2 rfl), rfl⟩))))))
        ·try dsimp only
         exact ⟨⟨Wa, hM.1.2.snoc (hC.1.2.at Wa)⟩, QbI Wa hM.2⟩
        ·show cs.length - (m + 1) < cs.length - m; omega
       ·try rw [h8]
        try simp only [qA] at h8
        refine YZ (Qd (Q4 (kp9 Z Z Z Z Z Z Z Z Z) (ZI fun K hK => Qa Z (Q2 Z Z We (Qa Z (hK _ ?_))))))
        refine Qg (c2, m + 1, nxI J3) ?_ ?_ ?_
        ·exact QaM (l := [0, 1, 5, 6, 7, 8, 9, 12, 13]) (B := [_, _, _, _]) (kp9 rfl rfl rfl rfl rfl rfl rfl rfl rfl) rfl hK1.keys Wh Wh Wh (by intro p hp h; simp only [Qex, Qew, or_false] at hp; rcases hp with rfl | rfl | rfl | rfl <;> first | (simp only at h; omega) | exact .inl rfl | exact .inr rfl) (by intro p hp k hk; simp only [Qex, Qew, or_false] at hp; rcases hp with rfl | rfl | rfl | rfl | rfl | rfl | rfl | rfl | rfl <;> first | (simp [D.ids, D.sid, Q6, QS, Zg] at hk; done) | (simp [D.ids, D.sid, Q6, QS, Zg] at hk; subst hk; first | exact .inl rfl | exact .inr (.inl rfl) | exact .inr (.inr (.inl rfl)) | (refine .inr (.inr (.inl ?_)); simp; done) | (first | exact .inr (.inr ⟨_, QeK _ (QeE.2 rfl), rfl⟩) | exact .inr (.inr (.inr ⟨_, QeK _ (QeE.2 rfl), rfl⟩)))))
        ·try dsimp only
         exact ⟨⟨Wa, hM.1.2.keep⟩, SM hM.2⟩
        ·show cs.length - (m + 1) < cs.length - m; omega
      ·try rw [h7]
       try simp only [qA] at h7
       refine HN (Y6 (Qq (Qz (Q4 (kp7 Z Z Z Z Z Z Z) (ZI fun K hK => mv2 Z Z (Qa Z (QG Z Z Z Wa (Q7 Wa) Z (Qx Z Z Z (Qa Z ?_)))))))))
       refine Q0 Z Z ?_
       refine QJ Z (by repeat (first | exact YU hI.1.keys (.inl Wa) | exact YU hK1.keys (.inl Wa) | refine Zw Wj ?_)) ?_
       refine R1 (hk0 := by decide) Z Z (fun _ h => XK Z Z Z h) (Qj Wa (Qj Wa Qw)) Wg Z Z (.inr (TF hK1.keys Wa)) Wi Wi (Qa Z (hK _ ?_))
       refine Qd (Q4 (kp6 Z Z Z Z Z Z) (ZI fun K hK => Qa Z (Q2 Z Z We (Qa Z (hK _ ?_)))))
       refine Qg (us ++ [(UR.mk (names5[n]'(by have := Q8; omega)) [] (500001 + us.length) cs)] ++ [(UR.mk (names5[n]'(by have := Q8; omega)) [102] (500001 + (us ++ [(UR.mk (names5[n]'(by have := Q8; omega)) [] (500001 + us.length) cs)]).length) c2)], J3, n + 1) ?_ ?_ ?_
       ·exact le_trans (Pj (B := [_, _, _, _, _]) 500000 (Nx _ _)) (QbH (u := (UR.mk (names5[n]'(by have := Q8; omega)) [102] (500001 + (us ++ [(UR.mk (names5[n]'(by have := Q8; omega)) [] (500001 + us.length) cs)]).length) c2)) (l := [0, 1, 5, 6, 7, 8]) (B := [_, _, _, _, _]) (kp6 rfl rfl rfl rfl rfl rfl) (by simp [D.scrub, f1, f2, e3, f4, e4] <;> omega) hK1.keys rfl Wh (by rw [Qay (u := (UR.mk (names5[n]'(by have := Q8; omega)) [102] (500001 + (us ++ [(UR.mk (names5[n]'(by have := Q8; omega)) [] (500001 + us.length) cs)]).length) c2))]; exact Qw) Wh (by intro p hp h; simp only [Qex, Qew, or_false] at hp; rcases hp with rfl | rfl | rfl | rfl | rfl <;> first | (simp only at h; omega) | exact .inl rfl | exact .inr rfl) hkg Wa (by intro p hp k hk; simp only [Qex, Qew, or_false] at hp; rcases hp with rfl | rfl | rfl | rfl | rfl | rfl <;> first | (simp [D.ids, D.sid, Q6, QS, Zg] at hk; done) | (simp [D.ids, D.sid, Q6, QS, Zg] at hk; subst hk; first | exact .inl rfl | exact .inr (.inl rfl) | (first | exact .inr (.inr ⟨_, QeK _ (QeE.2 rfl), rfl⟩) | exact .inr (.inr (.inr ⟨_, QeK _ (QeE.2 rfl), rfl⟩))))))
       ·try dsimp only
        exact ⟨hK1.snoc Wa hM.1.2.2, by simp; omega, Wa, by simp; omega, QcO (DR hI.2.2.2.2 Wa (TG hC.2)) Wa Wi ((hM.2.trans (List.take_sublist _ _)).trans (TG hC.2))⟩
       ·show 5 - (n + 1) < 5 - n; omega
     ·try rw [h6]
      try simp only [qA] at h6
      refine YZ (Qd (Q4 (kp6 Z Z Z Z Z Z) (ZI fun K hK => Qa Z (Q2 Z Z We (Qa Z (hK _ ?_))))))
      refine Qg (us ++ [(UR.mk (names5[n]'(by have := Q8; omega)) [] (500001 + us.length) cs)], nxI (nxI (nxI J)), n + 1) ?_ ?_ ?_
      ·exact Qc1 (l := [0, 1, 5, 6, 7, 8]) (B := [_, _, _]) (kp6 rfl rfl rfl rfl rfl rfl) rfl hK1.keys Wh Wh (by intro p hp h; simp only [Qex, Qew, or_false] at hp; rcases hp with rfl | rfl | rfl <;> first | (simp only at h; omega) | rfl) Wa (by intro p hp k hk; simp only [Qex, Qew, or_false] at hp; rcases hp with rfl | rfl | rfl | rfl | rfl | rfl <;> first | (simp [D.ids, D.sid, Q6, QS, Zg] at hk; done) | (simp [D.ids, D.sid, Q6, QS, Zg] at hk; subst hk; first | exact .inl rfl | exact .inr (.inl rfl) | (first | exact .inr (.inr ⟨_, QeK _ (QeE.2 rfl), rfl⟩) | exact .inr (.inr (.inr ⟨_, QeK _ (QeE.2 rfl), rfl⟩)))))
      ·try dsimp only
       exact ⟨hK1, by simp; omega, Wa, by simp; omega, UL.up (DR hI.2.2.2.2 Wa (TG hC.2)) Wa⟩
      ·show 5 - (n + 1) < 5 - n; omega
    ·try rw [h5]
     try simp only [qA] at h5
     refine gn3 Z Z Z (Qh Z Z (hK _ _ (QM (kp8 Z Z Z Z Z Z Z Z) ?_)))
     refine R2 Z (YZ (Qd (Q4 (kp6 Z Z Z Z Z Z) (ZI fun K hK => Qa Z (Q2 Z Z We (Qa Z (hK _ ?_)))))))
     refine Qg (us ++ [(UR.mk (names5[n]'(by have := Q8; omega)) [] (500001 + us.length) cs)], nxI (nxI J), n + 1) ?_ ?_ ?_
     ·exact Qc1 (l := [0, 1, 5, 6, 7, 8]) (B := [_, _]) (kp6 rfl rfl rfl rfl rfl rfl) rfl hK1.keys Wh Wh (by intro p hp h; simp only [Qex, Qew, or_false] at hp; rcases hp with rfl | rfl <;> first | (simp only at h; omega) | rfl) Wa (by intro p hp k hk; simp only [Qex, Qew, or_false] at hp; rcases hp with rfl | rfl | rfl | rfl | rfl | rfl <;> first | (simp [D.ids, D.sid, Q6, QS, Zg] at hk; done) | (simp [D.ids, D.sid, Q6, QS, Zg] at hk; subst hk; first | exact .inl rfl | exact .inr (.inl rfl) | (first | exact .inr (.inr ⟨_, QeK _ (QeE.2 rfl), rfl⟩) | exact .inr (.inr (.inr ⟨_, QeK _ (QeE.2 rfl), rfl⟩)))))
     ·try dsimp only
      exact ⟨hK1, by simp; omega, Wa, by simp; omega, UL.up (DR hI.2.2.2.2 Wa (TG hC.2)) Wa⟩
     ·show 5 - (n + 1) < 5 - n; omega
  ·try rw [h2]
   try simp only [qA] at h2
   refine HN (Y6 (Qq (Qz (Q4 (kp1 Z) (Q5 fun K hK => mv2 Z Z (hK _ _ (QM (kp1 Z) ?_)))))))
   refine Mc ?_
   refine ⟨.osl 500000 us.length, ((500000, ⟨us.map dUR, 3, 65, false⟩) :: fbx 62 us) ++ [(kg, gB L (nxI J) eg), (kg, gB L I eg)], ⟨us, _, ⟨hI.1, Wa, Wa, _, hI.2.2.2.2⟩, rfl, rfl⟩, (J8 (g3 := gB L J eg) hI.1.keys hkg Z Z Wa).1, (J8 (g3 := gB L J eg) hI.1.keys hkg Z Z Wa).2.1, Jm Z Z (J8 (g3 := gB L J eg) hI.1.keys hkg Z Z Wa).2.2⟩
 ·try rw [h1]
  try simp only [qA] at h1
  refine gn4 Z Z Z Z (Qh Z Z (hK _ _ (QM (kp7 Z Z Z Z Z Z Z) ?_)))
  refine R2 Z (HN (Y6 (Qq (Qz (Q4 (kp1 Z) (Q5 fun K hK => mv2 Z Z (hK _ _ (QM (kp1 Z) ?_))))))))
  refine Mc ?_
  refine ⟨.osl 500000 us.length, ((500000, ⟨us.map dUR, 3, 65, false⟩) :: fbx 62 us) ++ [(kg, gB L (nxI J) eg), (kg, gB L I eg)], ⟨us, _, ⟨hI.1, Wa, Wa, _, hI.2.2.2.2⟩, rfl, rfl⟩, (J8 (g3 := gB L J eg) hI.1.keys hkg Z Z Wa).1, (J8 (g3 := gB L J eg) hI.1.keys hkg Z Z Wa).2.1, Jm Z Z (J8 (g3 := gB L J eg) hI.1.keys hkg Z Z Wa).2.2⟩
open Go Go.Abs M3 M25
theorem Qal {kg : Nat} {L : List Int} {I most : Int} {eg eu ec : Nat} (heu : eu = 65) (hec : ec = 62) (hL : ∀ x ∈ L, I64 x) (hm0 : 1 <= most) (hm1 : most <= 5) :
  ∃ us I2, (UnitsIn us /\ 2 <= us.length /\ us.length <= 11 /\ ∃ b, UL b (us.map shp)) /\ ∀ (st : St) (args : List Opd), Zn st args = some [.ref kg 0 0, .int .i64 most] -> lk st.H kg = some (gB L I eg) -> (∀ j, 500000 <= j -> lk st.H j = none) -> KD Tryz.prog 31 args st [(kg, gB L I eg)] ((500000, ⟨us.map dUR, 3, eu, false⟩) :: fbx ec us) [(kg, gB L I2 eg)] (.osl 500000 us.length) := by
 obtain ⟨d, H2, ⟨us, I2, hus, rfl, rfl⟩, hok⟩ := HD (kg := upN kg) (I := I) (eg := eg) heu hec (by unfold upN; omega) hL hm0 hm1
 refine ⟨us, I2, hus, fun st args ha hg hs => ⟨_, ha, fun k b h => ?_, fun k b h j hj => ?_, fun x hx j hj => ?_, fun k b h => ?_, fun k b h => ?_, fun k hk => ?_, hok⟩⟩
 ·obtain ⟨rfl, rfl⟩ := XY h; exact hg
 ·obtain ⟨rfl, rfl⟩ := XY h; simp [Box.ids, gB] at hj
 ·simp only [Qex, Qew, or_false] at hx
  rcases hx with rfl | rfl
  ·simp [D.ids, D.sid] at hj; subst hj; exact QW
  ·simp [D.ids, D.sid] at hj
 ·obtain ⟨rfl, rfl⟩ := XY h
  exact ⟨QW, fun j hj => by simp [Box.ids, gB] at hj⟩
 ·have hK := hus.1.keys
  rw [Qk] at h
  split at h
  ·rename_i e; cases h; subst e
   refine ⟨by decide, hs _ (Nat.le_refl _), fun j hj => ?_⟩
   obtain ⟨u, hu, rfl⟩ := Kv hj
   exact QV (GA hK hu)
  ·obtain ⟨u, hu, rfl, rfl⟩ := MF h
   have := Kl hK hu
   exact ⟨Wa, hs _ Wa, fun j hj => by simp [Box.ids] at hj⟩
 ·simp [D.ids, D.sid] at hk; subst hk; exact QW
theorem Sx {H : Qes} {kg ku : Nat} {L : List Int} {I most : Int} {eg eu ec : Nat} {us : List UR} (hg : lk H kg = some (gB L I eg)) (hU : Fam H kg ku eu ec us) (hC : Closed H) (hL : ∀ x ∈ L, I64 x) (h2 : 2 <= us.length) (hn : us.length <= 48) (hm0 : 0 <= most) (hm1 : most <= 10) :
  ∃ ns I2, F7 us.length most ns /\ ∀ (st : St) (args : List Opd), Zn st args = some [.ref kg 0 0, .osl ku us.length, .int .i64 most] -> (∀ j x, lk H j = some x -> lk st.H j = some x) -> KD Tryz.prog 32 args st H [] [(kg, gB L I2 eg)] (QS ns) := by
 obtain ⟨d, H2, ⟨ns, I2, hx, rfl, rfl⟩, hok⟩ := HC (H := upH H) (kg := upN kg) (ku := upN ku) (L := L) (I := I) (most := most) (eg := eg) (eu := eu) (ec := ec) (us := us.map UR.ren) (by unfold upN; omega) (by rw [JB, hg]; rfl) hU.up SJ (Fv hC) hL (by simpa using h2) (by simpa using hn) hm0 hm1
 obtain ⟨pu, hu⟩ := hU.u
 rw [List.length_map] at hx hok
 refine ⟨ns, I2, hx, fun st args ha hF => SX (b' := gB L I2 eg) (ds' := [.ref (upN kg) 0 0, .osl (upN ku) us.length, .int .i64 most]) ha hF hC (fun x hx j hj => ?_) (Zu hg) Z Z Z Z hok⟩
 simp only [Qex, Qew, or_false] at hx
 rcases hx with rfl | rfl | rfl
 ·simp [D.ids, D.sid] at hj; subst hj; exact Zu hg
 ·simp [D.ids, D.sid] at hj; subst hj; exact Zu hu
 ·simp [D.ids, D.sid] at hj
theorem _root_.Wc {p : Prop} (h : p := by first | rfl | ((try simp only [QS, D.ids, D.sid]); simp only [Dr.ok, Zq, Zr, Zs, List.all_append, List.all_cons, List.all_nil, Bool.and_true, Bool.true_and]; (try rw [ZF (by rfl)]); simp [D.ids, D.sid]; done) | ((try simp only [QS, D.ids, D.sid]); simp only [Dr.ok, Zq, Zr, Zs, List.all_append, List.all_cons, List.all_nil, Bool.and_true, Bool.true_and]; (try rw [ZF (by rfl)]); simp [D.ids, D.sid]; omega)) : p := h
theorem _root_.Wf {p : Prop} (h : p := by repeat (first | exact Qw | exact F3 | exact FG | exact Ma | refine Qj (by omega) ?_)) : p := h
theorem _root_.Wu {p : Prop} (h : p := by first | omega | (rw [Zt]; omega)) : p := h
theorem HB {ws : List Int} (hL : ∀ x ∈ ws, I64 x) {most : Int} (hm0 : 1 <= most) (hm1 : most <= 5) : ∃ d, (∃ w, WMade w /\ d = Jf w) /\ Ok Tryz.prog 7 [Zg ws, .int .i64 most] d := by
 refine Ok.ofX (R := fun d => (∃ w, WMade w /\ d = Jf w)) ZR Tryz.func7 tp7 (Qev Z) ?_
 show TX _ _ tf7.body _ _
 obtain ⟨us0, J0, ⟨hU, hu2, hu11, hul⟩, hc0⟩ := Qal (kg := 12) (L := ws) (I := 0) (most := most) (eg := 72) rfl rfl hL hm0 hm1
 have hU0 := Prog.start hU hu2 hu11 hul
 obtain ⟨z0, rest0, hfirst⟩ := hU.first
 have hi0 : 0 < us0.length := Wa
 have hcl0 : us0[0].cs = [z0] := by subst hfirst; rfl
 have hk0 : 0 < us0[0].cs.length := by rw [hcl0]; exact Nat.zero_lt_one
 obtain ⟨va, sha, hza, hva⟩ := hU0.fresh 0 hi0 0 hk0 Wa
 obtain ⟨ns0, J00, hns0, hc00⟩ := Sx (H := wA (us0) 65 62 72 ws (J0) ⟨[[.fsl []]], 1, 27, true⟩) (most := 3) FG (TH hU.keys hU0.fam hU0.vs) (Jq hU.keys rfl) hL hu2 Wa Wl Wl
 refine Q5 fun K hK => ZE Z (hK _ _ (QM (kp3 Z Z Z) ?_))
 refine Q5 fun K hK => Qa Z (Q0 Z Z (ZC Z Z Z (Qa Z (hK _ _ (QM (kp3 Z Z Z) ?_)))))
 refine Q5 fun K hK => Qa rfl (Qa rfl (Z9 (hc0 _ _ rfl rfl (by intro j hj; rw [Qk, if_neg Wa, Qk, if_neg Wa]; rfl)) (Qa rfl (hK _ _ (QM (kp3 rfl rfl rfl) ?_)))))
 refine Lj (Km Z (SI hU.keys)) (Q5 fun K hK => Qa Z (KH (ds0 := [7, 6, 2, 1, 0]) Z Z Z Wg Wa Wa Z Wc Z (Qf Z Z (Zc (ds0 := [2, 1, 0]) Z (Yk Z (C0 (i := 0) hU.keys hi0)) Z Wc Z (mv2 Z Z (G6 (ds0 := [0]) (hc00 _ _ Z (fun _ _ h => h)) (fun j hj => GH hj) Wc Z (KH (ds0 := [1, 0]) Z Z (Qj Wa (Gj (j := 0) hU.keys hi0)) Wg Wa Wa Z Wc Z (Qf Z (Zu (Qj Wa (Gj (j := 0) hU.keys hi0))) (Xg (ds0 := []) Z (Qj Wa (Gj (j := 0) hU.keys hi0)) (B3 (k := 0) hk0 hza) Z Z Z Z Z Wc Z ?_)))))))))
 refine hK _ _ (QM (kp3 Z Z Z) ?_)
 refine XE ?_ -- 0
 refine Q5 fun K hK => Qa Z (hK _ _ (QM (kp4 Z Z Z Z) ?_))
 refine YC ?_
 have hPs : Prog us0.length (Hj us0 0 0 (PN (CandT.mk va sha ns0 []))) 1 0 := (hU0.put hi0 hk0 ⟨_, rfl, Ff hva hns0 Wl⟩ (by rw [hza]; rfl)).next (by rw [Zt]; exact hi0) (by rw [<- JM (by rw [Zt]; exact hi0), Jy, JM hi0, hcl0]; exact Nat.le_refl 1)
 refine Fy (ι := List UR × Int × Nat) (fun ⟨usA, JA, i⟩ => ⟨[(4, .ref 4 0 0), (5, .ref 12 0 0), (6, .osl 500000 usA.length), (7, .int .i64 i)], wA (usA) 65 62 72 ws (JA) ⟨[[.fsl []]], 1, 27, true⟩⟩) (fun ⟨usA, JA, i⟩ => Prog us0.length usA i 0 /\ 1 <= i /\ i <= us0.length) (fun ⟨usA, JA, i⟩ => us0.length - i) (Hj us0 0 0 (PN (CandT.mk va sha ns0 [])), J00, 1) ?_ ?_ ?_
 ·exact NF (l := [4, 5, 6, 7]) (i := 0) (k := 0) (row := [.int .i64 va.a, .int .i64 va.b, .int .i64 va.c, .str va.p, .str va.q, .int .i64 sha, QS ns0, .fsl []]) (p := true) 13 (PN (CandT.mk va sha ns0 [])) (kp4 rfl rfl rfl rfl) (by rw [Zt] <;> rfl) hU.keys hi0 hk0 Qw (fun _ => rfl) rfl (fun z hz => (hU0.pure hi0 z hz).1) ⟨rfl, rfl, rfl⟩ (fun j hj hne => (Qj Wa (Qj Wa (Gj hU.keys hj)))) Wf Wf Wf rfl Wl (by intro j hj; repeat (first | exact ZZ hU.keys Wa Wa Wa (.inr Wa) | refine Zw Wa ?_)) Wa (by intro p hp j hj; simp only [Qex, Qew, or_false] at hp; rcases hp with rfl | rfl | rfl | rfl <;> first | (simp [D.ids, D.sid] at hj; done) | (simp [D.ids, D.sid] at hj; subst hj; first | exact .inl rfl | exact .inr (.inl rfl) | exact .inr (.inr (.inl rfl)) | exact .inr (.inr (.inr ⟨us0[0], QeA hi0, rfl⟩))))
 ·exact ⟨hPs, Nat.le_refl _, Wa⟩
 intro ⟨usA, JA, i⟩ hPA
 try dsimp only at hPA
 have hlA := hPA.1.len.1
 try dsimp only
 refine XE ?_ -- 1
 refine Q5 fun K hK => mv2 Z Z ?_
 first | refine QI rfl QH ?_ | refine QI rfl rfl ?_
 refine Ya Z Z (hK _ _ (QM (kp5 Z Z Z Z Z) ?_))
 refine YG Z (fun h1 => ?_) (fun h1 => ?_)
 ·try rw [h1]
  try simp only [qA] at h1
  refine YZ (Q4 (kp4 Z Z Z Z) ?_)
  refine XE ?_ -- 2
  refine YC (Q5 fun K hK => Qa Z (hK _ _ (QM (kp5 Z Z Z Z Z) ?_)))
  refine YC ?_
  refine Fy (ι := List UR × Int × Nat) (fun ⟨us, J, k⟩ => ⟨[(4, .ref 4 0 0), (5, .ref 12 0 0), (6, .osl 500000 us.length), (7, .int .i64 i), (8, .int .i64 k)], wA (us) 65 62 72 ws (J) ⟨[[.fsl []]], 1, 27, true⟩⟩) (fun ⟨us, J, k⟩ => Prog us0.length us i k) (fun ⟨us, J, k⟩ => Sb us i - k) (usA, JA, 0) ?_ ?_ ?_
  ·exact QU (l := [4, 5, 6, 7, 8]) (kp5 rfl rfl rfl rfl rfl)
  ·exact hPA.1
  intro ⟨us, J, k⟩ hP
  try dsimp only at hP
  have hl := hP.len.1
  have hi : i < us.length := Wa
  have h1i := hPA.2.1
  have hcl4 := hP.cl us[i] (QeA hi)
  try dsimp only
  refine XE ?_ -- 3
  refine Q5 fun K hK => mv2 Z Z (Qa Z (Xz Z Z Z Wg Wa Wa Z (Qf Z Z (Qx Z (Yk Z (C0 hP.keys hi)) Z ?_))))
  first | refine QI rfl QH ?_ | refine QI rfl rfl ?_
  refine Ya Z Z (hK _ _ (QM (kp6 Z Z Z Z Z Z) ?_))
  refine YG Z (fun h2 => ?_) (fun h2 => ?_)
  ·try rw [h2]
   try simp only [qA] at h2
   try (have hk : k < us[i].cs.length := Wa; obtain ⟨v, sh, hz, hv⟩ := hP.fresh i hi k hk Wa)
   refine YZ (Q4 (kp5 Z Z Z Z Z) ?_)
   refine XE ?_ -- 4
   refine YC (Q5 fun K hK => mv2 Z Z (Xz Z Z Z Wg Wa Wa Z (Qf Z Z (Qx Z (Yk Z (C0 hP.keys hi)) Z (Qa Z (Xz Z Z (Gj hP.keys hi) Wg Wa Wa Z (Qa Z (hK _ _ (QM (kp6 Z Z Z Z Z Z) ?_)))))))))
   refine XE ?_ -- 5
   refine Q5 fun K hK => mv2 Z Z (Xz Z Z Z Wg Wa Wa Z (Qf Z Z (Qx Z (Yk Z (C0 hP.keys hi)) Z (Mb Z Z (hK _ _ (QM (kp7 Z Z Z Z Z Z Z) ?_))))))
   refine YG Z (fun h3 => ?_) (fun h3 => ?_)
   ·try rw [h3]
    try simp only [qA] at h3
    refine ZI fun K hK => mv2 Z Z (KI Z Z We (Qa Z (Yb Z Z (Qf Z (Zu (Gj hP.keys hi)) (QL (cs := [_, _, _, _, _]) Z (Yk (Gj hP.keys hi) (B3 hk hz)) Z Z (QC (XT hv.1 hv.2) Z Z (.inl Z) (Q0 Z Z ?_)))))))
    refine QJ Z (by repeat (first | exact ZZ hU.keys Wa Wa Wa (.inl Wa) | exact ZZ hP.keys Wa Wa Wa (.inl Wa) | exact ZZ hP2.keys Wa Wa Wa (.inl Wa) | refine Zw Wa ?_)) ?_
    refine QJ Z (by repeat (first | exact ZZ hU.keys Wa Wa Wa (.inl Wa) | exact ZZ hP.keys Wa Wa Wa (.inl Wa) | exact ZZ hP2.keys Wa Wa Wa (.inl Wa) | refine Zw Wa ?_)) ?_
    refine Yb Z Z (Qf Z (Zu (Qj Wa (Qj Wa (Gj hP.keys hi)))) (QT Z (Qj Wa (Qj Wa (Gj hP.keys hi))) (B3 hk hz) Z Z Z Z Z (hK _ ?_)))
    refine Q4 (kp6 Z Z Z Z Z Z) ?_
    first | (refine Lj (L0 (l := [4, 5, 6, 7, 8, 9]) (fr' := [(4, .ref 4 0 0), (5, .ref 12 0 0), (6, .osl 500000 us.length), (7, .int .i64 i), (8, .int .i64 k), (9, .ref (500001 + i) k 0)]) (x := (WantT.mk ((i : Int) - 1) (Y2 v.a v.b v.c v.p v.q))) (kp6 rfl rfl rfl rfl rfl rfl) rfl hP.keys hi rfl (SB (fun z hz => (hP.pure hi z hz).1) (by intro d hd j hj; simp [dCR, setRow, zr] at hd; rcases hd with rfl | rfl | rfl | rfl | rfl | rfl | rfl | rfl <;> simp [D.sid] at hj <;> exact hj)) (by intro p hp j hj; simp only [Qex, Qew, or_false] at hp; rcases hp with rfl | rfl | rfl | rfl | rfl | rfl <;> first | (simp [D.ids, D.sid] at hj; done) | (simp [D.ids, D.sid] at hj; subst hj; first | exact .inl rfl | exact .inr (.inl rfl) | exact .inr (.inr (.inl rfl)) | exact .inr (.inr (.inr ⟨us[i], QeA hi, (hP.keys i hi).symm⟩))))) ?_) | skip
    refine Q5 fun K hK => mv2 Z Z (Yb Z Z (Qf Z QW (Zc (ds0 := [3, 0]) Z (Yk Qw (Bv hk)) Z Wc Z (mv2 Z Z ?_))))
    have hfx := Qc6 (eu := 65) (ec := 62) (eg := 72) (L := ws) (J := J) (b4 := ⟨[[.fsl []]], 1, 27, true⟩) (b64 := ⟨[[Q6 [(WantT.mk ((i : Int) - 1) (Y2 v.a v.b v.c v.p v.q))]]], 1, 60, true⟩) (zx := (CR.mk v (.int .i64 sh) (.osl 64 1) (.fsl []))) hP hi hk hv ⟨rfl, rfl, rfl⟩ rfl rfl (by rw [hz]; rfl)
    obtain ⟨ns, J1, hns, hc1⟩ := Sx (H := (500001 + i, ⟨(us[i].cs.map dCR).set k (dCR (CR.mk v (.int .i64 sh) (.osl 64 1) (.fsl []))), 8, 62, false⟩) :: (64, ⟨[[Q6 [(WantT.mk ((i : Int) - 1) (Y2 v.a v.b v.c v.p v.q))]]], 1, 60, true⟩) :: wA (us) 65 62 72 ws (J) ⟨[[.fsl []]], 1, 27, true⟩) (most := 2) (Qj Wa (Qj Wa FG)) hfx.1 hfx.2 hL Wu Wu Wl Wl
    rw [Zt] at hns
    refine G6 (ds0 := [3, 0]) (hc1 _ _ (by rw [Zt]; rfl) (fun _ _ h => h)) (fun j hj => GH hj) Wc Z ?_
    refine F8 (ds0 := [0]) Z Z (by simp [D.ids, D.sid, QS]) ⟨rfl, Bs, rfl⟩ (by repeat (first | exact ZZ hU.keys Wa Wa Wa (.inl Wa) | exact ZZ hP.keys Wa Wa Wa (.inl Wa) | exact ZZ hP2.keys Wa Wa Wa (.inl Wa) | refine Zw Wa ?_)) (Qj Wa (Qj Wa Qw)) Z Z Z (by have := hns.1; simp; omega) (by have := hns.1; simp; omega) Wc Z ?_
    refine Yb Z Z (Qf Z (Zu (Qj Wa (Qj Wa (Qj Wa Qw)))) (Xg (ds0 := []) Z (Qj Wa (Qj Wa (Qj Wa Qw))) (Bv hk) Z Z Z Z Z Wc Z (hK _ _ (QM (kp6 Z Z Z Z Z Z) ?_))))
    first | (refine Lj (NF (l := [4, 5, 6, 7, 8, 9]) (eu := 65) (ec := 62) (eg := 72) (L := ws) (J := J1) (b4 := ⟨[[.fsl []]], 1, 27, true⟩) (fr' := [(4, .ref 4 0 0), (5, .ref 12 0 0), (6, .osl 500000 us.length), (7, .int .i64 i), (8, .int .i64 k), (9, .ref (500001 + i) k 0)]) (row := [.int .i64 v.a, .int .i64 v.b, .int .i64 v.c, .str v.p, .str v.q, .int .i64 sh, .osl 75 (1 + (ns.map (fun r => [Q6 r])).length), .fsl []]) (p := false) 75 (PN (CandT.mk v sh ([(WantT.mk ((i : Int) - 1) (Y2 v.a v.b v.c v.p v.q))] :: ns) [])) (kp6 rfl rfl rfl rfl rfl rfl) rfl hP.keys hi hk Rx (fun h => by cases h) (FR (Qj Wa Qw) Wp) (fun z hz => (hP.pure hi z hz).1) ⟨rfl, rfl, rfl⟩ (fun j hj hne => (Qj Wa (Qj Wa (Qj Wa (Qj Wa (Qj Wa (Qj Wa (Gj hP.keys hj)))))))) Wf Wf Wf rfl Wl (by intro j hj; repeat (first | exact ZZ hP.keys Wa Wa Wa (.inr Wa) | refine Zw Wa ?_)) Wa (by intro p hp j hj; simp only [Qex, Qew, or_false] at hp; rcases hp with rfl | rfl | rfl | rfl | rfl | rfl <;> first | (simp [D.ids, D.sid] at hj; done) | (simp [D.ids, D.sid] at hj; subst hj; first | exact .inl rfl | exact .inr (.inl rfl) | exact .inr (.inr (.inl rfl)) | exact .inr (.inr (.inr ⟨us[i], QeA hi, (hP.keys i hi).symm⟩))))) ?_; have hc2 : Js us0.length (CandT.mk v sh ([(WantT.mk ((i : Int) - 1) (Y2 v.a v.b v.c v.p v.q))] :: ns) []) := (by rw [<- hl]; exact Rb hv hns Wl (hP.feat hi Wd) (by have := hP.exm hi hk; rw [hz] at this; exact this) hi); generalize hns2 : ([(WantT.mk ((i : Int) - 1) (Y2 v.a v.b v.c v.p v.q))] :: ns) = ns2 at hc2 ⊢) | (refine Lj (NF (l := [4, 5, 6, 7, 8, 9]) (eu := 65) (ec := 62) (eg := 72) (L := ws) (J := J1) (b4 := ⟨[[.fsl []]], 1, 27, true⟩) (fr' := [(4, .ref 4 0 0), (5, .ref 12 0 0), (6, .osl 500000 us.length), (7, .int .i64 i), (8, .int .i64 k), (9, .ref (500001 + i) k 0)]) (row := [.int .i64 v.a, .int .i64 v.b, .int .i64 v.c, .str v.p, .str v.q, .int .i64 sh, .osl 75 (0 + (ns.map (fun r => [Q6 r])).length), .fsl []]) (p := false) 75 (PN (CandT.mk v sh ns [])) (kp6 rfl rfl rfl rfl rfl rfl) rfl hP.keys hi hk Qw (fun h => by cases h) (FR (Qj Wa Qw) Wp) (fun z hz => (hP.pure hi z hz).1) ⟨rfl, rfl, rfl⟩ (fun j hj hne => (Qj Wa (Qj Wa (Qj Wa (Gj hP.keys hj))))) Wf Wf Wf rfl Wl (by intro j hj; repeat (first | exact ZZ hP.keys Wa Wa Wa (.inr Wa) | refine Zw Wa ?_)) Wa (by intro p hp j hj; simp only [Qex, Qew, or_false] at hp; rcases hp with rfl | rfl | rfl | rfl | rfl | rfl <;> first | (simp [D.ids, D.sid] at hj; done) | (simp [D.ids, D.sid] at hj; subst hj; first | exact .inl rfl | exact .inr (.inl rfl) | exact .inr (.inr (.inl rfl)) | exact .inr (.inr (.inr ⟨us[i], QeA hi, (hP.keys i hi).symm⟩))))) ?_; have hc2 : Js us0.length (CandT.mk v sh ns []) := (by rw [<- hl]; exact Ff hv hns Wl); generalize hns2 : ns = ns2 at hc2 ⊢)
    generalize hus2 : Hj us i k (PN (CandT.mk v sh ns2 [])) = us2
    have hP2 : Prog us0.length us2 i (k + 1) := hus2 ▸ hP.put hi hk ⟨_, rfl, hc2⟩ (by rw [hz]; rfl)
    have hl2 : us2.length = us.length := by rw [<- hus2, Zt]
    have hi2 : i < us2.length := Wa
    have hk2 : k < us2[i].cs.length := RR hi hk hus2 hi2
    have hz2 : us2[i].cs[k] = PN (CandT.mk v sh ns2 []) := RQ hi hk hus2.symm hi2 hk2
    refine Q5 fun K hK => Qa Z (Z9 (Xo (I := J1) Z FG hL Wa) (Yz Z Z (hK _ _ (QM (kp7 Z Z Z Z Z Z Z) ?_))))
    refine YG Z (fun h4 => ?_) (fun h4 => ?_)
    ·try rw [h4]
     try simp only [qA] at h4
     refine ZI fun K hK => mv2 Z Z (Qa Z ?_)
     obtain ⟨xb, J3, hxb, hcb⟩ := Tv (H := (12, gB ws (nxI J1) 72) :: wA (us2) 65 62 72 ws (J1) ⟨[[.fsl []]], 1, 27, true⟩) Qw (TH hP2.keys hP2.fam hP2.vs).cons ((Jq hP2.keys rfl).pr rfl) hL Wa Wa
     refine Z9 (hcb _ _ (by rw [hl2]; rfl) (fun _ _ h => h)) ?_
     refine QJ Z (by repeat (first | exact ZZ hU.keys Wa Wa Wa (.inl Wa) | exact ZZ hP.keys Wa Wa Wa (.inl Wa) | exact ZZ hP2.keys Wa Wa Wa (.inl Wa) | refine Zw Wa ?_)) ?_
     refine Yb Z Z (Qf Z (Zu (Qj Wa (Qj Wa (Qj Wa (Gj hP2.keys hi2))))) (QT Z (Qj Wa (Qj Wa (Qj Wa (Gj hP2.keys hi2)))) (B3 hk2 hz2) Z Z Z Z Z (hK _ ?_)))
     refine Qd (Q4 (kp5 Z Z Z Z Z) (ZI fun K hK => Qa Z (Q2 Z Z We (Qa Z (hK _ ?_)))))
     refine Qg (Hj us2 i k (PN (CandT.mk v sh ns2 [xb])), J3, k + 1) ?_ ?_ ?_
     ·exact NF (l := [4, 5, 6, 7, 8]) (row := [.int .i64 v.a, .int .i64 v.b, .int .i64 v.c, .str v.p, .str v.q, .int .i64 sh, QS ns2, .osl 85 1]) (p := false) 85 (PN (CandT.mk v sh ns2 [xb])) (kp5 rfl rfl rfl rfl rfl) (by rw [Zt, hl2] <;> rfl) hP2.keys hi2 hk2 Qw (fun h => by cases h) (LK (Qj Wa Qw) rfl) (fun z hz => (hP2.pure hi2 z hz).1) ⟨rfl, rfl, rfl⟩ (fun j hj hne => (Qj Wa (Qj Wa (Qj Wa (Qj Wa (Gj hP2.keys hj)))))) Wf Wf Wf rfl Wl (by intro j hj; repeat (first | exact ZZ hP2.keys Wa Wa Wa (.inr Wa) | refine Zw Wa ?_)) Wa (by intro p hp j hj; simp only [Qex, Qew, or_false] at hp; rcases hp with rfl | rfl | rfl | rfl | rfl <;> first | (simp [D.ids, D.sid] at hj; done) | (simp [D.ids, D.sid] at hj; subst hj; first | exact .inl rfl | exact .inr (.inl rfl) | exact .inr (.inr (.inl rfl)) | exact .inr (.inr (.inr ⟨us2[i], QeA hi2, (hP2.keys i hi2).symm⟩))))
     ·exact hP2.again hi2 hk2 ⟨_, rfl, Ra hc2 (by have := hxb; rwa [hl2, hl] at this)⟩ (by rw [hz2]; rfl)
     ·show Sb (Hj us2 i k _) i - (k + 1) < Sb us i - k; rw [Jy, <- hus2, Jy, JM hi]; omega
    ·try rw [h4]
     try simp only [qA] at h4
     refine YZ (Qd (Q4 (kp5 Z Z Z Z Z) (ZI fun K hK => Qa Z (Q2 Z Z We (Qa Z (hK _ ?_))))))
     refine Qg (us2, nxI J1, k + 1) ?_ ?_ ?_
     ·exact le_trans (QU (l := [4, 5, 6, 7, 8]) (kp5 rfl rfl rfl rfl rfl)) (Km (by rw [hl2] <;> rfl) QbK)
     ·exact hP2
     ·show Sb us2 i - (k + 1) < Sb us i - k; rw [<- hus2, Jy, JM hi]; omega
   ·try rw [h3]
    try simp only [qA] at h3
    refine YZ (Q4 (kp6 Z Z Z Z Z Z) ?_)
    first | (refine Lj (L0 (l := [4, 5, 6, 7, 8, 9]) (fr' := [(4, .ref 4 0 0), (5, .ref 12 0 0), (6, .osl 500000 us.length), (7, .int .i64 i), (8, .int .i64 k), (9, .ref (500001 + i) k 0)]) (x := (WantT.mk ((i : Int) - 1) (Y2 v.a v.b v.c v.p v.q))) (kp6 rfl rfl rfl rfl rfl rfl) rfl hP.keys hi rfl (SB (fun z hz => (hP.pure hi z hz).1) (by intro d hd j hj; simp [dCR, setRow, zr] at hd; rcases hd with rfl | rfl | rfl | rfl | rfl | rfl | rfl | rfl <;> simp [D.sid] at hj <;> exact hj)) (by intro p hp j hj; simp only [Qex, Qew, or_false] at hp; rcases hp with rfl | rfl | rfl | rfl | rfl | rfl <;> first | (simp [D.ids, D.sid] at hj; done) | (simp [D.ids, D.sid] at hj; subst hj; first | exact .inl rfl | exact .inr (.inl rfl) | exact .inr (.inr (.inl rfl)) | exact .inr (.inr (.inr ⟨us[i], QeA hi, (hP.keys i hi).symm⟩))))) ?_) | skip
    refine Q5 fun K hK => mv2 Z Z (Yb Z Z (Qf Z (Zu (Gj hP.keys hi)) (Zc (ds0 := [3, 0]) Z (Yk (Gj hP.keys hi) (B3 hk hz)) Z Wc Z (mv2 Z Z ?_))))
    obtain ⟨ns, J1, hns, hc1⟩ := Sx (H := wA (us) 65 62 72 ws (J) ⟨[[.fsl []]], 1, 27, true⟩) (most := 2) FG (TH hP.keys hP.fam hP.vs) (Jq hP.keys rfl) hL Wu Wu Wl Wl
    refine G6 (ds0 := [3, 0]) (hc1 _ _ Z (fun _ _ h => h)) (fun j hj => GH hj) Wc Z ?_
    refine R0 (ds0 := [0]) Z Z (fun _ h => ⟨Bs, h⟩) (by repeat (first | exact ZZ hU.keys Wa Wa Wa (.inl Wa) | exact ZZ hP.keys Wa Wa Wa (.inl Wa) | exact ZZ hP2.keys Wa Wa Wa (.inl Wa) | refine Zw Wa ?_)) (.inl Z) Wg (by have := hns.1; simp; omega) (by have := hns.1; simp; omega) Wc Z ?_
    refine Yb Z Z (Qf Z (Zu (Qj Wa (Qj Wa (Gj hP.keys hi)))) (Xg (ds0 := []) Z (Qj Wa (Qj Wa (Gj hP.keys hi))) (B3 hk hz) Z Z Z Z Z Wc Z (hK _ _ (QM (kp6 Z Z Z Z Z Z) ?_))))
    first | (refine Lj (NF (l := [4, 5, 6, 7, 8, 9]) (eu := 65) (ec := 62) (eg := 72) (L := ws) (J := J1) (b4 := ⟨[[.fsl []]], 1, 27, true⟩) (fr' := [(4, .ref 4 0 0), (5, .ref 12 0 0), (6, .osl 500000 us.length), (7, .int .i64 i), (8, .int .i64 k), (9, .ref (500001 + i) k 0)]) (row := [.int .i64 v.a, .int .i64 v.b, .int .i64 v.c, .str v.p, .str v.q, .int .i64 sh, .osl 75 (1 + (ns.map (fun r => [Q6 r])).length), .fsl []]) (p := false) 75 (PN (CandT.mk v sh ([(WantT.mk ((i : Int) - 1) (Y2 v.a v.b v.c v.p v.q))] :: ns) [])) (kp6 rfl rfl rfl rfl rfl rfl) rfl hP.keys hi hk Rx (fun h => by cases h) (FR (Qj Wa Qw) Wp) (fun z hz => (hP.pure hi z hz).1) ⟨rfl, rfl, rfl⟩ (fun j hj hne => (Qj Wa (Qj Wa (Qj Wa (Qj Wa (Qj Wa (Qj Wa (Gj hP.keys hj)))))))) Wf Wf Wf rfl Wl (by intro j hj; repeat (first | exact ZZ hP.keys Wa Wa Wa (.inr Wa) | refine Zw Wa ?_)) Wa (by intro p hp j hj; simp only [Qex, Qew, or_false] at hp; rcases hp with rfl | rfl | rfl | rfl | rfl | rfl <;> first | (simp [D.ids, D.sid] at hj; done) | (simp [D.ids, D.sid] at hj; subst hj; first | exact .inl rfl | exact .inr (.inl rfl) | exact .inr (.inr (.inl rfl)) | exact .inr (.inr (.inr ⟨us[i], QeA hi, (hP.keys i hi).symm⟩))))) ?_; have hc2 : Js us0.length (CandT.mk v sh ([(WantT.mk ((i : Int) - 1) (Y2 v.a v.b v.c v.p v.q))] :: ns) []) := (by rw [<- hl]; exact Rb hv hns Wl (hP.feat hi Wd) (by have := hP.exm hi hk; rw [hz] at this; exact this) hi); generalize hns2 : ([(WantT.mk ((i : Int) - 1) (Y2 v.a v.b v.c v.p v.q))] :: ns) = ns2 at hc2 ⊢) | (refine Lj (NF (l := [4, 5, 6, 7, 8, 9]) (eu := 65) (ec := 62) (eg := 72) (L := ws) (J := J1) (b4 := ⟨[[.fsl []]], 1, 27, true⟩) (fr' := [(4, .ref 4 0 0), (5, .ref 12 0 0), (6, .osl 500000 us.length), (7, .int .i64 i), (8, .int .i64 k), (9, .ref (500001 + i) k 0)]) (row := [.int .i64 v.a, .int .i64 v.b, .int .i64 v.c, .str v.p, .str v.q, .int .i64 sh, .osl 75 (0 + (ns.map (fun r => [Q6 r])).length), .fsl []]) (p := false) 75 (PN (CandT.mk v sh ns [])) (kp6 rfl rfl rfl rfl rfl rfl) rfl hP.keys hi hk Qw (fun h => by cases h) (FR (Qj Wa Qw) Wp) (fun z hz => (hP.pure hi z hz).1) ⟨rfl, rfl, rfl⟩ (fun j hj hne => (Qj Wa (Qj Wa (Qj Wa (Gj hP.keys hj))))) Wf Wf Wf rfl Wl (by intro j hj; repeat (first | exact ZZ hP.keys Wa Wa Wa (.inr Wa) | refine Zw Wa ?_)) Wa (by intro p hp j hj; simp only [Qex, Qew, or_false] at hp; rcases hp with rfl | rfl | rfl | rfl | rfl | rfl <;> first | (simp [D.ids, D.sid] at hj; done) | (simp [D.ids, D.sid] at hj; subst hj; first | exact .inl rfl | exact .inr (.inl rfl) | exact .inr (.inr (.inl rfl)) | exact .inr (.inr (.inr ⟨us[i], QeA hi, (hP.keys i hi).symm⟩))))) ?_; have hc2 : Js us0.length (CandT.mk v sh ns []) := (by rw [<- hl]; exact Ff hv hns Wl); generalize hns2 : ns = ns2 at hc2 ⊢)
    generalize hus2 : Hj us i k (PN (CandT.mk v sh ns2 [])) = us2
    have hP2 : Prog us0.length us2 i (k + 1) := hus2 ▸ hP.put hi hk ⟨_, rfl, hc2⟩ (by rw [hz]; rfl)
    have hl2 : us2.length = us.length := by rw [<- hus2, Zt]
    have hi2 : i < us2.length := Wa
    have hk2 : k < us2[i].cs.length := RR hi hk hus2 hi2
    have hz2 : us2[i].cs[k] = PN (CandT.mk v sh ns2 []) := RQ hi hk hus2.symm hi2 hk2
    refine Q5 fun K hK => Qa Z (Z9 (Xo (I := J1) Z FG hL Wa) (Yz Z Z (hK _ _ (QM (kp7 Z Z Z Z Z Z Z) ?_))))
    refine YG Z (fun h5 => ?_) (fun h5 => ?_)
    ·try rw [h5]
     try simp only [qA] at h5
     refine ZI fun K hK => mv2 Z Z (Qa Z ?_)
     obtain ⟨xb, J3, hxb, hcb⟩ := Tv (H := (12, gB ws (nxI J1) 72) :: wA (us2) 65 62 72 ws (J1) ⟨[[.fsl []]], 1, 27, true⟩) Qw (TH hP2.keys hP2.fam hP2.vs).cons ((Jq hP2.keys rfl).pr rfl) hL Wa Wa
     refine Z9 (hcb _ _ (by rw [hl2]; rfl) (fun _ _ h => h)) ?_
     refine QJ Z (by repeat (first | exact ZZ hU.keys Wa Wa Wa (.inl Wa) | exact ZZ hP.keys Wa Wa Wa (.inl Wa) | exact ZZ hP2.keys Wa Wa Wa (.inl Wa) | refine Zw Wa ?_)) ?_
     refine Yb Z Z (Qf Z (Zu (Qj Wa (Qj Wa (Qj Wa (Gj hP2.keys hi2))))) (QT Z (Qj Wa (Qj Wa (Qj Wa (Gj hP2.keys hi2)))) (B3 hk2 hz2) Z Z Z Z Z (hK _ ?_)))
     refine Qd (Q4 (kp5 Z Z Z Z Z) (ZI fun K hK => Qa Z (Q2 Z Z We (Qa Z (hK _ ?_)))))
     refine Qg (Hj us2 i k (PN (CandT.mk v sh ns2 [xb])), J3, k + 1) ?_ ?_ ?_
     ·exact NF (l := [4, 5, 6, 7, 8]) (row := [.int .i64 v.a, .int .i64 v.b, .int .i64 v.c, .str v.p, .str v.q, .int .i64 sh, QS ns2, .osl 85 1]) (p := false) 85 (PN (CandT.mk v sh ns2 [xb])) (kp5 rfl rfl rfl rfl rfl) (by rw [Zt, hl2] <;> rfl) hP2.keys hi2 hk2 Qw (fun h => by cases h) (LK (Qj Wa Qw) rfl) (fun z hz => (hP2.pure hi2 z hz).1) ⟨rfl, rfl, rfl⟩ (fun j hj hne => (Qj Wa (Qj Wa (Qj Wa (Qj Wa (Gj hP2.keys hj)))))) Wf Wf Wf rfl Wl (by intro j hj; repeat (first | exact ZZ hP2.keys Wa Wa Wa (.inr Wa) | refine Zw Wa ?_)) Wa (by intro p hp j hj; simp only [Qex, Qew, or_false] at hp; rcases hp with rfl | rfl | rfl | rfl | rfl <;> first | (simp [D.ids, D.sid] at hj; done) | (simp [D.ids, D.sid] at hj; subst hj; first | exact .inl rfl | exact .inr (.inl rfl) | exact .inr (.inr (.inl rfl)) | exact .inr (.inr (.inr ⟨us2[i], QeA hi2, (hP2.keys i hi2).symm⟩))))
     ·exact hP2.again hi2 hk2 ⟨_, rfl, Ra hc2 (by have := hxb; rwa [hl2, hl] at this)⟩ (by rw [hz2]; rfl)
     ·show Sb (Hj us2 i k _) i - (k + 1) < Sb us i - k; rw [Jy, <- hus2, Jy, JM hi]; omega
    ·try rw [h5]
     try simp only [qA] at h5
     refine YZ (Qd (Q4 (kp5 Z Z Z Z Z) (ZI fun K hK => Qa Z (Q2 Z Z We (Qa Z (hK _ ?_))))))
     refine Qg (us2, nxI J1, k + 1) ?_ ?_ ?_
     ·exact le_trans (QU (l := [4, 5, 6, 7, 8]) (kp5 rfl rfl rfl rfl rfl)) (Km (by rw [hl2] <;> rfl) QbK)
     ·exact hP2
     ·show Sb us2 i - (k + 1) < Sb us i - k; rw [<- hus2, Jy, JM hi]; omega
  ·try rw [h2]
   try simp only [qA] at h2
   try (have hk : k < us[i].cs.length := Wa; obtain ⟨v, sh, hz, hv⟩ := hP.fresh i hi k hk Wa)
   refine HN (Y6 (Qq (Qz (Qd (Q4 (kp4 Z Z Z Z) (ZI fun K hK => Qa Z (Q2 Z Z We (Qa Z (hK _ ?_)))))))))
   refine Qg (us, J, i + 1) ?_ ?_ ?_
   ·exact QU (l := [4, 5, 6, 7]) (kp4 rfl rfl rfl rfl)
   ·try dsimp only
    exact ⟨hP.next hi Wa, Wa, Wa⟩
   ·show us0.length - (i + 1) < us0.length - i; omega
 ·try rw [h1]
  try simp only [qA] at h1
  refine HN (Y6 (Qq (Qz (Q4 (kp2 Z Z) ?_))))
  have hend : i = usA.length := by have := hPA.1.len.1; omega
  obtain ⟨w, hwl, hwm, hle⟩ := CA (eu := 65) (ec := 62) (eg := 72) (L := ws) (J := JA) (b4 := ⟨[[.fsl []]], 1, 27, true⟩) (hend ▸ hPA.1) rfl
  refine Lj (hle (fr' := [(4, .ref 4 0 0), (6, .osl 500000 usA.length)]) (l := [4, 6]) (kp2 rfl rfl) rfl (by intro p hp j hj; simp only [Qex, Qew, or_false] at hp; rcases hp with rfl | rfl <;> (simp [D.ids, D.sid] at hj; subst hj; first | exact .inl rfl | exact .inr rfl))) (Q5 fun K hK => Qa rfl (Q0 rfl rfl (QT rfl rfl rfl rfl rfl rfl rfl rfl (hK _ _ (QM (kp1 rfl) ?_)))))
  refine Mc ?_
  refine ⟨_, ⟨w, hwm, rfl⟩, ?_⟩
  exact ZB (cs := [.osl 500000 usA.length]) (ds := [.sl (w.map Z6)]) rfl rfl rfl rfl (by simp [XP, D.fz, D.fzS, G4, lk, D.can, D.canS, hwl])
end Go.Proofs
namespace M25
open Go Go.Abs M3
/-! ### What a trail has decided -/
structure PathOk (w : QK) (l : List KA) (i : Nat) (x : Int) : Prop where
 dec : 0 <= x ↔ CE l i = true
 lo : -1 <= x
 left : 0 <= x -> x < 16 /\ Ml w l i = 2 ^ (x + 1).toNat
end M25
namespace M25
open Go Go.Abs M3
def M6 (t : List (List Int)) : D := .sl (t.map fun r => [Zg r])
structure LineT where
 n : List UInt8
 v : Vr
 s : List UInt8
 k : Int
def KE (x : LineT) : List D := [.str x.n, .int .i64 x.v.a, .int .i64 x.v.b, .int .i64 x.v.c, .str x.v.p, .str x.v.q, .str x.s, .int .u64 x.k, .junk]
structure Xa where
 e0 : List UInt8
 e1 : List UInt8
 e2 : List UInt8
 ls : List LineT
def TQ (l : Xa) : D := .agg [.str l.e0, .str l.e1, .str l.e2, .sl (l.ls.map KE)]
structure LSm (l : Xa) : Prop where
 len : l.ls.length <= 1000
 vs : ∀ x ∈ l.ls, Gi x.v
def L6 (n : List UInt8) (x : LineT) : Bool := decide (x.n = n)
def XI (l : Xa) (n : List UInt8) : Int := Tq (L6 n) l.ls
theorem Qad {α : Type} (p : α -> Bool) (l : List α) : Tq p l < l.length \/ Tq p l = -1 := by
 unfold Tq
 split
 ·rename_i i h
  have := (List.findIdx?_eq_some_iff_findIdx_eq.1 h).1
  exact .inl Wa
 ·exact .inr rfl
theorem K7 (l : Xa) (n : List UInt8) : XI l n < l.ls.length := by
 rcases Qad (L6 n) l.ls with h | h
 ·exact h
 ·unfold XI; omega
def K9 (x w : Vr) : Int := if Ht x.a x.b x.c x.p x.q w.a w.b w.c w.p w.q = 0 then 0 else if Ht x.a x.b x.c x.p x.q w.a w.b w.c w.p w.q = 1 then 2 else 4
def Du (u : Yp) (i : Nat) (b : Bool) (n0 : Int) (g : Nat -> Int) : List Int :=
 if i = 0 \/ u.f ≠ [] \/ b = false then List.replicate (u.cs.length + 1) 0 else n0 :: (List.range u.cs.length).map g
theorem Tz (u : Yp) (i : Nat) (b : Bool) (n0 : Int) (g : Nat -> Int) : (Du u i b n0 g).length = u.cs.length + 1 := by unfold Du; split <;> simp
theorem N3 {u : Yp} {i : Nat} {b : Bool} {n0 : Int} {g : Nat -> Int} (h : i = 0 \/ u.f ≠ [] \/ b = false) : Du u i b n0 g = List.replicate (u.cs.length + 1) 0 := if_pos h
theorem PC {u : Yp} {i : Nat} {b : Bool} {n0 : Int} {g : Nat -> Int} (h1 : i ≠ 0) (h2 : u.f = []) (h3 : b = true) : Du u i b n0 g = n0 :: (List.range u.cs.length).map g := if_neg (by simp [h1, h2, h3])
def Hc (full : List Int) (v : Nat) : List Int := full.take v ++ List.replicate (full.length - v) 0
theorem Pr (full : List Int) {v : Nat} (h : v <= full.length) : (Hc full v).length = full.length := by simp [Hc]; omega
theorem NS (full : List Int) : Hc full 0 = List.replicate full.length 0 := by simp [Hc]
theorem Tu (full : List Int) {v : Nat} (h : full.length <= v) : Hc full v = full := by
 rw [Hc, QeL h, show full.length - v = 0 by omega]; simp
theorem Ps {full : List Int} {v : Nat} (h : v < full.length) : (Hc full v).set v full[v] = Hc full (v + 1) := by
 have hl : (full.take v).length = v := by simp; omega
 rw [Hc, Hc, show full.length - v = (full.length - (v + 1)) + 1 by omega, List.replicate_succ, List.set_append_right _ _ Wa, hl, Nat.sub_self, List.set_cons_zero, List.take_succ_eq_append_getElem h, List.append_assoc]
 rfl
theorem Qaj {full : List Int} {v : Nat} (h : v < full.length) : (Hc full v)[v]? = some 0 := by
 have hl : (full.take v).length = v := by simp; omega
 rw [Hc, List.getElem?_append_right Wa, hl, Nat.sub_self, List.getElem?_replicate, if_pos Wa]
theorem Dc {full : List Int} {v : Nat} (h : v < full.length) (h0 : full[v] = 0) : Hc full (v + 1) = Hc full v := by
 rw [<- Ps h, h0]
 have h1 := Qaj h
 have hv := Pr full (v := v) Wa
 rw [List.getElem?_eq_getElem Wa] at h1
 have h2 : (Hc full v)[v]'Wa = 0 := Option.some.inj h1
 have : (Hc full v).set v ((Hc full v)[v]'Wa) = Hc full v := List.set_getElem_self Wa
 rw [h2] at this; exact this
def MP (w : QK) (g : Nat -> Yp -> List Int) (n : Nat) : List (List Int) := (List.range n).map fun i => match w[i]? with
 | some u => g i u
 | none => []
theorem JG (w : QK) (g : Nat -> Yp -> List Int) (n : Nat) : (MP w g n).length = n := by simp [MP]
theorem PH {w : QK} {g : Nat -> Yp -> List Int} {i : Nat} (h : i < w.length) : MP w g (i + 1) = MP w g i ++ [g i w[i]] := by
 simp [MP, List.range_succ, List.getElem?_eq_getElem h]
theorem DJ {w : QK} {g : Nat -> Yp -> List Int} {n i : Nat} (h : i < n) (hw : i < w.length) : (MP w g n)[i]? = some (g i w[i]) := by
 simp [MP, h, List.getElem?_eq_getElem hw]
def Fe (l : Xa) (u : Yp) (p : Nat) : Int := if XI l u.n < 0 then 1 else match u.cs[p]?, l.ls[(XI l u.n).toNat]? with
 | some c, some x => K9 c.v x.v
 | _, _ => 0
theorem S0 {l : Xa} {u : Yp} {p : Nat} (h : XI l u.n < 0) : Fe l u p = 1 := if_pos h
theorem FP {l : Xa} {u : Yp} {p : Nat} (h : ¬ XI l u.n < 0) (hp : p < u.cs.length) : Fe l u p = K9 u.cs[p].v (l.ls[(XI l u.n).toNat]'(by have := K7 l u.n; omega)).v := by
 have := K7 l u.n
 rw [Fe, if_neg h, List.getElem?_eq_getElem hp, List.getElem?_eq_getElem Wa]
def Z0 (l : Xa) (i : Nat) (u : Yp) : List Int := Du u i true 0 (Fe l u)
def Za (w : QK) (l : Xa) : List (List Int) := MP w (Z0 l) w.length
def QbE (names : List (List UInt8)) (low : Bool) (i : Nat) (u : Yp) : List Int := Du u i (decide (u.n ∈ names)) u.cs.length fun p => if low = true then p else (u.cs.length : Int) - 1 - p
def Bl (w : QK) (names : List (List UInt8)) (low : Bool) : List (List Int) := MP w (QbE names low) w.length
theorem Ga (w : QK) (l : Xa) : (Za w l).length = w.length := JG _ _ _
def ofN (t : List (List Int)) (c : List Int) : Nat -> Int
 | 0 => 0
 | n + 1 => match c[n]?, t[n]? with
  | some x, some r => if -1 <= x /\ x < (r.length : Int) - 1 then IntKind.i64.wrap (ofN t c n + (r[(x + 1).toNat]?).getD 0) else ofN t c n
  | _, _ => ofN t c n
def mOf (t : List (List Int)) (c : List Int) : Int := ofN t c c.length
theorem Sv {t : List (List Int)} {c : List Int} {n : Nat} (hc : n < c.length) (ht : n < t.length) (h0 : -1 <= c[n]) (h1 : c[n] < (t[n].length : Int) - 1) : ofN t c (n + 1) = IntKind.i64.wrap (ofN t c n + t[n][(c[n] + 1).toNat]'Wa) := by
 rw [ofN, List.getElem?_eq_getElem hc, List.getElem?_eq_getElem ht]
 simp only
 rw [if_pos ⟨h0, h1⟩, List.getElem?_eq_getElem Wa]; rfl
theorem Bn {t : List (List Int)} {c : List Int} {n : Nat} (hc : n < c.length) (ht : n < t.length) (h : ¬ (-1 <= c[n] /\ c[n] < (t[n].length : Int) - 1)) : ofN t c (n + 1) = ofN t c n := by
 rw [ofN, List.getElem?_eq_getElem hc, List.getElem?_eq_getElem ht]
 simp only
 rw [if_neg h]
theorem Dh {t : List (List Int)} {c : List Int} {n : Nat} (h : t.length <= n \/ c.length <= n) : ofN t c (n + 1) = ofN t c n := by
 rw [ofN]
 rcases h with h | h
 ·rw [List.getElem?_eq_none h]; split
  ·rename_i e; cases e
  ·rfl
 ·rw [List.getElem?_eq_none h]
theorem Dg {t : List (List Int)} {c : List Int} {n : Nat} (h : t.length <= n \/ c.length <= n) : ∀ {k : Nat}, n <= k -> ofN t c k = ofN t c n
 | 0, hk => by rw [show n = 0 by omega]
 | k + 1, hk => by
  by_cases e : n = k + 1
  ·rw [e]
  ·rw [Dh Wa, Dg h Wa]
theorem Qae {t : List (List Int)} {c : List Int} {n : Nat} (hn : n <= c.length) (h : t.length <= n \/ c.length <= n) : mOf t c = ofN t c n := Dg h hn
def Mj (l : List Int) (i : Nat) : Int := (l[i]?).getD 0
theorem Tk {l : List Int} {i : Nat} (h : i < l.length) : Mj l i = l[i] := by rw [Mj, List.getElem?_eq_getElem h]; rfl
theorem L3 {l : List Int} {i : Nat} (h : l.length <= i) : Mj l i = 0 := by rw [Mj, List.getElem?_eq_none h]; rfl
def GO (r : List Int) (m : Int) : Nat -> Int
 | 0 => 0
 | k + 1 => match r[k]? with
  | some x => if x <= m then bor (GO r m k) (2 ^ k) else GO r m k
  | none => GO r m k
theorem NR {r : List Int} {m : Int} {k : Nat} (h : k < r.length) (h1 : r[k] <= m) : GO r m (k + 1) = bor (GO r m k) (2 ^ k) := by
 rw [GO, List.getElem?_eq_getElem h]; exact if_pos h1
theorem Tt {r : List Int} {m : Int} {k : Nat} (h : k < r.length) (h1 : ¬ r[k] <= m) : GO r m (k + 1) = GO r m k := by
 rw [GO, List.getElem?_eq_getElem h]; exact if_neg h1
def Fw (t : List (List Int)) (l : List Int) (n : Nat) : List Int := (List.range n).map fun i => match t[i]? with
 | some r => GO r (Mj l i) (min r.length 17)
 | none => 0
def Xm (t : List (List Int)) (l : List Int) : List Int := Fw t l t.length
theorem G3 (t : List (List Int)) (l : List Int) (n : Nat) : (Fw t l n).length = n := by simp [Fw]
theorem TI {t : List (List Int)} {l : List Int} {i : Nat} (h : i < t.length) : Fw t l (i + 1) = Fw t l i ++ [GO t[i] (Mj l i) (min t[i].length 17)] := by
 simp [Fw, List.range_succ, List.getElem?_eq_getElem h]
def QcZ (t : List (List Int)) : Bool := (t.take 60).all (fun r => decide (r.length <= 40)) && decide (t.length < 60)
end M25
namespace M25
open Go Go.Abs M3
structure F6 (c : List D) : Prop where
 cap : c.all D.capOk = true
 arg : ∀ s : St, c.map (XP s) = c
 fz : ∀ H, c.map (D.fzS H G4) = c
 own : (c.all fun d => !d.own) = true
 pure : c.all D.pure = true
theorem BM {n : List UInt8} {l : List (List UInt8)} : (l.any fun x => decide (n = x)) = decide (n ∈ l) := by
 induction l with
 | nil => simp
 | cons x l ih => rw [List.any_cons, ih]; simp
theorem B8 {n0 : Int} {g : Nat -> Int} {n j : Nat} (h : j < n) : (n0 :: (List.range n).map g)[j + 1]'Wi = g j := by simp
theorem CJ {n0 : Int} {g : Nat -> Int} {n : Nat} : Hc (n0 :: (List.range n).map g) 1 = (List.replicate (n + 1) 0).set 0 n0 := by
 have h := Ps (full := n0 :: (List.range n).map g) (v := 0) Wg
 rw [NS] at h
 rw [<- h]; simp
theorem Qai {n0 : Int} {g : Nat -> Int} {n j : Nat} (h : j < n) : Hc (n0 :: (List.range n).map g) (j + 1 + 1) = (Hc (n0 :: (List.range n).map g) (j + 1)).set (j + 1) (g j) := by
 have h2 := Ps (full := n0 :: (List.range n).map g) (v := j + 1) Wi
 rw [B8 h] at h2; exact h2.symm
end M25
namespace M25
open Go Go.Abs M3
theorem Bq {full : List Int} {v : Nat} {x : Int} (hx : full[v]? = some x) : Hc full (v + 1) = (Hc full v).set v x := by
 obtain ⟨h, rfl⟩ := List.getElem?_eq_some_iff.1 hx
 exact (Ps h).symm
theorem Tx {u : Yp} {i : Nat} {b : Bool} {n0 : Int} {g : Nat -> Int} (h1 : i ≠ 0) (h2 : u.f = []) (h3 : b = true) : (Du u i b n0 g)[0]? = some n0 := by rw [PC h1 h2 h3]; rfl
theorem PB {u : Yp} {i : Nat} {b : Bool} {n0 : Int} {g : Nat -> Int} (h1 : i ≠ 0) (h2 : u.f = []) (h3 : b = true) {p : Nat} (hp : p < u.cs.length) : (Du u i b n0 g)[p + 1]? = some (g p) := by rw [PC h1 h2 h3]; simp [hp]
section
variable {l : Xa} {u : Yp} {i v : Nat} {names : List (List UInt8)}
theorem KU : (Z0 l i u).length = u.cs.length + 1 := Tz ..
theorem BW (h1 : i ≠ 0) (h2 : u.f = []) (hv : v = 0) : Hc (Z0 l i u) (v + 1) = Hc (Z0 l i u) v := by
 subst hv
 have h := Tx (u := u) (b := true) (n0 := 0) (g := Fe l u) h1 h2 rfl
 obtain ⟨h3, h4⟩ := List.getElem?_eq_some_iff.1 h
 exact Dc h3 h4
theorem BX (h1 : i ≠ 0) (h2 : u.f = []) (hv : v ≠ 0) (hl : v < u.cs.length + 1) (h : XI l u.n < 0) : Hc (Z0 l i u) (v + 1) = (Hc (Z0 l i u) v).set v 1 := by
 obtain ⟨p, rfl⟩ : ∃ p, v = p + 1 := ⟨v - 1, Wa⟩
 exact Bq (by rw [Z0, PB h1 h2 rfl Wa, S0 h])
theorem BY (h1 : i ≠ 0) (h2 : u.f = []) (hv : v ≠ 0) (hl : v < u.cs.length + 1) (h : ¬ XI l u.n < 0) : Hc (Z0 l i u) (v + 1) = (Hc (Z0 l i u) v).set v (K9 (u.cs[((v : Int) - 1).toNat]'Wa).v (l.ls[(XI l u.n).toNat]'(by have := K7 l u.n; omega)).v) := by
 obtain ⟨p, rfl⟩ : ∃ p, v = p + 1 := ⟨v - 1, Wa⟩
 refine Bq ?_
 have e : (((p + 1 : Nat) : Int) - 1).toNat = p := Wa
 simp only [e]
 rw [Z0, PB h1 h2 rfl Wa, FP h Wa]
theorem S2 (h : i = 0 \/ u.f ≠ []) : Hc (Z0 l i u) 0 = Z0 l i u := by
 rw [NS, KU, Z0, N3 (by rcases h with h | h; exact .inl h; exact .inr (.inl h))]
end
end M25
namespace M25
open Go Go.Abs M3
theorem D0 {k : Nat} (h : k <= 61) : IntKind.i64.wrap ((1 : Int) * 2 ^ min ((k : Nat) : Int).toNat IntKind.i64.bits) = 2 ^ k := by
 have := DZ (v := (k : Int) - 1) Wa
 rw [show ((k : Int) - 1 + 1) = k by omega] at this
 rw [this]; simp
theorem Qau {r : List Int} : ((r.map fun x => [D.int .i64 x]).take (min (r.length : Int) 17).toNat).drop ((0 : Nat) : Int).toNat = (r.take (min r.length 17)).map fun x => [D.int .i64 x] := by
 rw [show (min (r.length : Int) 17).toNat = min r.length 17 by omega]
 simp [List.map_take]
theorem Qci {r : List Int} : ∀ x ∈ r.map (fun x => [D.int .i64 x]), x.length = 1 := fun x hx => by obtain ⟨y, _, rfl⟩ := QeJ.1 hx; rfl
structure FewT (t : List (List Int)) : Prop where
 len : t.length <= 60
 rows : ∀ r ∈ t, r.length <= 1000
theorem Bd {t : List (List Int)} (h : QcZ t = true) : FewT t := by
 simp only [QcZ, Qez, decide_eq_true_eq] at h
 refine ⟨Wa, fun r hr => ?_⟩
 have h1 := h.1
 rw [QeL Wa] at h1
 have := of_decide_eq_true (QeF.1 h1 r hr)
 omega
theorem DK {w : QK} (hw : WSm w) {g : Nat -> Yp -> List Int} (hg : ∀ i u, (g i u).length = u.cs.length + 1) : FewT (MP w g w.length) := by
 refine ⟨by rw [JG]; have := hw.len; omega, fun r hr => ?_⟩
 obtain ⟨i, hi, rfl⟩ := QeJ.1 hr
 rw [QeS] at hi
 rw [List.getElem?_eq_getElem hi]
 simp only [hg]
 have := hw.cs _ (QeA hi)
 omega
theorem Kq {w : QK} (hw : WSm w) (l : Xa) : FewT (Za w l) := DK hw fun _ _ => KU
theorem FewT.at {t : List (List Int)} (h : FewT t) {i : Nat} (hi : i < t.length) : t[i].length <= 1000 := h.rows _ (QeA hi)
end M25
namespace M25
open Go Go.Abs M3
def names4 : List (List UInt8) := [[97, 110, 116], [98, 101, 101], [99, 111, 119], [100, 111, 103]]
def envs3 : List (List UInt8) := [[], [108, 105, 110, 117, 120], [112, 108, 97, 110, 57]]
def shelves3 : List (List UInt8) := [[109, 97, 105, 110], [115, 105, 100, 101], []]
theorem Th {l : List (List UInt8)} {k : Int} (h0 : 0 <= k) (h : k < l.length) : (Yg l)[k.toNat]? = some [.str (l[k.toNat]'Wa)] := by
 have := Y7 (l := l) (i := k.toNat) Wa
 rwa [Int.toNat_natCast] at this
theorem LC : envs3.length = 3 := rfl
theorem JZ : names4.length = 4 := rfl
theorem XJ : shelves3.length = 3 := rfl
structure LMade (l : Xa) : Prop where
 len : l.ls.length <= 4
 vs : ∀ x ∈ l.ls, Gi x.v
theorem LMade.sm {l : Xa} (h : LMade l) : LSm l := ⟨by have := h.len; omega, h.vs⟩
theorem ME {ls : List LineT} {i : Nat} (h : ls.length <= i /\ ∀ x ∈ ls, Gi x.v) {x : LineT} (hx : Gi x.v) : (ls ++ [x]).length <= i + 1 /\ ∀ y ∈ ls ++ [x], Gi y.v := by
 refine ⟨by simp; omega, fun y hy => ?_⟩
 rcases QeG.1 hy with hy | hy
 ·exact h.2 y hy
 ·simp only [QeE] at hy; subst hy; exact hx
end M25
namespace M25
open Go Go.Abs M3
theorem CT {rows : List (List D)} (h : (rows.all fun r => r.all fun d => d.sid.isEmpty) = true) : ∀ r ∈ rows, ∀ d ∈ r, d.sid = [] := fun r hr d hd => by
 have := QeF.1 (QeF.1 h r hr) d hd
 simpa using this
theorem GR {L : List Int} {I n : Int} : 0 <= nx L I n := FC
theorem GQ {L : List Int} {I n : Int} (h : 0 < n) : nx L I n < n := NP h
end M25
namespace Go.Proofs
open Go Go.Abs M3 M25
theorem M1 {x : LineT} {n : List UInt8} : Ok Tryz.prog 70 [.agg (KE x), .ptr [.str n]] (.bool (L6 n x)) := by
 refine Ok.ofT ZR Tryz.func70 QdY (Qev Z) ?_
 show TW _ _ tf70.body _ _
 refine Qb fun K hK => ZC Z Z Z (Qa Z (kc2 hK Z Z ?_))
 refine Qb fun K hK => Qf Z Z (Qx Z Z Z (Qx Z Z Z (JU Z Z (Qa Z (kc1 hK Z ?_)))))
 refine Qr (Qo Z ?_)
 rfl
theorem ZS {l : List LineT} {f : Nat} {caps : List D} {p : LineT -> Bool} (hl : l.length <= 10000000) (kc : F6 caps) (hf : ∀ x ∈ l, Ok Tryz.prog f (.agg (KE x) :: caps) (.bool (p x))) : Ok Tryz.prog 69 [.sl (l.map KE), .clo f caps] (.int .i64 (Tq p l)) := by
 refine Ok.ofT ZR Tryz.func69 QdX (Qev Z) ?_
 show TW _ _ tf69.body _ _
 refine Qb fun K hK => Qa Z (kc2 hK Z Z ?_)
 refine QA ?_ -- 0
 refine Qb fun K hK => Qa Z ?_
 first | refine QI rfl QH ?_ | refine QI rfl rfl ?_
 refine Qa Z (kc4 hK Z Z Z Z ?_)
 refine Qy ?_
 refine Zy (ι := Nat) (fun i => ⟨[(0, .sl (l.map KE)), (1, .clo f caps), (7, .int .i64 l.length), (8, .int .i64 i)], []⟩) (fun i => i <= l.length /\ (l.take i).any p = false) (fun i => l.length - i) 0 ?_ ?_ ?_
 ·exact QU (kp4 rfl rfl rfl rfl)
 ·exact ⟨QeH _, by simp⟩
 intro i hI
 try dsimp only
 refine Qb fun K hK => Ya Z Z (kc5 hK Z Z Z Z Z ?_)
 refine QA ?_ -- 1
 refine Qt Z (fun h1 => ?_) (fun h1 => ?_)
 ·try rw [h1]
  try simp only [qA] at h1
  refine Qp (ks4 Z Z Z Z ?_)
  refine QA ?_ -- 2
  refine Qy (Qb fun K hK => mv2 Z Z (kc5 hK Z Z Z Z Z ?_))
  refine Qb fun K hK => mv2 Z Z (Qa Z (QG Z Z Z Wa (Q7 Wa) Z (QL (cs := [_, _, _, _, _, _, _, _, _]) Z Z Z Z (HU Z kc.cap Z (hf _ (QeA (Wa : i < l.length))) (by rw [List.map_append, kc.arg]; rfl) (.inr Z) (kc6 hK Z Z Z Z Z Z ?_)))))
  refine Qt Z (fun h2 => ?_) (fun h2 => ?_)
  ·try rw [h2]
   try simp only [qA] at h2
   refine Qb fun K hK => mv2 Z Z (kc1 hK Z ?_)
   refine Qr (Qu (Qi (Zb (Qu (Qi (Qs Z ?_))))))
   rw [XX (i := i) Wa hI.2 h2]
  ·try rw [h2]
   try simp only [qA] at h2
   refine Qp (Qd (ks4 Z Z Z Z (QQ fun K hK => Q2 Z Z Wb (Qa Z (hK _ ?_)))))
   refine Qg (i + 1) ?_ ?_ ?_
   ·exact QU (kp4 rfl rfl rfl rfl)
   ·exact ⟨Wa, Mu Wa hI.2 h2⟩
   ·first | omega | (simp only; omega) | (dsimp only; omega)
 ·try rw [h1]
  try simp only [qA] at h1
  refine Zd (QD (Qq (Qz (QY (Zj) (Qb fun K hK => Qa Z (kc1 hK Z ?_))))))
  refine Qr (Qs Z ?_)
  rw [Tg (i := i) Wa hI.2]
theorem R7 {l : Xa} (hl : LSm l) {n : List UInt8} : Ok Tryz.prog 41 [TQ l, .str n] (.int .i64 (XI l n)) := by
 refine Ok.ofT ZR Tryz.func41 QdA (Qev Z) ?_
 show TW _ _ tf41.body _ _
 refine Qb fun K hK => ZC Z Z Z (ZC Z Z Z (Qa Z (kc2 hK Z Z ?_)))
 refine Qb fun K hK => Qf Z Z (Qx Z Z Z (SU Z Z (QC (ZS (l := l.ls) (p := L6 n) (by have := hl.len; omega) ⟨rfl, fun _ => rfl, fun _ => rfl, rfl, rfl⟩ (fun x _ => M1)) Z Z (.inr Z) (Qa Z (kc1 hK Z ?_)))))
 refine Qr (Qs Z ?_)
 rfl
theorem HJ {l : Xa} (hl : LSm l) {n : List UInt8} : Ok Tryz.prog 43 [TQ l, .str n] (.int .i64 (XI l n)) := by
 refine Ok.ofT ZR Tryz.func43 QdC (Qev Z) ?_
 show TW _ _ tf43.body _ _
 have hll := hl.len
 refine Qb fun K hK => ZC Z Z Z (Qa Z (kc2 hK Z Z ?_))
 refine QA ?_ -- 0
 refine Qb fun K hK => Qa Z (kc3 hK Z Z Z ?_)
 refine Qy ?_
 refine Zy (ι := Nat) (fun i => ⟨[(1, .str n), (2, .ref 2 0 0), (5, .int .i64 i)], [(2, ⟨[[.str (l).e0, .str (l).e1, .str (l).e2, .sl ((l).ls.map KE)]], 4, 34, true⟩)]⟩) (fun i => i <= l.ls.length /\ (l.ls.take i).any (L6 n) = false) (fun i => l.ls.length - i) 0 ?_ ?_ ?_
 ·exact QZ (l := [1, 2, 5]) (lH := [2]) (kp3 rfl rfl rfl) (Qc rfl Ql) rfl rfl rfl
 ·exact ⟨QeH _, by simp⟩
 intro i hI
 try dsimp only
 refine QA ?_ -- 1
 refine Qb fun K hK => Qa Z (Qf Z Z (Qx Z Z Z ?_))
 first | refine QI rfl QH ?_ | refine QI rfl rfl ?_
 refine Ya Z Z (kc4 hK Z Z Z Z ?_)
 refine Qt Z (fun h1 => ?_) (fun h1 => ?_)
 ·try rw [h1]
  try simp only [qA] at h1
  refine Qp (ks3 Z Z Z ?_)
  refine QA ?_ -- 2
  refine Qy (Qb fun K hK => Qf Z Z (Qx Z Z Z (Qa Z (QG Z Z Z Wa (Q7 Wa) Z (ZY Z Z (Qx Z Z Z (Qa Z (JU Z Z (kc4 hK Z Z Z Z ?_)))))))))
  refine Qt Z (fun h2 => ?_) (fun h2 => ?_)
  ·try rw [h2]
   try simp only [qA] at h2
   refine Qb fun K hK => mv2 Z Z (kc1 hK Z ?_)
   refine Qr (Qu (Qi (Zb (Qu (Qi (Qs Z ?_))))))
   rw [XI, XX (i := i) Wa hI.2 (decide_eq_true h2)]
  ·try rw [h2]
   try simp only [qA] at h2
   refine Qp (Qd (ks3 Z Z Z (QQ fun K hK => Qa Z (Q2 Z Z Wb (Qa Z (hK _ ?_))))))
   refine Qg (i + 1) ?_ ?_ ?_
   ·exact QZ (l := [1, 2, 5]) (lH := [2]) (kp3 rfl rfl rfl) (Qc rfl Ql) rfl rfl rfl
   ·exact ⟨Wa, Mu Wa hI.2 (decide_eq_false h2)⟩
   ·first | omega | (simp only; omega) | (dsimp only; omega)
 ·try rw [h1]
  try simp only [qA] at h1
  refine Zd (QD (Qq (Qz (QY (Zj) (Qb fun K hK => Qa Z (kc1 hK Z ?_))))))
  refine Qr (Qs Z ?_)
  rw [XI, Tg (i := i) Wa hI.2]
theorem KC {x y : Vr} (hx : Gi x) (hy : Gi y) : Ok Tryz.prog 44 [.agg (dVr x), .agg (dVr y)] (.int .i64 (K9 x y)) := by
 refine Ok.ofT ZR Tryz.func44 QdD (Qev Z) ?_
 show TW _ _ tf44.body _ _
 refine Qb fun K hK => ZC Z Z Z (ZC Z Z Z (Qa Z (kc2 hK Z Z ?_)))
 refine QA ?_ -- 0
 refine Qb fun K hK => QL (cs := [_, _, _, _, _]) Z Z Z Z (QL (cs := [_, _, _, _, _]) Z Z Z Z (QC (YE hx.1 hx.2 hy.1 hy.2) Z Z (.inr Z) (kc1 hK Z ?_)))
 refine Qy (Qb fun K hK => Yz Z Z (Qa Z (kc2 hK Z Z ?_)))
 refine Qt Z (fun h1 => ?_) (fun h1 => ?_)
 ·try rw [h1]
  try simp only [qB] at h1
  refine Qb fun K hK => Qa Z (kc1 hK Z ?_)
  refine Qr (Qu (Qi (Qs Z ?_)))
  rw [K9, if_pos h1]
 ·try rw [h1]
  try simp only [qB] at h1
  refine Qb fun K hK => Yz Z Z (Qa Z (kc1 hK Z ?_))
  refine Qt Z (fun h2 => ?_) (fun h2 => ?_)
  ·try rw [h2]
   try simp only [qB] at h2
   refine Qb fun K hK => Qa Z (kc1 hK Z ?_)
   refine Qr (Qu (Qi (Qs Z ?_)))
   rw [K9, if_neg h1, if_pos h2]
  ·try rw [h2]
   try simp only [qB] at h2
   refine Qp (Qd (QY (Zj) (Qb fun K hK => Qa Z (kc1 hK Z ?_))))
   refine Qr (Qs Z ?_)
   rw [K9, if_neg h1, if_neg h2]
theorem Nh {u : Yp} : Ok Tryz.prog 37 [.agg (Z6 u)] (.bool true) := by
 refine Ok.ofT ZR Tryz.func37 Qdw (Qev Z) ?_
 show TW _ _ tf37.body _ _
 refine Qb fun K hK => ZC Z Z Z (Qa Z (hK _ _ (HV (Zj) ?_)))
 refine Qb fun K hK => Qa Z (kc1 hK Z ?_)
 refine Qr (Qo Z ?_)
 rfl
theorem Ni {u : Yp} : Ok Tryz.prog 38 [.agg (Z6 u)] (.int .i64 0) := by
 refine Ok.ofT ZR Tryz.func38 Qdx (Qev Z) ?_
 show TW _ _ tf38.body _ _
 refine Qb fun K hK => ZC Z Z Z (Qa Z (hK _ _ (HV (Zj) ?_)))
 refine Qb fun K hK => Qa Z (kc1 hK Z ?_)
 refine Qr (Qs Z ?_)
 rfl
theorem Nj {u : Yp} (hu : u.cs.length <= 16) (hv : ∀ c ∈ u.cs, Gi c.v) {p : Nat} (hp : p < u.cs.length) {l : Xa} (hl : LSm l) : Ok Tryz.prog 40 [.agg (Z6 u), .int .i64 ((p : Nat) : Int), .ptr [.str l.e0, .str l.e1, .str l.e2, .sl (l.ls.map KE)]] (.int .i64 (Fe l u p)) := by
 refine Ok.ofT ZR Tryz.func40 Qdz (Qev Z) ?_
 show TW _ _ tf40.body _ _
 have hfh := K7 l u.n
 refine Qb fun K hK => ZC Z Z Z (Qa Z (kc3 hK Z Z Z ?_))
 refine Qb fun K hK => QL (cs := [_, _, _, _]) Z Z Z Z (Qf Z Z (Qx Z Z Z (QC (R7 (l := l) hl) Z Z (.inr Z) (Qa Z (kc4 hK Z Z Z Z ?_)))))
 refine QA ?_ -- 0
 refine Qb fun K hK => Qa Z (Ya Z Z (kc5 hK Z Z Z Z Z ?_))
 refine Qt Z (fun h1 => ?_) (fun h1 => ?_)
 ·try rw [h1]
  try simp only [qA] at h1
  refine Qb fun K hK => Qa Z (kc1 hK Z ?_)
  refine Qr (Qi (Qs Z ?_))
  rw [S0 h1]
 ·try rw [h1]
  try simp only [qA] at h1
  refine Qp (ks4 Z Z Z Z ?_)
  refine QA ?_ -- 1
  refine Qb fun K hK => Qf Z Z (Zc (ds0 := [9, 8, 7, 0]) Z Z Z Z Z (Qa Z (QG Z Z Z Wa (Q7 Wa) Z (ZY Z Z (QP (ds0 := [0]) (cs := [_, _, _, _, _]) Z Z Z Z Z Z (ZY Z Z (Zc (ds0 := [3, 2, 1, 0]) Z Z Z Z Z (Qa Z (QG Z Z Z Wa (Z7 Wa Wa) Z (ZY Z Z ?_))))))))))
  refine QP (ds0 := [0]) (cs := [_, _, _, _, _]) Z Z Z Z Z Z (Q1 (ds0 := []) (G9 (hv _ (QeA hp)).1 (hv _ (QeA hp)).2 (hl.vs _ (QeA (Wa : (XI l u.n).toNat < l.ls.length))).1 (hl.vs _ (QeA (Wa : (XI l u.n).toNat < l.ls.length))).2) Z Z (.inr Z) Z Z (kc1 hK Z ?_))
  refine Qy (Qb fun K hK => Yz Z Z (Qa Z (kc2 hK Z Z ?_)))
  refine Qt Z (fun h2 => ?_) (fun h2 => ?_)
  ·try rw [h2]
   try simp only [qA] at h2
   refine Qb fun K hK => Qa Z (kc1 hK Z ?_)
   refine Qr (Qu (Qi (Qs Z ?_)))
   rw [FP h1 hp, K9, if_pos h2]
  ·try rw [h2]
   try simp only [qA] at h2
   refine Qb fun K hK => Yz Z Z (Qa Z (kc1 hK Z ?_))
   refine Qt Z (fun h3 => ?_) (fun h3 => ?_)
   ·try rw [h3]
    try simp only [qA] at h3
    refine Qb fun K hK => Qa Z (kc1 hK Z ?_)
    refine Qr (Qu (Qi (Qs Z ?_)))
    rw [FP h1 hp, K9, if_neg h2, if_pos h3]
   ·try rw [h3]
    try simp only [qA] at h3
    refine Qp (Qd (QY (Zj) (Qb fun K hK => Qa Z (kc1 hK Z ?_))))
    refine Qr (Qs Z ?_)
    rw [FP h1 hp, K9, if_neg h2, if_neg h3]
theorem M0 {u : Yp} (hu : u.cs.length <= 16) {i : Nat} {f1 f2 f3 : Nat} {c1 c2 c3 : List D} (k1 : F6 c1) (k2 : F6 c2) (k3 : F6 c3) {b : Bool} {n0 : Int} {g : Nat -> Int} (o1 : Ok Tryz.prog f1 (.agg (Z6 u) :: c1) (.bool b)) (o2 : Ok Tryz.prog f2 (.agg (Z6 u) :: c2) (.int .i64 n0)) (o3 : ∀ p : Nat, p < u.cs.length -> Ok Tryz.prog f3 (.agg (Z6 u) :: .int .i64 (p : Int) :: c3) (.int .i64 (g p))) : Ok Tryz.prog 68 [.int .i64 ((i : Nat) : Int), .agg (Z6 u), .ptr [.clo f1 c1], .ptr [.clo f2 c2], .ptr [.clo f3 c3]] (Zg (Du u i b n0 g)) := by
 refine Ok.ofT ZR Tryz.func68 QdW (Qev Z) ?_
 show TW _ _ tf68.body _ _
 refine Qb fun K hK => ZC Z Z Z (Qa Z (kc5 hK Z Z Z Z Z ?_))
 refine Qb fun K hK => Qf Z Z (Qx Z Z Z ?_)
 first | refine QI rfl QH ?_ | refine QI rfl rfl ?_
 refine Q2 Z Z Wb (C2 Z Z Z Wa Wi Wi (Qa Z (kc6 hK Z Z Z Z Z Z ?_)))
 refine QA ?_ -- 0
 refine Qb fun K hK => Qa Z (Yz Z Z (Qa Z ?_))
 refine Qv (g := 17) Z (fun h1 => ?_) (fun h1 => ?_)
 ·try rw [h1]
  try simp only [qA] at h1
  refine gn3 Z Z Z (Qh Z Z (Qa Z (gn4 Z Z Z Z (Qh Z Z (kc5 hK Z Z Z Z Z ?_)))))
  refine ZD Z (Qb fun K hK => mv2 Z Z (kc1 hK Z ?_))
  refine Qr (Qi ?_)
  rw [N3 (.inl Wa), show ((u.cs.length : Int) + 1).toNat = u.cs.length + 1 by omega]
  exact JD rfl rfl rfl Wg (by rw [Zg, List.map_replicate])
 ·try rw [h1]
  try simp only [qA] at h1
  refine Qe Z (Qf Z Z (Qe Z (Qx Z Z Z (Qe Z (Mb Z Z (Qh Z Z (Qa Z ?_)))))))
  refine Qv (g := 22) Z (fun h2 => ?_) (fun h2 => ?_)
  ·try rw [h2]
   try simp only [qA] at h2
   refine gn4 Z Z Z Z (Qh Z Z (kc5 hK Z Z Z Z Z ?_))
   refine ZD Z (Qb fun K hK => mv2 Z Z (kc1 hK Z ?_))
   refine Qr (Qi ?_)
   rw [N3 (.inr (.inl h2)), show ((u.cs.length : Int) + 1).toNat = u.cs.length + 1 by omega]
   exact JD rfl rfl rfl Wg (by rw [Zg, List.map_replicate])
  ·try rw [h2]
   try simp only [qA] at h2
   refine Qe Z (Qx Z Z Z (Qe Z (QL (cs := [_, _, _]) Z Z Z Z (Qe Z (HU Z k1.cap Z o1 (by rw [List.map_append, k1.arg]; rfl) (.inr Z) (Qe Z (Z4 Z (Qh Z Z (kc5 hK Z Z Z Z Z ?_)))))))))
   refine Qt Z (fun h3 => ?_) (fun h3 => ?_)
   ·try rw [h3]
    try simp only [qA] at h3
    refine Qb fun K hK => mv2 Z Z (kc1 hK Z ?_)
    refine Qr (Qi ?_)
    rw [N3 (.inr (.inr h3)), show ((u.cs.length : Int) + 1).toNat = u.cs.length + 1 by omega]
    exact JD rfl rfl rfl Wg (by rw [Zg, List.map_replicate])
   ·try rw [h3]
    try simp only [qA] at h3
    refine Qp (ks4 Z Z Z Z (Qb fun K hK => Qa Z (Qx Z Z Z (QL (cs := [_, _, _]) Z Z Z Z (HU Z k2.cap Z o2 (by rw [List.map_append, k2.arg]; rfl) (.inr Z) (Xz Z Z Z Wg Wa Wa Z (QT Z Z Z Z Z Z Z Z (kc3 hK Z Z Z ?_))))))))
    refine QA ?_ -- 1
    refine Qb fun K hK => Qf Z Z (Qx Z Z Z ?_)
    first | refine QI rfl QH ?_ | refine QI rfl rfl ?_
    refine Qa Z (kc5 hK Z Z Z Z Z ?_)
    refine Qy ?_
    refine Zy (ι := Nat) (fun j => ⟨[(4, .ptr [.clo f3 c3]), (6, .ref 6 0 0), (8, .osl 14 (u.cs.length + 1)), (36, .int .i64 u.cs.length), (37, .int .i64 j)], [(6, ⟨[[.str (u).n, .str (u).f, S3 (u).cs]], 3, 65, true⟩), (14, ⟨(Hc (n0 :: (List.range u.cs.length).map g) (j + 1)).map (fun x => [.int .i64 x]), 1, 3, true⟩)]⟩) (fun j => j <= u.cs.length) (fun j => u.cs.length - j) 0 ?_ ?_ ?_
    ·exact QZ (l := [4, 6, 8, 36, 37]) (lH := [6, 14]) (kp5 rfl rfl rfl rfl rfl) (Qc rfl (Qc rfl Ql)) rfl (by rw [CJ, List.map_set, List.map_replicate] <;> rfl) rfl
    ·exact QeH _
    intro j hJ
    have hlen := Pr (n0 :: (List.range u.cs.length).map g) (v := j + 1) Wi
    simp only [List.length_cons, List.length_map, List.length_range] at hlen
    try dsimp only
    refine Qb fun K hK => Ya Z Z (kc6 hK Z Z Z Z Z Z ?_)
    refine QA ?_ -- 2
    refine Qt Z (fun h4 => ?_) (fun h4 => ?_)
    ·try rw [h4]
     try simp only [qA] at h4
     refine Qp (ks5 Z Z Z Z Z ?_)
     refine QA ?_ -- 3
     refine Qy (Qb fun K hK => mv2 Z Z (kc6 hK Z Z Z Z Z Z ?_))
     refine QQ fun K hK => mv2 Z Z (Q2 Z Z Wb (Qx Z Z Z (QL (cs := [_, _, _]) Z Z Z Z (Qa Z (HU Z k3.cap Z (o3 j Wa) (by rw [List.map_append, k3.arg]; rfl) (.inr Z) (Xz Z Z Z (by simp [hlen]) Wa Wa Z (QT Z Z (Z7 (k := (j : Int) + 1) (l := Hc (n0 :: (List.range u.cs.length).map g) (j + 1)) Wa Wa) Z Z Z Z Z (hK _ ?_))))))))
     refine Qd (ks5 Z Z Z Z Z (QQ fun K hK => Q2 Z Z Wb (Qa Z (hK _ ?_))))
     refine Qg (j + 1) ?_ ?_ ?_
     ·exact QZ (l := [4, 6, 8, 36, 37]) (lH := [6, 14]) (kp5 rfl rfl rfl rfl rfl) (Qc rfl (Qc rfl Ql)) rfl (by rw [Qai Wa, List.map_set] <;> rfl) rfl
     ·omega
     ·first | omega | (simp only; omega) | (dsimp only; omega)
    ·try rw [h4]
     try simp only [qA] at h4
     refine Zd (QD (Qq (Qz (ks1 Z (Qb fun K hK => mv2 Z Z (kc1 hK Z ?_))))))
     refine Qr ?_
     rw [PC Wa h2 h3]
     exact JD rfl rfl rfl (by simp [hlen]) (by rw [Tu (n0 :: (List.range u.cs.length).map g) Wi]; rfl)
open Go Go.Abs M3 M25
theorem Nn {w : QK} (hw : WSm w) {f : Nat} {a1 a2 a3 : List D} {g : Nat -> Yp -> List Int} (hg : ∀ i (h : i < w.length), (g i w[i]).length <= 1000 /\ Ok Tryz.prog f [.int .i64 ((i : Nat) : Int), .agg (Z6 w[i]), .ptr a1, .ptr a2, .ptr a3] (Zg (g i w[i]))) : Ok Tryz.prog 67 [Jf w, .clo f [.ptr a1, .ptr a2, .ptr a3]] (M6 (MP w g w.length)) := by
 refine Ok.ofT ZR Tryz.func67 QdV (Qev Z) ?_
 show TW _ _ tf67.body _ _
 have hn := hw.len
 refine Qb fun K hK => ZC Z Z Z (Qa Z (kc2 hK Z Z ?_))
 refine Qb fun K hK => Qa Z (kc3 hK Z Z Z ?_)
 refine QA ?_ -- 0
 refine Qb fun K hK => Qf Z Z (Qx Z Z Z ?_)
 first | refine QI rfl QH ?_ | refine QI rfl rfl ?_
 refine Qa Z (kc5 hK Z Z Z Z Z ?_)
 refine Qy ?_
 refine Zy (ι := Nat) (fun i => ⟨[(1, .clo f [.ptr a1, .ptr a2, .ptr a3]), (5, .osl 5 (MP w g i).length), (9, .sl (w.map Z6)), (10, .int .i64 w.length), (11, .int .i64 i)], [(5, ⟨(MP w g i).map (fun r => [Zg r]), 1, 22, true⟩)]⟩) (fun i => i <= w.length) (fun i => w.length - i) 0 ?_ ?_ ?_
 ·exact le_trans (Yl 5 5 1 22 rfl rfl) (QZ (l := [1, 5, 9, 10, 11]) (lH := [5]) (kp5 rfl rfl rfl rfl rfl) (Qc rfl Ql) (by rw [JG] <;> rfl) rfl rfl)
 ·exact QeH _
 intro i hI
 have hlen := JG w g i
 try dsimp only
 refine Qb fun K hK => Ya Z Z (kc6 hK Z Z Z Z Z Z ?_)
 refine QA ?_ -- 1
 refine Qt Z (fun h1 => ?_) (fun h1 => ?_)
 ·try rw [h1]
  try simp only [qA] at h1
  refine Qp (ks5 Z Z Z Z Z ?_)
  refine QA ?_ -- 2
  refine Qy (Qb fun K hK => Qa Z (QG Z Z Z Wa (Q7 Wa) Z (QL (cs := [_, _, _]) Z Z Z Z (ZE Z (Qa Z (QT Z Z Z Z Z Z Z Z (kc7 hK Z Z Z Z Z Z Z ?_)))))))
  refine QQ fun K hK => mv2 Z Z (Qa Z (QL (cs := [_, _, _]) Z Z Z Z (HU Z Z Z (hg i Wa).2 Z (.inl Z) (QJ Z Z (XD Z Z (fun _ h => XK Z Z Z h) Z Wg Z Z Z Wi Wi (Qa Z (hK _ ?_)))))))
  refine Qd (ks5 Z Z Z Z Z (QQ fun K hK => Q2 Z Z Wb (Qa Z (hK _ ?_))))
  refine Qg (i + 1) ?_ ?_ ?_
  ·exact QZ (l := [1, 5, 9, 10, 11]) (lH := [5]) (kp5 rfl rfl rfl rfl rfl) (Qc rfl Ql) (by rw [PH Wa, List.length_append] <;> rfl) (by rw [PH Wa, List.map_append] <;> rfl) rfl
  ·omega
  ·first | omega | (simp only; omega) | (dsimp only; omega)
 ·try rw [h1]
  try simp only [qA] at h1
  refine Zd (QD (Qq (Qz (ks1 Z (Qb fun K hK => mv2 Z Z (kc1 hK Z ?_))))))
  refine Qr ?_
  exact JD rfl rfl rfl Wg (by rw [show w.length = i by omega]; rfl)
theorem Np {w : QK} (hw : WSm w) {f1 f2 f3 : Nat} {c1 c2 c3 : List D} (k1 : F6 c1) (k2 : F6 c2) (k3 : F6 c3) {b : Yp -> Bool} {n0 : Yp -> Int} {g : Yp -> Nat -> Int} (o1 : ∀ i (h : i < w.length), Ok Tryz.prog f1 (.agg (Z6 w[i]) :: c1) (.bool (b w[i]))) (o2 : ∀ i (h : i < w.length), Ok Tryz.prog f2 (.agg (Z6 w[i]) :: c2) (.int .i64 (n0 w[i]))) (o3 : ∀ i (h : i < w.length) (p : Nat), p < w[i].cs.length -> Ok Tryz.prog f3 (.agg (Z6 w[i]) :: .int .i64 (p : Int) :: c3) (.int .i64 (g w[i] p))) : Ok Tryz.prog 39 [Jf w, .clo f1 c1, .clo f2 c2, .clo f3 c3] (M6 (MP w (fun i u => Du u i (b u) (n0 u) (g u)) w.length)) := by
 refine Ok.ofT ZR Tryz.func39 Qdy (Qev Z) ?_
 show TW _ _ tf39.body _ _
 refine Qb fun K hK => ZC Z Z Z (ZC Z (if_pos k1.own) Z (ZC Z (if_pos k2.own) Z (ZC Z (if_pos k3.own) Z (Qa Z (kc4 hK Z Z Z Z ?_)))))
 refine Qb fun K hK => QL (cs := [_]) Z Z Z Z (SU Z Z ?_)
 apply MT [5, 6, 7] Wg
 case hs => rfl
 case hok => exact Nn (g := fun i u => Du u i (b u) (n0 u) (g u)) hw (fun i h => ⟨by simp only [Tz]; have := hw.cs _ (QeA h); omega, M0 (hw.cs _ (QeA h)) k1 k2 k3 (o1 i h) (o2 i h) (o3 i h)⟩)
 case ha => rfl
 case hd => rfl
 case hp => exact .inl rfl
 refine Qa Z (kc1 hK Z ?_)
 refine Qr (ZP Z ?_)
 rfl
theorem MY {w : QK} (hw : WSm w) {l : Xa} (hl : LSm l) : Ok Tryz.prog 12 [Jf w, TQ l] (M6 (Za w l)) := by
 refine Ok.ofT ZR Tryz.func12 Qdd (Qev Z) ?_
 show TW _ _ tf12.body _ _
 refine Qb fun K hK => ZC Z Z Z (ZC Z Z Z (Qa Z (kc2 hK Z Z ?_)))
 refine Qb fun K hK => Qa Z (kc3 hK Z Z Z ?_)
 refine Qb fun K hK => Qa Z (kc4 hK Z Z Z Z ?_)
 refine Qb fun K hK => QL (cs := [_]) Z Z Z Z (mv2 Z Z (SU Z Z ?_))
 apply MT [3] Wg
 case hs => rfl
 case hok => exact Np hw (f1 := 37) (f2 := 38) (f3 := 40) (c1 := []) (c2 := []) (c3 := [.ptr [.str l.e0, .str l.e1, .str l.e2, .sl (l.ls.map KE)]]) ⟨rfl, fun _ => rfl, fun _ => rfl, rfl, rfl⟩ ⟨rfl, fun _ => rfl, fun _ => rfl, rfl, rfl⟩ ⟨rfl, fun _ => rfl, fun _ => rfl, rfl, rfl⟩ (b := fun _ => true) (n0 := fun _ => 0) (g := fun u p => Fe l u p) (fun i h => Nh) (fun i h => Ni) (fun i h p hp => Nj (hw.cs _ (QeA h)) (hw.vs _ (QeA h)) hp hl)
 case ha => rfl
 case hd => rfl
 case hp => exact .inl rfl
 refine Qa Z (kc1 hK Z ?_)
 refine Qr (ZP Z ?_)
 rfl
theorem X1 {names : List (List UInt8)} (hn : names.length <= 100000000) {n : List UInt8} : Ok Tryz.prog 78 [.sl (Yg names), .str n] (.int .i64 (Tq (fun x => decide (n = x)) names)) := by
 refine Ok.ofT ZR Tryz.func78 Qd6 (Qev Z) ?_
 show TW _ _ tf78.body _ _
 refine Qb fun K hK => Qa Z (kc2 hK Z Z ?_)
 refine QA ?_ -- 0
 refine Qb fun K hK => Qa Z ?_
 first | refine QI rfl QH ?_ | refine QI rfl rfl ?_
 refine Qa Z (kc4 hK Z Z Z Z ?_)
 refine Qy ?_
 refine Zy (ι := Nat) (fun i => ⟨[(0, .sl (Yg names)), (1, .str n), (7, .int .i64 names.length), (8, .int .i64 i)], []⟩) (fun i => i <= names.length /\ (names.take i).any (fun x => decide (n = x)) = false) (fun i => names.length - i) 0 ?_ ?_ ?_
 ·exact QU (kp4 rfl rfl rfl rfl)
 ·exact ⟨QeH _, by simp⟩
 intro i hI
 try dsimp only
 refine Qb fun K hK => Ya Z Z (kc5 hK Z Z Z Z Z ?_)
 refine QA ?_ -- 1
 refine Qt Z (fun h1 => ?_) (fun h1 => ?_)
 ·try rw [h1]
  try simp only [qB, Qm] at h1
  refine Qp (ks4 Z Z Z Z ?_)
  refine QA ?_ -- 2
  refine Qy (Qb fun K hK => mv2 Z Z (kc5 hK Z Z Z Z Z ?_))
  refine Qb fun K hK => mv2 Z Z (Qa Z (QG Z Z Z Wa (Y7 Wa) Z (Qx Z Z Z (JU Z Z (kc6 hK Z Z Z Z Z Z ?_)))))
  refine Qt Z (fun h2 => ?_) (fun h2 => ?_)
  ·try rw [h2]
   try simp only [qB, Qm] at h2
   refine Qb fun K hK => mv2 Z Z (kc1 hK Z ?_)
   refine Qr (Qu (Qi (Zb (Qu (Qi (Qs Z ?_))))))
   rw [XX (i := i) Wa hI.2 (decide_eq_true h2)]
  ·try rw [h2]
   try simp only [qB, Qm] at h2
   refine Qp (Qd (ks4 Z Z Z Z (QQ fun K hK => Q2 Z Z Wb (Qa Z (hK _ ?_)))))
   refine Qg (i + 1) ?_ ?_ ?_
   ·exact QU (kp4 rfl rfl rfl rfl)
   ·exact ⟨Wa, Mu Wa hI.2 (decide_eq_false h2)⟩
   ·first | omega | (simp only; omega) | (dsimp only; omega)
 ·try rw [h1]
  try simp only [qB, Qm] at h1
  refine Zd (QD (Qq (Qz (QY (Zj) (Qb fun K hK => Qa Z (kc1 hK Z ?_))))))
  refine Qr (Qs Z ?_)
  rw [Tg (i := i) Wa hI.2]
theorem Xv {names : List (List UInt8)} (hn : names.length <= 100000000) {n : List UInt8} : Ok Tryz.prog 46 [.sl (Yg names), .str n] (.bool (decide (n ∈ names))) := by
 refine Ok.ofT ZR Tryz.func46 QdF (Qev Z) ?_
 show TW _ _ tf46.body _ _
 refine Qb fun K hK => Qa Z (kc2 hK Z Z ?_)
 refine Qb fun K hK => mv2 Z Z (QC (X1 hn) Z Z (.inr Z) (PX Z Z (Qa Z (kc1 hK Z ?_))))
 refine Qr (Qo Z ?_)
 rw [<- BM, <- LV]
theorem Nk {u : Yp} {names : List (List UInt8)} (hn : names.length <= 100000000) : Ok Tryz.prog 45 [.agg (Z6 u), .ptr [.sl (Yg names)]] (.bool (decide (u.n ∈ names))) := by
 refine Ok.ofT ZR Tryz.func45 QdE (Qev Z) ?_
 show TW _ _ tf45.body _ _
 refine Qb fun K hK => ZC Z Z Z (Qa Z (kc2 hK Z Z ?_))
 refine Qb fun K hK => Qx Z Z Z (Qf Z Z (Qx Z Z Z (QC (Xv hn) Z Z (.inr Z) (Qa Z (kc1 hK Z ?_)))))
 refine Qr (Qo Z ?_)
 rfl
theorem Nl {u : Yp} : Ok Tryz.prog 47 [.agg (Z6 u)] (.int .i64 u.cs.length) := by
 refine Ok.ofT ZR Tryz.func47 QdG (Qev Z) ?_
 show TW _ _ tf47.body _ _
 refine Qb fun K hK => ZC Z Z Z (Qa Z (kc1 hK Z ?_))
 refine Qb fun K hK => Qf Z Z (Qx Z Z Z ?_)
 first | refine QI rfl QH ?_ | refine QI rfl rfl ?_
 refine Qa Z (kc1 hK Z ?_)
 refine Qr (Qs Z ?_)
 rfl
theorem Nm {u : Yp} (hu : u.cs.length <= 16) {p : Nat} (hp : p < u.cs.length) : Ok Tryz.prog 48 [.agg (Z6 u), .int .i64 ((p : Nat) : Int)] (.int .i64 (if false = true then (p : Int) else (u.cs.length : Int) - 1 - p)) := by
 refine Ok.ofT ZR Tryz.func48 QdH (Qev Z) ?_
 show TW _ _ tf48.body _ _
 refine Qb fun K hK => ZC Z Z Z (Qa Z (kc2 hK Z Z ?_))
 refine Qb fun K hK => Qf Z Z (Qx Z Z Z ?_)
 first | refine QI rfl QH ?_ | refine QI rfl rfl ?_
 refine KI Z Z Wb (Qa Z (KI Z Z Wb (Qa Z (kc1 hK Z ?_))))
 refine Qr (Qs Z ?_)
 rfl
theorem MZ {w : QK} (hw : WSm w) {names : List (List UInt8)} (hn : names.length <= 100000000) : Ok Tryz.prog 14 [Jf w, .sl (Yg names)] (M6 (Bl w names false)) := by
 refine Ok.ofT ZR Tryz.func14 Qdf (Qev Z) ?_
 show TW _ _ tf14.body _ _
 refine Qb fun K hK => ZC Z Z Z (ZC Z Z Z (Qa Z (kc2 hK Z Z ?_)))
 refine Qb fun K hK => SU Z Z (Qa Z (kc2 hK Z Z ?_))
 refine Qb fun K hK => Qa Z (kc3 hK Z Z Z ?_)
 refine Qb fun K hK => QL (cs := [_]) Z Z Z Z (mv2 Z Z ?_)
 apply MT [3] Wg
 case hs => rfl
 case hok => exact Np hw (f1 := 45) (f2 := 47) (f3 := 48) (c1 := [.ptr [.sl (Yg names)]]) (c2 := []) (c3 := []) ⟨rfl, fun _ => rfl, fun _ => rfl, rfl, rfl⟩ ⟨rfl, fun _ => rfl, fun _ => rfl, rfl, rfl⟩ ⟨rfl, fun _ => rfl, fun _ => rfl, rfl, rfl⟩ (b := fun u => decide (u.n ∈ names)) (n0 := fun u => u.cs.length) (g := fun u p => if false = true then (p : Int) else (u.cs.length : Int) - 1 - p) (fun i h => Nk hn) (fun i h => Nl) (fun i h p hp => Nm (hw.cs _ (QeA h)) hp)
 case ha => rfl
 case hd => rfl
 case hp => exact .inl rfl
 refine Qa Z (kc1 hK Z ?_)
 refine Qr (ZP Z ?_)
 rfl
end Go.Proofs
