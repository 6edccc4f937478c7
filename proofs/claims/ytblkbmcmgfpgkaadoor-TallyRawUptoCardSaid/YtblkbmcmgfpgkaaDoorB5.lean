/- Part 5 of the means of the proof: a verified abstract evaluator, the prepared functions, and contracts of functions. It states nothing of the claim by itself. -/
import Derived.Test.YtblkbmcmgfpgkaaDoorB4
import Derived.KernelRfl
set_option maxRecDepth 4000
set_option linter.unusedSimpArgs false
set_option linter.unusedVariables false
set_option linter.unusedSectionVars false
namespace M25
open Go Go.Abs M3
/-! ### The walk through all choices: what it looks at -/
def hsL (w : Qm) (x : Zl) : List Bool := match w[x.u.toNat]? with
 | some y => y.cs.map fun k => B7 x.s k.v
 | none => []
def mtP (w : Qm) (c : List Int) (x : Zl) : Bool := decide (0 <= cA c x.u) && (hsL w x).getD (cA c x.u).toNat false
def mtL (w : Qm) (c : List Int) (l : Nat) (x : Zl) : Bool := decide (x.u <= (l : Int)) && mtP w c x
def Pz (u : Int) (r : List Zl) : Int := r.foldl (fun a x => max a x.u) u
def LA (w : Qm) (c : List Int) (l u : Nat) (r : List Zl) : Bool := decide ((l : Int) < Pz u r) || r.any (mtL w c l)
def LF (w : Qm) (c : List Int) (l u : Nat) : Bool := match w[u]? with
 | some y => (match y.cs[(cA c u).toNat]? with
  | some k => k.ns.all (LA w c l u) && !(k.bs.any (mtL w c l))
  | none => false)
 | none => false
def Hs (w : Qm) (c : List Int) (l u : Nat) : Bool := decide (cA c u < 0) || LF w c l u
def Yx (w : Qm) (c : List Int) (l : Nat) : Bool := (List.range (l + 1)).all (Hs w c l)
def isL (w : Qm) (c : List Int) (l : Nat) (x : Zl) : Bool := decide (x.u = (l : Int)) && (hsL w x).getD (cA c l).toNat false
def Fe (w : Qm) (c : List Int) (l u k : Nat) : Bool := (decide (l < u) || decide (cA c u = (k : Int))) && match w[u]? with
 | some y => (match y.cs[k]? with
  | some z => z.ns.any fun r => r.any (isL w c l)
  | none => false)
 | none => false
def Pt (w : Qm) (c : List Int) (l u : Nat) : Bool := match w[u]? with
 | some y => (List.range y.cs.length).any (Fe w c l u)
 | none => false
def Ff (w : Qm) (c : List Int) (l : Nat) : Bool := (List.range w.length).any (Pt w c l)
def Yf (w : Qm) (c : List Int) (l : Nat) : Bool := !(decide (l = 0) && decide (cA c 0 < 0)) && (Yx w c l && (decide (l = 0) || (decide (cA c l < 0) || Ff w c l)))
/-! ### What it comes by -/
def Zh (hi : Bool) (n : Nat) (j : Nat) : Int := if hi = true then (n : Int) - 1 - j else (j : Int) - 1
noncomputable def listW (w : Qm) (hi : Bool) : List Nat -> List Int -> List (List Int)
 | [], q => if tidyM w q = q then [q] else []
 | n :: us, q => (List.range (n + 1)).flatMap fun j => if Yf w (q ++ [Zh hi n j]) q.length = true then listW w hi us (q ++ [Zh hi n j]) else []
noncomputable def subW (w : Qm) (hi : Bool) (us : List Nat) (q : List Int) (i : Int) : List (List Int) := if Yf w (q ++ [i]) q.length = true then listW w hi us (q ++ [i]) else []
theorem Lw (w : Qm) (hi : Bool) (n : Nat) (us : List Nat) (q : List Int) : listW w hi (n :: us) q = (List.range (n + 1)).flatMap fun j => subW w hi us q (Zh hi n j) := rfl
/-! ### What is handed over, one behind the other, until it is enough -/
structure MC (σ : Type) where
 st : σ -> List Int -> σ × Bool
 ok : σ -> Nat -> Prop
 step : ∀ {s c k}, ok s (k + 1) -> ok (st s c).1 k
 mono : ∀ {s j k}, ok s k -> j <= k -> ok s j
def Yg {σ : Type} (p : MC σ) : σ -> List (List Int) -> σ × Bool
 | s, [] => (s, true)
 | s, c :: l => if (p.st s c).2 = true then Yg p (p.st s c).1 l else ((p.st s c).1, false)
theorem GH {σ : Type} (p : MC σ) : ∀ (s : σ) (a b : List (List Int)), Yg p s (a ++ b) = if (Yg p s a).2 = true then Yg p (Yg p s a).1 b else Yg p s a
 | s, [], b => rfl
 | s, c :: a, b => by
  simp only [List.cons_append, Yg]
  split
  ·exact GH p _ a b
  ·rfl
theorem TP {σ : Type} (p : MC σ) (s : σ) (c : List Int) : Yg p s [c] = p.st s c := by
 simp only [Yg]
 cases h : p.st s c with
 | mk x y => cases y <;> rfl
theorem CH {σ : Type} {p : MC σ} : ∀ {s : σ} {a : List (List Int)} {k : Nat}, p.ok s (a.length + k) -> p.ok (Yg p s a).1 k
 | s, [], k, h => by simpa [Yg] using h
 | s, c :: a, k, h => by
  have h1 := p.step (c := c) (show p.ok s ((a.length + k) + 1) from p.mono h We)
  simp only [Yg]
  split
  ·exact CH h1
  ·exact p.mono h1 Wa
/-! ### Only the first units matter -/
section
variable {w : Qm} {c c' : List Int} {l : Nat}
def AgL (c c' : List Int) (l : Nat) : Prop := ∀ u : Nat, u <= l -> cA c (u : Int) = cA c' (u : Int)
theorem L9 (c : List Int) (u : Int) : cA c u = cA c ((u.toNat : Nat) : Int) := by unfold cA; rw [Int.toNat_natCast]
theorem Cg (h : AgL c c' l) {x : Zl} (hx : x.u <= l) : mtP w c x = mtP w c' x := by
 have e : cA c x.u = cA c' x.u := by rw [L9 c, L9 c']; exact h _ Wa
 rw [mtP, mtP, e]
theorem Rr (h : AgL c c' l) : mtL w c l = mtL w c' l := by
 funext x
 unfold mtL
 by_cases hx : x.u <= (l : Int)
 ·rw [Cg h hx]
 ·rw [decide_eq_false hx]; rfl
theorem LB (h : AgL c c' l) : LA w c l = LA w c' l := by
 funext u r; unfold LA; rw [Rr h]
theorem Re (h : AgL c c' l) : Yx w c l = Yx w c' l := by
 unfold Yx
 rw [Bool.eq_iff_iff, QhP, QhP]
 have e : ∀ u ∈ List.range (l + 1), Hs w c l u = Hs w c' l u := fun u hu => by
  rw [Qh1] at hu
  unfold Hs LF
  rw [h u Wa, LB h, Rr h]
 exact ⟨fun q u hu => by rw [<- e u hu]; exact q u hu, fun q u hu => by rw [e u hu]; exact q u hu⟩
theorem DY (h : AgL c c' l) : isL w c l = isL w c' l := by
 funext x; unfold isL; rw [h l (Nat.le_refl _)]
theorem SS (h : AgL c c' l) : Fe w c l = Fe w c' l := by
 funext u k
 unfold Fe
 rw [DY h]
 by_cases hu : l < u
 ·rw [decide_eq_true hu]; rfl
 ·rw [h u Wa]
theorem SU (h : AgL c c' l) : Ff w c l = Ff w c' l := by
 unfold Ff Pt; rw [SS h]
theorem NL (h : AgL c c' l) : Yf w c l = Yf w c' l := by
 unfold Yf
 rw [show cA c 0 = cA c' 0 from h 0 Wa, Re h, h l (Nat.le_refl _), SU h]
theorem QbM {q r : List Int} {i : Int} : AgL (q ++ i :: r) (q ++ [i]) q.length := fun u hu => by
 unfold cA
 rw [Int.toNat_natCast, List.getElem?_append, List.getElem?_append]
 by_cases h : u < q.length
 ·rw [if_pos h, if_pos h]
 ·rw [if_neg h, if_neg h, show u - q.length = 0 by omega]; rfl
theorem Bu {c : List Int} {l : Nat} : AgL c (c.take (l + 1)) l := fun u hu => by
 unfold cA
 rw [Int.toNat_natCast, List.getElem?_take, if_pos Wa]
theorem QdZ {r : List Zl} : ∀ {a : Int}, a <= Pz a r /\ ∀ x ∈ r, x.u <= Pz a r := by
 induction r with
 | nil => intro a; exact ⟨Int.le_refl _, fun x hx => by cases hx⟩
 | cons y r ih =>
  intro a
  simp only [Pz, List.foldl_cons]
  obtain ⟨h1, h2⟩ := ih (a := max a y.u)
  simp only [Pz] at h1 h2
  refine ⟨Wa, fun x hx => ?_⟩
  rcases QhH.1 hx with rfl | hx
  ·omega
  ·exact h2 x hx
theorem Qd0 {r : List Zl} : ∀ {a b : Int}, a <= b -> (∀ x ∈ r, x.u <= b) -> Pz a r <= b := by
 induction r with
 | nil => intro a b h _; exact h
 | cons y r ih =>
  intro a b h h2
  simp only [Pz, List.foldl_cons]
  exact ih (by have := h2 y Wc; omega) fun x hx => h2 x (by simp [hx])
theorem Qd1 {r : List Zl} {a : Int} {j : Nat} (h : j < r.length) : Pz a (r.take (j + 1)) = max (Pz a (r.take j)) r[j].u := by
 rw [List.take_succ_eq_append_getElem h, Pz, List.foldl_append]; rfl
/-! ### Where the choice may be -/
theorem NG (hw : WSm w) (hch : ChOk w c) {x : Zl} (hx : 0 <= x.u /\ x.u < w.length) : mtM w c x = mtP w c x := by
 have hcl := hch.len
 have hc : x.u.toNat < c.length := Wa
 have hb := GX hch hc
 rw [mtP, L8 hc]
 by_cases hp : 0 <= c[x.u.toNat]
 ·have hl := NV hb.2 hp
  rw [Qbb hw hch hx.1 hx.2 hc hp hl, decide_eq_true hp, Bool.true_and, hsL, List.getElem?_eq_getElem (Wa : x.u.toNat < w.length)]
  simp only [List.getD_eq_getElem?_getD, List.getElem?_map, List.getElem?_eq_getElem hl, Option.map_some, Option.getD_some]
 ·rw [Qak hw hch hx.1 hx.2 hc hp, decide_eq_false hp]; rfl
theorem Ll (hw : WSm w) (hr : WIn w) (hch : ChOk w c) (h0 : 0 < w.length) (hf : Gk w c = true) (hl : l < w.length) : Yx w c l = true := by
 rw [P5 hw hch h0] at hf
 obtain ⟨_, hf⟩ := hf
 have hcl := hch.len
 rw [Yx, QhP]
 intro u hu
 rw [Qh1] at hu
 have hul : u < w.length := Wa
 have huc : u < c.length := Wa
 rw [Hs, Y0 huc, Bool.or_eq_true, decide_eq_true_eq]
 by_cases hn : c[u] < 0
 ·exact .inl hn
 ·right
  have hp := NV (GX hch huc).2 Wa
  have h1 := hf u hul huc Wa hp
  rw [LF, List.getElem?_eq_getElem hul]
  simp only [Y0 huc, List.getElem?_eq_getElem hp]
  rw [QhJ, Bool.not_eq_true', QhP] at h1 ⊢
  refine ⟨fun r hrr => ?_, ?_⟩
  ·have h2 := h1.1 r hrr
   rw [Hv, List.any_eq_true] at h2
   obtain ⟨x, hx, hm⟩ := h2
   have hxu := hr.nr _ (QhK hul) _ (QhK hp) r hrr x hx
   rw [LA, Bool.or_eq_true, decide_eq_true_eq]
   by_cases hfar : (l : Int) < Pz u r
   ·exact .inl hfar
   ·right
    have := (QdZ (r := r) (a := (u : Int))).2 x hx
    rw [List.any_eq_true]
    exact ⟨x, hx, by rw [mtL, decide_eq_true Wa, Bool.true_and, <- NG hw hch hxu]; exact hm⟩
  ·rw [Bool.eq_false_iff]
   intro h3
   rw [List.any_eq_true] at h3
   obtain ⟨x, hx, hm⟩ := h3
   have hxu := hr.bw _ (QhK hul) _ (QhK hp) x hx
   rw [mtL, QhJ, <- NG hw hch hxu] at hm
   have : Hv w c w[u].cs[c[u].toNat].bs = true := by rw [Hv, List.any_eq_true]; exact ⟨x, hx, hm.2⟩
   rw [h1.2] at this; cases this
theorem Lu (hw : WSm w) (hr : WIn w) (hch : ChOk w c) (h0 : 0 < w.length) (hl : l + 1 = w.length) (hh : Yx w c l = true) (hc0 : 0 <= cA c 0) : Gk w c = true := by
 have hcl := hch.len
 rw [P5 hw hch h0]
 refine ⟨by rw [<- Y0 (u := 0) (Wa : 0 < c.length)]; exact hc0, fun u hul huc hn hp => ?_⟩
 rw [Yx, QhP] at hh
 have h1 := hh u (Qh1.2 Wa)
 rw [Hs, Y0 huc, Bool.or_eq_true, decide_eq_true_eq] at h1
 rcases h1 with h1 | h1
 ·omega
 ·rw [LF, List.getElem?_eq_getElem hul] at h1
  simp only [Y0 huc, List.getElem?_eq_getElem hp] at h1
  rw [QhJ, Bool.not_eq_true', QhP] at h1 ⊢
  refine ⟨fun r hrr => ?_, ?_⟩
  ·have h2 := h1.1 r hrr
   have hxu := hr.nr _ (QhK hul) _ (QhK hp) r hrr
   rw [LA, Bool.or_eq_true, decide_eq_true_eq] at h2
   rcases h2 with h2 | h2
   ·have := Qd0 (r := r) (a := (u : Int)) (b := (l : Int)) Wa (fun x hx => by have := hxu x hx; omega)
    omega
   ·rw [List.any_eq_true] at h2
    obtain ⟨x, hx, hm⟩ := h2
    rw [mtL, QhJ, <- NG hw hch (hxu x hx)] at hm
    rw [Hv, List.any_eq_true]; exact ⟨x, hx, hm.2⟩
  ·rw [Bool.eq_false_iff]
   intro h3
   rw [Hv, List.any_eq_true] at h3
   obtain ⟨x, hx, hm⟩ := h3
   have hxu := hr.bw _ (QhK hul) _ (QhK hp) x hx
   have : w[u].cs[c[u].toNat].bs.any (mtL w c l) = true := by
    rw [List.any_eq_true]; exact ⟨x, hx, by rw [mtL, decide_eq_true Wa, Bool.true_and, <- NG hw hch hxu]; exact hm⟩
   rw [h1.2] at this; cases this
theorem C4 (hw : WSm w) (hr : WIn w) (hch : ChOk w c) (hl0 : 0 < l) (hl : l < w.length) (hc : 0 <= cA c l) (ht : tidyM w c = c) : Ff w c l = true := by
 have hcl := hch.len
 have hlc : l < c.length := Wa
 have h1 : nddB w c l = true := by
  have : (tidyM w c)[l]? = c[l]? := by rw [ht]
  rw [tidyM, List.getElem?_map, List.getElem?_range hlc, List.getElem?_eq_getElem hlc] at this
  simp only [Option.map_some, QhI] at this
  cases hb : nddB w c l with
  | true => rfl
  | false =>
   rw [if_neg (by rw [hb]; simp)] at this
   rw [Y0 hlc] at hc
   omega
 have hn : Ndd w c l := Classical.byContradiction fun hn => by rw [Qeg hn] at h1; cases h1
 generalize he : l = m at hn
 cases hn with
 | root => omega
 | @step i r x hi hrr hx hm =>
  obtain ⟨hic, hi0⟩ := Sx hw hr hch Wa hi
  have hp := NV (GX hch hic).2 hi0
  have hiw : i < w.length := Wa
  rw [GG hiw hic hp] at hrr
  have hxu := hr.nr _ (QhK hiw) _ (QhK hp) r hrr x hx
  rw [Ff, List.any_eq_true]
  refine ⟨i, Qh1.2 hiw, ?_⟩
  rw [Pt, List.getElem?_eq_getElem hiw]
  simp only
  rw [List.any_eq_true]
  refine ⟨c[i].toNat, Qh1.2 hp, ?_⟩
  rw [Fe, List.getElem?_eq_getElem hiw]
  simp only [List.getElem?_eq_getElem hp]
  rw [QhJ, Bool.or_eq_true, decide_eq_true_eq, decide_eq_true_eq, Y0 hic, List.any_eq_true]
  refine ⟨.inr Wa, r, hrr, ?_⟩
  rw [List.any_eq_true]
  refine ⟨x, hx, ?_⟩
  rw [NG hw hch hxu, mtP, QhJ] at hm
  have e : x.u = ((x.u.toNat : Nat) : Int) := Wa
  rw [isL, decide_eq_true e, Bool.true_and, <- L9]
  exact hm.2
end
end M25
namespace M25
open Go Go.Abs M3
/-! ### All choices, in order -/
def ZG : List Nat -> List (List Int)
 | [] => [[]]
 | n :: us => (List.range (n + 1)).flatMap fun j => (ZG us).map fun r => Zh false n j :: r
def ZS (w : Qm) : List Nat := w.map fun u => u.cs.length
noncomputable def goodM (w : Qm) (c : List Int) : Bool := Gk w c && @decide (tidyM w c = c) (Classical.propDecidable _)
theorem KW {w : Qm} {c : List Int} : goodM w c = true ↔ Gk w c = true /\ tidyM w c = c := by
 rw [goodM, QhJ]
 exact and_congr_right fun _ => ⟨fun h => @of_decide_eq_true _ (Classical.propDecidable _) h, fun h => @decide_eq_true _ (Classical.propDecidable _) h⟩
theorem R7 {n j : Nat} (h : j < n + 1) : -1 <= Zh false n j /\ Zh false n j < n := by
 unfold Zh; rw [if_neg Wc]; omega
theorem Qb4 {n j : Nat} (h : j < n + 1) : -1 <= Zh true n j /\ Zh true n j < n := by
 unfold Zh; rw [if_pos rfl]; omega
theorem BG {hi : Bool} {n j : Nat} (h : j < n + 1) : -1 <= Zh hi n j /\ Zh hi n j < n := by
 cases hi
 ·exact R7 h
 ·exact Qb4 h
theorem PY : ∀ {us : List Nat} {r : List Int}, r ∈ ZG us -> r.length = us.length /\ ∀ i (h : i < r.length) (h2 : i < us.length), -1 <= r[i] /\ r[i] < us[i]
 | [], r, h => by simp [ZG] at h; subst h; exact ⟨rfl, fun i h => by simp at h⟩
 | n :: us, r, h => by
  simp only [ZG, QhM, QhT, Qh1] at h
  obtain ⟨j, hj, r', hr', rfl⟩ := h
  obtain ⟨h1, h2⟩ := PY hr'
  refine ⟨by simp [h1], fun i hi hi2 => ?_⟩
  cases i with
  | zero => exact R7 hj
  | succ i => exact h2 i (by simpa using hi) (by simpa using hi2)
structure PreW (w : Qm) (q : List Int) : Prop where
 len : q.length <= w.length
 bd : ∀ u (h : u < q.length) (h2 : u < w.length), -1 <= q[u] /\ q[u] < w[u].cs.length
 inv : q ≠ [] -> Yx w q (q.length - 1) = true /\ 0 <= cA q 0
theorem PreW.nil (w : Qm) : PreW w [] := ⟨QhR _, fun u h => by simp at h, fun h => absurd rfl h⟩
theorem QdK {q r : List Int} {u : Nat} (h : u < q.length) : cA (q ++ r) (u : Int) = cA q (u : Int) := by
 unfold cA; rw [Int.toNat_natCast, List.getElem?_append_left h]
theorem PreW.push {w : Qm} {q : List Int} {i : Int} (h : PreW w q) (hq : q.length < w.length) (hi : -1 <= i /\ i < w[q.length].cs.length) (hp : Yf w (q ++ [i]) q.length = true) : PreW w (q ++ [i]) where
 len := by simp; omega
 bd := fun u h1 h2 => by
  rw [List.getElem_append]
  split
  ·rename_i e; exact h.bd u e h2
  ·rename_i e
   have : u = q.length := by simp at h1; omega
   subst this
   simpa using hi
 inv := fun _ => by
  simp only [Yf, QhJ, Bool.not_eq_true', QhS, decide_eq_false_iff_not] at hp
  refine ⟨by simpa using hp.2.1, ?_⟩
  by_cases e : q = []
  ·subst e
   rcases hp.1 with h1 | h1
   ·exact absurd rfl h1
   ·omega
  ·have hl : 0 < q.length := by
    cases q with
    | nil => exact absurd rfl e
    | cons => simp
   rw [show cA (q ++ [i]) 0 = cA q 0 from QdK (u := 0) hl]
   exact (h.inv e).2
theorem Cj {w : Qm} {i : Nat} (h : i < w.length) : (ZS w).drop i = w[i].cs.length :: (ZS w).drop (i + 1) := by
 rw [QhW (by simpa [ZS] using h)]
 simp [ZS]
theorem Tm {w : Qm} {q r : List Int} (hq : PreW w q) (hr : r ∈ ZG ((ZS w).drop q.length)) : ChOk w (q ++ r) := by
 obtain ⟨h1, h2⟩ := PY hr
 have hl := hq.len
 have h3 : ((ZS w).drop q.length).length = w.length - q.length := by simp [ZS]
 rw [h3] at h1
 refine ⟨by rw [List.length_append]; omega, fun u hu hc => ?_⟩
 rw [List.getElem_append]
 split
 ·rename_i e; exact hq.bd u e hu
 ·rename_i e
  have := h2 (u - q.length) (by simp at hc; omega) Wa
  simpa [ZS, show q.length + (u - q.length) = u by omega] using this
theorem DA {α : Type} {l : List α} {p : α -> Bool} (h : ∀ x ∈ l, p x = false) : l.filter p = [] := by
 rw [List.filter_eq_nil_iff]
 exact fun x hx => by rw [h x hx]; simp
theorem Nn {α β : Type} {l : List α} {f : α -> List β} {p : β -> Bool} : (l.flatMap f).filter p = l.flatMap fun x => (f x).filter p := by
 induction l with
 | nil => rfl
 | cons x l ih => rw [List.flatMap_cons, List.flatMap_cons, List.filter_append, ih]
theorem Hz {α β : Type} {l : List α} {f g : α -> List β} (h : ∀ x ∈ l, f x = g x) : l.flatMap f = l.flatMap g := by
 induction l with
 | nil => rfl
 | cons x l ih => rw [List.flatMap_cons, List.flatMap_cons, h x Wc, ih fun y hy => h y (by simp [hy])]
theorem Rp {α β γ : Type} {l : List α} {f : α -> List β} {g : β -> γ} : (l.flatMap f).map g = l.flatMap fun x => (f x).map g := by
 induction l with
 | nil => rfl
 | cons x l ih => rw [List.flatMap_cons, List.flatMap_cons, List.map_append, ih]
section
variable {w : Qm} (hw : WSm w) (hr : WIn w) (h0 : 0 < w.length)
include hw hr h0
theorem QbR {q r : List Int} {i : Int} (hch : ChOk w (q ++ i :: r)) (hp : Yf w (q ++ [i]) q.length = false) : goodM w (q ++ i :: r) = false := by
 rw [Bool.eq_false_iff]
 intro hg
 rw [KW] at hg
 obtain ⟨hf, ht⟩ := hg
 have hcl := hch.len
 have hql : q.length < w.length := by simp at hcl; omega
 have hc0 : 0 <= cA (q ++ i :: r) 0 := by
  have h1 := hf
  rw [Gk, QhJ, decide_eq_true_eq] at h1
  exact h1.1
 have : Yf w (q ++ i :: r) q.length = true := by
  simp only [Yf, QhJ, Bool.not_eq_true', QhS, decide_eq_false_iff_not, Bool.or_eq_true, decide_eq_true_eq]
  refine ⟨.inr Wa, Ll hw hr hch h0 hf hql, ?_⟩
  by_cases e : q.length = 0
  ·exact .inl e
  ·right
   by_cases hn : cA (q ++ i :: r) ((q.length : Nat) : Int) < 0
   ·exact .inl hn
   ·exact .inr (C4 hw hr hch Wa hql Wa ht)
 rw [NL QbM, hp] at this
 cases this
theorem Rh : ∀ (us : List Nat) (q : List Int), us = (ZS w).drop q.length -> PreW w q -> listW w false us q = ((ZG us).map (q ++ ·)).filter (goodM w)
 | [], q, hus, hq => by
  have hl : q.length = w.length := by
   have := congrArg List.length hus
   simp [ZS] at this
   have := hq.len; omega
  have hch : ChOk w q := by
   have := Tm hq (r := []) (by rw [<- hus]; simp [ZG])
   simpa using this
  have hne : q ≠ [] := by intro e; subst e; simp at hl; omega
  obtain ⟨h1, h2⟩ := hq.inv hne
  have hf := Lu hw hr hch h0 (l := q.length - 1) Wa h1 h2
  simp only [listW, ZG, List.map_cons, List.append_nil, List.map_nil]
  split
  ·rename_i ht
   rw [List.filter_cons_of_pos (KW.2 ⟨hf, ht⟩)]; rfl
  ·rename_i ht
   rw [List.filter_cons_of_neg (by rw [KW]; exact fun h => ht h.2)]; rfl
 | n :: us, q, hus, hq => by
  have hql : q.length < w.length := by
   have := congrArg List.length hus
   simp [ZS] at this
   omega
  have e1 := Cj hql
  rw [e1, List.cons.injEq] at hus
  obtain ⟨rfl, hus⟩ := hus
  simp only [listW, ZG]
  rw [Rp, Nn]
  refine Hz fun j hj => ?_
  rw [Qh1] at hj
  have hb := R7 hj
  rw [List.map_map]
  have e2 : ((q ++ ·) ∘ fun r => Zh false w[q.length].cs.length j :: r) = ((q ++ [Zh false w[q.length].cs.length j]) ++ ·) := by
   funext r; simp
  rw [e2]
  split
  ·rename_i hp
   exact Rh us _ (by rw [hus]; simp) (hq.push hql hb hp)
  ·rename_i hp
   rw [DA]
   intro c hc
   obtain ⟨r, hrr, rfl⟩ := QhT.1 hc
   have e3 : (q ++ [Zh false w[q.length].cs.length j]) ++ r = q ++ Zh false w[q.length].cs.length j :: r := by simp
   simp only [e3]
   refine QbR hw hr h0 ?_ (by simpa using hp)
   refine Tm hq ?_
   rw [e1]
   simp only [ZG, QhM, QhT, Qh1]
   exact ⟨j, hj, r, by rw [<- hus]; exact hrr, rfl⟩
end
theorem Cy {n : Nat} : (List.range (n + 1)).reverse = (List.range (n + 1)).map fun j => n - j := by
 apply List.ext_getElem
 ·simp
 ·intro i h1 h2
  simp at h1 ⊢
theorem Mo (w : Qm) : ∀ (us : List Nat) (q : List Int), listW w true us q = (listW w false us q).reverse
 | [], q => by simp only [listW]; split <;> rfl
 | n :: us, q => by
  simp only [listW]
  rw [List.reverse_flatMap, Cy, List.flatMap_map]
  refine Hz fun j hj => ?_
  rw [Qh1] at hj
  have e : Zh false n (n - j) = Zh true n j := by
   unfold Zh; rw [if_neg Wc, if_pos rfl]; omega
  simp only [Function.comp]
  rw [e]
  split
  ·exact Mo w us _
  ·rfl
/-! ### The choice behind one -/
def Qco (us : List Nat) : List Int := us.map fun _ => -1
def nxU : List Nat -> List Int -> Option (List Int)
 | n :: us, x :: c => match nxU us c with
  | some d => some (x :: d)
  | none => if x + 1 < (n : Int) then some ((x + 1) :: Qco us) else none
 | _, _ => none
def Xr (nx : List Int -> Option (List Int)) : List (List Int) -> Option (List Int) -> Prop
 | [], _ => True
 | c :: l, e => nx c = (match l with | d :: _ => some d | [] => e) /\ Xr nx l e
theorem PR {nx : List Int -> Option (List Int)} : ∀ {a b : List (List Int)} {e : Option (List Int)}, Xr nx a (match b with | d :: _ => some d | [] => e) -> Xr nx b e -> Xr nx (a ++ b) e
 | [], b, e, _, hb => hb
 | [c], b, e, ha, hb => by
  simp only [Xr, List.cons_append, List.nil_append] at ha ⊢
  exact ⟨ha.1, hb⟩
 | c :: d :: a, b, e, ha, hb => ⟨ha.1, PR (a := d :: a) ha.2 hb⟩
theorem KT : ∀ (us : List Nat), ∃ l, ZG us = Qco us :: l
 | [] => ⟨[], rfl⟩
 | n :: us => by
  obtain ⟨l, hl⟩ := KT us
  simp only [ZG]
  rw [List.range_succ_eq_map, List.flatMap_cons, hl]
  exact ⟨_, rfl⟩
theorem PS {n : Nat} {us : List Nat} {x : Int} : ∀ {l : List (List Int)}, Xr (nxU us) l none -> Xr (nxU (n :: us)) (l.map (x :: ·)) (if x + 1 < (n : Int) then some ((x + 1) :: Qco us) else none)
 | [], _ => trivial
 | [c], h => by
  simp only [Xr] at h
  simp only [List.map_cons, List.map_nil, Xr, nxU, h.1, and_true]
 | c :: d :: l, h => ⟨by
   have h1 : nxU us c = some d := h.1
   simp only [nxU, h1]; rfl, PS (l := d :: l) h.2⟩
theorem Nj : ∀ (us : List Nat), Xr (nxU us) (ZG us) none
 | [] => ⟨rfl, trivial⟩
 | n :: us => by
  have ih := Nj us
  obtain ⟨l0, hl0⟩ := KT us
  simp only [ZG]
  have key : ∀ k, k <= n + 1 -> Xr (nxU (n :: us)) ((List.range' (n + 1 - k) k).flatMap fun j => (ZG us).map fun r => Zh false n j :: r) none := by
   intro k
   induction k with
   | zero => intro _; exact trivial
   | succ k ihk =>
    intro hk
    rw [show List.range' (n + 1 - (k + 1)) (k + 1) = (n - k) :: List.range' (n + 1 - k) k by rw [List.range'_succ, show n + 1 - (k + 1) = n - k by omega, show n - k + 1 = n + 1 - k by omega], List.flatMap_cons]
    refine PR ?_ (ihk Wa)
    have e : (if Zh false n (n - k) + 1 < (n : Int) then some ((Zh false n (n - k) + 1) :: Qco us) else none) = (match (List.range' (n + 1 - k) k).flatMap fun j => (ZG us).map fun r => Zh false n j :: r with | d :: _ => some d | [] => none) := by
     have hc : Zh false n (n - k) + 1 = ((n - k : Nat) : Int) := by unfold Zh; rw [if_neg Wc]; omega
     rw [hc]
     cases k with
     | zero => rw [if_neg Wa]; rfl
     | succ k =>
      rw [if_pos Wa, List.range'_succ, List.flatMap_cons, hl0]
      simp only [List.map_cons, List.cons_append]
      have : Zh false n (n + 1 - (k + 1)) = ((n - (k + 1) : Nat) : Int) := by unfold Zh; rw [if_neg Wc]; omega
      rw [this]
    rw [<- e]
    exact PS ih
  have := key (n + 1) (Nat.le_refl _)
  rw [Nat.sub_self, <- List.range_eq_range'] at this
  exact this
theorem Lf {nx : List Int -> Option (List Int)} {l : List (List Int)} (h : Xr nx l none) {t : Nat} (ht : t < l.length) : nx l[t] = l[t + 1]? := by
 induction l generalizing t with
 | nil => simp at ht
 | cons c l ih =>
  cases t with
  | zero =>
   have := h.1
   simp only [List.getElem_cons_zero, this]
   cases l <;> rfl
  | succ t =>
   have := ih h.2 (t := t) (by simpa using ht)
   simpa using this
theorem PZ {w : Qm} {t : Nat} (ht : t < (ZG (ZS w)).length) : nxU (ZS w) (ZG (ZS w))[t] = (ZG (ZS w))[t + 1]? := Lf (Nj _) ht
/-! ### In place, from the last unit on -/
theorem Qbf : ∀ (us : List Nat) (c d : List Int) (i : Nat), us.length = c.length -> i <= c.length -> nxU (us.drop i) (c.drop i) = some d -> nxU us c = some (c.take i ++ d)
 | us, c, d, 0, _, _, h => by simpa using h
 | [], c, d, i + 1, hl, hi, h => by simp at hl; omega
 | n :: us, [], d, i + 1, hl, _, _ => by simp at hl
 | n :: us, x :: c, d, i + 1, hl, hi, h => by
  have := Qbf us c d i (by simpa using hl) (by simpa using hi) (by simpa using h)
  simp only [nxU, this, List.take_succ_cons, List.cons_append]
theorem Qfw {us : List Nat} {c : List Int} {i : Nat} (hu : i < us.length) (hi : i < c.length) (h : nxU (us.drop (i + 1)) (c.drop (i + 1)) = none) (hx : ¬ c[i] + 1 < (us[i] : Int)) : nxU (us.drop i) (c.drop i) = none := by
 rw [QhW hu, QhW hi]
 simp only [nxU, h]
 rw [if_neg hx]
theorem Qek {us : List Nat} {c : List Int} {i : Nat} (hl : us.length = c.length) (hi : i < c.length) (h : nxU (us.drop (i + 1)) (c.drop (i + 1)) = none) (hx : c[i] + 1 < (us[i] : Int)) : nxU us c = some (c.take i ++ (c[i] + 1) :: List.replicate (c.length - (i + 1)) (-1)) := by
 refine Qbf us c _ i hl Wa ?_
 rw [QhW (Wa : i < us.length), QhW hi]
 simp only [nxU, h]
 rw [if_pos hx, Qco, List.map_const', List.length_drop, hl]
theorem Qej {us : List Nat} {c : List Int} (h : nxU (us.drop 0) (c.drop 0) = none) : nxU us c = none := by simpa using h
theorem Qal {us : List Nat} {c : List Int} (hl : us.length = c.length) : nxU (us.drop c.length) (c.drop c.length) = none := by
 rw [<- hl, List.drop_length]; rfl
/-! ### How many -/
theorem Nk : ∀ (us : List Nat), (ZG us).length = us.foldr (fun n a => (n + 1) * a) 1
 | [] => rfl
 | n :: us => by
  simp only [ZG, List.length_flatMap, List.length_map, List.foldr_cons]
  rw [List.map_const', List.sum_replicate_nat, List.length_range, Nk us]
theorem CX : ∀ {w : Qm} {n most : Int}, 0 <= n -> szM most w n < most -> szM most w n = n * ((ZG (ZS w)).length : Int)
 | [], n, most, _, _ => by simp [szM, ZS, ZG]
 | u :: w, n, most, hn, h => by
  rw [szM] at h ⊢
  split at h
  ·omega
  ·rename_i hh
   rw [if_neg hh]
   have hk : (0 : Int) <= n * ((u.cs.length : Int) + 1) := Int.mul_nonneg hn Wa
   rw [CX hk h, Nk, Nk]
   simp only [ZS, List.map_cons, List.foldr_cons]
   rw [Int.mul_assoc]
   congr 1
end M25
namespace Go.Proofs
open Go Go.Abs M3 M25
theorem PO {w : Qm} (hw : Fx w) {most : Int} (hm : most <= 9223372036854775807) : Ok Tryd.prog 7 [Zj w, .int .i64 most, gD] (.int .i64 (szT w most)) := by
 refine Ok.ofTG (ds := [Zj w, .int .i64 most]) (dg := gD) ZL Tryd.func7 tp7 (QhG Z) ?_
 show TW _ _ tf7.body _ _
 have hwl := hw.len
 refine Qd fun K hK => Zs Z Z Z (Qb Z (kc3 hK Z Z Z ?_))
 refine Qz ?_ -- 0
 refine Qd fun K hK => Qb Z (SZ Z Z (Qb Z ?_))
 refine Qr (g := 11) Z (fun h1 => ?_) (fun h1 => ?_)
 ·rw [h1]
  simp only [qA] at h1
  refine gn3 Z Z Z (Qh Z Z (kc3 hK Z Z Z ?_))
  refine QV Z (Qd fun K hK => Qb Z (kc1 hK Z ?_))
  refine Qs (Qf (QF Z ?_))
  exact (QaB (.inr Wa)).symm
 ·rw [h1]
  simp only [qA] at h1
  refine Qc Z (QD (cs := [_]) Z Z Z Z (Qc Z (QK (XQ hw) Z Z (.inr Z) (Qc Z (Zm Z (Qh Z Z (kc3 hK Z Z Z ?_)))))))
  refine Qu Z (fun h2 => ?_) (fun h2 => ?_)
  ·rw [h2]
   simp only [qA] at h2
   refine Qd fun K hK => Qb Z (kc1 hK Z ?_)
   refine Qs (Qf (QF Z ?_))
   exact (QaB (.inl Wd)).symm
  ·rw [h2]
   simp only [qA] at h2
   refine Qq (ks2 Z Z (Qd fun K hK => Qb Z (kc3 hK Z Z Z ?_)))
   refine Qz ?_ -- 1
   refine Qd fun K hK => Qe Z Z (Qt Z Z Z (QY Z QM (Qb Z (kc5 hK Z Z Z Z Z ?_))))
   refine Qw ?_
   refine Q5 (ι := Nat × Int) (fun k => ⟨[(1, .int .i64 most), (5, .int .i64 k.2), (17, .sl (w.map ZK)), (18, .int .i64 w.length), (19, .int .i64 k.1)], []⟩) (fun k => k.1 <= w.length /\ (1 <= k.2 /\ k.2 <= most) /\ szM most w 1 = szM most (w.drop k.1) k.2) (fun k => w.length - k.1) (0, 1) ?_ ?_ ?_
   ·exact QP (l := [1, 5, 17, 18, 19]) (lH := []) (kp5 rfl rfl rfl rfl rfl) Qi rfl rfl rfl
   ·exact ⟨QhR _, ⟨Wa, Wa⟩, rfl⟩
   intro k hI
   have hcs := fun (h : k.1 < w.length) => hw.cl _ (QhK h)
   refine Qd fun K hK => ZI Z Z (kc6 hK Z Z Z Z Z Z ?_)
   refine Qz ?_ -- 2
   refine Qu Z (fun h3 => ?_) (fun h3 => ?_)
   ·rw [h3]
    simp only [qA] at h3
    refine Qq (ks5 Z Z Z Z Z ?_)
    refine Qz ?_ -- 3
    refine Qw (Qd fun K hK => QE Z Z Z Wa (QR Wa) Z (QD (cs := [_, _, _]) Z Z Z Z (Zu Z (Zf Z Z Z Z Z Z Z Z (kc6 hK Z Z Z Z Z Z ?_)))))
    refine Qd fun K hK => Qe Z Z (Qt Z Z Z (QY Z QM (Q0 Z Z (Qp Wa (by have := hcs Wa; omega)) (Qb Z (kc6 hK Z Z Z Z Z Z ?_)))))
    refine Qz ?_ -- 4
    refine Qd fun K hK => mv2 Z Z (Qb Z (Qdx Z Z Wa (T5 Wa hm Wa) (YZ Z Z (kc7 hK Z Z Z Z Z Z Z ?_))))
    refine Qu Z (fun h4 => ?_) (fun h4 => ?_)
    ·rw [h4]
     simp only [qA] at h4
     have hcs1 := hcs Wa
     refine Qd fun K hK => mv2 Z Z (kc1 hK Z ?_)
     refine Qs (Qf (Qj (Qf (QC (Qj (Qf (QF Z ?_)))))))
     (rw [LG Wd Wa, Qbr Wa hI.2.2 Wa]; done)
    ·rw [h4]
     simp only [qA] at h4
     refine Qq (ks6 Z Z Z Z Z Z (QN fun K hK => mv2 Z Z (T9 Z Z (Qp (by have := (LH Wa Wa hI.2.1 hI.2.2 Wa).1; omega) (by have := (LH Wa Wa hI.2.1 hI.2.2 Wa).1; omega)) (Qb Z (hK _ ?_)))))
     refine Ql (ks5 Z Z Z Z Z (QN fun K hK => Q0 Z Z (Qp Wa Wa) (Qb Z (hK _ ?_))))
     refine Qk (k.1 + 1, k.2 * (((w[k.1]'Wa).cs.length : Int) + 1)) ?_ ?_ ?_
     ·exact QP (l := [1, 5, 17, 18, 19]) (lH := []) (kp5 rfl rfl rfl rfl rfl) Qi rfl rfl rfl
     ·exact ⟨Wa, LH Wa Wa hI.2.1 hI.2.2 Wa⟩
     ·show w.length - (k.1 + 1) < w.length - k.1; omega
   ·rw [h3]
    simp only [qA] at h3
    refine QU (QB (Qv (QA (ks2 Z Z (Qd fun K hK => mv2 Z Z (Qdv Z Z (Qb Z (kc1 hK Z ?_))))))))
    refine Qs (QF Z ?_)
    (rw [LG Wd Wa, CW Wa hI.2.2]; first | done | omega)
theorem Hh {w : Qm} (hw : Fx w) {most : Int} (hm : most <= 9223372036854775807) : Ok Tryd.prog 8 [Zj w, .int .i64 most] (.int .i64 (szT w most)) := by
 refine Ok.ofT ZL Tryd.func8 tp8 (QhG Z) ?_
 show TW _ _ tf8.body _ _
 have hwl := hw.len
 refine Qd fun K hK => Zs Z Z Z (Qb Z (kc2 hK Z Z ?_))
 refine Qz ?_ -- 0
 refine Qd fun K hK => QD (cs := [_]) Z Z Z Z (QK (Z8 hw) Z Z (.inr Z) (Zm Z (Qb Z ?_)))
 refine Qr (g := 11) Z (fun h1 => ?_) (fun h1 => ?_)
 ·rw [h1]
  simp only [qA] at h1
  refine gn2 Z Z (Qh Z Z (kc3 hK Z Z Z ?_))
  refine QV Z (Qd fun K hK => Qb Z (kc1 hK Z ?_))
  refine Qs (Qf (QF Z ?_))
  exact (QaB (.inl Wd)).symm
 ·rw [h1]
  simp only [qA] at h1
  refine Qc Z (Qb Z (Qc Z (ZI Z Z (Qh Z Z (kc3 hK Z Z Z ?_)))))
  refine Qu Z (fun h2 => ?_) (fun h2 => ?_)
  ·rw [h2]
   simp only [qA] at h2
   refine Qd fun K hK => Qb Z (kc1 hK Z ?_)
   refine Qs (Qf (QF Z ?_))
   exact (QaB (.inr Wa)).symm
  ·rw [h2]
   simp only [qA] at h2
   refine Qq (ks2 Z Z (Qd fun K hK => Qb Z (kc3 hK Z Z Z ?_)))
   refine Qz ?_ -- 1
   refine Qd fun K hK => Qb Z (kc4 hK Z Z Z Z ?_)
   refine Qw ?_
   refine Q5 (ι := Nat × Int) (fun k => ⟨[(1, .int .i64 most), (2, .ref 2 0 0), (5, .int .i64 k.2), (6, .int .i64 k.1)], [(2, ⟨[[.sl ((w).map ZK)]], 1, 24, true⟩)]⟩) (fun k => k.1 <= w.length /\ (1 <= k.2 /\ k.2 <= most) /\ szM most w 1 = szM most (w.drop k.1) k.2) (fun k => w.length - k.1) (0, 1) ?_ ?_ ?_
   ·exact QP (l := [1, 2, 5, 6]) (lH := [2]) (kp4 rfl rfl rfl rfl) (Qa rfl Qi) rfl rfl rfl
   ·exact ⟨QhR _, ⟨Wa, Wa⟩, rfl⟩
   intro k hI
   have hcs := fun (h : k.1 < w.length) => hw.cl _ (QhK h)
   refine Qz ?_ -- 2
   refine Qd fun K hK => Qb Z (Qe Z Z (Qt Z Z Z (QY Z QM (ZI Z Z (kc5 hK Z Z Z Z Z ?_)))))
   refine Qu Z (fun h3 => ?_) (fun h3 => ?_)
   ·rw [h3]
    simp only [qA] at h3
    refine Qq (ks4 Z Z Z Z ?_)
    refine Qz ?_ -- 3
    refine Qw (Qd fun K hK => Qe Z Z (Qt Z Z Z (Qb Z (QE Z Z Z Wa (QR Wa) Z (QX Z Z (Qt Z Z Z (QY Z QM (Q0 Z Z ((Qp Wa (by have := hcs Wa; omega)).trans (Int.add_comm _ _)) (Qb Z (kc5 hK Z Z Z Z Z ?_))))))))))
    refine Qz ?_ -- 4
    refine Qd fun K hK => mv2 Z Z (Qb Z (Qdx Z Z Wa (T5 Wa hm Wa) (YZ Z Z (kc6 hK Z Z Z Z Z Z ?_))))
    refine Qu Z (fun h4 => ?_) (fun h4 => ?_)
    ·rw [h4]
     simp only [qA] at h4
     refine Qd fun K hK => mv2 Z Z (kc1 hK Z ?_)
     refine Qs (Qf (Qj (Qf (QC (Qj (Qf (QF Z ?_)))))))
     (rw [LG Wd Wa, Qbr Wa hI.2.2 Wa]; done)
    ·rw [h4]
     simp only [qA] at h4
     refine Qq (ks5 Z Z Z Z Z (QN fun K hK => mv2 Z Z (T9 Z Z (Qp (by have := (LH Wa Wa hI.2.1 hI.2.2 Wa).1; omega) (by have := (LH Wa Wa hI.2.1 hI.2.2 Wa).1; omega)) (Qb Z (hK _ ?_)))))
     refine Ql (ks4 Z Z Z Z (QN fun K hK => Qb Z (Q0 Z Z (Qp Wa Wa) (Qb Z (hK _ ?_)))))
     refine Qk (k.1 + 1, k.2 * (((w[k.1]'Wa).cs.length : Int) + 1)) ?_ ?_ ?_
     ·exact QP (l := [1, 2, 5, 6]) (lH := [2]) (kp4 rfl rfl rfl rfl) (Qa rfl Qi) rfl rfl rfl
     ·exact ⟨Wa, LH Wa Wa hI.2.1 hI.2.2 Wa⟩
     ·show w.length - (k.1 + 1) < w.length - k.1; omega
   ·rw [h3]
    simp only [qA] at h3
    refine QU (QB (Qv (QA (ks1 Z (Qd fun K hK => mv2 Z Z (kc1 hK Z ?_))))))
    refine Qs (QF Z ?_)
    (rw [LG Wd Wa, CW Wa hI.2.2]; first | done | omega)
end Go.Proofs
namespace M25
open Go Go.Abs M3
/-! ### The walker's data -/
def dWk (w : Qm) (x : Zl) : List D := [.int .i64 x.u, Dq (hsL w x)]
def NZ (w : Qm) (r : List Zl) : D := .sl (r.map (dWk w))
def Du (w : Qm) (k : CandT) : List D := [.sl (k.ns.map fun r => [NZ w r]), NZ w k.bs]
def Jy (w : Qm) (u : Xg) : D := .sl (u.cs.map (Du w))
def Zx (w : Qm) : D := .sl (w.map fun u => [Jy w u])
section
variable {w : Qm} {x : Zl}
theorem Qa2 (h : x.u.toNat < w.length) : hsL w x = (w[x.u.toNat]).cs.map fun k => B7 x.s k.v := by
 rw [hsL, List.getElem?_eq_getElem h]
theorem Nw (h : x.u.toNat < w.length) : (hsL w x).length = (w[x.u.toNat]).cs.length := by rw [Qa2 h, List.length_map]
theorem Qfr (h : x.u.toNat < w.length) {i : Nat} (hi : i < (w[x.u.toNat]).cs.length) : (hsL w x).take (i + 1) = (hsL w x).take i ++ [B7 x.s (w[x.u.toNat]).cs[i].v] := by
 rw [List.take_succ_eq_append_getElem (by rw [Nw h]; exact hi)]
 simp [Qa2 h]
end
theorem L2 {fr : QhE} {H : QhD} {k2 n2 : Nat} {b2 : Box} {z : Int} {rows : List (List D)} (h2 : lk H k2 = some b2) (p2 : b2.pr = true) (l2 : n2 = b2.rows.length) (e : b2.rows = rows) : JM ⟨fr, H⟩ (.agg [.int .i64 z, .osl k2 n2]) = .agg [.int .i64 z, .sl rows] := by
 simp [JM, D.fz, D.fzS, FE, h2, p2, l2, e, D.can, D.canS]
end M25
namespace Go.Proofs
open Go Go.Abs M3 M25
theorem Mc {w : Qm} (hw : WSm w) {x : Zl} (hx : 0 <= x.u /\ x.u < w.length) (hs : Sm x.s.1 /\ Sm x.s.2) : Ok Tryd.prog 32 [Zj w, .agg (PW x), gD] (.agg (dWk w x)) := by
 refine Ok.ofTG (ds := [Zj w, .agg (PW x)]) (dg := gD) ZL Tryd.func32 Qgw (QhG Z) ?_
 show TW _ _ tf32.body _ _
 have hcs := hw.cs _ (QhK (Wa : x.u.toNat < w.length))
 have hl := Nw (Wa : x.u.toNat < w.length)
 refine Qd fun K hK => Zs Z Z Z (Zs Z Z Z (Zu Z (kc4 hK Z Z Z Z ?_)))
 refine Qd fun K hK => Qe Z Z (Qt Z Z Z (ZM Z Z (Zu Z (Zf Z Z Z Z Z Z Z Z (kc5 hK Z Z Z Z Z ?_)))))
 refine Qz ?_ -- 0
 refine Qd fun K hK => Qe Z Z (Qt Z Z Z (Qe Z Z (Qt Z Z Z (QE Z Z Z Wa (QZ Wa Wa) Z (QX Z Z (Qt Z Z Z (QY Z QM (Qb Z (kc7 hK Z Z Z Z Z Z Z ?_)))))))))
 refine Qw ?_
 refine Q5 (ι := Nat) (fun i => ⟨[(3, .ref 3 0 0), (4, .ref 4 0 0), (5, .ref 5 0 0), (17, Fk (w[x.u.toNat]'Wa).cs), (18, .int .i64 (w[x.u.toNat]'Wa).cs.length), (19, .int .i64 i), (900000, gD)], [(3, ⟨[PW x], 3, 51, true⟩), (4, ⟨[[.int .i64 0, .fsl []]], 2, 81, true⟩), (5, ⟨[[.int .i64 x.u, .osl 100 ((hsL w x).take i).length]], 2, 81, false⟩), (100, ⟨((hsL w x).take i).map rB, 1, 4, true⟩)]⟩) (fun i => i <= (w[x.u.toNat]'Wa).cs.length) (fun i => (w[x.u.toNat]'Wa).cs.length - i) 0 ?_ ?_ ?_
 ·exact le_trans (Xl 5 1 100 1 4 rfl rfl rfl rfl) (QP (l := [3, 4, 5, 17, 18, 19, 900000]) (lH := [3, 4, 5, 100]) (kp7 rfl rfl rfl rfl rfl rfl rfl) (Qa rfl (Qa rfl (Qa rfl (Qa rfl Qi)))) rfl rfl rfl)
 ·exact QhR _
 intro i hI
 have hlen : ((hsL w x).take i).length = i := by simp only [List.length_take]; omega
 refine Qd fun K hK => ZI Z Z (kc8 hK Z Z Z Z Z Z Z Z ?_)
 refine Qz ?_ -- 1
 refine Qu Z (fun h1 => ?_) (fun h1 => ?_)
 ·rw [h1]
  simp only [qA] at h1
  refine Qq (ks7 Z Z Z Z Z Z Z ?_)
  refine Qz ?_ -- 2
  refine Qw (Qd fun K hK => QE Z Z Z Wa (QR Wa) Z (QD (cs := [_, _, _, _, _, _, _, _]) Z Z Z Z (Zu Z (Zf Z Z Z Z Z Z Z Z (kc8 hK Z Z Z Z Z Z Z Z ?_)))))
  refine QN fun K hK => Qe Z Z (QH (ds0 := [2, 0, 0]) Z Z Z Z Z (Qe Z Z (Q7 (ds0 := [4, 3, 2, 0, 0]) (cs := [_, _]) Z Z Z Z Z Z (Qe Z Z (Q7 (ds0 := [4, 3, 2, 0, 0]) (cs := [_, _, _, _, _]) Z Z Z Z Z Z (Zk (ds0 := [3, 2, 0]) (Df hs.1 hs.2 (hw.vs _ (QhK (Wa : x.u.toNat < w.length)) _ (QhK (Wa : i < (w[x.u.toNat]'Wa).cs.length))).1 (hw.vs _ (QhK (Wa : x.u.toNat < w.length)) _ (QhK (Wa : i < (w[x.u.toNat]'Wa).cs.length))).2) Z Z (.inr Z) Z Z (Q2 Z Z (JY (ds0 := [0]) Z Z Wi ⟨_, rfl, rfl, rfl, rfl, rfl⟩ Z Z Wc Z Z We We Z Z (Qe Z Z (Jd (ds0 := []) Z Z Z Z Z Z Z Z Z Z ?_))))))))))
  refine hK _ ?_
  refine Ql (ks7 Z Z Z Z Z Z Z (QN fun K hK => Q0 Z Z Wb (Qb Z (hK _ ?_))))
  refine Qk (i + 1) ?_ ?_ ?_
  ·exact le_trans (Gs (l := [3, 4, 5, 17, 18, 19, 900000]) (lH := [3, 4]) 31 100 5 (kp7 rfl rfl rfl rfl rfl rfl rfl) (Qa rfl (Qa rfl Qi)) rfl rfl rfl rfl rfl rfl rfl rfl) (QP (l := [3, 4, 5, 17, 18, 19, 900000]) (lH := [3, 4, 5, 100]) (kp7 rfl rfl rfl rfl rfl rfl rfl) (Qa rfl (Qa rfl (Qa rfl (Qa rfl Qi)))) rfl (by rw [Qfr Wa Wa, List.map_append, List.length_append] <;> rfl) rfl)
  ·omega
  ·omega
 ·rw [h1]
  simp only [qA] at h1
  refine QU (QB (Qv (QA (ks2 Z Z (Qd fun K hK => QD (cs := [_, _]) Z Z Z Z (Zf Z Z Z Z Z Z Z Z (kc1 hK Z ?_)))))))
  refine Qs (JS (cs := [.int .i64 x.u, .osl 100 ((hsL w x).take i).length]) Z Z Z Z ?_)
  exact L2 rfl rfl Wc (by rw [QhV Wa]; rfl)
end Go.Proofs
namespace M25
open Go Go.Abs M3
section
variable {w : Qm} {c : List Int} {l : Nat} {x : Zl}
theorem Qcn (hc : x.u.toNat < c.length) (h0 : 0 <= c[x.u.toNat]) (h1 : c[x.u.toNat].toNat < (hsL w x).length) : (hsL w x)[c[x.u.toNat].toNat] = mtP w c x := by
 rw [mtP, L8 hc, decide_eq_true h0, Bool.true_and, List.getD_eq_getElem?_getD, List.getElem?_eq_getElem h1]; rfl
theorem Qef (hc : x.u.toNat < c.length) (h0 : ¬ 0 <= c[x.u.toNat]) : mtP w c x = false := by
 rw [mtP, L8 hc, decide_eq_false h0]; rfl
theorem Ce (h : x.u <= (l : Int)) : mtL w c l x = mtP w c x := by rw [mtL, decide_eq_true h, Bool.true_and]
theorem Cf (h : ¬ x.u <= (l : Int)) : mtL w c l x = false := by rw [mtL, decide_eq_false h]; rfl
theorem KO {α : Type} {r : List α} {p : α -> Bool} {j : Nat} (h : j < r.length) : (r.take (j + 1)).any p = ((r.take j).any p || p r[j]) := by
 rw [List.take_succ_eq_append_getElem h, List.any_append]; simp
theorem S3 {α : Type} {r : List α} {p : α -> Bool} {j : Nat} (h : j < r.length) : (r.take (j + 1)).all p = ((r.take j).all p && p r[j]) := by
 rw [List.take_succ_eq_append_getElem h, List.all_append]; simp
theorem L0 {α : Type} {r : List α} {p : α -> Bool} {j : Nat} {b d : Bool} (h : j < r.length) (hb : b = (r.take j).any p) (hd : (b || p r[j]) = d) : d = (r.take (j + 1)).any p := by
 rw [KO h, <- hb, hd]
theorem Dw {r : List Zl} {a : Int} {u : Int} {j : Nat} (h : j < r.length) (ha : a = Pz u (r.take j)) : max a r[j].u = Pz u (r.take (j + 1)) := by
 rw [Qd1 h, <- ha]
theorem Bv {α : Type} {r : List α} {p : α -> Bool} {j : Nat} (h : (r.take j).all p = true) (hj : r.length <= j) : r.all p = true := by rwa [QhV hj] at h
theorem MD {α : Type} {r : List α} {p : α -> Bool} {j : Nat} {b : Bool} (h : (r.take j).any p = b) (hj : r.length <= j) : r.any p = b := by rwa [QhV hj] at h
/-! ### holds -/
section
variable {u : Nat} (hu : u < w.length) (huc : u < c.length) (hk : c[u].toNat < w[u].cs.length)
include hu huc hk
theorem SH : LF w c l u = (w[u].cs[c[u].toNat].ns.all (LA w c l u) && !(w[u].cs[c[u].toNat].bs.any (mtL w c l))) := by
 rw [LF, List.getElem?_eq_getElem hu]; simp only [Y0 huc, List.getElem?_eq_getElem hk]
theorem DS {y : CandT} (hy : w[u].cs[c[u].toNat] = y) (hul : u <= l) (hn : ¬ c[u] < 0) {k : Nat} (hkk : k < y.ns.length) {r : List Zl} (hr : y.ns[k] = r) (h1 : Pz (u : Int) r <= (l : Int)) (h2 : r.any (mtL w c l) = false) : Yx w c l = false := by
 rw [Bool.eq_false_iff]
 intro h
 rw [Yx, QhP] at h
 have := h u (Qh1.2 Wa)
 rw [Hs, Y0 huc, decide_eq_false hn, Bool.false_or, SH hu huc hk, hy, QhJ, QhP] at this
 have := this.1 y.ns[k] (QhK hkk)
 rw [hr, LA, decide_eq_false Wa, h2] at this
 cases this
theorem DQ {y : CandT} (hy : w[u].cs[c[u].toNat] = y) (hul : u <= l) (hn : ¬ c[u] < 0) {k : Nat} (hkk : k < y.bs.length) (h2 : mtL w c l y.bs[k] = true) : Yx w c l = false := by
 rw [Bool.eq_false_iff]
 intro h
 rw [Yx, QhP] at h
 have := h u (Qh1.2 Wa)
 rw [Hs, Y0 huc, decide_eq_false hn, Bool.false_or, SH hu huc hk, hy, QhJ, Bool.not_eq_true'] at this
 have h3 : y.bs.any (mtL w c l) = true := by rw [List.any_eq_true]; exact ⟨_, QhK hkk, h2⟩
 rw [this.2] at h3; cases h3
theorem B8 {y : CandT} (hy : w[u].cs[c[u].toNat] = y) (h : (List.range u).all (Hs w c l) = true) (h1 : y.ns.all (LA w c l u) = true) (h2 : y.bs.any (mtL w c l) = false) : (List.range (u + 1)).all (Hs w c l) = true := by
 rw [List.range_succ, List.all_append, h, Bool.true_and]
 simp only [List.all_cons, List.all_nil, Bool.and_true]
 rw [Hs, SH hu huc hk, hy, h1, h2]; simp
end
theorem Lt {u : Nat} (huc : u < c.length) (h : (List.range u).all (Hs w c l) = true) (hn : c[u] < 0) : (List.range (u + 1)).all (Hs w c l) = true := by
 rw [List.range_succ, List.all_append, h, Bool.true_and]
 simp only [List.all_cons, List.all_nil, Bool.and_true]
 rw [Hs, Y0 huc, decide_eq_true hn]; rfl
theorem DR {u : Nat} (h : (List.range u).all (Hs w c l) = true) (hu : (u : Int) = l + 1) : Yx w c l = true := by
 have : u = l + 1 := Wa
 subst this; exact h
theorem QcL {r : List Zl} {u : Nat} {a : Int} {b : Bool} (ha : a = Pz (u : Int) r) (hb : b = r.any (mtL w c l)) (h : ¬ a <= (l : Int) \/ b = true) : LA w c l u r = true := by
 rw [LA, <- ha, <- hb, Bool.or_eq_true, decide_eq_true_eq]
 exact h.imp (fun h => Wa) id
theorem CC {r : List Zl} {u j : Nat} {a : Int} {b : Bool} (ha : a = Pz (u : Int) (r.take j)) (hb : b = (r.take j).any (mtL w c l)) (hj : r.length <= j) (h : ¬ a <= (l : Int) \/ b = true) : LA w c l u r = true := by
 rw [QhV hj] at ha hb
 exact QcL ha hb h
theorem Lv {u : Nat} (hu : u < w.length) (huc : u < c.length) (hk : c[u].toNat < w[u].cs.length) {y : CandT} (hy : w[u].cs[c[u].toNat] = y) (hul : u <= l) (hn : ¬ c[u] < 0) {k : Nat} (hkk : k < y.ns.length) {j : Nat} {a : Int} {b : Bool} (ha : a = Pz (u : Int) (y.ns[k].take j)) (hb : b = (y.ns[k].take j).any (mtL w c l)) (hj : y.ns[k].length <= j) (h1 : a <= (l : Int)) (h2 : b = false) : Yx w c l = false := by
 rw [QhV hj] at ha hb
 exact DS hu huc hk hy hul hn hkk rfl (by rw [<- ha]; exact h1) (by rw [<- hb]; exact h2)
/-! ### wanted -/
section
variable {u : Nat} (hu : u < w.length)
include hu
theorem Ps {k : Nat} (hk : k < w[u].cs.length) : Fe w c l u k = ((decide (l < u) || decide (cA c u = (k : Int))) && w[u].cs[k].ns.any fun r => r.any (isL w c l)) := by
 rw [Fe, List.getElem?_eq_getElem hu]; simp only [List.getElem?_eq_getElem hk]
theorem QaK {k : Nat} (hk : k < w[u].cs.length) (h1 : l < u \/ cA c u = (k : Int)) {a : Nat} (ha : a < w[u].cs[k].ns.length) {r : List Zl} (hr : w[u].cs[k].ns[a] = r) {b : Nat} (hb : b < r.length) (h2 : isL w c l r[b] = true) : Ff w c l = true := by
 rw [Ff, List.any_eq_true]
 refine ⟨u, Qh1.2 hu, ?_⟩
 rw [Pt, List.getElem?_eq_getElem hu]
 simp only
 rw [List.any_eq_true]
 refine ⟨k, Qh1.2 hk, ?_⟩
 rw [Ps hu hk, QhJ, Bool.or_eq_true, decide_eq_true_eq, decide_eq_true_eq, List.any_eq_true]
 refine ⟨h1, _, QhK ha, ?_⟩
 rw [hr, List.any_eq_true]
 exact ⟨_, QhK hb, h2⟩
theorem LK {k : Nat} (hk : k < w[u].cs.length) (h : (List.range k).any (Fe w c l u) = false) (h1 : ¬ l < u) (h2 : cA c u ≠ (k : Int)) : (List.range (k + 1)).any (Fe w c l u) = false := by
 rw [List.range_succ, List.any_append, h, Bool.false_or]
 simp only [List.any_cons, List.any_nil, Bool.or_false]
 rw [Ps hu hk, decide_eq_false h1, decide_eq_false h2]; rfl
theorem QaH {k : Nat} (hk : k < w[u].cs.length) (h : (List.range k).any (Fe w c l u) = false) (h1 : (w[u].cs[k].ns.any fun r => r.any (isL w c l)) = false) : (List.range (k + 1)).any (Fe w c l u) = false := by
 rw [List.range_succ, List.any_append, h, Bool.false_or]
 simp only [List.any_cons, List.any_nil, Bool.or_false]
 rw [Ps hu hk, h1, Bool.and_false]
theorem QaI {k : Nat} (hk : (w[u].cs.length : Int) <= k) (hk2 : k <= w[u].cs.length) (h : (List.range u).any (Pt w c l) = false) (h1 : (List.range k).any (Fe w c l u) = false) : (List.range (u + 1)).any (Pt w c l) = false := by
 have : k = w[u].cs.length := Wa
 subst this
 rw [List.range_succ, List.any_append, h, Bool.false_or]
 simp only [List.any_cons, List.any_nil, Bool.or_false]
 rw [Pt, List.getElem?_eq_getElem hu]; exact h1
end
theorem QaJ {u : Nat} (h : (List.range u).any (Pt w c l) = false) (hu : (w.length : Int) <= u) (hu2 : u <= w.length) : Ff w c l = false := by
 have : u = w.length := Wa
 subst this; exact h
theorem DZ (hl : l < c.length) (hx : x.u = (l : Int)) (h1 : c[l].toNat < (hsL w x).length) : (hsL w x)[c[l].toNat] = isL w c l x := by
 rw [isL, decide_eq_true hx, Bool.true_and, Y0 hl, List.getD_eq_getElem?_getD, List.getElem?_eq_getElem h1]; rfl
theorem Qd9 (hx : ¬ x.u = (l : Int)) : isL w c l x = false := by rw [isL, decide_eq_false hx]; rfl
theorem Qcc (hl : l < w.length) (hx : x.u = (l : Int)) : (hsL w x).length = w[l].cs.length := by
 have e : x.u.toNat = l := Wa
 rw [Nw (Wa : x.u.toNat < w.length)]
 simp only [e]
/-! ### tidy -/
noncomputable def tidyB (w : Qm) (c : List Int) : Bool := @decide (tidyM w c = c) (Classical.propDecidable _)
theorem SP (h : tidyM w c = c) : tidyB w c = true := @decide_eq_true _ (Classical.propDecidable _) h
theorem QcX (h : ¬ tidyM w c = c) : tidyB w c = false := @decide_eq_false _ (Classical.propDecidable _) h
theorem C3 : tidyB w c = true ↔ tidyM w c = c := ⟨fun h => @of_decide_eq_true _ (Classical.propDecidable _) h, SP⟩
theorem QcY {j : Nat} (h : j < c.length) (h0 : 0 <= c[j]) (hn : nddB w c j = false) : tidyB w c = false := QcX fun he => by
 have : (tidyM w c)[j]? = c[j]? := by rw [he]
 rw [tidyM, List.getElem?_map, List.getElem?_range h, List.getElem?_eq_getElem h] at this
 simp only [Option.map_some, QhI, hn] at this
 rw [if_neg Wc] at this
 omega
theorem QaE (hb : ∀ j (h : j < c.length), -1 <= c[j]) (h : ∀ j (h : j < c.length), 0 <= c[j] -> nddB w c j = true) : tidyB w c = true := SP <| by
 apply List.ext_getElem
 ·simp [tidyM]
 ·intro j h1 h2
  simp only [tidyM, List.getElem_map, List.getElem_range]
  split
  ·exact Y0 h2
  ·rename_i hn
   by_cases h0 : 0 <= c[j]
   ·exact absurd (h j h2 h0) hn
   ·have := hb j h2; omega
structure BQ (w : Qm) (c : List Int) (o : List Bool) (q : List Int) (i : Nat) : Prop where
 nd : NdInv w c o
 cnt : q.length + Lx o = c.length
 on : ∀ j (h : j < q.length), 0 <= q[j] /\ onB o q[j].toNat = true
 all : ∀ u : Nat, onB o u = true -> ∃ j, ∃ h : j < q.length, q[j] = (u : Int)
 cl : ∀ j (h : j < q.length), j < i -> ClAt w c o q[j].toNat
theorem BQ.len {o : List Bool} {q : List Int} {i : Nat} (h : BQ w c o q i) : o.length = c.length := h.nd.len
theorem BQ.qlen {o : List Bool} {q : List Int} {i : Nat} (h : BQ w c o q i) : q.length <= c.length := by have := h.cnt; omega
theorem BQ.at {o : List Bool} {q : List Int} {i : Nat} (h : BQ w c o q i) {j : Nat} (hj : j < q.length) : 0 <= q[j] /\ q[j].toNat < c.length /\ Ndd w c q[j].toNat := by
 obtain ⟨h1, h2⟩ := h.on j hj
 have := Cm h2
 rw [h.len] at this
 exact ⟨h1, this, h.nd.snd _ h2⟩
theorem Qcx (n : Nat) : Lx (List.replicate n false) = n := by
 unfold Lx
 rw [List.countP_replicate]; simp
theorem BQ.first (h0 : 0 < c.length) (hc : 0 <= cA c 0) : BQ w c ((List.replicate c.length false).set 0 true) [0] 0 where
 nd := ⟨by simp, fun i hi => by
  rw [Z2 (by simpa using h0), HU, Bool.or_false, decide_eq_true_eq] at hi
  subst hi; exact .root hc, fun _ => by rw [Z2 (by simpa using h0)]; simp⟩
 cnt := by
  have := G7 (o := List.replicate c.length false) (i := 0) (by simpa using h0) Wc
  rw [Qcx] at this
  simp; omega
 on := fun j hj => by
  have : j = 0 := by simpa using hj
  subst this
  simp only [List.getElem_cons_zero]
  exact ⟨Int.le_refl _, by rw [Z2 (by simpa using h0)]; simp⟩
 all := fun u hu => by
  rw [Z2 (by simpa using h0), HU, Bool.or_false, decide_eq_true_eq] at hu
  subst hu; exact ⟨0, by simp, rfl⟩
 cl := fun j _ h => Wa
structure BQ1 (w : Qm) (c : List Int) (o : List Bool) (q : List Int) (i : Nat) (u : Int) (ns : List (List Zl)) (k : Nat) : Prop where
 b : BQ w c o q i
 hi : i < q.length
 cur : q[i] = u
 rows : RowsTo w c o ns k
theorem BQ.start {o : List Bool} {q : List Int} {i : Nat} (h : BQ w c o q i) (hi : i < q.length) (ns : List (List Zl)) : BQ1 w c o q i q[i] ns 0 := ⟨h, hi, rfl, fun _ _ h => absurd h (Nat.not_lt_zero _)⟩
theorem BQ1.next {o : List Bool} {q : List Int} {i : Nat} {u : Int} {ns : List (List Zl)} {k j : Nat} (h : BQ1 w c o q i u ns k) (hk : k < ns.length) (hr : RowTo w c o ns[k] j) (hj : ns[k].length <= j) : BQ1 w c o q i u ns (k + 1) := ⟨h.b, h.hi, h.cur, fun k' h1 h2 x hx hm => by
 by_cases e : k' = k
 ·subst e
  obtain ⟨m, hm1, rfl⟩ := List.mem_iff_getElem.1 hx
  exact hr m hm1 Wa hm
 ·exact h.rows k' h1 Wa x hx hm⟩
theorem BQ1.stop {o : List Bool} {q : List Int} {i : Nat} {u : Int} {ns : List (List Zl)} {k : Nat} (h : BQ1 w c o q i u ns k) (hk : ns.length <= k) (hns : GF w c u.toNat = ns) : BQ w c o q (i + 1) := ⟨h.b.nd, h.b.cnt, h.b.on, h.b.all, fun j hj hji => by
 by_cases e : j = i
 ·subst e
  rw [h.cur]
  intro r hr x hx hm
  rw [hns] at hr
  obtain ⟨m, hm1, rfl⟩ := List.mem_iff_getElem.1 hr
  exact h.rows m hm1 Wa x hx hm
 ·exact h.b.cl j hj Wa⟩
theorem BQ1.put {o : List Bool} {q : List Int} {i : Nat} {u : Int} {ns : List (List Zl)} {k j : Nat} (h : BQ1 w c o q i u ns k) (hk : k < ns.length) (hns : GF w c u.toNat = ns) (hr : RowTo w c o ns[k] j) (hj : j < ns[k].length) (hx0 : 0 <= ns[k][j].u) (hx1 : ns[k][j].u.toNat < o.length) (hoff : o[ns[k][j].u.toNat] = false) (hm : mtM w c ns[k][j] = true) :
  BQ1 w c (o.set ns[k][j].u.toNat true) (q ++ [ns[k][j].u]) i u ns k /\ RowTo w c (o.set ns[k][j].u.toNat true) ns[k] (j + 1) := by
 have hnd : Ndd w c ns[k][j].u.toNat := by
  refine .step (i := u.toNat) ?_ (by rw [hns]; exact QhK hk) (QhK hj) hm
  have := (h.b.at h.hi).2.2
  rwa [h.cur] at this
 have hcnt := G7 hx1 hoff
 have hmono : ∀ v, onB o v = true -> onB (o.set ns[k][j].u.toNat true) v = true := fun v hv => by rw [Z2 hx1, hv, Bool.or_true]
 refine ⟨⟨⟨h.b.nd.put hx1 hnd, by have := h.b.cnt; rw [List.length_append]; simp only [List.length_cons, List.length_nil]; omega, fun m hm1 => ?_, fun v hv => ?_, fun m hm1 hmi => ?_⟩, by rw [List.length_append]; have := h.hi; omega, by rw [List.getElem_append_left h.hi]; exact h.cur, fun k' h1 h2 x hx hmx => hmono _ (h.rows k' h1 h2 x hx hmx)⟩, fun m hm1 hm2 hmx => ?_⟩
 ·by_cases e : m < q.length
  ·rw [List.getElem_append_left e]
   exact ⟨(h.b.on m e).1, hmono _ (h.b.on m e).2⟩
  ·have : m = q.length := by simp at hm1; omega
   subst this
   simp only [List.getElem_concat_length]
   exact ⟨hx0, by rw [Z2 hx1]; simp⟩
 ·rw [Z2 hx1, Bool.or_eq_true, decide_eq_true_eq] at hv
  rcases hv with rfl | hv
  ·exact ⟨q.length, by simp, by simp; omega⟩
  ·obtain ⟨m, hm1, hm2⟩ := h.b.all v hv
   exact ⟨m, by simp; omega, by rw [List.getElem_append_left hm1]; exact hm2⟩
 ·have e : m < q.length := by have := h.hi; omega
  rw [List.getElem_append_left e]
  exact (h.b.cl m e hmi).mono hx1
 ·by_cases e : m = j
  ·subst e; rw [Z2 hx1]; simp
  ·exact hmono _ (hr m hm1 Wa hmx)
theorem RowTo.skip {o : List Bool} {r : List Zl} {j : Nat} (hr : RowTo w c o r j) (hj : j < r.length) (h : mtM w c r[j] = true -> onB o r[j].u.toNat = true) : RowTo w c o r (j + 1) := hr.next hj h
theorem BQ.stop {o : List Bool} {q : List Int} {i : Nat} (h : BQ w c o q i) (hi : q.length <= i) : o = nddL w c := h.nd.done fun u hu => by
 obtain ⟨j, hj, e⟩ := h.all u hu
 have := h.cl j hj Wa
 rw [e] at this
 exact this
theorem Qbd {o : List Bool} (ho : o = nddL w c) {j : Nat} (h : j < o.length) : o[j] = nddB w c j := by
 subst ho; exact Ch h
end
end M25
namespace Go.Proofs
open Go Go.Abs M3 M25
theorem Ym {w : Qm} {c : List Int} {hb : Bool} {x : Zl} (hc : x.u.toNat < c.length) (hx0 : 0 <= x.u) (hk : 0 <= c[x.u.toNat] -> c[x.u.toNat].toNat < (hsL w x).length) : Ok Tryd.prog 57 [.ptr [Zx w, Zp c, .bool hb, .junk], .agg (dWk w x)] (.bool (mtP w c x)) := by
 refine Ok.ofT ZL Tryd.func57 QgV (QhG Z) ?_
 show TW _ _ tf57.body _ _
 refine Qd fun K hK => Zs Z Z Z (Qb Z (kc2 hK Z Z ?_))
 refine Qd fun K hK => Qb Z (Ze Z Z (QX Z Z (QH (ds0 := [17, 16, 15, 14, 13, 12, 11, 10, 9, 8, 7, 6, 5, 4, 3, 2, 1, 0]) Z Z Z Z Z (Qe Z Z (QH (ds0 := [17, 16, 15, 14, 13, 12, 11, 10, 9, 8, 7, 6, 5, 4, 3, 2, 1, 0]) Z Z Z Z Z (QE Z Z Z Wa (QZ Wa Wa) Z (QH (ds0 := [15, 14, 13, 12, 11, 10, 9, 8, 7, 6, 5, 4, 3, 2, 1, 0]) Z Z Z Z Z (Fw Z Z (Qb Z ?_)))))))))
 refine Qr (g := 14) Z (fun h1 => ?_) (fun h1 => ?_)
 ·rw [h1]
  simp only [qA] at h1
  refine Qc Z (Qe Z Z (Qc Z (QH (ds0 := [3, 2, 1, 0]) Z Z Z Z Z (Qc Z (Qb Z (Qc Z (Ze Z Z (Qc Z (QX Z Z (Qc Z (QH (ds0 := [5, 4, 3, 2, 1, 0]) Z Z Z Z Z ?_)))))))))))
  refine Qc Z (Qe Z Z (Qc Z (QH (ds0 := [5, 4, 3, 2, 1, 0]) Z Z Z Z Z (Qc Z (QE Z Z Z Wa (QZ Wa Wa) Z (Qc Z (QH (ds0 := [3, 2, 1, 0]) Z Z Z Z Z (Qc Z (QE Z Z Z Wa (QZ Wa (by have := hk Wa; omega)) Z (Qc Z (QH (ds0 := [1, 0]) Z Z Z Z Z ?_)))))))))))
  refine Qh Z Z (Qb Z (kc1 hK Z ?_))
  refine Qs (Qg Z ?_)
  exact Qcn hc Wd (hk Wd)
 ·rw [h1]
  simp only [qA] at h1
  refine gn4 Z Z Z Z (gn4 Z Z Z Z (gn4 Z Z Z Z ?_))
  refine Qh Z Z (Qb Z (kc1 hK Z ?_))
  refine Qs (Qg Z ?_)
  exact (Qef hc Wa).symm
theorem Dc {w : Qm} {c : List Int} {hb : Bool} {l : Nat} {x : Zl} (hcl : c.length = w.length) (hbd : ∀ u (h : u < w.length) (h2 : u < c.length), u <= l -> c[u] < w[u].cs.length) (hx : 0 <= x.u /\ x.u < w.length) (hle : x.u <= (l : Int)) : Ok Tryd.prog 57 [.ptr [Zx w, Zp c, .bool hb, .junk], .agg (dWk w x)] (.bool (mtP w c x)) :=
 Ym Wa hx.1 fun h0 => by
  rw [Nw Wa]
  have := hbd x.u.toNat Wa Wa Wa
  omega
theorem Xq {w : Qm} (hw : WSm w) (hr : WIn w) {c : List Int} (hcl : c.length = w.length) {hb : Bool} {l : Nat} (hl : l < w.length) (hbd : ∀ u (h : u < w.length) (h2 : u < c.length), u <= l -> c[u] < w[u].cs.length) : Ok Tryd.prog 35 [.ptr [Zx w, Zp c, .bool hb, .junk], .int .i64 l] (.bool (Yx w c l)) := by
 refine Ok.ofT ZL Tryd.func35 Qgz (QhG Z) ?_
 show TW _ _ tf35.body _ _
 have hwl := hw.len
 refine Qd fun K hK => Qb Z (kc2 hK Z Z ?_)
 refine Qz ?_ -- 0
 refine Qd fun K hK => Qb Z (kc3 hK Z Z Z ?_)
 refine Qw ?_
 refine Q5 (ι := Nat) (fun u => ⟨[(0, .ptr [Zx w, Zp c, .bool hb, .junk]), (1, .int .i64 l), (5, .int .i64 u)], []⟩) (fun u => u <= l + 1 /\ (List.range u).all (Hs w c l) = true) (fun u => l + 1 - u) 0 ?_ ?_ ?_
 ·exact Q3 (kp3 rfl rfl rfl)
 ·exact ⟨QhR _, rfl⟩
 intro u hI
 refine Qz ?_ -- 1
 refine Qd fun K hK => mv2 Z Z (SZ Z Z (kc4 hK Z Z Z Z ?_))
 refine Qu Z (fun h1 => ?_) (fun h1 => ?_)
 ·rw [h1]
  simp only [qA] at h1
  refine Qq (ks3 Z Z Z ?_)
  refine Qz ?_ -- 2
  refine Qw ?_
  refine Qz ?_ -- 3
  refine Qd fun K hK => Qb Z (Ze Z Z (QX Z Z (Qt Z Z Z (Qb Z (QE Z Z Z Wa (QR Wa) Z (Qt Z Z Z (ZI Z Z (kc4 hK Z Z Z Z ?_))))))))
  refine Qu Z (fun h2 => ?_) (fun h2 => ?_)
  ·rw [h2]
   simp only [qA] at h2
   refine QU (QB (QA (ks3 Z Z Z (QN fun K hK => Qb Z (Q0 Z Z Wb (Qb Z (hK _ ?_)))))))
   refine Qk (u + 1) ?_ ?_ ?_
   ·exact Q3 (kp3 rfl rfl rfl)
   ·exact ⟨Wa, Lt Wa hI.2 h2⟩
   ·omega
  ·rw [h2]
   simp only [qA] at h2
   have huw : u < w.length := Wa; have huc : u < c.length := Wa; have hk0 := hbd u huw huc Wa; have hp : c[u].toNat < w[u].cs.length := Wa; have hns := hw.ns _ (QhK huw) _ (QhK hp); have hnl := hw.nl _ (QhK huw) _ (QhK hp); have hnr := hr.nr _ (QhK huw) _ (QhK hp); have hbr := hr.bw _ (QhK huw) _ (QhK hp); obtain ⟨y, hy⟩ : ∃ y, w[u].cs[c[u].toNat] = y := ⟨_, rfl⟩; rw [hy] at hns hnl hnr hbr
   refine Qq (ks3 Z Z Z (Qd fun K hK => Qb Z (Ze Z Z (QX Z Z (QH (ds0 := [12, 11, 3, 2, 0, 0]) Z Z Z Z Z (Qb Z (QE Z Z Z Wa (QR Wa) Z (QH (ds0 := [3, 2, 0, 0]) Z Z Z Z Z (Qb Z (Ze Z Z ?_))))))))))
   refine QX Z Z (QH (ds0 := [5, 4, 3, 2, 0, 0]) Z Z Z Z Z (Qb Z (QE Z Z Z Wa (QR Wa) Z (QH (ds0 := [3, 2, 0, 0]) Z Z Z Z Z (QE Z Z Z Wa (QZ Wa Wa) Z (Q7 (ds0 := [0, 0]) (cs := [_, _]) Z Z Z Z Z Z (Zu Z (Jd (ds0 := []) Z Z Z Z Z Z Z Z Z Z (kc4 hK Z Z Z Z ?_)))))))))
   refine Qz ?_ -- 4
   refine Qd fun K hK => Qe Z Z (Qt Z Z Z (QY Z QM (Qb Z (kc7 hK Z Z Z Z Z Z Z ?_))))
   refine Qw ?_
   refine Q5 (ι := Nat) (fun k => ⟨[(0, .ptr [Zx w, Zp c, .bool hb, .junk]), (1, .int .i64 l), (5, .int .i64 u), (6, .ref 6 0 0), (45, .sl (y.ns.map fun r => [NZ w r])), (46, .int .i64 y.ns.length), (47, .int .i64 k)], [(6, ⟨[[.sl (y.ns.map fun r => [NZ w r]), NZ w y.bs]], 2, 78, true⟩)]⟩) (fun k => k <= y.ns.length /\ (y.ns.take k).all (LA w c l u) = true) (fun k => y.ns.length - k) 0 ?_ ?_ ?_
   ·exact QP (l := [0, 1, 5, 6, 45, 46, 47]) (lH := [6]) (kp7 rfl rfl rfl rfl rfl rfl rfl) (Qa rfl Qi) (by rw [<- hy] <;> rfl) (by rw [<- hy] <;> rfl) rfl
   ·exact ⟨QhR _, rfl⟩
   intro k hQ
   have hnk := fun (h : k < y.ns.length) => hnl _ (QhK h)
   refine Qd fun K hK => ZI Z Z (kc8 hK Z Z Z Z Z Z Z Z ?_)
   refine Qz ?_ -- 5
   refine Qu Z (fun h3 => ?_) (fun h3 => ?_)
   ·rw [h3]
    simp only [qA] at h3
    refine Qq (ks7 Z Z Z Z Z Z Z ?_)
    refine Qz ?_ -- 6
    refine Qw (Qd fun K hK => QE Z Z Z Wa (QR Wa) Z (Qt Z Z Z (Qb Z (kc8 hK Z Z Z Z Z Z Z Z ?_))))
    refine Qd fun K hK => mv2 Z Z (Qb Z (kc hK (HQ Z Z Z Z Z Z Z Z Z Z) ?_))
    refine Qz ?_ -- 7
    refine Qd fun K hK => Qb Z (QY Z QM (Qb Z (kc hK (NX Z Z Z Z Z Z Z Z Z Z Z Z) ?_)))
    refine Qw ?_
    refine Q5 (ι := Nat × Int × Bool) (fun j => ⟨[(0, .ptr [Zx w, Zp c, .bool hb, .junk]), (1, .int .i64 l), (5, .int .i64 u), (6, .ref 6 0 0), (9, .int .i64 j.2.1), (10, .bool j.2.2), (45, .sl (y.ns.map fun r => [NZ w r])), (46, .int .i64 y.ns.length), (47, .int .i64 k), (52, NZ w (y.ns[k]'Wa)), (53, .int .i64 (y.ns[k]'Wa).length), (54, .int .i64 j.1)], [(6, ⟨[[.sl (y.ns.map fun r => [NZ w r]), NZ w y.bs]], 2, 78, true⟩)]⟩) (fun j => j.1 <= (y.ns[k]'Wa).length /\ j.2.1 = Pz (u : Int) ((y.ns[k]'Wa).take j.1) /\ j.2.2 = ((y.ns[k]'Wa).take j.1).any (mtL w c l)) (fun j => (y.ns[k]'Wa).length - j.1) (0, (u : Int), false) ?_ ?_ ?_
    ·exact QP (l := [0, 1, 5, 6, 9, 10, 45, 46, 47, 52, 53, 54]) (lH := [6]) (NX rfl rfl rfl rfl rfl rfl rfl rfl rfl rfl rfl rfl) (Qa rfl Qi) rfl rfl rfl
    ·exact ⟨QhR _, rfl, rfl⟩
    intro j hJ
    have hnk1 := hnk Wa
    refine Qd fun K hK => ZI Z Z (kc hK (Qde Z Z Z Z Z Z Z Z Z Z Z Z Z) ?_)
    refine Qz ?_ -- 8
    refine Qu Z (fun h4 => ?_) (fun h4 => ?_)
    ·rw [h4]
     simp only [qA] at h4
     refine Qq (QJ (NX Z Z Z Z Z Z Z Z Z Z Z Z) ?_)
     refine Qz ?_ -- 9
     refine Qw (Qd fun K hK => QE Z Z Z Wa (QR Wa) Z (QD (cs := [_, _]) Z Z Z Z (Zu Z (Zf Z Z Z Z Z Z Z Z (kc hK (Qde Z Z Z Z Z Z Z Z Z Z Z Z Z) ?_)))))
     refine Qd fun K hK => Qb Z (Qe Z Z (Qt Z Z Z (Qe1 Z Z (Qb Z (kc hK (Qde Z Z Z Z Z Z Z Z Z Z Z Z Z) ?_)))))
     refine QN fun K hK => mv2 Z Z ?_
     refine Qr (g := 63) Z (fun h5 => ?_) (fun h5 => ?_)
     ·rw [h5]
      refine gn4 Z Z Z Z (Yk Z (Qo Z (Qo Z (Qo Z (Yk Z (Qh Z Z (Qb Z (hK _ ?_))))))))
      refine Ql (QJ (NX Z Z Z Z Z Z Z Z Z Z Z Z) (QN fun K hK => Q0 Z Z Wb (Qb Z (hK _ ?_))))
      refine Qk (j.1 + 1, max j.2.1 ((y.ns[k]'Wa)[j.1]'Wa).u, true) ?_ ?_ ?_
      ·exact QP (l := [0, 1, 5, 6, 9, 10, 45, 46, 47, 52, 53, 54]) (lH := [6]) (NX rfl rfl rfl rfl rfl rfl rfl rfl rfl rfl rfl rfl) (Qa rfl Qi) rfl rfl rfl
      ·exact ⟨Wa, Dw Wa hJ.2.1, L0 Wa hJ.2.2 (by rw [h5, Bool.true_or])⟩
      ·show (y.ns[k]'Wa).length - (j.1 + 1) < (y.ns[k]'Wa).length - j.1; omega
     ·rw [h5]
      refine Qc Z (Qe Z Z (Qc Z (Qt Z Z Z (Qc Z (Qb Z (Qc Z (SZ Z Z (Qc Z (Qb Z ?_)))))))))
      refine Qr (g := 68) Z (fun h6 => ?_) (fun h6 => ?_)
      ·rw [h6]
       simp only [qA] at h6
       refine Qc Z (Qb Z (Qc Z (QD (cs := [_, _]) Z Z Z Z (Qc Z (QK (Dc hcl hbd (hnr _ (QhK (Wa : k < y.ns.length)) _ (QhK (Wa : j.1 < (y.ns[k]'Wa).length))) Wa) Z Z (.inr Z) (Qc Z (Qh Z Z (Qh Z Z (Qb Z (hK _ ?_))))))))))
       refine Ql (QJ (NX Z Z Z Z Z Z Z Z Z Z Z Z) (QN fun K hK => Q0 Z Z Wb (Qb Z (hK _ ?_))))
       refine Qk (j.1 + 1, max j.2.1 ((y.ns[k]'Wa)[j.1]'Wa).u, mtP w c ((y.ns[k]'Wa)[j.1]'Wa)) ?_ ?_ ?_
       ·exact QP (l := [0, 1, 5, 6, 9, 10, 45, 46, 47, 52, 53, 54]) (lH := [6]) (NX rfl rfl rfl rfl rfl rfl rfl rfl rfl rfl rfl rfl) (Qa rfl Qi) rfl rfl rfl
       ·exact ⟨Wa, Dw Wa hJ.2.1, L0 Wa hJ.2.2 (by rw [h5, Bool.false_or, Ce Wa])⟩
       ·show (y.ns[k]'Wa).length - (j.1 + 1) < (y.ns[k]'Wa).length - j.1; omega
      ·rw [h6]
       simp only [qA] at h6
       refine gn3 Z Z Z (Qc Z (Qh Z Z (Qh Z Z (Qb Z (hK _ ?_)))))
       refine Ql (QJ (NX Z Z Z Z Z Z Z Z Z Z Z Z) (QN fun K hK => Q0 Z Z Wb (Qb Z (hK _ ?_))))
       refine Qk (j.1 + 1, max j.2.1 ((y.ns[k]'Wa)[j.1]'Wa).u, false) ?_ ?_ ?_
       ·exact QP (l := [0, 1, 5, 6, 9, 10, 45, 46, 47, 52, 53, 54]) (lH := [6]) (NX rfl rfl rfl rfl rfl rfl rfl rfl rfl rfl rfl rfl) (Qa rfl Qi) rfl rfl rfl
       ·exact ⟨Wa, Dw Wa hJ.2.1, L0 Wa hJ.2.2 (by rw [h5, Bool.false_or, Cf Wa])⟩
       ·show (y.ns[k]'Wa).length - (j.1 + 1) < (y.ns[k]'Wa).length - j.1; omega
    ·rw [h4]
     simp only [qA] at h4
     refine QU (QB (Qv (QA (ks9 Z Z Z Z Z Z Z Z Z (Qd fun K hK => mv2 Z Z (SZ Z Z (Qb Z ?_)))))))
     refine Qr (g := 78) Z (fun h7 => ?_) (fun h7 => ?_)
     ·rw [h7]
      simp only [qA] at h7
      refine Qc Z (Qb Z (Qc Z (Zm Z (Qh Z Z (kc8 hK Z Z Z Z Z Z Z Z ?_)))))
      refine Qu Z (fun h8 => ?_) (fun h8 => ?_)
      ·rw [h8]
       simp only [qA] at h8
       refine Qd fun K hK => Qb Z (kc1 hK Z ?_)
       refine Qs (Qj (Qf (QC (Qj (Qf (Qj (Qf (QC (Qj (Qf (Qg Z ?_)))))))))))
       exact (Lv huw huc hp hy Wa Wa Wa hJ.2.1 hJ.2.2 Wa Wa h8).symm
      ·rw [h8]
       simp only [qA] at h8
       refine Qq (Ql (ks7 Z Z Z Z Z Z Z (QN fun K hK => Q0 Z Z Wb (Qb Z (hK _ ?_)))))
       refine Qk (k + 1) ?_ ?_ ?_
       ·exact QP (l := [0, 1, 5, 6, 45, 46, 47]) (lH := [6]) (kp7 rfl rfl rfl rfl rfl rfl rfl) (Qa rfl Qi) rfl rfl rfl
       ·exact ⟨Wa, by rw [S3 (r := y.ns) (j := k) Wa, hQ.2, Bool.true_and]; exact CC hJ.2.1 hJ.2.2 Wa (by exact .inr h8)⟩
       ·omega
     ·rw [h7]
      simp only [qA] at h7
      refine gn2 Z Z (Qh Z Z (kc8 hK Z Z Z Z Z Z Z Z ?_))
      refine Zg Z (Qq (Ql (ks7 Z Z Z Z Z Z Z (QN fun K hK => Q0 Z Z Wb (Qb Z (hK _ ?_))))))
      refine Qk (k + 1) ?_ ?_ ?_
      ·exact QP (l := [0, 1, 5, 6, 45, 46, 47]) (lH := [6]) (kp7 rfl rfl rfl rfl rfl rfl rfl) (Qa rfl Qi) rfl rfl rfl
      ·exact ⟨Wa, by rw [S3 (r := y.ns) (j := k) Wa, hQ.2, Bool.true_and]; exact CC hJ.2.1 hJ.2.2 Wa (by exact .inl h7)⟩
      ·omega
   ·rw [h3]
    simp only [qA] at h3
    refine QU (QB (Qv (QA (ks4 Z Z Z Z (Qd fun K hK => Qe Z Z (Qt Z Z Z (QY Z QM (Qb Z (kc6 hK Z Z Z Z Z Z ?_)))))))))
    refine Qw ?_
    refine Q5 (ι := Nat) (fun i => ⟨[(0, .ptr [Zx w, Zp c, .bool hb, .junk]), (1, .int .i64 l), (5, .int .i64 u), (84, NZ w y.bs), (85, .int .i64 y.bs.length), (86, .int .i64 i)], []⟩) (fun i => i <= y.bs.length /\ (y.bs.take i).any (mtL w c l) = false) (fun i => y.bs.length - i) 0 ?_ ?_ ?_
    ·exact QP (l := [0, 1, 5, 84, 85, 86]) (lH := []) (kp6 rfl rfl rfl rfl rfl rfl) Qi rfl rfl rfl
    ·exact ⟨QhR _, rfl⟩
    intro i hB
    refine Qd fun K hK => ZI Z Z (kc7 hK Z Z Z Z Z Z Z ?_)
    refine Qz ?_ -- 10
    refine Qu Z (fun h9 => ?_) (fun h9 => ?_)
    ·rw [h9]
     simp only [qA] at h9
     refine Qq (ks6 Z Z Z Z Z Z ?_)
     refine Qz ?_ -- 11
     refine Qw (Qd fun K hK => QE Z Z Z Wa (QR Wa) Z (QD (cs := [_, _]) Z Z Z Z (Zu Z (Zf Z Z Z Z Z Z Z Z (kc7 hK Z Z Z Z Z Z Z ?_)))))
     refine Qd fun K hK => Qe Z Z (Qt Z Z Z (Qb Z (SZ Z Z (Qb Z ?_))))
     refine Qr (g := 94) Z (fun h10 => ?_) (fun h10 => ?_)
     ·rw [h10]
      simp only [qA] at h10
      refine Qc Z (Qb Z (Qc Z (QD (cs := [_, _]) Z Z Z Z (Qc Z (QK (Dc hcl hbd (hbr _ (QhK (Wa : i < y.bs.length))) Wa) Z Z (.inr Z) (Qh Z Z (kc7 hK Z Z Z Z Z Z Z ?_)))))))
      refine Qu Z (fun h11 => ?_) (fun h11 => ?_)
      ·rw [h11]
       refine Qd fun K hK => Qb Z (kc1 hK Z ?_)
       refine Qs (Qj (Qf (QC (Qj (Qj (Qf (QC (Qj (Qf (Qg Z ?_))))))))))
       exact (DQ (k := i) huw huc hp hy Wa Wa Wa (by rw [Ce Wa]; exact h11)).symm
      ·rw [h11]
       refine Qq (Ql (ks6 Z Z Z Z Z Z (QN fun K hK => Q0 Z Z Wb (Qb Z (hK _ ?_)))))
       refine Qk (i + 1) ?_ ?_ ?_
       ·exact QP (l := [0, 1, 5, 84, 85, 86]) (lH := []) (kp6 rfl rfl rfl rfl rfl rfl) Qi rfl rfl rfl
       ·exact ⟨Wa, by rw [KO (r := y.bs) (j := i) Wa, hB.2, Bool.false_or, Ce Wa]; exact h11⟩
       ·omega
     ·rw [h10]
      simp only [qA] at h10
      refine gn3 Z Z Z (Qh Z Z (kc7 hK Z Z Z Z Z Z Z ?_))
      refine Zg Z (Qq (Ql (ks6 Z Z Z Z Z Z (QN fun K hK => Q0 Z Z Wb (Qb Z (hK _ ?_))))))
      refine Qk (i + 1) ?_ ?_ ?_
      ·exact QP (l := [0, 1, 5, 84, 85, 86]) (lH := []) (kp6 rfl rfl rfl rfl rfl rfl) Qi rfl rfl rfl
      ·exact ⟨Wa, by rw [KO (r := y.bs) (j := i) Wa, hB.2, Bool.false_or, Cf Wa]⟩
      ·omega
    ·rw [h9]
     simp only [qA] at h9
     refine QU (QB (Qv (QA (Ql (ks3 Z Z Z (QN fun K hK => Qb Z (Q0 Z Z Wb (Qb Z (hK _ ?_)))))))))
     refine Qk (u + 1) ?_ ?_ ?_
     ·exact Q3 (kp3 rfl rfl rfl)
     ·exact ⟨Wa, B8 huw huc hp hy hI.2 (Bv hQ.2 Wa) (MD hB.2 Wa)⟩
     ·omega
 ·rw [h1]
  simp only [qA] at h1
  refine QU (QB (Qv (QA (QJ (QL) (Qd fun K hK => Qb Z (kc1 hK Z ?_))))))
  refine Qs (Qg Z ?_)
  exact (DR hI.2 Wa).symm
open Go Go.Abs M3 M25
theorem Xh {w : Qm} (hw : WSm w) (hr : WIn w) {c : List Int} (hcl : c.length = w.length) {hb : Bool} {l : Nat} (hl : l < w.length) (hc0 : 0 <= c[l]'Wa) (hck : (c[l]'Wa) < (w[l]'Wa).cs.length) : Ok Tryd.prog 36 [.ptr [Zx w, Zp c, .bool hb, .junk], .int .i64 l] (.bool (Ff w c l)) := by
 refine Ok.ofT ZL Tryd.func36 QgA (QhG Z) ?_
 show TW _ _ tf36.body _ _
 have hwl := hw.len
 refine Qd fun K hK => Qb Z (kc2 hK Z Z ?_)
 refine Qz ?_ -- 0
 refine Qd fun K hK => Qb Z (Ze Z Z (QX Z Z (Qt Z Z Z (QY Z QM (Qb Z (kc5 hK Z Z Z Z Z ?_))))))
 refine Qw ?_
 refine Q5 (ι := Nat) (fun u => ⟨[(0, .ptr [Zx w, Zp c, .bool hb, .junk]), (1, .int .i64 l), (16, Zx w), (17, .int .i64 w.length), (18, .int .i64 u)], []⟩) (fun u => u <= w.length /\ (List.range u).any (Pt w c l) = false) (fun u => w.length - u) 0 ?_ ?_ ?_
 ·exact Q3 (kp5 rfl rfl rfl rfl rfl)
 ·exact ⟨QhR _, rfl⟩
 intro u hI
 have hcu := fun (h : u < w.length) => hw.cs _ (QhK h)
 refine Qd fun K hK => ZI Z Z (kc6 hK Z Z Z Z Z Z ?_)
 refine Qz ?_ -- 1
 refine Qu Z (fun h1 => ?_) (fun h1 => ?_)
 ·rw [h1]
  simp only [qA] at h1
  refine Qq (ks5 Z Z Z Z Z ?_)
  refine Qz ?_ -- 2
  refine Qw (Qd fun K hK => Qb Z (QE Z Z Z Wa (QR Wa) Z (Qt Z Z Z (mv2 Z Z (kc7 hK Z Z Z Z Z Z Z ?_)))))
  refine Qd fun K hK => Qb Z (QY Z QM (Qb Z (kc9 hK Z Z Z Z Z Z Z Z Z ?_)))
  refine Qw ?_
  refine Q5 (ι := Nat) (fun k => ⟨[(0, .ptr [Zx w, Zp c, .bool hb, .junk]), (1, .int .i64 l), (5, .int .i64 u), (16, Zx w), (17, .int .i64 w.length), (18, .int .i64 u), (23, Jy w (w[u]'Wa)), (24, .int .i64 (w[u]'Wa).cs.length), (25, .int .i64 k)], []⟩) (fun k => k <= (w[u]'Wa).cs.length /\ (List.range k).any (Fe w c l u) = false) (fun k => (w[u]'Wa).cs.length - k) 0 ?_ ?_ ?_
  ·exact QP (l := [0, 1, 5, 16, 17, 18, 23, 24, 25]) (lH := []) (kp9 rfl rfl rfl rfl rfl rfl rfl rfl rfl) Qi rfl rfl rfl
  ·exact ⟨QhR _, rfl⟩
  intro k hQ
  have hcu1 := hcu Wa
  have hns := fun (h : k < (w[u]'Wa).cs.length) => hw.ns _ (QhK (Wa : u < w.length)) _ (QhK h)
  have hnl := fun (h : k < (w[u]'Wa).cs.length) => hw.nl _ (QhK (Wa : u < w.length)) _ (QhK h)
  refine Qd fun K hK => ZI Z Z (kc hK (HQ Z Z Z Z Z Z Z Z Z Z) ?_)
  refine Qz ?_ -- 3
  refine Qu Z (fun h2 => ?_) (fun h2 => ?_)
  ·rw [h2]
   simp only [qA] at h2
   refine Qq (ks9 Z Z Z Z Z Z Z Z Z ?_)
   refine Qz ?_ -- 4
   refine Qw (Qd fun K hK => Qb Z (QE Z Z Z Wa (QR Wa) Z (QD (cs := [_, _]) Z Z Z Z (Zu Z (Qb Z (Zf Z Z Z Z Z Z Z Z (kc hK (FA Z Z Z Z Z Z Z Z Z Z Z) ?_)))))))
   refine Fh (ι := Unit) (fun _ => ⟨[(0, .ptr [Zx w, Zp c, .bool hb, .junk]), (1, .int .i64 l), (5, .int .i64 u), (8, .ref 8 0 0), (16, Zx w), (17, .int .i64 w.length), (18, .int .i64 u), (23, Jy w (w[u]'Wa)), (24, .int .i64 (w[u]'Wa).cs.length), (25, .int .i64 k)], [(8, ⟨[[.sl ((((w[u]'Wa).cs[k]'Wa).ns).map fun r => [NZ w r]), NZ w ((w[u]'Wa).cs[k]'Wa).bs]], 2, 78, true⟩)]⟩) (fun _ => (l < u \/ cA c u = (k : Int))) ?_ ?_
   ·skip
    refine Qd fun K hK => mv2 Z Z (SZ Z Z (Qb Z ?_))
    refine Qr (g := 33) Z (fun h3 => ?_) (fun h3 => ?_)
    ·rw [h3]
     simp only [qA] at h3
     refine Qc Z (Qb Z (Qc Z (Ze Z Z (Qc Z (QX Z Z (Qc Z (Qt Z Z Z (Qc Z (Qb Z (Qc Z (QE Z Z Z Wa (QR Wa) Z ?_)))))))))))
     refine Qc Z (Qt Z Z Z (Qc Z (Qb Z (Qc Z (Z7 Z Z (Qh Z Z (kc hK (FA Z Z Z Z Z Z Z Z Z Z Z) ?_)))))))
     refine Qu Z (fun h4 => ?_) (fun h4 => ?_)
     ·rw [h4]
      simp only [qA] at h4
      refine QU (Kz (QA (ks9 Z Z Z Z Z Z Z Z Z (QN fun K hK => Q0 Z Z Wb (Qb Z (hK _ ?_))))))
      refine Qk (k + 1) ?_ ?_ ?_
      ·exact QP (l := [0, 1, 5, 16, 17, 18, 23, 24, 25]) (lH := []) (kp9 rfl rfl rfl rfl rfl rfl rfl rfl rfl) Qi rfl rfl rfl
      ·exact ⟨Wa, LK Wa Wa hQ.2 Wa (by rw [Y0 Wa]; omega)⟩
      ·omega
     ·rw [h4]
      simp only [qA] at h4
      refine Qq ?_
      refine Q9 () ?_ ?_
      ·exact QP (l := [0, 1, 5, 8, 16, 17, 18, 23, 24, 25]) (lH := [8]) (HQ rfl rfl rfl rfl rfl rfl rfl rfl rfl rfl) (Qa rfl Qi) rfl rfl rfl
      ·exact .inr (by rw [Y0 Wa]; omega)
    ·rw [h3]
     simp only [qA] at h3
     refine gn4 Z Z Z Z (gn4 Z Z Z Z (Yk Z (Qh Z Z (kc hK (FA Z Z Z Z Z Z Z Z Z Z Z) ?_))))
     refine Zg Z (Qq ?_)
     refine Q9 () ?_ ?_
     ·exact QP (l := [0, 1, 5, 8, 16, 17, 18, 23, 24, 25]) (lH := [8]) (HQ rfl rfl rfl rfl rfl rfl rfl rfl rfl rfl) (Qa rfl Qi) rfl rfl rfl
     ·exact .inl Wa
   intro _ hJ
   refine Qd fun K hK => Qe Z Z (Qt Z Z Z (QY Z QM (Qb Z (kc hK (NX Z Z Z Z Z Z Z Z Z Z Z Z) ?_))))
   refine Qw ?_
   have hns1 := hns Wa
   refine Q5 (ι := Nat) (fun a => ⟨[(0, .ptr [Zx w, Zp c, .bool hb, .junk]), (1, .int .i64 l), (5, .int .i64 u), (16, Zx w), (17, .int .i64 w.length), (18, .int .i64 u), (23, Jy w (w[u]'Wa)), (24, .int .i64 (w[u]'Wa).cs.length), (25, .int .i64 k), (45, .sl ((((w[u]'Wa).cs[k]'Wa).ns).map fun r => [NZ w r])), (46, .int .i64 (((w[u]'Wa).cs[k]'Wa).ns).length), (47, .int .i64 a)], []⟩) (fun a => a <= (((w[u]'Wa).cs[k]'Wa).ns).length /\ ((((w[u]'Wa).cs[k]'Wa).ns).take a).any (fun r => r.any (isL w c l)) = false) (fun a => (((w[u]'Wa).cs[k]'Wa).ns).length - a) 0 ?_ ?_ ?_
   ·exact QP (l := [0, 1, 5, 16, 17, 18, 23, 24, 25, 45, 46, 47]) (lH := []) (NX rfl rfl rfl rfl rfl rfl rfl rfl rfl rfl rfl rfl) Qi rfl rfl rfl
   ·exact ⟨QhR _, rfl⟩
   intro a hA
   have hra := fun (h : a < (((w[u]'Wa).cs[k]'Wa).ns).length) => hnl Wa _ (QhK h)
   refine Qd fun K hK => ZI Z Z (kc hK (Qde Z Z Z Z Z Z Z Z Z Z Z Z Z) ?_)
   refine Qz ?_ -- 6
   refine Qu Z (fun h5 => ?_) (fun h5 => ?_)
   ·rw [h5]
    simp only [qA] at h5
    refine Qq (QJ (NX Z Z Z Z Z Z Z Z Z Z Z Z) ?_)
    refine Qz ?_ -- 7
    refine Qw (Qd fun K hK => QE Z Z Z Wa (QR Wa) Z (Qt Z Z Z (Qb Z (kc hK (Qde Z Z Z Z Z Z Z Z Z Z Z Z Z) ?_))))
    refine Qd fun K hK => Qb Z (QY Z QM (Qb Z (kc hK (RR Z Z Z Z Z Z Z Z Z Z Z Z Z Z Z) ?_)))
    refine Qw ?_
    have hra1 := hra Wa
    refine Q5 (ι := Nat) (fun b => ⟨[(0, .ptr [Zx w, Zp c, .bool hb, .junk]), (1, .int .i64 l), (5, .int .i64 u), (16, Zx w), (17, .int .i64 w.length), (18, .int .i64 u), (23, Jy w (w[u]'Wa)), (24, .int .i64 (w[u]'Wa).cs.length), (25, .int .i64 k), (45, .sl ((((w[u]'Wa).cs[k]'Wa).ns).map fun r => [NZ w r])), (46, .int .i64 (((w[u]'Wa).cs[k]'Wa).ns).length), (47, .int .i64 a), (51, NZ w ((((w[u]'Wa).cs[k]'Wa).ns)[a]'Wa)), (52, .int .i64 ((((w[u]'Wa).cs[k]'Wa).ns)[a]'Wa).length), (53, .int .i64 b)], []⟩) (fun b => b <= ((((w[u]'Wa).cs[k]'Wa).ns)[a]'Wa).length /\ (((((w[u]'Wa).cs[k]'Wa).ns)[a]'Wa).take b).any (isL w c l) = false) (fun b => ((((w[u]'Wa).cs[k]'Wa).ns)[a]'Wa).length - b) 0 ?_ ?_ ?_
    ·exact QP (l := [0, 1, 5, 16, 17, 18, 23, 24, 25, 45, 46, 47, 51, 52, 53]) (lH := []) (RR rfl rfl rfl rfl rfl rfl rfl rfl rfl rfl rfl rfl rfl rfl rfl) Qi rfl rfl rfl
    ·exact ⟨QhR _, rfl⟩
    intro b hB
    refine Qd fun K hK => ZI Z Z (kc hK (Qa5 Z Z Z Z Z Z Z Z Z Z Z Z Z Z Z Z) ?_)
    refine Qz ?_ -- 8
    refine Qu Z (fun h6 => ?_) (fun h6 => ?_)
    ·rw [h6]
     simp only [qA] at h6
     refine Qq (QJ (RR Z Z Z Z Z Z Z Z Z Z Z Z Z Z Z) ?_)
     refine Qz ?_ -- 9
     refine Qw (Qd fun K hK => QE Z Z Z Wa (QR Wa) Z (QD (cs := [_, _]) Z Z Z Z (Zu Z (Zf Z Z Z Z Z Z Z Z (kc hK (Qa5 Z Z Z Z Z Z Z Z Z Z Z Z Z Z Z Z) ?_)))))
     refine Qd fun K hK => Qe Z Z (QH (ds0 := [13, 12, 11, 10, 9, 8, 7, 6, 5, 4, 3, 2, 1, 0]) Z Z Z Z Z (Qb Z (Y3 Z Z (Qb Z ?_))))
     refine Qr (g := 61) Z (fun h7 => ?_) (fun h7 => ?_)
     ·rw [h7]
      simp only [qA] at h7
      refine Qc Z (Qe Z Z (Qc Z (QH (ds0 := [2, 1, 0]) Z Z Z Z Z (Qc Z (Qb Z (Qc Z (Ze Z Z (Qc Z (QX Z Z (Qc Z (QH (ds0 := [4, 3, 2, 1, 0]) Z Z Z Z Z ?_)))))))))))
      refine Qc Z (Qb Z (Qc Z (QE Z Z Z Wa (QR Wa) Z (Qc Z (QH (ds0 := [2, 1, 0]) Z Z Z Z Z (Qc Z (QE Z Z Z Wa (QZ Wa (by have := Qcc (w := w) hl h7; omega)) Z (Qc Z (QH (ds0 := [0]) Z Z Z Z Z (Qh Z Z (kc hK (Qa5 Z Z Z Z Z Z Z Z Z Z Z Z Z Z Z Z) ?_)))))))))))
      refine Qu Z (fun h8 => ?_) (fun h8 => ?_)
      ·rw [h8]
       refine Qd fun K hK => Qb Z (kc1 hK Z ?_)
       refine Qs (Qj (Qf (QC (Qj (Qj (Qf (QC (Qj (Qj (Qf (QC ?_)))))))))))
       refine Qj (Qj (Qf (QC (Qj (Qf (Qg Z ?_))))))
       exact (QaK (u := u) (k := k) (a := a) (b := b) Wa Wa hJ Wa rfl Wa (((DZ Wa h7 (by have := Qcc (w := w) hl h7; omega))).symm.trans h8)).symm
      ·rw [h8]
       refine Qq (Ql (QJ (RR Z Z Z Z Z Z Z Z Z Z Z Z Z Z Z) (QN fun K hK => Q0 Z Z Wb (Qb Z (hK _ ?_)))))
       refine Qk (b + 1) ?_ ?_ ?_
       ·exact QP (l := [0, 1, 5, 16, 17, 18, 23, 24, 25, 45, 46, 47, 51, 52, 53]) (lH := []) (RR rfl rfl rfl rfl rfl rfl rfl rfl rfl rfl rfl rfl rfl rfl rfl) Qi rfl rfl rfl
       ·exact ⟨Wa, by rw [KO (r := ((((w[u]'Wa).cs[k]'Wa).ns)[a]'Wa)) (j := b) Wa, hB.2, Bool.false_or]; exact ((DZ Wa h7 (by have := Qcc (w := w) hl h7; omega))).symm.trans h8⟩
       ·omega
     ·rw [h7]
      simp only [qA] at h7
      refine gn4 Z Z Z Z (gn4 Z Z Z Z (gn3 Z Z Z (Qh Z Z ?_)))
      refine kc hK (Qa5 Z Z Z Z Z Z Z Z Z Z Z Z Z Z Z Z) ?_
      refine Zg Z (Qq (Ql (QJ (RR Z Z Z Z Z Z Z Z Z Z Z Z Z Z Z) (QN fun K hK => Q0 Z Z Wb (Qb Z (hK _ ?_))))))
      refine Qk (b + 1) ?_ ?_ ?_
      ·exact QP (l := [0, 1, 5, 16, 17, 18, 23, 24, 25, 45, 46, 47, 51, 52, 53]) (lH := []) (RR rfl rfl rfl rfl rfl rfl rfl rfl rfl rfl rfl rfl rfl rfl rfl) Qi rfl rfl rfl
      ·exact ⟨Wa, by rw [KO (r := ((((w[u]'Wa).cs[k]'Wa).ns)[a]'Wa)) (j := b) Wa, hB.2, Bool.false_or]; exact Qd9 h7⟩
      ·omega
    ·rw [h6]
     simp only [qA] at h6
     refine QU (QB (Qv (QA (Ql (QJ (NX Z Z Z Z Z Z Z Z Z Z Z Z) (QN fun K hK => Q0 Z Z Wb (Qb Z (hK _ ?_))))))))
     refine Qk (a + 1) ?_ ?_ ?_
     ·exact QP (l := [0, 1, 5, 16, 17, 18, 23, 24, 25, 45, 46, 47]) (lH := []) (NX rfl rfl rfl rfl rfl rfl rfl rfl rfl rfl rfl rfl) Qi rfl rfl rfl
     ·exact ⟨Wa, by rw [KO (r := (((w[u]'Wa).cs[k]'Wa).ns)) (j := a) Wa, hA.2, Bool.false_or]; exact MD hB.2 Wa⟩
     ·omega
   ·rw [h5]
    simp only [qA] at h5
    refine QU (QB (Qv (QA (Ql (ks9 Z Z Z Z Z Z Z Z Z (QN fun K hK => Q0 Z Z Wb (Qb Z (hK _ ?_))))))))
    refine Qk (k + 1) ?_ ?_ ?_
    ·exact QP (l := [0, 1, 5, 16, 17, 18, 23, 24, 25]) (lH := []) (kp9 rfl rfl rfl rfl rfl rfl rfl rfl rfl) Qi rfl rfl rfl
    ·exact ⟨Wa, QaH Wa Wa hQ.2 (MD hA.2 Wa)⟩
    ·omega
  ·rw [h2]
   simp only [qA] at h2
   refine QU (QB (Qv (QA (Ql (ks5 Z Z Z Z Z (QN fun K hK => Q0 Z Z Wb (Qb Z (hK _ ?_))))))))
   refine Qk (u + 1) ?_ ?_ ?_
   ·exact Q3 (kp5 rfl rfl rfl rfl rfl)
   ·exact ⟨Wa, QaI Wa Wa hQ.1 hI.2 hQ.2⟩
   ·omega
 ·rw [h1]
  simp only [qA] at h1
  refine QU (QB (Qv (QA (QJ (QL) (Qd fun K hK => Qb Z (kc1 hK Z ?_))))))
  refine Qs (Qg Z ?_)
  exact (QaJ hI.2 Wa hI.1).symm
end Go.Proofs
namespace Go.Abs
open Go
/-! ### Data told more weakly -/
mutual
def D.wk : D -> D -> Bool
 | .undef, .undef => true
 | .top, .top => true
 | .int k n, .int j m => decide (k = j) && decide (n = m)
 | .bool a, .bool b => decide (a = b)
 | .str a, .str b => decide (a = b)
 | .sl a, .sl b => wkR a b
 | .fsl a, .sl b => wkR a b
 | .fsl a, .fsl b => wkR a b
 | .ptr a, .ptr b => wkL a b
 | .agg a, .agg b => wkL a b
 | d, .junk => d.isCell
 | _, _ => false
def wkR : List (List D) -> List (List D) -> Bool
 | [], [] => true
 | a :: az, b :: bs => wkL a b && wkR az bs
 | _, _ => false
def wkL : List D -> List D -> Bool
 | [], [] => true
 | a :: az, b :: bs => a.wk b && wkL az bs
 | _, _ => false
end
theorem Bc {d d' : D} (h : d.wk d' = true) (hc : d.isCell = true) : d'.isCell = true := by
 cases d <;> cases d' <;> first | rfl | (simp [D.isCell] at hc; done) | (simp [D.wk] at h; done)
theorem SW : ∀ {a b : List D}, wkL a b = true -> a.length = b.length
 | [], [], _ => rfl
 | _ :: az, _ :: bs, h => by
  simp only [wkL, QhJ] at h
  simp [SW h.2]
 | [], _ :: _, h => by simp [wkL] at h
 | _ :: _, [], h => by simp [wkL] at h
theorem Pv : ∀ {a b : List (List D)}, wkR a b = true -> a.length = b.length
 | [], [], _ => rfl
 | _ :: az, _ :: bs, h => by
  simp only [wkR, QhJ] at h
  simp [Pv h.2]
 | [], _ :: _, h => by simp [wkR] at h
 | _ :: _, [], h => by simp [wkR] at h
theorem Pu {esz : Nat} : ∀ {a b : List (List D)}, wkR a b = true -> (∀ r ∈ a, r.length = esz) -> ∀ r ∈ b, r.length = esz
 | [], [], _, _, r, hr => by cases hr
 | x :: az, y :: bs, h, hl, r, hr => by
  simp only [wkR, QhJ] at h
  rcases QhH.1 hr with rfl | hr
  ·rw [<- SW h.1]; exact hl x Wc
  ·exact Pu h.2 (fun r hr => hl r (by simp [hr])) r hr
 | [], _ :: _, h, _, _, _ => by simp [wkR] at h
 | _ :: _, [], h, _, _, _ => by simp [wkR] at h
section
variable {K : Kn}
mutual
theorem Bd : ∀ (d d' : D) (v : Value), d.wk d' = true -> RepP K d v -> RepP K d' v
 | .int k n, d', v, h, e => by
  cases d' <;> simp only [D.wk, QhJ, decide_eq_true_eq, QhN] at h
  ·exact RepP.cell e rfl
  ·obtain ⟨rfl, rfl⟩ := h; exact e
 | .bool b, d', v, h, e => by
  cases d' <;> simp only [D.wk, decide_eq_true_eq, QhN] at h
  ·exact RepP.cell e rfl
  ·subst h; exact e
 | .str b, d', v, h, e => by
  cases d' <;> simp only [D.wk, decide_eq_true_eq, QhN] at h
  ·exact RepP.cell e rfl
  ·subst h; exact e
 | .sl rows, d', v, h, e => by
  cases d' <;> simp only [D.wk, QhN] at h
  ·exact RepP.cell e rfl
  ·rename_i rows'
   simp only [RepP] at e ⊢
   obtain ⟨a, cap, h1, h2, h4⟩ := e
   rw [Pv h] at h1 h2
   refine ⟨a, cap, h1, h2, h4.imp (fun hn => ?_) ?_⟩
   ·subst hn; cases rows' with
    | nil => rfl
    | cons => simp [wkR] at h
   ·rintro ⟨b, off, esz, g1, g2, g3⟩
    exact ⟨b, off, esz, g1, Pu h g2, Pw b off rows rows' h g3⟩
 | .fsl rows, d', v, h, e => by
  cases d' <;> simp only [D.wk, QhN] at h
  ·exact RepP.cell e rfl
  ·rename_i rows'
   simp only [RepP] at e ⊢
   obtain ⟨a, h1, h4⟩ := e
   rw [Pv h] at h1
   refine ⟨a, _, h1, Nat.le_refl _, h4.imp (fun hn => ?_) ?_⟩
   ·subst hn; cases rows' with
    | nil => rfl
    | cons => simp [wkR] at h
   ·rintro ⟨b, off, esz, g1, g2, g3⟩
    exact ⟨b, off, esz, g1, Pu h g2, Pw b off rows rows' h g3⟩
  ·rename_i rows'
   simp only [RepP] at e ⊢
   obtain ⟨a, h1, h4⟩ := e
   rw [Pv h] at h1
   refine ⟨a, h1, h4.imp (fun hn => ?_) ?_⟩
   ·subst hn; cases rows' with
    | nil => rfl
    | cons => simp [wkR] at h
   ·rintro ⟨b, off, esz, g1, g2, g3⟩
    exact ⟨b, off, esz, g1, Pu h g2, Pw b off rows rows' h g3⟩
 | .ptr cs, d', v, h, e => by
  cases d' <;> simp only [D.wk, QhN] at h
  ·exact RepP.cell e rfl
  ·rename_i cs'
   simp only [RepP] at e ⊢
   obtain ⟨b, off, h1, h2⟩ := e
   exact ⟨b, off, h1, SV b off cs cs' h h2⟩
 | .agg cs, d', v, h, e => by
  cases d' <;> simp only [D.wk, QhN] at h
  ·simp [D.isCell] at h
  ·rename_i cs'
   simp only [RepP] at e ⊢
   obtain ⟨vs, h1, h2⟩ := e
   exact ⟨vs, h1, Bb cs cs' vs h h2⟩
 | .undef, d', v, h, e => by
  cases d' <;> simp only [D.wk, QhN] at h
  ·exact e
  ·simp [D.isCell] at h
 | .top, d', v, h, e => by
  cases d' <;> simp only [D.wk, QhN] at h
  ·exact e
  ·simp [D.isCell] at h
 | .junk, d', v, h, e => by
  cases d' <;> simp only [D.wk, QhN] at h
  exact e
 | .osl .., d', v, h, e => by simp only [RepP] at e
 | .osv .., d', v, h, e => by simp only [RepP] at e
 | .ref .., d', v, h, e => by simp only [RepP] at e
 | .clr .., d', v, h, e => by simp only [RepP] at e
 | .tup ds, d', v, h, e => by
  cases d' <;> simp only [D.wk, QhN] at h
  simp [D.isCell] at h
 | .tpo cs x, d', v, h, e => by
  cases d' <;> simp only [D.wk, QhN] at h
  simp [D.isCell] at h
 | .clo f caps, d', v, h, e => by
  cases d' <;> simp only [D.wk, QhN] at h
  exact RepP.cell e rfl
 | .bnd f caps, d', v, h, e => by
  cases d' <;> simp only [D.wk, QhN] at h
  exact RepP.cell e rfl
 | .val x, d', v, h, e => by
  cases d' <;> simp only [D.wk, QhN] at h
  exact RepP.cell e rfl
theorem Pw (b : Nat) : ∀ (off : Nat) (rs rs' : List (List D)), wkR rs rs' = true -> RepRows K b off rs -> RepRows K b off rs'
 | _, [], [], _, _ => by simp only [RepRows]
 | off, r :: rs, r' :: rs', h, e => by
  simp only [wkR, QhJ] at h
  simp only [RepRows] at e ⊢
  rw [<- SW h.1]
  exact ⟨SV b off r r' h.1 e.1, Pw b _ rs rs' h.2 e.2⟩
 | _, [], _ :: _, h, _ => by simp [wkR] at h
 | _, _ :: _, [], h, _ => by simp [wkR] at h
theorem SV (b : Nat) : ∀ (off : Nat) (ds ds' : List D), wkL ds ds' = true -> RepCells K b off ds -> RepCells K b off ds'
 | _, [], [], _, _ => by simp only [RepCells]
 | off, d :: ds, d' :: ds', h, e => by
  simp only [wkL, QhJ] at h
  simp only [RepCells] at e ⊢
  obtain ⟨⟨h1, x, h2, h3⟩, h4⟩ := e
  exact ⟨⟨Bc h.1 h1, x, h2, Bd d d' x h.1 h3⟩, SV b _ ds ds' h.2 h4⟩
 | _, [], _ :: _, h, _ => by simp [wkL] at h
 | _, _ :: _, [], h, _ => by simp [wkL] at h
theorem Bb : ∀ (ds ds' : List D) (vs : List Value), wkL ds ds' = true -> RepCs K ds vs -> RepCs K ds' vs
 | [], [], vs, _, e => e
 | d :: ds, d' :: ds', v :: vs, h, e => by
  simp only [wkL, QhJ] at h
  simp only [RepCs] at e ⊢
  exact ⟨⟨Bc h.1 e.1.1, Bd d d' v h.1 e.1.2⟩, Bb ds ds' vs h.2 e.2⟩
 | d :: ds, d' :: ds', [], _, e => by simp only [RepCs] at e
 | [], _ :: _, _, h, _ => by simp [wkL] at h
 | _ :: _, [], _, h, _ => by simp [wkL] at h
end
theorem QeM : ∀ {ds ds' : List D} {vs : List Value}, wkL ds ds' = true -> RepVs K ds vs -> RepVs K ds' vs
 | [], [], _, _, e => e
 | d :: ds, d' :: ds', v :: vs, h, e => by
  simp only [wkL, QhJ] at h
  simp only [RepVs] at e ⊢
  exact ⟨Bd d d' v h.1 e.1, QeM h.2 e.2⟩
 | d :: ds, d' :: ds', [], _, e => by simp only [RepVs] at e
 | [], _ :: _, _, h, _ => by simp [wkL] at h
 | _ :: _, [], _, h, _ => by simp [wkL] at h
end
theorem Ok.weak {P : Program} {f : Nat} {ds ds' : List D} {d : D} (h : Ok P f ds' d) (hw : wkL ds ds' = true) : Ok P f ds d :=
 ⟨h.1, fun K w vs hk hv => h.2 K w vs hk (QeM hw hv)⟩
end Go.Abs
namespace Go.Abs
open Go
section
variable {P : Program} {fr : QhE} {H : QhD} {r : List AOper} {K : St -> Prop} {t t0 : Nat} {rows : List (List D)}
theorem Bq {dr : Dr} {x : Opd} {rs : List (List D)} (hx : St.ev ⟨fr, H⟩ x = some (.sl rs)) (hne : rs ≠ []) (k : run P dr r K ⟨(t, .bool false) :: fr, H⟩) :
  run P dr (⟨some t, .un .plus x, none⟩ :: r) K ⟨fr, H⟩ := QW rfl rfl ⟨_, hx, hne, k⟩
end
end Go.Abs
namespace Go.Proofs
open Go Go.Abs M3 M25
theorem Qb1 {w : Qm} {c : List Int} {hb : Bool} {x : Zl} (hch : ChOk w c) (hx : 0 <= x.u /\ x.u < w.length) : Ok Tryd.prog 57 [.ptr [Zx w, Zp c, .bool hb, .junk], .agg (dWk w x)] (.bool (mtP w c x)) := by
 have hcl := hch.len
 have hc : x.u.toNat < c.length := Wa
 refine Ym hc hx.1 fun h0 => ?_
 rw [Nw Wa]
 exact NV (GX hch hc).2 h0
theorem QdI {k e t : Nat} {p : Bool} {r r' : List (List D)} {X : QhD} (h : r = r') : (k, (⟨r, e, t, p⟩ : Box)) :: X = (k, ⟨r', e, t, p⟩) :: X := by rw [h]
theorem BW {n : Nat} : (List.replicate ((n : Nat) : Int).toNat [D.bool false]).set 0 [.bool true] = ((List.replicate n false).set 0 true).map rB := by rw [Qbi, Qbm]
theorem QeF {w : Qm} {c : List Int} {u : Nat} (h : ∀ j (h : j < c.length), j < u -> 0 <= c[j] -> nddB w c j = true) (hu : u < c.length) (h1 : 0 <= c[u] -> nddB w c u = true) : ∀ j (h : j < c.length), j < u + 1 -> 0 <= c[j] -> nddB w c j = true := fun j hj hju h0 => by
 by_cases e : j = u
 ·subst e; exact h1 h0
 ·exact h j hj Wa h0
theorem XD {w : Qm} (hw : WSm w) (hr : WIn w) {c : List Int} (hch : ChOk w c) {hb : Bool} (h0 : 0 < w.length) (hc0 : 0 <= cA c 0) : Ok Tryd.prog 33 [.ptr [Zx w, Zp c, .bool hb, .junk]] (.bool (tidyB w c)) := by
 refine Ok.ofT ZL Tryd.func33 Qgx (QhG Z) ?_
 show TW _ _ tf33.body _ _
 have hwl := hw.len
 have hcl := hch.len
 refine Qd fun K hK => Qb Z (kc1 hK Z ?_)
 refine Qd fun K hK => Qb Z (Ze Z Z (QX Z Z (Qt Z Z Z (QY Z QM (S0 Z Z Z Wa We We (Qb Z (kc2 hK Z Z ?_)))))))
 refine Qd fun K hK => Q2 Z Z (Qb Z (kc3 hK Z Z Z ?_))
 refine Qd fun K hK => Qb Z (Z6 Z Z Z Wc Wa Wa Z (Zf Z Z (Qbh Wa Wa) Z Z Z Z Z (kc3 hK Z Z Z ?_)))
 refine Qz ?_ -- 0
 refine Qd fun K hK => Qb Z (kc4 hK Z Z Z Z ?_)
 refine Qw ?_
 refine Q5 (ι := Nat × List Bool × List Int) (fun i => ⟨[(0, .ptr [Zx w, Zp c, .bool hb, .junk]), (3, .osl 18 (i.2.1).length), (4, .osl 19 (i.2.2).length), (5, .int .i64 i.1)], [(18, ⟨(i.2.1).map rB, 1, 4, true⟩), (19, ⟨(i.2.2).map rI, 1, 3, true⟩)]⟩) (fun i => i.1 <= i.2.2.length /\ BQ w c i.2.1 i.2.2 i.1) (fun i => c.length - i.1) (0, (List.replicate c.length false).set 0 true, [0]) ?_ ?_ ?_
 ·exact QP (l := [0, 3, 4, 5]) (lH := [18, 19]) (kp4 rfl rfl rfl rfl) (Qa rfl (Qa rfl Qi)) Wc (QdI BW) rfl
 ·exact ⟨QhR _, BQ.first Wa hc0⟩
 intro i hI
 have hql := hI.2.qlen
 refine Qz ?_ -- 1
 refine Qd fun K hK => mv2 Z Z (QY Z Z (ZI Z Z (kc5 hK Z Z Z Z Z ?_)))
 refine Qu Z (fun h1 => ?_) (fun h1 => ?_)
 ·rw [h1]
  simp only [qA] at h1
  have hi1 : i.1 < i.2.2.length := Wa; obtain ⟨hu0, huc, hun⟩ := hI.2.at hi1; obtain ⟨hucl, hu0c⟩ := Sx hw hr hch Wa hun; have hb1 := GX hch huc; have huw : (i.2.2[i.1]'Wa).toNat < w.length := Wa; have hp := NV hb1.2 hu0c; have er := GG huw huc hp; have hns := (hw.ns _ (QhK huw) _ (QhK hp)).1; have hnl := hw.nl _ (QhK huw) _ (QhK hp); have hnr := hr.nr _ (QhK huw) _ (QhK hp); obtain ⟨y, hy⟩ : ∃ y, (w[(i.2.2[i.1]'Wa).toNat]'huw).cs[(c[(i.2.2[i.1]'Wa).toNat]'huc).toNat]'hp = y := ⟨_, rfl⟩; rw [hy] at er hns hnl hnr
  refine Qq (ks4 Z Z Z Z ?_)
  refine Qz ?_ -- 2
  refine Qw (Qd fun K hK => mv2 Z Z (Z6 Z Z Z Wc Wa Wa Z (Qt Z (J0 Z (QR Wa)) Z (Qb Z (kc5 hK Z Z Z Z Z ?_)))))
  refine Qd fun K hK => Qb Z (Ze Z Z (QX Z Z (QH (ds0 := [13, 12, 4, 3, 2, 1]) Z Z Z Z Z (Qb Z (QE Z Z Z Wa (QZ Wa Wa) Z (QH (ds0 := [4, 3, 2, 1]) Z Z Z Z Z (Qb Z (Ze Z Z (QX Z Z (QH (ds0 := [6, 5, 4, 3, 2, 1]) Z Z Z Z Z ?_))))))))))
  refine Qb Z (QE Z Z Z Wa (QZ Wa Wa) Z (QH (ds0 := [4, 3, 2, 1]) Z Z Z Z Z (QE Z Z Z Wa (QZ Wa Wa) Z (QX Z Z (QH (ds0 := [1]) Z Z Z Z Z (QY Z QM (Qb Z (kc7 hK Z Z Z Z Z Z Z ?_))))))))
  refine Qw ?_
  refine Q5 (ι := Nat × List Bool × List Int) (fun k => ⟨[(0, .ptr [Zx w, Zp c, .bool hb, .junk]), (3, .osl 18 (k.2.1).length), (4, .osl 19 (k.2.2).length), (5, .int .i64 i.1), (48, .sl (y.ns.map fun r => [NZ w r])), (49, .int .i64 y.ns.length), (50, .int .i64 k.1)], [(18, ⟨(k.2.1).map rB, 1, 4, true⟩), (19, ⟨(k.2.2).map rI, 1, 3, true⟩)]⟩) (fun k => k.1 <= y.ns.length /\ BQ1 w c k.2.1 k.2.2 i.1 (i.2.2[i.1]'Wa) y.ns k.1) (fun k => y.ns.length - k.1) (0, i.2) ?_ ?_ ?_
  ·exact QP (l := [0, 3, 4, 5, 48, 49, 50]) (lH := [18, 19]) (kp7 rfl rfl rfl rfl rfl rfl rfl) (Qa rfl (Qa rfl Qi)) (by rw [<- hy] <;> rfl) rfl rfl
  ·exact ⟨QhR _, hI.2.start hi1 _⟩
  intro k hQ
  have hnk := fun (h : k.1 < y.ns.length) => hnl _ (QhK h)
  refine Qd fun K hK => ZI Z Z (kc8 hK Z Z Z Z Z Z Z Z ?_)
  refine Qz ?_ -- 3
  refine Qu Z (fun h2 => ?_) (fun h2 => ?_)
  ·rw [h2]
   simp only [qA] at h2
   refine Qq (ks7 Z Z Z Z Z Z Z ?_)
   refine Qz ?_ -- 4
   refine Qw (Qd fun K hK => QE Z Z Z Wa (QR Wa) Z (Qt Z Z Z (Qb Z (kc8 hK Z Z Z Z Z Z Z Z ?_))))
   refine Qd fun K hK => Qb Z (QY Z QM (Qb Z (kc hK (HQ Z Z Z Z Z Z Z Z Z Z) ?_)))
   refine Qw ?_
   have hnk1 := hnk Wa
   refine Q5 (ι := Nat × List Bool × List Int) (fun j => ⟨[(0, .ptr [Zx w, Zp c, .bool hb, .junk]), (3, .osl 18 (j.2.1).length), (4, .osl 19 (j.2.2).length), (5, .int .i64 i.1), (48, .sl (y.ns.map fun r => [NZ w r])), (49, .int .i64 y.ns.length), (50, .int .i64 k.1), (54, NZ w (y.ns[k.1]'Wa)), (55, .int .i64 (y.ns[k.1]'Wa).length), (56, .int .i64 j.1)], [(18, ⟨(j.2.1).map rB, 1, 4, true⟩), (19, ⟨(j.2.2).map rI, 1, 3, true⟩)]⟩) (fun j => j.1 <= (y.ns[k.1]'Wa).length /\ BQ1 w c j.2.1 j.2.2 i.1 (i.2.2[i.1]'Wa) y.ns k.1 /\ RowTo w c j.2.1 (y.ns[k.1]'Wa) j.1) (fun j => (y.ns[k.1]'Wa).length - j.1) (0, k.2) ?_ ?_ ?_
   ·exact QP (l := [0, 3, 4, 5, 48, 49, 50, 54, 55, 56]) (lH := [18, 19]) (HQ rfl rfl rfl rfl rfl rfl rfl rfl rfl rfl) (Qa rfl (Qa rfl Qi)) rfl rfl rfl
   ·exact ⟨QhR _, hQ.2, fun _ _ h => absurd h (Nat.not_lt_zero _)⟩
   intro j hJ
   have hol := hJ.2.1.b.len
   have hqj := hJ.2.1.b.qlen
   refine Qd fun K hK => ZI Z Z (kc hK (FA Z Z Z Z Z Z Z Z Z Z Z) ?_)
   refine Qz ?_ -- 5
   refine Qu Z (fun h3 => ?_) (fun h3 => ?_)
   ·rw [h3]
    simp only [qA] at h3
    have hxr := hnr _ (QhK (Wa : k.1 < y.ns.length)) _ (QhK (Wa : j.1 < (y.ns[k.1]'Wa).length))
    refine Qq (QJ (HQ Z Z Z Z Z Z Z Z Z Z) ?_)
    refine Qz ?_ -- 6
    refine Qw (Qd fun K hK => QE Z Z Z Wa (QR Wa) Z (QD (cs := [_, _]) Z Z Z Z (Zu Z (Zf Z Z Z Z Z Z Z Z (kc hK (FA Z Z Z Z Z Z Z Z Z Z Z) ?_)))))
    refine Qd fun K hK => Qb Z (Qe Z Z (Qt Z Z Z (Z6 Z Z Z Wc Wa Wa Z (Qt Z (J0 Z (QZ Wa Wa)) Z (Zm Z (Qb Z ?_))))))
    refine Qr (g := 66) Z (fun h4 => ?_) (fun h4 => ?_)
    ·rw [h4]
     simp only [qA] at h4
     refine Qc Z (Qb Z (Qc Z (QD (cs := [_, _]) Z Z Z Z (Qc Z (QK (Qb1 hch hxr) Z Z (.inr Z) (Qh Z Z (kc hK (NX Z Z Z Z Z Z Z Z Z Z Z Z) ?_)))))))
     refine Qu Z (fun h5 => ?_) (fun h5 => ?_)
     ·rw [h5]
      refine Qd fun K hK => Qb Z (Qe Z Z (Qt Z Z Z (Z6 Z Z Z Wc Wa Wa Z (Zf Z Z (QZ Wa Wa) Z Z Z Z Z (kc hK (FA Z Z Z Z Z Z Z Z Z Z Z) ?_)))))
      refine QN fun K hK => Qb Z (Qe Z Z (Qt Z Z Z (Q2 Z Z (Jc Z Z (fun _ h => Ka Z Z Z h) Z Wc Z Z Z We We (Qb Z (hK _ ?_))))))
      refine Ql (QJ (HQ Z Z Z Z Z Z Z Z Z Z) (QN fun K hK => Q0 Z Z Wb (Qb Z (hK _ ?_))))
      refine Qk (j.1 + 1, j.2.1.set ((y.ns[k.1]'Wa)[j.1]'Wa).u.toNat true, j.2.2 ++ [((y.ns[k.1]'Wa)[j.1]'Wa).u]) ?_ ?_ ?_
      ·exact QP (l := [0, 3, 4, 5, 48, 49, 50, 54, 55, 56]) (lH := [18, 19]) (HQ rfl rfl rfl rfl rfl rfl rfl rfl rfl rfl) (Qa rfl (Qa rfl Qi)) (by simp only [List.length_append, List.length_set] <;> rfl) (by rw [List.map_append, <- Qbm] <;> rfl) rfl
      ·exact ⟨Wa, hJ.2.1.put Wa er hJ.2.2 Wa hxr.1 Wa h4 (by rw [NG hw hch hxr]; exact h5)⟩
      ·show (y.ns[k.1]'Wa).length - (j.1 + 1) < (y.ns[k.1]'Wa).length - j.1; omega
     ·rw [h5]
      refine Qq (Ql (QJ (HQ Z Z Z Z Z Z Z Z Z Z) (QN fun K hK => Q0 Z Z Wb (Qb Z (hK _ ?_)))))
      refine Qk (j.1 + 1, j.2) ?_ ?_ ?_
      ·exact QP (l := [0, 3, 4, 5, 48, 49, 50, 54, 55, 56]) (lH := [18, 19]) (HQ rfl rfl rfl rfl rfl rfl rfl rfl rfl rfl) (Qa rfl (Qa rfl Qi)) rfl rfl rfl
      ·exact ⟨Wa, hJ.2.1, hJ.2.2.skip Wa (fun h => by rw [NG hw hch hxr, h5] at h; cases h)⟩
      ·show (y.ns[k.1]'Wa).length - (j.1 + 1) < (y.ns[k.1]'Wa).length - j.1; omega
    ·rw [h4]
     simp only [qA] at h4
     refine gn3 Z Z Z (Qh Z Z (kc hK (NX Z Z Z Z Z Z Z Z Z Z Z Z) ?_))
     refine Zg Z (Qq (Ql (QJ (HQ Z Z Z Z Z Z Z Z Z Z) (QN fun K hK => Q0 Z Z Wb (Qb Z (hK _ ?_))))))
     refine Qk (j.1 + 1, j.2) ?_ ?_ ?_
     ·exact QP (l := [0, 3, 4, 5, 48, 49, 50, 54, 55, 56]) (lH := [18, 19]) (HQ rfl rfl rfl rfl rfl rfl rfl rfl rfl rfl) (Qa rfl (Qa rfl Qi)) rfl rfl rfl
     ·exact ⟨Wa, hJ.2.1, hJ.2.2.skip Wa (fun _ => by rw [Ms Wa]; exact h4)⟩
     ·show (y.ns[k.1]'Wa).length - (j.1 + 1) < (y.ns[k.1]'Wa).length - j.1; omega
   ·rw [h3]
    simp only [qA] at h3
    refine QU (QB (Qv (QA (Ql (ks7 Z Z Z Z Z Z Z (QN fun K hK => Q0 Z Z Wb (Qb Z (hK _ ?_))))))))
    refine Qk (k.1 + 1, j.2) ?_ ?_ ?_
    ·exact QP (l := [0, 3, 4, 5, 48, 49, 50]) (lH := [18, 19]) (kp7 rfl rfl rfl rfl rfl rfl rfl) (Qa rfl (Qa rfl Qi)) rfl rfl rfl
    ·exact ⟨Wa, hJ.2.1.next Wa hJ.2.2 Wa⟩
    ·show y.ns.length - (k.1 + 1) < y.ns.length - k.1; omega
  ·rw [h2]
   simp only [qA] at h2
   refine QU (QB (Qv (QA (Ql (ks4 Z Z Z Z (QN fun K hK => Qb Z (Q0 Z Z Wb (Qb Z (hK _ ?_)))))))))
   refine Qk (i.1 + 1, k.2) ?_ ?_ ?_
   ·exact QP (l := [0, 3, 4, 5]) (lH := [18, 19]) (kp4 rfl rfl rfl rfl) (Qa rfl (Qa rfl Qi)) rfl rfl rfl
   ·exact ⟨(show i.1 + 1 <= k.2.2.length from hQ.2.hi), hQ.2.stop Wa er⟩
   ·show c.length - (i.1 + 1) < c.length - i.1; omega
 ·rw [h1]
  simp only [qA] at h1
  refine QU (QB (Qv (QA (ks2 Z Z ?_))))
  refine Qz ?_ -- 7
  refine Qd fun K hK => Qb Z (Ze Z Z (QX Z Z (Qt Z Z Z (QY Z QM (Qb Z (kc4 hK Z Z Z Z ?_))))))
  refine Qw ?_
  have ho := hI.2.stop Wa
  have hol := hI.2.len
  refine Q5 (ι := Nat) (fun u => ⟨[(3, .osl 18 (i.2.1).length), (85, Zp c), (86, .int .i64 c.length), (87, .int .i64 u)], [(18, ⟨(i.2.1).map rB, 1, 4, true⟩)]⟩) (fun u => u <= c.length /\ (∀ j (h : j < c.length), j < u -> 0 <= c[j] -> nddB w c j = true)) (fun u => c.length - u) 0 ?_ ?_ ?_
  ·exact QP (l := [3, 85, 86, 87]) (lH := [18]) (kp4 rfl rfl rfl rfl) (Qa rfl Qi) rfl rfl rfl
  ·exact ⟨QhR _, fun j _ h => absurd h (Nat.not_lt_zero _)⟩
  intro u hU
  refine Qd fun K hK => ZI Z Z (kc5 hK Z Z Z Z Z ?_)
  refine Qz ?_ -- 8
  refine Qu Z (fun h6 => ?_) (fun h6 => ?_)
  ·rw [h6]
   simp only [qA] at h6
   refine Qq (ks4 Z Z Z Z ?_)
   refine Qz ?_ -- 9
   refine Qw (Qd fun K hK => Qb Z (QE Z Z Z Wa (QR Wa) Z (Qt Z Z Z (mv2 Z Z (kc6 hK Z Z Z Z Z Z ?_)))))
   refine Qd fun K hK => Qb Z (Fw Z Z (Qb Z ?_))
   refine Qr (g := 94) Z (fun h7 => ?_) (fun h7 => ?_)
   ·rw [h7]
    simp only [qA] at h7
    refine Qc Z (Qb Z (Qc Z (Qb Z (Qc Z (Z6 Z Z Z Wc Wa Wa Z (Qc Z (Qt Z (J0 Z (QR Wa)) Z (Qc Z (Zm Z (Qh Z Z (kc5 hK Z Z Z Z Z ?_)))))))))))
    refine Qu Z (fun h8 => ?_) (fun h8 => ?_)
    ·rw [h8]
     simp only [qA] at h8
     refine Qd fun K hK => Qb Z (kc1 hK Z ?_)
     refine Qs (Qj (Qf (QC (Qj (Qf (Qg Z ?_))))))
     exact (QcY (j := u) Wa Wa (by rw [<- Qbd ho Wa]; exact h8)).symm
    ·rw [h8]
     simp only [qA] at h8
     refine Qq (Ql (ks4 Z Z Z Z (QN fun K hK => Q0 Z Z Wb (Qb Z (hK _ ?_)))))
     refine Qk (u + 1) ?_ ?_ ?_
     ·exact QP (l := [3, 85, 86, 87]) (lH := [18]) (kp4 rfl rfl rfl rfl) (Qa rfl Qi) rfl rfl rfl
     ·exact ⟨Wa, QeF hU.2 Wa (fun _ => by rw [<- Qbd ho Wa]; exact h8)⟩
     ·omega
   ·rw [h7]
    simp only [qA] at h7
    refine gn4 Z Z Z Z (Yk Z (Qh Z Z (kc5 hK Z Z Z Z Z ?_)))
    refine Zg Z (Qq (Ql (ks4 Z Z Z Z (QN fun K hK => Q0 Z Z Wb (Qb Z (hK _ ?_))))))
    refine Qk (u + 1) ?_ ?_ ?_
    ·exact QP (l := [3, 85, 86, 87]) (lH := [18]) (kp4 rfl rfl rfl rfl) (Qa rfl Qi) rfl rfl rfl
    ·exact ⟨Wa, QeF hU.2 Wa (fun h => Wa)⟩
    ·omega
  ·rw [h6]
   simp only [qA] at h6
   refine QU (QB (Qv (QA (QJ (QL) (Qd fun K hK => Qb Z (kc1 hK Z ?_))))))
   refine Qs (Qg Z ?_)
   exact (QaE (fun j h => (GX hch h).1) (fun j h => hU.2 j h Wa)).symm
end Go.Proofs
namespace Go.Abs
open Go
end Go.Abs
namespace Go.Abs
open Go
section
variable {P : Program} {nt : Nat} {E : Env}
end
section
variable {P : Program} {nt : Nat}
end
end Go.Abs
namespace Go.Abs
open Go
/-! ### A call that is lent all boxes but some, which are given away and come back; these keep their names -/
def Xd (G : List Nat) (j : Nat) : Nat := if G.contains j = true then j else upN j
def Kd (G : List Nat) (H : QhD) : QhD := H.map fun p => (Xd G p.1, p.2.ren (Xd G))
def Fv (G : List Nat) : Bool := G.all fun k => decide (k < 1000000)
theorem KL {G : List Nat} (h : Fv G = true) {k : Nat} (hk : G.contains k = true) : k < 1000000 := by
 simpa using QhP.1 h k (by simpa using hk)
theorem TL {G : List Nat} (hG : Fv G = true) {i j : Nat} (h : Xd G i = Xd G j) : i = j := by
 unfold Xd at h
 split at h <;> split at h
 ·exact h
 ·rename_i h1 h2; have := KL hG h1; unfold upN at h; omega
 ·rename_i h1 h2; have := KL hG h2; unfold upN at h; omega
 ·exact QcZ h
theorem JA {G : List Nat} (hG : Fv G = true) : ∀ (H : QhD) (j : Nat), lk (Kd G H) (Xd G j) = (lk H j).map (Box.ren (Xd G))
 | [], _ => rfl
 | (i, b) :: H, j => by
  have := JA hG H j
  simp only [Kd, List.map_cons, Qx] at this ⊢
  rw [this]
  by_cases h : i = j
  ·subst h; simp
  ·rw [if_neg h, if_neg (fun e => h (TL hG e))]
theorem Yq {G : List Nat} : ∀ {H : QhD} {i : Nat} {b : Box}, lk (Kd G H) i = some b -> ∃ j b0, i = Xd G j /\ lk H j = some b0 /\ b = b0.ren (Xd G)
 | [], _, _, h => by cases h
 | (j, x) :: H, i, b, h => by
  have h0 := h
  simp only [Kd, List.map_cons, Qx] at h
  split at h
  ·rename_i e; cases h; exact ⟨j, x, e.symm, by rw [Qx, if_pos rfl], rfl⟩
  ·rename_i e
   obtain ⟨j1, b0, h1, h2, h3⟩ := Yq (H := H) h
   refine ⟨j1, b0, h1, ?_, h3⟩
   rw [Qx, if_neg (fun e2 => e (by rw [e2, h1]))]; exact h2
def Qb3 (P : Program) (f : Nat) (args : List Opd) (s : St) (G : List Nat) (Hr : QhD) (d : D) : Prop :=
 ∃ ds, Zb s args = some ds /\ Fv G = true /\ (∀ t x, lk s.fr t = some x -> ∀ k ∈ x.ids, G.contains k = false) /\ (∀ k ∈ d.ids, G.contains k = true /\ (lk Hr k).isSome = true) /\ (∀ j, (lk s.H j).isSome = true -> (lk Hr j).isSome = true) /\ (∀ j, (lk Hr j).isSome = true -> G.contains j = true \/ (lk s.H j).isSome = true) /\
  OkH P f (ds.map fun d => (d.ren (Xd G)).can) (Kd G s.H) d (Kd G Hr)
section
variable {P : Program} {E : Env} {g : Gh} {s : St} {a : Act} {w : World}
theorem Nc {o : Oper} {ao : AOp} {f : Nat} {args : List Opd} {d : D} {G : List Nat} {Hr : QhD} {K' : Act -> World -> Prop} {Q : Exit -> Act -> World -> Prop} (r : Rel E g s a w) (hp : ZY P o.op = some ao) (hcal : JI s ao f args) (hc : Qb3 P f args s G Hr d)
  (ht : ∀ t, o.dst = some t -> t < E.nt) (hK : ∀ g' a' w', Rel E g' (St.apply ⟨s.fr, Hr⟩ o.dst d none) a' w' -> K' a' w') : o.wp P a w K' Q := by
 obtain ⟨ds, hds, hG, hfr0, hd0, hdom, hdom2, hen, hok⟩ := hc
 obtain ⟨vs, hxs, hhas, hrun⟩ := KQ r hp hcal hds hen
 unfold Oper.wp
 rw [hrun, Oper.upon_enter]
 obtain ⟨gu, guK, hB0, hS0⟩ : ∃ gu : Gh, gu.K = g.K /\ (∀ j, gu.β j = if G.contains j = true then g.β j else g.β (j - 1000000)) /\ ∀ j, gu.σ j = if G.contains j = true then g.σ j else g.σ (j - 1000000) :=
  ⟨⟨g.K, fun j => if G.contains j = true then g.β j else g.β (j - 1000000), fun j => if G.contains j = true then g.σ j else g.σ (j - 1000000)⟩, rfl, fun _ => rfl, fun _ => rfl⟩
 have hup : ∀ j, gu.β (Xd G j) = g.β j /\ gu.σ (Xd G j) = g.σ j := fun j => by
  by_cases e : G.contains j = true
  ·have hr : Xd G j = j := if_pos e
   rw [hB0, hS0, hr, if_pos e, if_pos e]; exact ⟨rfl, rfl⟩
  ·have hr : Xd G j = upN j := if_neg e
   have h1 : ¬ G.contains (upN j) = true := fun h => by have := KL hG h; unfold upN at this; omega
   have h2 : upN j - 1000000 = j := by unfold upN; omega
   rw [hB0, hS0, hr, if_neg h1, if_neg h1, h2]; exact ⟨rfl, rfl⟩
 have hgu : gu.pull (Xd G) = g := by
  have h1 : (fun j => gu.β (Xd G j)) = g.β := funext fun j => (hup j).1
  have h2 : (fun j => gu.σ (Xd G j)) = g.σ := funext fun j => (hup j).2
  unfold Gh.pull
  rw [h1, h2, guK]
 have hrel : HRel gu (Kd G s.H) w := by
  refine ⟨fun i b hi j hj => ?_, fun i b hi => ?_, fun i i' b b' B e e' h1 h2 h3 h4 => ?_, by rw [guK]; exact r.kr⟩
  ·obtain ⟨j1, b0, rfl, h1, rfl⟩ := Yq hi
   rw [Box.ren_ids] at hj
   obtain ⟨j0, hj0, rfl⟩ := QhT.1 hj
   rw [JA hG, QhX]; exact r.wfH j1 b0 h1 j0 hj0
  ·obtain ⟨j1, b0, rfl, h1, rfl⟩ := Yq hi
   refine BoxRel.ren.2 ?_
   rw [hgu]
   exact (r.bx j1 b0 h1).move ⟨rfl, rfl⟩ (fun _ _ _ _ _ _ => ⟨rfl, rfl⟩) (Kn.le_refl _) fun B e _ => ⟨rfl, fun _ h => h, fun _ => .inl (QhR _)⟩
  ·obtain ⟨j1, b0, rfl, q1, rfl⟩ := Yq h1
   obtain ⟨j2, b1, rfl, q2, rfl⟩ := Yq h2
   rw [(hup _).1] at h3 h4
   rw [r.inj j1 j2 b0 b1 B e e' q1 q2 h3 h4]
 refine (hok gu w vs hrel (KP hgu hxs) ?_).mono fun e w' ⟨v, g', he, hv, hr', hsz, hfr, hfx, hkeep, hnew⟩ => ?_
 ·intro x hx j hj
  obtain ⟨x0, hx0, rfl⟩ := QhT.1 hx
  rw [R5, ren_ids] at hj
  obtain ⟨j0, hj0, rfl⟩ := QhT.1 hj
  rw [JA hG, QhX]; exact hhas x0 hx0 j0 hj0
 subst he
 rw [guK] at hfr
 have own_of : ∀ B, FS gu (Kd G s.H) B -> ∃ j b0 e, lk s.H j = some b0 /\ g.β j = some (B, e) := fun B ⟨i, e, h1, h2⟩ => by
  obtain ⟨b1, hb1⟩ := QhL.1 h1
  obtain ⟨j, b0, rfl, q1, _⟩ := Yq hb1
  rw [(hup j).1] at h2
  exact ⟨j, b0, e, q1, h2⟩
 have own_blk : ∀ B, FS gu (Kd G s.H) B -> (∀ o, g.K B o = none) /\ (E.B0 <= B \/ E.fo B) /\ ¬ XT w B := fun B hB => by
  obtain ⟨j, b0, e, h1, h2⟩ := own_of B hB
  exact ⟨((r.bx j b0 h1).blk h2).2.1, ((r.bx j b0 h1).blk h2).2.2, (r.bx j b0 h1).nodf h2⟩
 have hKle : g.K.le g'.K := fun b q x hx => by
  have hb := r.kr.lt hx
  have hno : ¬ FS gu (Kd G s.H) b := fun h => by rw [(own_blk b h).1 q] at hx; cases hx
  rw [(hfr b hb hno).2]; exact hx
 have kU : ∀ j, (lk s.H j).isSome = true -> G.contains j = false -> g'.β (Xd G j) = g.β j /\ g'.σ (Xd G j) = g.σ j := fun j hj hjk => by
  have hbig : 1000000 <= Xd G j := by unfold Xd; rw [if_neg (by rw [hjk]; simp)]; unfold upN; omega
  have := hkeep (Xd G j) hbig (by rw [JA hG, QhX]; exact hj)
  rw [this.2.1, this.2.2]
  exact hup j
 have kK : ∀ k, G.contains k = true -> ∀ B e, (lk Hr k).isSome = true -> g'.β (Xd G k) = some (B, e) -> w.heap.size <= B \/ (∃ j b0 e2, lk s.H j = some b0 /\ g.β j = some (B, e2)) := fun k hk B e hs hβ => by
  have e5 : Xd G k = k := if_pos hk
  have hs2 : (lk (Kd G Hr) (Xd G k)).isSome = true := by rw [JA hG, QhX]; exact hs
  rcases hnew (Xd G k) B e (by rw [e5]; exact KL hG hk) hs2 hβ with h | ⟨k2, e2, h1, h2, h3⟩
  ·exact .inl h
  ·obtain ⟨b2, hb2⟩ := QhL.1 h2
   obtain ⟨j, b0, rfl, q1, _⟩ := Yq hb2
   rw [(hup j).1] at h3
   exact .inr ⟨j, b0, e2, q1, h3⟩
 have r2 : Rel E (g'.pull (Xd G)) ⟨s.fr, Hr⟩ a w' := by
  refine ⟨r.nt, r.df.of rfl (fun D hD => ((hfr D (Array.getElem?_eq_some_iff.1 hD).1 (fun ho => (own_blk D ho).2.2 hD)).1).trans hD), fun t x h => (r.fr t x h).congr hKle fun j hj => kU j (r.wfF t x h j hj) (hfr0 t x h j hj), fun t x h j hj => hdom j (r.wfF t x h j hj), fun j b h i hi => ?_, fun j b h => ?_, fun j j' b b' B e e' h1 h2 h3 h4 => ?_, hr'.kr,
   ⟨QhY r.ext.1 hsz, fun b hb hf => ?_, r.ext.2.2.trans hfx⟩, fun b hb hf => ?_, fun j hj => ?_⟩
  ·have h1 : lk (Kd G Hr) (Xd G j) = some (b.ren (Xd G)) := by rw [JA hG, h]; rfl
   have := hr'.wfH _ _ h1 (Xd G i) (by rw [Box.ren_ids]; exact List.mem_map_of_mem hi)
   rwa [JA hG, QhX] at this
  ·have h1 : lk (Kd G Hr) (Xd G j) = some (b.ren (Xd G)) := by rw [JA hG, h]; rfl
   have hb := BoxRel.ren.1 (hr'.bx _ _ h1)
   have hsr : (lk Hr j).isSome = true := by rw [h]; rfl
   refine hb.move ⟨rfl, rfl⟩ (fun _ _ _ _ _ _ => ⟨rfl, rfl⟩) (Kn.le_refl _) fun B e hβ => ⟨rfl, fun _ h => h, fun _ => ?_⟩
   cases hjk : G.contains j
   ·have hs : (lk s.H j).isSome = true := (hdom2 j hsr).resolve_left (by rw [hjk]; simp)
    have hβ' : g'.β (Xd G j) = some (B, e) := hβ
    rw [(kU j hs hjk).1] at hβ'
    obtain ⟨b0, hb0⟩ := QhL.1 hs
    exact ((r.bx j b0 hb0).blk hβ').2.2
   ·rcases kK j hjk B e hsr hβ with h2 | ⟨j2, b0, e2, h2, h3⟩
    ·exact .inl (QhY r.ext.1 h2)
    ·exact ((r.bx j2 b0 h2).blk h3).2.2
  ·have q1 : lk (Kd G Hr) (Xd G j) = some (b.ren (Xd G)) := by rw [JA hG, h1]; rfl
   have q2 : lk (Kd G Hr) (Xd G j') = some (b'.ren (Xd G)) := by rw [JA hG, h2]; rfl
   exact TL hG (hr'.inj _ _ _ _ B e e' q1 q2 h3 h4)
  ·have hno : ¬ FS gu (Kd G s.H) b := fun ho => by
    rcases (own_blk b ho).2.1 with h | h
    ·omega
    ·exact hf h
   exact (hfr b (Nat.lt_of_lt_of_le hb r.ext.1) hno).1.trans (r.ext.2.1 b hb hf)
  ·have hno : ¬ FS gu (Kd G s.H) b := fun ho => by
    rcases (own_blk b ho).2.1 with h | h
    ·omega
    ·exact hf h
   exact (hfr b (Nat.lt_of_lt_of_le hb r.ext.1) hno).2.trans (r.kx b hb hf)
  ·obtain ⟨h1, h2, h3, h4⟩ := r.kp j hj
   have hjG : G.contains j = false := by
    cases hc : G.contains j
    ·rfl
    ·have := KL hG hc; omega
   have := kU j h4 hjG
   exact ⟨h1, this.1.trans h2, this.2.trans h3, hdom j h4⟩
 have r3 : Rel E (g'.pull (Xd G)) (St.withBox ⟨s.fr, Hr⟩ o.dst none) a w' := by cases o.dst <;> exact r2
 refine hK _ _ w' (r3.apply (hv.congr (Kn.le_refl _) fun j hj => ?_) ?_ ht)
 ·have e5 : Xd G j = j := if_pos (hd0 j hj).1
  show g'.β (Xd G j) = g'.β j /\ g'.σ (Xd G j) = g'.σ j
  rw [e5]; exact ⟨rfl, rfl⟩
 ·intro j hj
  have h1 := (hd0 j hj).2
  cases hdst : o.dst <;> exact h1
end
section
variable {P : Program} {nt : Nat} {E : Env}
def opZ (P : Program) (o : AOper) (K : St -> Prop) (s : St) : Prop :=
 o.guard = none /\ ∃ t f args G Hr d, o.dst = some t /\ JI s o.op f args /\ Qb3 P f args s G Hr d /\ K ⟨(t, d) :: s.fr, Hr⟩
theorem Qcp {fr : QhE} {G : List Nat} (h : (fr.all fun p => p.2.ids.all fun k => !G.contains k) = true) : ∀ t x, lk fr t = some x -> ∀ k ∈ x.ids, G.contains k = false := fun t x hx k hk => by
 simpa using QhP.1 (QhP.1 h (t, x) (ZR hx)) k hk
theorem Qan {o : AOper} {t f : Nat} {G : List Nat} {az : List Opd} {ds ds' : List D} {d : D} {fr : QhE} {H Hr H1 H2 : QhD} {K : St -> Prop} (ho : o = ⟨some t, .call f az, none⟩) (hds : Zb ⟨fr, H⟩ az = some ds) (hk : Fv G = true)
  (hfr : (fr.all fun p => p.2.ids.all fun k => !G.contains k) = true) (hd : d.ids = []) (hdom : Hr.map Prod.fst = H.map Prod.fst) (hds' : (ds.map fun d => (d.ren (Xd G)).can) = ds') (h1 : Kd G H = H1) (h2 : Kd G Hr = H2) (hok : OkH P f ds' H1 d H2) (hK : K ⟨(t, d) :: fr, Hr⟩) : opZ P o K ⟨fr, H⟩ := by
 subst ho hds' h1 h2
 exact ⟨rfl, t, f, _, G, Hr, d, rfl, .inl rfl, ⟨ds, hds, hk, Qcp hfr, fun k hkd => by rw [hd] at hkd; (cases hkd), fun j h => by rw [MY hdom]; exact h, fun j h => .inr (by rw [<- MY hdom]; exact h), hok⟩, hK⟩
end
section
variable {P : Program} {nt : Nat}
end
end Go.Abs
namespace Go.Abs
open Go
/-! ### A contract with the names of the lent boxes moved up -/
structure Rn (ρ ρ' : Nat -> Nat) : Prop where
 inv : ∀ k, ρ' (ρ k) = k
 small : ∀ k, ρ k < 1000000 ↔ k < 1000000
def N5 (ρ : Nat -> Nat) (H : QhD) : QhD := H.map fun p => (ρ p.1, p.2.ren ρ)
section
variable {ρ ρ' : Nat -> Nat} (hρ : Rn ρ ρ')
include hρ
theorem Rn.inj {i j : Nat} (h : ρ i = ρ j) : i = j := by rw [<- hρ.inv i, h, hρ.inv]
theorem Xs : ∀ (H : QhD) (j : Nat), lk (N5 ρ H) (ρ j) = (lk H j).map (Box.ren ρ)
 | [], _ => rfl
 | (i, b) :: H, j => by
  have := Xs H j
  simp only [N5, List.map_cons, Qx] at this ⊢
  rw [this]
  by_cases h : i = j
  ·subst h; simp
  ·rw [if_neg h, if_neg (fun e => h (hρ.inj e))]
omit hρ in
theorem Fq : ∀ {H : QhD} {i : Nat} {b : Box}, lk (N5 ρ H) i = some b -> ∃ j, i = ρ j
 | [], _, _, h => by cases h
 | (j, x) :: H, i, b, h => by
  simp only [N5, List.map_cons, Qx] at h
  split at h
  ·rename_i e; exact ⟨j, e.symm⟩
  ·exact Fq (H := H) h
theorem Y8 {H : QhD} {i : Nat} {b : Box} (h : lk (N5 ρ H) i = some b) : ∃ j b0, i = ρ j /\ lk H j = some b0 /\ b = b0.ren ρ := by
 obtain ⟨j, rfl⟩ := Fq h
 rw [Xs hρ] at h
 obtain ⟨b0, h1, h2⟩ := QhF.1 h
 exact ⟨j, b0, rfl, h1, h2.symm⟩
end
theorem RepA.ren {g : Gh} {ρ : Nat -> Nat} : ∀ {ds : List D} {vs : List Value}, RepA g (ds.map (D.ren ρ)) vs ↔ RepA (g.pull ρ) ds vs
 | [], [] => Iff.rfl
 | d :: ds, v :: vs => by simp only [List.map_cons, RepA]; rw [Rep.ren, RepA.ren]
 | [], _ :: _ => Iff.rfl
 | _ :: _, [] => Iff.rfl
theorem OkH.rnm {P : Program} {f : Nat} {ds : List D} {H H' : QhD} {d : D} {ρ ρ' : Nat -> Nat} (hρ : Rn ρ ρ') (h : OkH P f ds H d H') : OkH P f (ds.map (D.ren ρ)) (N5 ρ H) (d.ren ρ) (N5 ρ H') := by
 refine ⟨h.1, fun g w vs hrel hargs hids => ?_⟩
 have hr0 : HRel (g.pull ρ) H w := by
  refine ⟨fun k b hk j hj => ?_, fun k b hk => ?_, fun i i' b b' B e e' h1 h2 h3 h4 => ?_, hrel.kr⟩
  ·have h1 : lk (N5 ρ H) (ρ k) = some (b.ren ρ) := by rw [Xs hρ, hk]; rfl
   have := hrel.wfH _ _ h1 (ρ j) (by rw [Box.ren_ids]; exact List.mem_map_of_mem hj)
   rwa [Xs hρ, QhX] at this
  ·have h1 : lk (N5 ρ H) (ρ k) = some (b.ren ρ) := by rw [Xs hρ, hk]; rfl
   exact BoxRel.ren.1 (hrel.bx _ _ h1)
  ·have q1 : lk (N5 ρ H) (ρ i) = some (b.ren ρ) := by rw [Xs hρ, h1]; rfl
   have q2 : lk (N5 ρ H) (ρ i') = some (b'.ren ρ) := by rw [Xs hρ, h2]; rfl
   exact hρ.inj (hrel.inj _ _ _ _ B e e' q1 q2 h3 h4)
 refine (h.2 (g.pull ρ) w vs hr0 (RepA.ren.1 hargs) (fun x hx k hk => ?_)).mono fun e w' ⟨v, g', he, hv, hr', hsz, hfr, hfx, hkeep, hnew⟩ => ?_
 ·have := hids (x.ren ρ) (List.mem_map_of_mem hx) (ρ k) (by rw [ren_ids]; exact List.mem_map_of_mem hk)
  rwa [Xs hρ, QhX] at this
 obtain ⟨gu, guK, hB0, hS0⟩ : ∃ gu : Gh, gu.K = g'.K /\ (∀ j, gu.β j = g'.β (ρ' j)) /\ ∀ j, gu.σ j = g'.σ (ρ' j) :=
  ⟨⟨g'.K, fun j => g'.β (ρ' j), fun j => g'.σ (ρ' j)⟩, rfl, fun _ => rfl, fun _ => rfl⟩
 have hup : ∀ j, gu.β (ρ j) = g'.β j /\ gu.σ (ρ j) = g'.σ j := fun j => by
  rw [hB0, hS0, hρ.inv]; exact ⟨rfl, rfl⟩
 have hgu : gu.pull ρ = g' := by
  have h1 : (fun j => gu.β (ρ j)) = g'.β := funext fun j => (hup j).1
  have h2 : (fun j => gu.σ (ρ j)) = g'.σ := funext fun j => (hup j).2
  unfold Gh.pull
  rw [h1, h2, guK]
 have hown : ∀ b, FS (g.pull ρ) H b -> FS g (N5 ρ H) b := fun b ⟨k, e, h1, h2⟩ => ⟨ρ k, e, by rw [Xs hρ, QhX]; exact h1, h2⟩
 refine ⟨v, gu, he, Rep.ren.2 (by rw [hgu]; exact hv), ⟨fun i b hi j hj => ?_, fun i b hi => ?_, fun i i' b b' B e e' h1 h2 h3 h4 => ?_, by rw [guK]; exact hr'.kr⟩, hsz, fun b hb hn => ?_, hfx, fun k hk hs => ?_, fun k B e hk hs hβ => ?_⟩
 ·obtain ⟨j1, b0, rfl, h1, rfl⟩ := Y8 hρ hi
  rw [Box.ren_ids] at hj
  obtain ⟨j0, hj0, rfl⟩ := QhT.1 hj
  rw [Xs hρ, QhX]; exact hr'.wfH j1 b0 h1 j0 hj0
 ·obtain ⟨j1, b0, rfl, h1, rfl⟩ := Y8 hρ hi
  refine BoxRel.ren.2 ?_
  rw [hgu]
  exact hr'.bx j1 b0 h1
 ·obtain ⟨j1, b0, rfl, q1, rfl⟩ := Y8 hρ h1
  obtain ⟨j2, b1, rfl, q2, rfl⟩ := Y8 hρ h2
  rw [(hup _).1] at h3 h4
  rw [hr'.inj j1 j2 b0 b1 B e e' q1 q2 h3 h4]
 ·rw [guK]; exact hfr b hb fun ho => hn (hown b ho)
 ·obtain ⟨b, hb⟩ := QhL.1 hs
  obtain ⟨j, b0, rfl, q1, rfl⟩ := Y8 hρ hb
  have hj : 1000000 <= j := by
   have := hρ.small j
   omega
  obtain ⟨h1, h2, h3⟩ := hkeep j hj (by rw [q1]; rfl)
  exact ⟨by rw [Xs hρ, QhX]; exact h1, by rw [(hup j).1]; exact h2, by rw [(hup j).2]; exact h3⟩
 ·obtain ⟨b, hb⟩ := QhL.1 hs
  obtain ⟨j, b0, rfl, q1, rfl⟩ := Y8 hρ hb
  have hj : j < 1000000 := (hρ.small j).1 hk
  rw [(hup j).1] at hβ
  rcases hnew j B e hj (by rw [q1]; rfl) hβ with h | ⟨k2, e2, h1, h2, h3⟩
  ·exact .inl h
  ·exact .inr ⟨ρ k2, e2, (hρ.small k2).2 h1, by rw [Xs hρ, QhX]; exact h2, h3⟩
def Qbk (k : Nat) : Nat := if k < 1000000 then k else k + 1000000
theorem rnU : Rn Qbk (fun k => if k < 1000000 then k else k - 1000000) where
 inv k := by
  unfold Qbk
  by_cases e : k < 1000000
  ·simp [e]
  ·have h1 : ¬ k + 1000000 < 1000000 := Wa
   simp [e, h1]
 small k := by
  unfold Qbk
  by_cases e : k < 1000000
  ·simp [e]
  ·have h1 : ¬ k + 1000000 < 1000000 := Wa
   simp [e]
def Qbj (a b : Nat) (k : Nat) : Nat := if k = a then b else if k = b then a else k
theorem rnS {a b : Nat} (ha : 1000000 <= a) (hb : 1000000 <= b) : Rn (Qbj a b) (Qbj a b) where
 inv k := by unfold Qbj; (repeat' split) <;> omega
 small k := by unfold Qbj; (repeat' split) <;> omega
theorem OkH.rnm' {P : Program} {f : Nat} {ds ds2 : List D} {H H' H2 H2' : QhD} {d d2 : D} {ρ ρ' : Nat -> Nat} (hρ : Rn ρ ρ') (h : OkH P f ds H d H') (e1 : ds.map (D.ren ρ) = ds2) (e2 : N5 ρ H = H2) (e3 : d.ren ρ = d2) (e4 : N5 ρ H' = H2') : OkH P f ds2 H2 d2 H2' := by
 subst e1 e2 e3 e4; exact h.rnm hρ
end Go.Abs
namespace Go.Abs
open Go
/-! ### A region that draws its order, with a call to which boxes are given: all else comes ahead of it, or behind it -/
section
variable {P : Program} {nt m : Nat} {ops : Array Oper}
theorem Anc.trans {i j k : Nat} (h : Anc ops k j) (h2 : Anc ops j i) : Anc ops k i := by
 induction h with
 | one h => exact .more h h2
 | more h _ ih => exact .more h (ih h2)
def Kt (ops : Array Oper) (m : Nat) : Array Oper := (ops.toList.take m).toArray
theorem Td (i : Nat) : (Kt ops m)[i]? = if i < m then ops[i]? else none := by
 simp [Kt, List.getElem?_take]
theorem Y7 {i : Nat} (h : i < m) : (Kt ops m)[i]? = ops[i]? := by rw [Td, if_pos h]
theorem Nh {i : Nat} {o : Oper} (h : (Kt ops m)[i]? = some o) : i < m /\ ops[i]? = some o := by
 rw [Td] at h
 split at h
 ·rename_i e; exact ⟨e, h⟩
 ·cases h
theorem JP (hm : m <= ops.size) : (Kt ops m).size = m := by simp [Kt]; omega
theorem MP (h : gdB ops = true) {k j : Nat} {o : Oper} {b : Bool} (ho : ops[k]? = some o) (hg : o.guard = some (j, b)) : j < k := by
 have hk := (Array.getElem?_eq_some_iff.1 ho).1
 have := QhP.1 h k (Qh1.2 hk)
 simp only [ho, hg] at this
 simpa using this
theorem PT (h : gdB ops = true) {k : Nat} {o : Oper} (hk : k < m) (ho : ops[k]? = some o) : o.looksAt (Kt ops m) = o.looksAt ops := by
 unfold Oper.looksAt
 cases hg : o.guard with
 | none => rfl
 | some p =>
  obtain ⟨j, b⟩ := p
  have := MP h ho hg
  simp only
  rw [Y7 Wa]
theorem Do (h : gdB ops = true) {k j : Nat} {o p : Oper} (hk : k < m) (ho : ops[k]? = some o) (hj : j < m) (hp : ops[j]? = some p) : o.apart (Kt ops m) p = o.apart ops p := by
 unfold Oper.apart
 rw [PT h hk ho, PT h hj hp]
theorem Dp (h : gdB ops = true) {k : Nat} {o : Oper} (hk : k < m) (ho : ops[k]? = some o) : ZE (Kt ops m) o.guard = ZE ops o.guard := by
 cases hg : o.guard with
 | none => rfl
 | some p =>
  obtain ⟨j, b⟩ := p
  have := MP h ho hg
  simp only [ZE]
  rw [Y7 Wa]
theorem Te : ∀ {l : List Oper} {l' : List AOper}, (∀ o ∈ l, ZE (Kt ops m) o.guard = ZE ops o.guard) -> QO P nt ops l = some l' -> QO P nt (Kt ops m) l = some l'
 | [], _, _, h => h
 | o :: l, l', hg, h => by
  simp only [QO] at h ⊢
  have e : Zw P nt (Kt ops m) o = Zw P nt ops o := by
   unfold Zw; rw [hg o Wc]
  rw [e]
  split at h
  ·rename_i o' r' e1 e2
   rw [e1, Te (fun x hx => hg x (by simp [hx])) e2]; exact h
  ·cases h
theorem X7 : ∀ {l : List Oper} {a b : List AOper}, QO P nt ops l = some (a ++ b) -> QO P nt ops (l.take a.length) = some a /\ QO P nt ops (l.drop a.length) = some b
 | l, [], b, h => ⟨by simp [QO], by simpa using h⟩
 | [], x :: a, b, h => by simp [QO] at h
 | o :: l, x :: a, b, h => by
  simp only [QO] at h
  split at h
  ·rename_i o' r' e1 e2
   simp only [List.cons_append, QhI, List.cons.injEq] at h
   obtain ⟨rfl, rfl⟩ := h
   obtain ⟨h1, h2⟩ := X7 e2
   refine ⟨?_, by simpa using h2⟩
   simp only [List.length_cons, List.take_succ_cons, QO]
   rw [e1, h1]
  ·cases h
def QeS (l1 l2 : List AOper) : Bool := (l2.all fun o => o.guard.isNone) || match l1.getLast? with
 | some o => o.guard.isSome
 | none => true
theorem HG {o : Oper} {x : Option (Nat × Bool)} (h : ZE ops o.guard = some x) : x.isNone = o.guard.isNone := by
 cases hg : o.guard with
 | none => rw [hg] at h; simp only [ZE, QhI] at h; subst h; rfl
 | some p =>
  rw [hg] at h
  simp only [ZE] at h
  split at h
  ·cases h; rfl
  ·cases h
theorem BM (hg : gdB ops = true) (hm : m <= ops.size) (h : MN ops = true) : MN (Kt ops m) = true := by
 simp only [MN, QhJ, QhP, Qh1] at h ⊢
 refine ⟨?_, fun k hk => ?_⟩
 ·unfold Region.noSelect at h ⊢
  rw [Array.all_eq_true_iff_forall_mem] at h ⊢
  intro o ho
  obtain ⟨i, hi, e⟩ := Array.mem_iff_getElem.1 ho
  exact h.1 o (Array.mem_of_getElem? (Nh (by rw [<- e]; exact Array.getElem?_eq_getElem hi)).2)
 ·rw [JP hm] at hk
  have hf := h.2 k Wa
  unfold P1 at hf ⊢
  rw [Y7 hk]
  cases ho : ops[k]? with
  | none => rw [ho] at hf; cases hf
  | some o =>
   rw [ho] at hf
   simp only [QhJ, QhP, Qh1] at hf ⊢
   refine ⟨hf.1, fun j hj => ?_⟩
   rw [JP hm] at hj
   have := hf.2 j Wa
   rw [Y7 hj]
   cases hp : ops[j]? with
   | none => simp
   | some p =>
    rw [hp] at this
    simp only at this ⊢
    rw [Do hg hk ho hj hp]
    exact this
theorem QdV (hm : m <= ops.size) (h : lsB ops = true) : lsB (Kt ops m) = true := by
 simp only [lsB, Bool.or_eq_true] at h ⊢
 rcases h with h | h
 ·left
  have h1 := QhG h
  refine Nat.ble_eq_true_of_le (QhY ?_ h1)
  simp only [Kt]
  exact List.Sublist.countP_le (List.take_sublist _ _)
 ·right
  simp only [QhP, Qh1] at h ⊢
  intro j hj k hk
  rw [JP hm] at hj
  rw [Y7 hj, Y7 (Wa : k < m)]
  exact h j Wa k hk
theorem QdU {l1 l2 : List AOper} (hp : QO P nt ops ops.toList = some (l1 ++ l2)) (hc : QeS l1 l2 = true) (h : lcB ops = true) : lcB (Kt ops l1.length) = true := by
 obtain ⟨hp1, hp2⟩ := X7 hp
 have hlen := XI hp
 have hm : l1.length <= ops.size := by simp at hlen; omega
 simp only [lcB, QhP, Qh1] at h ⊢
 intro j hj k hk
 rw [JP hm] at hj
 have := h j Wa k hk
 rw [Y7 hj, Y7 (Wa : k < l1.length)]
 cases hoj : ops[j]? with
 | none => simp
 | some oj =>
  cases hok : ops[k]? with
  | none => simp
  | some ok =>
   rw [hoj, hok] at this
   simp only [Bool.or_eq_true, Bool.not_eq_true', QhS] at this ⊢
   have hdrop : (Kt ops l1.length).toList = ops.toList.take l1.length := by simp [Kt]
   have e1 : KV (Kt ops l1.length) k = true -> KV ops k = true := fun hf => by
    simp only [KV, hdrop] at hf ⊢
    simp only [QeS, Bool.or_eq_true] at hc
    have hsp : ops.toList.drop k = (ops.toList.take l1.length).drop k ++ ops.toList.drop l1.length := by
     rw [<- List.drop_append_of_le_length We, List.take_append_drop]
    rcases hc with hc | hc
    ·rw [hsp, List.all_append, hf, Bool.true_and]
     rw [QhP] at hc ⊢
     intro x hx
     obtain ⟨i, hi⟩ := List.mem_iff_getElem?.1 hx
     obtain ⟨x', h1, h2⟩ := Zn hp2 i x hi
     rw [<- HG (QT h2).2.1]
     exact hc x' (List.mem_of_getElem? h1)
    ·exfalso
     have hne : l1 ≠ [] := by intro e; subst e; simp at hj
     rw [List.getLast?_eq_some_getLast hne] at hc
     have hlast : ∃ o, ops[l1.length - 1]? = some o := ⟨_, Array.getElem?_eq_getElem (Wa : l1.length - 1 < ops.size)⟩
     obtain ⟨o, ho⟩ := hlast
     obtain ⟨o', h1, h2⟩ := Zn hp (l1.length - 1) o (by rw [Array.getElem?_toList]; exact ho)
     rw [List.getElem?_append_left Wa, <- List.getLast?_eq_getElem?, List.getLast?_eq_some_getLast hne] at h1
     cases h1
     have hn := HG (QT h2).2.1
     have hmem : o ∈ (ops.toList.take l1.length).drop k := by
      refine List.mem_iff_getElem?.2 ⟨l1.length - 1 - k, ?_⟩
      rw [List.getElem?_drop, List.getElem?_take, if_pos Wa, show k + (l1.length - 1 - k) = l1.length - 1 by omega, Array.getElem?_toList]; exact ho
     have := QhP.1 hf o hmem
     simp only at hc
     rw [<- hn] at this
     cases hx : (l1.getLast hne).guard with
     | none => rw [hx] at hc; cases hc
     | some _ => rw [hx] at this; cases this
   have e2 : Rv (Kt ops l1.length) k j = Rv ops k j := by
    simp only [Rv, hdrop]
    congr 1
    rw [List.drop_take, List.take_take, Nat.min_eq_left Wa]
   rcases this with ⟨h1 | h1 | h1⟩ | h1
   ·exact .inl (.inl h1)
   ·exact .inl (.inr (.inl h1))
   ·refine .inl (.inr (.inr ?_))
    rw [e2]
    rcases h1 with h1 | h1
    ·left
     cases hx : KV (Kt ops l1.length) k with
     | false => rfl
     | true => rw [e1 hx] at h1; cases h1
    ·exact .inr h1
   ·exact .inr h1
theorem QdT (hm : m <= ops.size) (h : gdB ops = true) : gdB (Kt ops m) = true := by
 simp only [gdB, QhP, Qh1] at h ⊢
 intro k hk
 rw [JP hm] at hk
 rw [Y7 hk]
 exact h k Wa
/-! ### From the orders of the first operations to those of all -/
theorem My {Q : Exit -> Act -> World -> Prop} : ∀ (fuel : Nat) (listed : Array Bool) (a : Act) (w : World), wpAny P .any ops Q fuel listed a w -> wpAny P .any ops Q (fuel + 1) listed a w
 | 0, listed, a, w, h => ⟨fun _ => h.2, fun i hi => by rw [h.1] at hi; cases hi⟩
 | fuel + 1, listed, a, w, h => ⟨h.1, fun i hi => wpOp_mono (fun a w h => My fuel _ a w h) (h.2 i hi)⟩
theorem NW {Q : Exit -> Act -> World -> Prop} (n : Nat) : ∀ (k : Nat) (listed : Array Bool) (a : Act) (w : World), wpAny P .any ops Q n listed a w -> wpAny P .any ops Q (k + n) listed a w
 | 0, _, _, _, h => by rw [Nat.zero_add]; exact h
 | k + 1, listed, a, w, h => by
  rw [show k + 1 + n = k + n + 1 by omega]
  exact My _ _ _ _ (NW n k listed a w h)
theorem QdW {o : Oper} {a : Act} {w : World} {K K' : Act -> World -> Prop} {Q Q1 : Exit -> Act -> World -> Prop} (hQ : ∀ e a w, e ≠ .normal -> Q1 e a w -> Q e a w) (hK : ∀ a w, K a w -> K' a w) (h : o.wp P a w K Q1) : o.wp P a w K' Q := by
 unfold Oper.wp at *
 generalize (execOp a.eval o).run P w = r at *
 have hL : LetsOut Q1 -> LetsOut Q := fun ⟨a, w, h⟩ => ⟨a, w, hQ _ _ _ (by intro e; cases e) h⟩
 cases r with
 | ok n w' =>
  cases n <;> simp only [Oper.upon] at h ⊢ <;>
   first
    | exact hK _ _ h
    | exact Calls.mono h (fun e w'' he => by cases e <;> first | exact hK _ _ he | exact hQ _ _ _ (by intro e; cases e) he | exact hL he)
    | exact Rows.mono h (fun _ _ he => hK _ _ he)
    | exact h
 | halt x w' => cases x <;> simp only [Oper.upon] at h ⊢ <;> first | exact hQ _ _ _ (by intro e; cases e) h | exact h
theorem Lg (hg : gdB ops = true) {k : Nat} {o : Oper} (hk : k < m) (ho : ops[k]? = some o) (tmps : Array Value) : Region.wanted o (yielded (Kt ops m) tmps) = Region.wanted o (yielded ops tmps) := by
 unfold Region.wanted
 cases hgd : o.guard with
 | none => rfl
 | some p =>
  obtain ⟨j, b⟩ := p
  have := MP hg ho hgd
  simp only [yielded]
  rw [Y7 Wa]
theorem Jz {listed : Array Bool} : ∀ (k : Nat), (∃ i, i < k /\ listed.getD i true = false) -> ∃ i, i < k /\ listed.getD i true = false /\ ∀ j, j < i -> listed.getD j true = true
 | 0, ⟨_, h, _⟩ => Wa
 | k + 1, ⟨i, h1, h2⟩ => by
  by_cases h : ∃ i, i < k /\ listed.getD i true = false
  ·obtain ⟨i, q1, q2, q3⟩ := Jz k h
   exact ⟨i, Wa, q2, q3⟩
  ·refine ⟨i, h1, h2, fun j hj => ?_⟩
   cases hx : listed.getD j true with
   | true => rfl
   | false => exact absurd ⟨j, Wa, hx⟩ h
theorem XY {listed : Array Bool} {i : Nat} (hi : i < listed.size) : listed.getD i true = listed.getD i false := by
 simp [Array.getD_eq_getD_getElem?, Array.getElem?_eq_getElem hi]
theorem Be {Q Q1 : Exit -> Act -> World -> Prop} {rest : Nat} (hg : gdB ops = true) (hf : MN ops = true) (hm : m <= ops.size) (hQ : ∀ e a w, e ≠ .normal -> Q1 e a w -> Q e a w) (hbar : ∀ i j, i < m -> m <= j -> j < ops.size -> Anc ops j i)
  (hN : ∀ a w (listed : Array Bool), listed.size = ops.size -> (∀ i, i < ops.size -> listed.getD i true = decide (i < m)) -> Bn ops listed -> Q1 .normal a w -> wpAny P .any ops Q rest listed a w) :
  ∀ (fuel : Nat) (listed1 listed : Array Bool) (a : Act) (w : World), listed.size = ops.size -> listed1.size = m -> (∀ i, i < m -> listed.getD i true = listed1.getD i true) -> (∀ i, m <= i -> i < ops.size -> listed.getD i true = false) -> Bn ops listed ->
   wpAny P .any (Kt ops m) Q1 fuel listed1 a w -> wpAny P .any ops Q (fuel + rest) listed a w := by
 have hfs : ∀ k, k < ops.size -> P1 ops k = true := by
  simp only [MN, QhJ, QhP, Qh1] at hf
  exact hf.2
 have hedge : ∀ {k : Nat} {o : Oper}, ops[k]? = some o -> ∀ e ∈ o.after, Region.binds .any e = true -> e.on < k := fun {k o} ho e he hb => by
  have h1 := hfs k (Array.getElem?_eq_some_iff.1 ho).1
  unfold P1 at h1
  rw [ho] at h1
  simp only [QhJ, Array.all_eq_true_iff_forall_mem] at h1
  have := h1.1 e he
  simpa [hb] using this
 intro fuel
 induction fuel with
 | zero =>
  intro listed1 listed a w h1 h2 h3 h4 hd h
  rw [Nat.zero_add]
  refine hN a w listed h1 (fun i hi => ?_) hd h.2
  by_cases him : i < m
  ·rw [decide_eq_true him]
   cases hx : listed.getD i true with
   | true => rfl
   | false =>
    obtain ⟨i0, q1, q2, q3⟩ := Jz m ⟨i, him, by rw [<- h3 i him]; exact hx⟩
    have ho : ops[i0]? = some ops[i0] := Array.getElem?_eq_getElem Wa
    have : i0 ∈ Region.ready .any (Kt ops m) listed1 := mem_ready.2 ⟨q2, _, by rw [Y7 q1]; exact ho, fun e he hb => by
     have he1 := hedge ho e he hb
     rw [<- XY Wa]; exact q3 e.on he1⟩
    rw [h.1] at this; cases this
  ·rw [decide_eq_false him]; exact h4 i Wa hi
 | succ fuel ih =>
  intro listed1 listed a w h1 h2 h3 h4 hd h
  by_cases hall : ∃ i, i < m /\ listed1.getD i true = false
  ·obtain ⟨i0, q1, q2, q3⟩ := Jz m hall
   have ho : ops[i0]? = some ops[i0] := Array.getElem?_eq_getElem Wa
   have hr0 : i0 ∈ Region.ready .any ops listed := mem_ready.2 ⟨by rw [h3 i0 q1]; exact q2, _, ho, fun e he hb => by
     have he1 := hedge ho e he hb
     rw [<- XY Wa, h3 _ Wa]; exact q3 e.on he1⟩
   rw [show fuel + 1 + rest = (fuel + rest) + 1 by omega]
   refine ⟨fun hx => (by rw [hx] at hr0; cases hr0), fun i hi => ?_⟩
   obtain ⟨hu, o, hoi, hal⟩ := mem_ready.1 hi
   have him : i < m := Classical.byContradiction fun hn => by
    have := Gz hd hi (hbar i0 i q1 Wa (Array.getElem?_eq_some_iff.1 hoi).1)
    rw [<- XY Wa, h3 i0 q1, q2] at this; cases this
   have hi1 : i ∈ Region.ready .any (Kt ops m) listed1 := mem_ready.2 ⟨by rw [<- h3 i him]; exact hu, o, by rw [Y7 him]; exact hoi, fun e he hb => by
    have he1 := hedge hoi e he hb
    have := hal e he hb
    rw [<- XY Wa, <- h3 _ Wa, XY Wa]; exact this⟩
   have hw := h.2 i hi1
   unfold wpOp at hw ⊢
   rw [Y7 him, hoi] at hw
   rw [hoi]
   simp only at hw ⊢
   rw [Lg hg him hoi] at hw
   have step : ∀ a w, wpAny P .any (Kt ops m) Q1 fuel (listed1.setIfInBounds i true) a w -> wpAny P .any ops Q (fuel + rest) (listed.setIfInBounds i true) a w := fun a w hh => by
    refine ih _ _ a w (by simp [h1]) (by simp [h2]) (fun k hk => ?_) (fun k hk hk2 => ?_) (FI hd hi) hh
    ·by_cases e : i = k
     ·subst e
      rw [Array.getD_eq_getD_getElem?, Array.getElem?_setIfInBounds_self_of_lt Wa, Array.getD_eq_getD_getElem?, Array.getElem?_setIfInBounds_self_of_lt Wa]
     ·rw [getD_set_ne true e, getD_set_ne true e]; exact h3 k hk
    ·rw [getD_set_ne true Wa]; exact h4 k hk hk2
   split
   ·rename_i hwt
    rw [if_pos hwt] at hw
    rcases hw with hw | ⟨hw, a', w', hL⟩
    ·exact .inl (QdW hQ step hw)
    ·exact .inr ⟨hw, a', w', hQ _ _ _ (by intro e; cases e) hL⟩
   ·rename_i hwt
    rw [if_neg hwt] at hw
    exact step _ _ hw
  ·have hno : Region.ready .any (Kt ops m) listed1 = [] := by
    rw [List.eq_nil_iff_forall_not_mem]
    intro i hi
    obtain ⟨hu, o, ho, _⟩ := mem_ready.1 hi
    exact hall ⟨i, (Nh ho).1, hu⟩
   rw [show fuel + 1 + rest = (fuel + 1) + rest by omega]
   refine NW rest (fuel + 1) listed a w (hN a w listed h1 (fun i hi => ?_) hd (h.1 hno))
   by_cases him : i < m
   ·rw [decide_eq_true him, h3 i him]
    cases hx : listed1.getD i true with
    | true => rfl
    | false => exact absurd ⟨i, him, hx⟩ hall
   ·rw [decide_eq_false him]; exact h4 i Wa hi
end
/-! ### The rule -/
section
variable {P : Program} {nt : Nat} {ops : Array Oper}
def QbS : List AOper -> AOper -> List AOper -> Bool
 | [], o, l2 => (List.range l2.length).all fun n => (XS o.dst.toList l2).contains n
 | x :: b, o, l2 => (XS x.dst.toList (b ++ o :: l2)).contains l2.length && QbS b o l2
theorem L6 : ∀ {l1 : List AOper} {o : AOper} {l2 : List AOper}, QbS l1 o l2 = true -> (∀ i (h : i < l1.length), (XS l1[i].dst.toList (l1.drop (i + 1) ++ o :: l2)).contains l2.length = true) /\ ∀ n, n < l2.length -> (XS o.dst.toList l2).contains n = true
 | [], o, l2, h => ⟨fun i hi => by simp at hi, fun n hn => by simp only [QbS, QhP, Qh1] at h; exact h n hn⟩
 | x :: b, o, l2, h => by
  simp only [QbS, QhJ] at h
  obtain ⟨h1, h2⟩ := L6 h.2
  refine ⟨fun i hi => ?_, h2⟩
  cases i with
  | zero => simpa using h.1
  | succ i => simpa using h1 i (by simpa using hi)
theorem Lb {l1 l2 : List AOper} {o : AOper} (hlex : PC ops) (hp : QO P nt ops ops.toList = some (l1 ++ o :: l2)) (hb : QbS l1 o l2 = true) : (∀ i, i < l1.length -> Anc ops l1.length i) /\ ∀ j, l1.length < j -> j < ops.size -> Anc ops j l1.length := by
 obtain ⟨h1, h2⟩ := L6 hb
 have hlen := XI hp
 simp only [List.length_append, List.length_cons, Array.length_toList] at hlen
 have key : ∀ i (hi : i < (l1 ++ o :: l2).length), ∀ n ∈ XS ((l1 ++ o :: l2)[i]).dst.toList ((l1 ++ o :: l2).drop (i + 1)), Anc ops ((l1 ++ o :: l2).length - 1 - n) i := fun i hi => by
  refine J1 hlex hp (i := i) _ (i + 1) _ rfl (by simp at hi ⊢; omega) fun t ht => ?_
  have his : i < ops.size := by rw [<- hlen]; simpa using hi
  have hoi : ops[i]? = some ops[i] := Array.getElem?_eq_getElem his
  obtain ⟨o2, q1, q2⟩ := Zn hp i ops[i] (by rw [Array.getElem?_toList]; exact hoi)
  rw [List.getElem?_eq_getElem hi] at q1
  cases q1
  refine ⟨i, ops[i], Nat.lt_succ_self i, hoi, ?_, .inl rfl⟩
  rw [<- (QT q2).2.2.1]
  simpa using ht
 refine ⟨fun i hi => ?_, fun j hj hjs => ?_⟩
 ·have h3 := h1 i hi
  have h4 := key i We l2.length (by
   rw [List.getElem_append_left hi, List.drop_append_of_le_length Wa]
   simpa using h3)
  simp only [List.length_append, List.length_cons] at h4
  rwa [show l1.length + (l2.length + 1) - 1 - l2.length = l1.length by omega] at h4
 ·have h3 := h2 (l1.length + l2.length - j) Wa
  have h4 := key l1.length Wc (l1.length + l2.length - j) (by
   rw [List.getElem_append_right (Nat.le_refl _)]
   simp only [Nat.sub_self, List.getElem_cons_zero]
   rw [show l1.length + 1 = (l1 ++ [o]).length by simp, show l1 ++ o :: l2 = (l1 ++ [o]) ++ l2 by simp, List.drop_left]
   simpa using h3)
  simp only [List.length_append, List.length_cons] at h4
  rwa [show l1.length + (l2.length + 1) - 1 - (l1.length + l2.length - j) = j by omega] at h4
def Bk (P : Program) (o : AOper) (K : St -> Prop) (s : St) : Prop :=
 gw s o.guard = some true /\ ∃ t f args G Hr d, o.dst = some t /\ JI s o.op f args /\ Qb3 P f args s G Hr d /\ K ⟨(t, d) :: s.fr, Hr⟩
def Qam (P : Program) (o : AOper) (K : St -> Prop) (s : St) : Prop := ∃ s', s.le s' /\ Bk P o K s'
theorem RW {Q : ZT -> St -> Prop} {s : St} {l1 l2 : List AOper} {o : AOper} (hb : QbS l1 o l2 = true) (hc : QeS l1 (o :: l2) = true)
  (h : run P (.drawn s.H [] []) l1 (Qam P o (fun s' => run P (.drawn s'.H [] []) l2 (Q .normal) s')) s) : AW P nt (.region true (l1 ++ o :: l2)) Q s := fun code E g a w hm hp hn hfl r => by
 obtain ⟨id, ops, rfl, hB, h1⟩ := JU hp
 refine wpIn_region_any hm (GO (fun ⟨_, _, h⟩ => h) (Xn h1) _ _ _ _ ?_)
 have hB' := hB rfl
 simp only [Ni, QhJ] at hB'
 obtain ⟨⟨hf, hls⟩, hlc, hg⟩ := hB'
 have hlex : PC ops := Tv (Gt hf)
 have hlen := XI h1
 simp only [List.length_append, List.length_cons, Array.length_toList] at hlen
 have hmz : l1.length <= ops.size := Wa
 obtain ⟨hb1, hb2⟩ := Lb hlex h1 hb
 have hdst : ∀ (j : Nat) (o' : Oper), ops[j]? = some o' -> ∀ t, o'.dst = some t -> t < E.nt := fun j o' ho t ht => by rw [hn]; exact YU h1 j o' ho t ht
 have hfs : ∀ k, k < ops.size -> P1 ops k = true := by
  have hf' := hf
  simp only [MN, QhJ, QhP, Qh1] at hf'
  exact hf'.2
 obtain ⟨hp1, _⟩ := X7 h1
 have hp1' : QO P nt (Kt ops l1.length) (Kt ops l1.length).toList = some l1 := by
  rw [show (Kt ops l1.length).toList = ops.toList.take l1.length by simp [Kt]]
  refine Te (fun x hx => ?_) hp1
  obtain ⟨i, hi⟩ := List.mem_iff_getElem?.1 hx
  rw [List.getElem?_take] at hi
  split at hi
  ·rename_i e
   exact Dp hg e (by rw [<- Array.getElem?_toList]; exact hi)
  ·cases hi
 have hdr : Ni (Kt ops l1.length) = true := by
  simp only [Ni, QhJ]
  exact ⟨⟨BM hg hmz hf, QdV hmz hls⟩, QdU h1 hc hlc, QdT hmz hg⟩
 have hdr' := hdr
 simp only [Ni, QhJ] at hdr'
 obtain ⟨Q1, hQ1n, hQ1⟩ : ∃ Q1 : Exit -> Act -> World -> Prop, (∀ a w, Q1 .normal a w ↔ ∃ s' g', Rel E g' s' a w /\ Qam P o (fun s' => run P (.drawn s'.H [] []) l2 (Q .normal) s') s') /\ ∀ e a w, e ≠ .normal -> (Q1 e a w ↔ AQ E Q e a w) :=
  ⟨fun e a w => (e = .normal /\ ∃ s' g', Rel E g' s' a w /\ Qam P o (fun s' => run P (.drawn s'.H [] []) l2 (Q .normal) s') s') \/ (e ≠ .normal /\ AQ E Q e a w), fun a w => ⟨fun h => h.elim (fun h => h.2) (fun h => absurd rfl h.1), fun h => .inl ⟨rfl, h⟩⟩, fun e a w he => ⟨fun h => h.elim (fun h => absurd h.1 he) (fun h => h.2), fun h => .inr ⟨he, h⟩⟩⟩
 have hcz : (Kt ops l1.length).size = l1.length := JP hmz
 have inner : wpAny P .any (Kt ops l1.length) Q1 l1.length (Array.replicate l1.length false) a { w with drawn := w.drawn + 1 } := by
  have := GA (Q := Q1) (Gt hdr'.1.1) hn hp1' (fun j o' ho t ht => hdst j o' (Nh ho).2 t ht) r (fun _ h => h) (SD h _ hp1' hdr) fun s' g' a' w' r' h' => (hQ1n a' w').2 ⟨s', g', r', h'⟩
  rwa [hcz] at this
 have hsz : ops.size = l1.length + (l2.length + 1) := Wa
 have main := Be (P := P) (Q := AQ E Q) (rest := l2.length + 1) hg hf hmz (fun e a w he hq => (hQ1 e a w he).1 hq) (fun i j hi hj hjs => ?_) (fun a w listed hls1 hls2 hdn hq => ?_) l1.length (Array.replicate l1.length false) (Array.replicate ops.size false) a _ Wc Wc (fun i hi => by simp [hi, show i < ops.size by omega]) (fun i h1 h2 => by simp [h2]) (fun j i hj _ => ?_) inner
 ·rw [hsz]; rw [hsz] at main; exact main
 ·rcases Nat.eq_or_lt_of_le hj with e | e
  ·subst e; exact hb1 i hi
  ·exact (hb2 j e hjs).trans (hb1 i hi)
 ·obtain ⟨s0, g0, r0, s1, hle, hgo, t, f, args, G, Hr, d, hdt, hcal, hcz2, hk⟩ := (hQ1n a w).1 hq
  obtain ⟨g1, r1⟩ := hle _ _ _ _ r0
  have hms : l1.length < ops.size := Wa
  have hom : ops[l1.length]? = some ops[l1.length] := Array.getElem?_eq_getElem hms
  have hpo : Zw P nt ops ops[l1.length] = some o := by
   obtain ⟨o2, q1, q2⟩ := Zn h1 l1.length ops[l1.length] (by rw [Array.getElem?_toList]; exact hom)
   rw [List.getElem?_append_right (Nat.le_refl _), Nat.sub_self] at q1
   simp only [List.getElem?_cons_zero, QhI] at q1
   rw [q1]; exact q2
  have hready : l1.length ∈ Region.ready .any ops listed := mem_ready.2 ⟨by rw [hls2 _ hms, decide_eq_false Wa], _, hom, fun e he hb => by
   have h2 := hfs l1.length hms
   unfold P1 at h2
   rw [hom] at h2
   simp only [QhJ, Array.all_eq_true_iff_forall_mem] at h2
   have h3 := h2.1 e he
   have h4 : e.on < l1.length := by simpa [hb] using h3
   rw [<- XY Wa, hls2 _ Wa, decide_eq_true h4]⟩
  refine ⟨fun hx => (by rw [hx] at hready; cases hready), fun i hi => ?_⟩
  obtain ⟨hu, oi, hoi, _⟩ := mem_ready.1 hi
  have his : i < ops.size := (Array.getElem?_eq_some_iff.1 hoi).1
  have him : i = l1.length := by
   rw [hls2 i his] at hu
   have h2 : ¬ i < l1.length := of_decide_eq_false hu
   refine Classical.byContradiction fun hne => ?_
   have h3 := Gz hdn hi (hb2 i Wa his)
   rw [<- XY Wa, hls2 _ hms, decide_eq_false Wa] at h3
   cases h3
  subst him
  unfold wpOp
  rw [hom]
  simp only
  obtain ⟨p1, p2, p3, p4⟩ := QT hpo
  rw [Xb r1 p2 hdst true hgo]
  simp only [if_true]
  refine .inl (Nc r1 p1 hcal hcz2 (fun t ht => by rw [hn]; exact p4 t ht) fun g' a' w' r' => ?_)
  have e : St.apply ⟨s1.fr, Hr⟩ (ops[l1.length]).dst d none = ⟨(t, d) :: s1.fr, Hr⟩ := by rw [<- p3, hdt]; rfl
  rw [e] at r'
  have hdrop : l2 = (l1 ++ o :: l2).drop (l1.length + 1) := by
   rw [show l1.length + 1 = (l1 ++ [o]).length by simp, show l1 ++ o :: l2 = (l1 ++ [o]) ++ l2 by simp, List.drop_left]
  have hD : J8 P (fun k => (lk Hr k).isSome = true) (Anc ops) l2 (l1.length + 1) [] [] (Q .normal) ⟨(t, d) :: s1.fr, Hr⟩ := K8 (H0 := Hr) hlex hls hlc h1 l2 (l1.length + 1) [] [] [] [] ⟨(t, d) :: s1.fr, Hr⟩ hdrop We (fun _ _ h => by cases h) (fun _ _ h => by cases h) hk
  have hpre : FX P nt ops (l1 ++ o :: l2) := fun i o ho => Zn h1 i o (by rw [Array.getElem?_toList]; exact ho)
  have hlx : Region.lexFrom .any ops l2.length (l1.length + 1) (listed.setIfInBounds l1.length true) = true := by
   refine KA hfs l2.length (l1.length + 1) _ Wa (by simp [hls1]) fun i d hi => ?_
   by_cases e : l1.length = i
   ·subst e
    rw [decide_eq_true Wa, Array.getD_eq_getD_getElem?, Array.getElem?_setIfInBounds_self_of_lt Wa]; rfl
   ·rw [getD_set_ne d e]
    have : listed.getD i d = listed.getD i true := by simp [Array.getD_eq_getD_getElem?, Array.getElem?_eq_getElem (Wa : i < listed.size)]
    rw [this, hls2 i hi]
    exact decide_eq_decide.2 Wa
  refine Je (KK := fun s => ∃ s', s.same s' /\ Q .normal s') (B := fun k => (lk Hr k).isSome = true) hn hpre hdst (fun s g a w ⟨s', q1, q2⟩ r => ⟨s', g, q2, r.same q1⟩) l2.length _ [] [] _ g' a' w' r' ?_
  exact GQ hn (fun s s' hs ⟨s2, q1, q2⟩ => ⟨s2, ⟨fun t => (hs.1 t).symm.trans (q1.1 t), fun k => (hs.2 k).symm.trans (q1.2 k)⟩, q2⟩) hpre l2 (l1.length + 1) _ [] [] _ (fun j => by
   exact (congrArg (·[j]?) hdrop).trans List.getElem?_drop) ⟨g', a', w', r'⟩ (fun _ h => h) (FI hdn hi) hlx (F6 (K := Q .normal) (K' := fun s => ∃ s', s.same s' /\ Q .normal s') (fun s h => ⟨s, ⟨fun _ => rfl, fun _ => rfl⟩, h⟩) hD)
 ·rcases Qh2 j ops.size with h' | h'
  ·simp [h'] at hj
  ·simp [h'] at hj
end
section
variable {P : Program} {nt : Nat}
theorem QbC {Q : ZT -> St -> Prop} {s : St} {l1 l2 ol : List AOper} {o : AOper} {live : List Nat} {b : TCode} (h : ∀ K : St -> Prop, (∀ fr H, TW P nt b Q ⟨Zc live fr, H⟩ -> K ⟨fr, H⟩) -> run P (.drawn s.H [] []) l1 (Qam P o (fun s' => run P (.drawn s'.H [] []) l2 K s')) s) (hl : ol = l1 ++ o :: l2 := by rfl) (hb : QbS l1 o l2 = true := by rfl) (hc : QeS l1 (o :: l2) = true := by rfl) : TW P nt (.seq (.region true ol) live b) Q s := by
 subst hl
 exact N9 (RW hb hc (h (fun s' => AW P nt b.erase Q s') fun fr H hb => RU (G1 live fr H) hb))
end
end Go.Abs
namespace Go.Abs
open Go
/-! ### What a function only looks at: own boxes az they are, whatever names each other -/
def D.dfz (H : QhD) : Nat -> D -> D
 | 0, d => if d.own = true then .junk else d
 | n + 1, d => match d with
  | .osl k m => (match lk H k with
   | some b => if m = b.rows.length then .sl (b.rows.map fun r => r.map (D.dfz H n)) else .junk
   | none => .junk)
  | .ref k i off => (match lk H k with
   | some b => .ptr (((b.rows.getD i []).drop off).map (D.dfz H n))
   | none => .junk)
  | d => if d.own = true then .junk else d
def D.dfzT (H : QhD) (n : Nat) : D -> D
 | .agg cs => .agg (cs.map (D.dfz H n))
 | d => d.dfz H n
section
variable {g : Gh} {H : QhD} {w : World}
theorem NT {B : Nat} {c : Array Value} {e : TypeId} {f : Nat × Nat} (h : w.heap[B]? = some (.cells c e f)) (p : Nat) : Ha w B p = c[p]? := by unfold Ha; rw [h]
theorem Sr {K : Kn} (h : KRel K w) : K.le (Ha w) := fun b o x hx => by
 obtain ⟨c, e, f, h1, h2⟩ := h b o x hx
 rw [NT h1]; exact h2
theorem Pb {d : D} {v : Value} (h : RepS g d v) (ho : d.own = true) : v.oneCell' = true := by
 cases d <;> simp only [D.own, QhN] at ho
 case osl => obtain ⟨a, cap, rfl, _⟩ := h; rfl
 case osv => obtain ⟨a, cap, rfl, _⟩ := h; rfl
 case ref => obtain ⟨B, esz, o, _, rfl⟩ := h; rfl
 case clr => obtain ⟨B, esz, o, cs, _, rfl, _⟩ := h; rfl
theorem TI (hK : KRel g.K w) {d : D} {v : Value} (h : RepS g d v) : RepP (Ha w) (if d.own = true then .junk else d) v := by
 split
 ·rename_i ho; simp only [RepP]; exact Pb h ho
 ·rename_i ho; exact RepP.mono (Sr hK) _ _ (h.toP (by simpa using ho))
theorem Rz {d : D} (h : d.isCell = true) : (if d.own = true then D.junk else d).isCell = true := by
 split
 ·rfl
 ·exact h
theorem Th {d : D} (h : d.isCell = true) : ∀ n, (d.dfz H n).isCell = true
 | 0 => Rz h
 | n + 1 => by
  unfold D.dfz
  split
  ·split
   ·split <;> rfl
   ·rfl
  ·split <;> rfl
  ·exact Rz h
theorem HRel.sid (hr : HRel g H w) {k : Nat} {b : Box} (hb : lk H k = some b) : ∀ r ∈ b.rows, ∀ d ∈ r, ∀ j ∈ d.sid, (lk H j).isSome = true := fun r hrr d hd j hj => by
 by_cases hp : b.pr = true
 ·rw [(hr.bx k b hb).2.1 hp r hrr d hd] at hj; cases hj
 ·refine hr.wfH k b hb j ?_
  unfold Box.ids
  rw [if_neg hp]
  exact QhM.2 ⟨r, hrr, QhM.2 ⟨d, hd, hj⟩⟩
theorem R9 (hr : HRel g H w) : ∀ (n : Nat) {d : D} {v : Value}, RepS g d v -> RepP (Ha w) (d.dfz H n) v
 | 0, d, v, h => TI hr.kr h
 | n + 1, d, v, h => by
  have cellsR : ∀ {B : Nat} {c : Array Value}, (∀ p, Ha w B p = c[p]?) -> ∀ {off : Nat} {ds : List D}, CellsC g c off ds -> RepCells (Ha w) B off (ds.map (D.dfz H n)) := by
   intro B c hc off ds
   induction ds generalizing off with
   | nil => intro _; simp only [List.map_nil, RepCells]
   | cons d ds ih =>
    intro hh
    simp only [CellsC] at hh
    simp only [List.map_cons, RepCells]
    obtain ⟨⟨h1, x, h2, h3⟩, h4⟩ := hh
    exact ⟨⟨Th h1 n, x, by rw [hc]; exact h2, R9 hr n h3⟩, ih h4⟩
  have rowsR : ∀ {B : Nat} {c : Array Value}, (∀ p, Ha w B p = c[p]?) -> ∀ {off : Nat} {rs : List (List D)}, RowsC g c off rs -> RepRows (Ha w) B off (rs.map fun r => r.map (D.dfz H n)) := by
   intro B c hc off rs
   induction rs generalizing off with
   | nil => intro _; simp only [List.map_nil, RepRows]
   | cons r rs ih =>
    intro hh
    simp only [RowsC] at hh
    simp only [List.map_cons, RepRows, List.length_map]
    exact ⟨cellsR hc hh.1, ih hh.2⟩
  unfold D.dfz
  split
  ·rename_i k m
   cases hb : lk H k with
   | none => simp only [RepP]; exact Pb h rfl
   | some b =>
    simp only
    split
    ·rename_i hm
     obtain ⟨a, cap, h1, h2, h3⟩ := h
     subst hm
     simp only [RepP, List.length_map]
     refine ⟨a, cap, h1, h2, ?_⟩
     by_cases h0 : b.rows = []
     ·left; rw [h0]; rfl
     ·right
      obtain ⟨b1, b2, b3⟩ := hr.bx k b hb
      rcases b3 with ⟨b3, _⟩ | ⟨_, B, c, b4, b5, b6, b7, _⟩
      ·exact absurd b3 h0
      ·rcases h3 with ⟨h3, _⟩ | ⟨B', esz, h3, h4, _⟩ | h3
       ·exact absurd (List.length_eq_zero_iff.1 h3) h0
       ·rw [b4] at h3; cases h3
        exact ⟨B, (g.σ k).2, b.esz, h4, fun r hrr => by obtain ⟨r', hr', rfl⟩ := QhT.1 hrr; rw [List.length_map]; exact b1 r' hr', rowsR (NT b5) b7⟩
       ·exact (h3.no b4).elim
    ·simp only [RepP]; exact Pb h rfl
  ·rename_i k i off
   cases hb : lk H k with
   | none => simp only [RepP]; exact Pb h rfl
   | some b =>
    simp only
    obtain ⟨B', esz, o, h1, h2⟩ := h
    simp only [RepP]
    by_cases hi : i < b.rows.length
    ·obtain ⟨b1, b2, b3⟩ := hr.bx k b hb
     rcases b3 with ⟨b3, _⟩ | ⟨_, B, c, b4, b5, b6, b7, _⟩
     ·rw [b3] at hi; cases hi
     ·rcases h1 with ⟨h1, rfl⟩ | h1
      ·rw [b4] at h1; cases h1
       refine ⟨_, _, h2, ?_⟩
       have hrow : b.rows[i]? = some (b.rows.getD i []) := by rw [List.getD_eq_getElem?_getD, List.getElem?_eq_getElem hi]; rfl
       have hc := X8 i b1 b7 hrow
       rw [show (g.σ k).2 + (i * b.esz + off) = (g.σ k).2 + i * b.esz + off by omega]
       refine cellsR (NT b5) (Gf fun j d hj => ?_)
       rw [List.getElem?_drop] at hj
       have := Ks hc (off + j) d hj
       rw [show (g.σ k).2 + i * b.esz + off + j = (g.σ k).2 + i * b.esz + (off + j) by omega]; exact this
      ·exact (h1.no b4).elim
    ·refine ⟨B', _, h2, ?_⟩
     rw [List.getD_eq_getElem?_getD, List.getElem?_eq_none Wa]
     simp only [Option.getD_none, List.drop_nil, List.map_nil, RepCells]
  ·exact TI hr.kr h
theorem Tg (hr : HRel g H w) (n : Nat) : ∀ {ds : List D} {vs : List Value}, RepL g ds vs -> (∀ d ∈ ds, d.isCell = true) -> RepCs (Ha w) (ds.map (D.dfz H n)) vs
 | [], [], _, _ => by simp only [List.map_nil, RepCs]
 | d :: ds, v :: vs, h, hc => by
  simp only [List.map_cons, RepCs]
  exact ⟨⟨Th (hc d Wc) n, R9 hr n h.1⟩, Tg hr n h.2 fun x hx => hc x (by simp [hx])⟩
 | [], _ :: _, h, _ => h.elim
 | _ :: _, [], h, _ => h.elim
def D.dfzOk : D -> Bool
 | .clo _ cs => cs.all fun d => !d.own
 | .tpo cs _ => cs.all fun d => !d.own
 | _ => true
theorem BO (hr : HRel g H w) (n : Nat) {d : D} {v : Value} (h : Rep g d v) (hp : d.dfzOk = true) : RepP (Ha w) (d.dfzT H n) v := by
 cases d
 case agg cs =>
  obtain ⟨vs, h1, h2, h3⟩ := h
  simp only [D.dfzT, RepP]
  exact ⟨vs, h1, Tg hr n h2 h3⟩
 case clo f cs =>
  have h1 := RepP.mono (Sr hr.kr) _ _ (h.toP hp)
  cases n <;> exact h1
 case tpo cs x =>
  have h1 := RepP.mono (Sr hr.kr) _ _ (h.toP hp)
  cases n <;> exact h1
 all_goals exact R9 hr n h
theorem FH (hr : HRel g H w) (n : Nat) : ∀ {ds : List D} {vs : List Value}, RepA g ds vs -> (ds.all D.dfzOk) = true -> RepVs (Ha w) (ds.map (D.dfzT H n)) vs
 | [], [], _, _ => by simp only [List.map_nil, RepVs]
 | d :: ds, v :: vs, h, hp => by
  simp only [List.all_cons, QhJ] at hp
  simp only [List.map_cons, RepVs]
  exact ⟨BO hr n h.1 hp.1, FH hr n h.2 hp.2⟩
 | [], _ :: _, h, _ => h.elim
 | _ :: _, [], h, _ => h.elim
theorem DF {K K' : Kn} {d : D} {v : Value} (h : d.flat = true) (hv : RepP K d v) : RepP K' d v := by
 have one : ∀ {d : D} {v : Value}, d.flat1 = true -> RepP K d v -> RepP K' d v := fun {d v} h hv => by
  cases d <;> simp only [D.flat1, QhN] at h <;> simp only [RepP] at hv ⊢ <;> exact hv
 cases d
 case tup ds =>
  simp only [D.flat] at h
  simp only [RepP] at hv ⊢
  obtain ⟨vs, h1, h2⟩ := hv
  refine ⟨vs, h1, ?_⟩
  have : ∀ {ds : List D} {vs : List Value}, (ds.all D.flat1) = true -> RepVs K ds vs -> RepVs K' ds vs := by
   intro ds
   induction ds with
   | nil => intro vs _ h; cases vs <;> simp only [RepVs] at h ⊢
   | cons d ds ih =>
    intro vs hf h
    cases vs with
    | nil => simp only [RepVs] at h
    | cons v vs =>
     simp only [List.all_cons, QhJ] at hf
     simp only [RepVs] at h ⊢
     exact ⟨one hf.1 h.1, ih hf.2 h.2⟩
  exact this h h2
 all_goals exact one h hv
end
theorem OkH.ofOk {P : Program} {f : Nat} {ds ds' : List D} {H : QhD} {d : D} (n : Nat) (h : Ok P f ds' d) (hds : ds.map (D.dfzT H n) = ds') (hp : ds.all D.dfzOk = true) (hd : d.flat = true) (hi : d.ids = []) : OkH P f ds H d H := by
 refine ⟨h.1, fun g w vs hrel hargs hids => ?_⟩
 subst hds
 refine (h.2 (Ha w) w vs (Pj w) (FH hrel n hargs hp)).mono fun e w' ⟨v, K', he, hv, hr', hsz, hfr, hKK, hfx⟩ => ?_
 refine ⟨v, g, he, Rep.of (DF hd hv), ⟨hrel.wfH, fun k b hb => ?_, hrel.inj, fun b o x hx => ?_⟩, hsz, fun b hb _ => ⟨hfr b hb, rfl⟩, hfx, fun k _ hs => ⟨hs, rfl, rfl⟩, fun k B e hk hs hβ => .inr ⟨k, e, hk, hs, hβ⟩⟩
 ·refine (hrel.bx k b hb).move ⟨rfl, rfl⟩ (fun _ _ _ _ _ _ => ⟨rfl, rfl⟩) (Kn.le_refl _) fun B e hβ => ⟨hfr B ((hrel.bx k b hb).blk hβ).1, fun _ h => h, fun _ => .inl (QhR _)⟩
 ·obtain ⟨c, e, f, h1, h2⟩ := hrel.kr b o x hx
  exact ⟨c, e, f, by rw [hfr b (Array.getElem?_eq_some_iff.1 h1).1]; exact h1, h2⟩
theorem Cn {P : Program} {o : AOper} {t f : Nat} {G : List Nat} {az : List Opd} {ds ds' : List D} {d : D} {fr : QhE} {H Hr H1 H2 : QhD} {K : St -> Prop} (ho : o = ⟨some t, .call f az, none⟩) (hds : Zb ⟨fr, H⟩ az = some ds) (hk : Fv G = true)
  (hfr : (fr.all fun p => p.2.ids.all fun k => !G.contains k) = true) (hd : (d.ids.all fun k => G.contains k && (lk Hr k).isSome) = true) (hdom : (H.all fun p => (lk Hr p.1).isSome) = true) (hdom2 : (Hr.all fun p => G.contains p.1 || (lk H p.1).isSome) = true) (hds' : (ds.map fun d => (d.ren (Xd G)).can) = ds') (h1 : Kd G H = H1) (h2 : Kd G Hr = H2) (hok : OkH P f ds' H1 d H2) (hK : K ⟨(t, d) :: fr, Hr⟩) : opZ P o K ⟨fr, H⟩ := by
 subst ho hds' h1 h2
 refine ⟨rfl, t, f, _, G, Hr, d, rfl, .inl rfl, ⟨ds, hds, hk, Qcp hfr, fun k hkd => ?_, fun j h => ?_, fun j h => ?_, hok⟩, hK⟩
 ·have := QhP.1 hd k hkd
  simpa using this
 ·obtain ⟨b, hb⟩ := QhL.1 h
  exact QhP.1 hdom (j, b) (ZR hb)
 ·obtain ⟨b, hb⟩ := QhL.1 h
  have := QhP.1 hdom2 (j, b) (ZR hb)
  simpa using this
end Go.Abs
namespace Go.Abs
open Go
/-! ### A region in its order with several calls to which boxes are given -/
section
variable {P : Program} {nt : Nat} {E : Env}
theorem Qcz {o : AOper} {K : St -> Prop} {s : St} (h : opZ P o K s) : Bk P o K s := by
 obtain ⟨h1, h2⟩ := h
 exact ⟨by rw [h1]; rfl, h2⟩
theorem Cp {o : AOper} {K K' : St -> Prop} (hK : ∀ s, K s -> K' s) {s : St} (h : Bk P o K s) : Bk P o K' s := by
 obtain ⟨h1, t, f, args, G, Hr, d, h2, h3, h4, h5⟩ := h
 exact ⟨h1, t, f, args, G, Hr, d, h2, h3, h4, hK _ h5⟩
def Ki (P : Program) : List AOper -> (St -> Prop) -> St -> Prop
 | [], K, s => K s
 | o :: r, K, s => L5 P o (Ki P r K) s \/ Qam P o (Ki P r K) s
theorem HV {ops : Array Oper} {K : St -> Prop} {Q : Exit -> Act -> World -> Prop} (hnt : E.nt = nt) (hdst : ∀ (j : Nat) (o' : Oper), ops[j]? = some o' -> ∀ t, o'.dst = some t -> t < E.nt) : ∀ (l : List Oper) (k : Nat) (l' : List AOper) (s : St) (g : Gh) (a : Act) (w : World), (∀ j, l[j]? = ops[k + j]?) ->
  QO P nt ops l = some l' -> Rel E g s a w -> Ki P l' K s -> (∀ s' g' a' w', Rel E g' s' a' w' -> K s' -> Q .normal a' w') -> wpOps P ops Q (List.range' k l.length) a w
 | [], k, l', s, g, a, w, _, hp, r, h, hK => by
  simp only [QO, QhI] at hp
  subst hp
  exact hK s g a w r h
 | o :: l, k, l', s, g, a, w, hl, hp, r, h, hK => by
  simp only [QO] at hp
  split at hp
  ·rename_i o' r' e1 e2
   cases hp
   have h0 : ops[k]? = some o := by simpa using (hl 0).symm
   rw [List.length_cons, List.range'_succ, wpOps_cons]
   unfold wpOp
   rw [h0]
   simp only
   rcases h with h | ⟨s1, hle, hgo, t, f, args, G, Hr, d, hdt, hcal, hc, hk⟩
   ·have := M9 (Q := Q) hnt r e1 hdst h (K' := wpOps P ops Q (List.range' (k + 1) l.length)) fun s' g' a' w' r2 h2 =>
     HV hnt hdst l (k + 1) r' s' g' a' w' (fun j => by have := hl (j + 1); simpa [Nat.add_assoc, Nat.add_comm 1 j] using this) e2 r2 h2 hK
    split
    ·rename_i hw; rw [if_pos hw] at this; exact .inl this
    ·rename_i hw; rw [if_neg hw] at this; exact this
   ·obtain ⟨g1, r1⟩ := hle E g a w r
    obtain ⟨p1, p2, p3, p4⟩ := QT e1
    have hw : Region.wanted o (yielded ops a.tmps) = true := Xb r1 p2 hdst true hgo
    rw [if_pos hw]
    refine .inl (Nc r1 p1 hcal hc (fun t ht => by rw [hnt]; exact p4 t ht) fun g' a' w' r' => ?_)
    have e : St.apply ⟨s1.fr, Hr⟩ o.dst d none = ⟨(t, d) :: s1.fr, Hr⟩ := by rw [<- p3, hdt]; rfl
    rw [e] at r'
    exact HV hnt hdst l (k + 1) _ _ g' a' w' (fun j => by have := hl (j + 1); simpa [Nat.add_assoc, Nat.add_comm 1 j] using this) e2 r' hk hK
  ·cases hp
theorem RX {Q : ZT -> St -> Prop} {s : St} {l : List AOper} (h : Ki P l (Q .normal) s) : AW P nt (.region false l) Q s := fun code E g a w hm hp hn hfl r => by
 obtain ⟨id, ops, rfl, _, h1⟩ := JU hp
 refine wpIn_region (Hc (fun ⟨_, _, h⟩ => h) (Xn h1) _ _ _ ?_)
 rw [List.range_eq_range', <- Array.length_toList]
 exact HV hn (fun j o' ho t ht => by rw [hn]; exact YU h1 j o' ho t ht) ops.toList 0 l s g a w Wc h1 r h fun s' g' a' w' r' h' => ⟨s', g', h', r'⟩
theorem GR {o : AOper} {K K' : St -> Prop} (hK : ∀ s, K s -> K' s) {s : St} (h : L5 P o K s) : L5 P o K' s := by
 unfold L5 at h ⊢
 split at h
 ·exact h
 ·exact hK _ h
 ·rcases h with ⟨d, bx, h1, h2⟩ | ⟨s', d, h1, h2⟩ | ⟨p, q, d, ef, h1, h2⟩ | ⟨f, args, HF, Hn, Hu, d, h1, h2, h3⟩ | ⟨s', d, bx, h1, h2, h3⟩
  ·exact .inl ⟨d, bx, h1, hK _ h2⟩
  ·exact .inr (.inl ⟨s', d, h1, hK _ h2⟩)
  ·exact .inr (.inr (.inl ⟨p, q, d, ef, h1, hK _ h2⟩))
  ·exact .inr (.inr (.inr (.inl ⟨f, args, HF, Hn, Hu, d, h1, h2, hK _ h3⟩)))
  ·exact .inr (.inr (.inr (.inr ⟨s', d, bx, h1, h2, hK _ h3⟩)))
theorem GU {r : List AOper} {K : St -> Prop} : ∀ {l : List AOper} {s : St}, GS P l (Ki P r K) s -> Ki P (l ++ r) K s
 | [], _, h => h
 | _ :: _, _, h => .inl (GR (fun _ h => GU h) h)
theorem GI {l lr ol : List AOper} {o : AOper} {K : St -> Prop} {s : St} (h : run P .fixed l (Qam P o (Ki P lr K)) s) (hl : ol = l ++ o :: lr := by rfl) : Ki P ol K s := by
 subst hl
 exact GU (YE (fun _ h => .inr h) (Z4 h))
theorem TQ {l : List AOper} {K : St -> Prop} {s : St} (h : run P .fixed l K s) : Ki P l K s := by
 have := GU (P := P) (r := []) (K := K) (Z4 h)
 rwa [List.append_nil] at this
theorem RZ {Q : ZT -> St -> Prop} {s : St} {ol : List AOper} {live : List Nat} {b : TCode} (h : ∀ K : St -> Prop, (∀ fr H, TW P nt b Q ⟨Zc live fr, H⟩ -> K ⟨fr, H⟩) -> Ki P ol K s) : TW P nt (.seq (.region false ol) live b) Q s := by
 refine N9 (RX ?_)
 exact h (fun s' => AW P nt b.erase Q s') fun fr H hb => RU (G1 live fr H) hb
theorem G8 {o : AOper} {K : St -> Prop} {s s' : St} (hle : s.le s') (h : Bk P o K s') : Qam P o K s := ⟨s', hle, h⟩
theorem Qci {s : St} : s.le s := fun _ g _ _ r => ⟨g, r⟩
end
end Go.Abs
namespace Go.Abs
open Go
theorem OkH.lkc {P : Program} {f : Nat} {ds : List D} {H H1 H' H1' : QhD} {d : D} (e : ∀ k, lk H1 k = lk H k) (e' : ∀ k, lk H1' k = lk H' k) (h : OkH P f ds H d H') : OkH P f ds H1 d H1' := by
 have eq : lk H1 = lk H := funext e
 have eq' : lk H1' = lk H' := funext e'
 refine ⟨h.1, fun g w vs hrel hargs hids => ?_⟩
 have hr : HRel g H w := ⟨fun k b hk => by rw [<- eq] at hk ⊢; exact hrel.wfH k b hk, fun k b hk => by rw [<- eq] at hk; exact hrel.bx k b hk, fun k k' b b' B e e' h1 h2 => by rw [<- eq] at h1 h2; exact hrel.inj k k' b b' B e e' h1 h2, hrel.kr⟩
 refine (h.2 g w vs hr hargs (by rw [eq] at hids; exact hids)).mono fun e w' ⟨v, g', he, hv, hr', hsz, hfr, hfx, hkeep, hnew⟩ => ?_
 refine ⟨v, g', he, hv, ⟨fun k b hk => by rw [eq'] at hk ⊢; exact hr'.wfH k b hk, fun k b hk => by rw [eq'] at hk; exact hr'.bx k b hk, fun k k' b b' B e e' h1 h2 => by rw [eq'] at h1 h2; exact hr'.inj k k' b b' B e e' h1 h2, hr'.kr⟩, hsz, fun b hb hn => hfr b hb fun ⟨k, e, h1, h2⟩ => hn ⟨k, e, by rw [eq]; exact h1, h2⟩, hfx, ?_, ?_⟩
 ·rw [eq, eq']; exact hkeep
 ·rw [eq, eq']; exact hnew
theorem S9 {P : Program} {f : Nat} {args : List Opd} {s : St} {ds ds' : List D} {HF : QhD} {d : D} (n : Nat) (hok : Ok P f ds' d) (ha : Zb s args = some ds) (hF : ∀ p ∈ HF, lk s.H p.1 = some p.2) (hcl : ∀ p ∈ HF, ∀ j ∈ p.2.ids, (lk HF j).isSome = true) (hds : (ds.all fun x => x.ids.all fun j => (lk HF j).isSome) = true)
  (hu : (ds.map Bh).map (D.dfzT (upH HF) n) = ds') (hz : (ds.map Bh).all D.dfzOk = true) (hfl : d.flat = true) (hd : d.ids = []) : XR P f args s HF [] [] d := by
 refine ⟨ds, ha, fun j x hj => hF (j, x) (ZR hj), fun j x hj => hcl (j, x) (ZR hj), fun x hx j hj => ?_, (fun j x hj => by cases hj), (fun j x hj => by cases hj), (fun j hj => by rw [hd] at hj; cases hj), .inl ?_⟩
 ·exact QhP.1 (QhP.1 hds x hx) j hj
 ·exact OkH.ofOk n hok hu hz hfl hd
theorem Dg {P : Program} {f : Nat} {args : List Opd} {s : St} {ds ds' : List D} {HF : QhD} {d : D} {k : Nat} {b : Box} (n : Nat) (hok : Ok P f ds' d) (ha : Zb s args = some ds) (hF : ∀ p ∈ HF, lk s.H p.1 = some p.2) (hcl : ∀ p ∈ HF, ∀ j ∈ p.2.ids, (lk HF j).isSome = true) (hds : (ds.all fun x => x.ids.all fun j => (lk HF j).isSome) = true)
  (hu : (ds.map Bh).map (D.dfzT (upH HF) n) = ds') (hz : (ds.map Bh).all D.dfzOk = true) (hfl : d.flat = true) (hd : d.ids = []) (hk : lk HF k = some b) : XR P f args s HF [] [(k, b)] d := by
 refine ⟨ds, ha, fun j x hj => hF (j, x) (ZR hj), fun j x hj => hcl (j, x) (ZR hj), fun x hx j hj => ?_, fun j x hj => ?_, (fun j x hj => by cases hj), (fun j hj => by rw [hd] at hj; cases hj), .inl ?_⟩
 ·exact QhP.1 (QhP.1 hds x hx) j hj
 ·rw [Qx] at hj
  split at hj
  ·rename_i e; cases hj; subst e; exact ⟨by rw [hk]; rfl, hcl (k, b) (ZR hk)⟩
  ·cases hj
 ·refine OkH.lkc (fun _ => rfl) (fun j => ?_) (OkH.ofOk n hok hu hz hfl hd)
  by_cases hj : j < 1000000
  ·show lk (upH ((k, b) :: HF)) j = _
   rw [KB _ hj, KB _ hj]
  ·have e : j = upN (j - 1000000) := by unfold upN; omega
   show lk (upH ((k, b) :: HF)) j = _
   rw [e, HD, HD, Qx]
   split
   ·rename_i e2; rw [<- e2, hk]
   ·rfl
theorem Co {P : Program} {o : AOper} {t f k : Nat} {gd : Option (Nat × Bool)} {G : List Nat} {x : Opd} {az : List Opd} {ps ds ds' : List D} {d : D} {fr : QhE} {H Hr H1 H2 : QhD} {K : St -> Prop} (ho : o = ⟨some t, .callV x az, gd⟩) (hgd : gw ⟨fr, H⟩ gd = some true) (hx : St.ev ⟨fr, H⟩ x = some (.clr f k ps)) (hcap : (D.ref k 0 0 :: ps).all D.capOk = true) (hds : Zb ⟨fr, H⟩ (az ++ (D.ref k 0 0 :: ps).map .c) = some ds) (hk : Fv G = true)
  (hfr : (fr.all fun p => p.2.ids.all fun k => !G.contains k) = true) (hd : d.ids = []) (hdom : (H.all fun p => (lk Hr p.1).isSome) = true) (hdom2 : (Hr.all fun p => (lk H p.1).isSome) = true) (hds' : (ds.map fun d => (d.ren (Xd G)).can) = ds') (hok : OkH P f ds' H1 d H2) (h1 : ∀ j, lk (Kd G H) j = lk H1 j) (h2 : ∀ j, lk (Kd G Hr) j = lk H2 j) (hK : K ⟨(t, d) :: fr, Hr⟩) : Bk P o K ⟨fr, H⟩ := by
 subst ho hds'
 refine ⟨hgd, t, f, _, G, Hr, d, rfl, .inr (.inl ⟨x, az, _, rfl, .inr ⟨k, ps, hx, rfl⟩, hcap, rfl⟩), ⟨ds, hds, hk, Qcp hfr, fun k hkd => by rw [hd] at hkd; (cases hkd), fun j h => ?_, fun j h => ?_, hok.lkc h1 h2⟩, hK⟩
 ·obtain ⟨b, hb⟩ := QhL.1 h
  exact QhP.1 hdom (j, b) (ZR hb)
 ·obtain ⟨b, hb⟩ := QhL.1 h
  exact .inr (QhP.1 hdom2 (j, b) (ZR hb))
theorem NK {P : Program} {o : AOper} {t f : Nat} {G : List Nat} {az : List Opd} {ds ds' : List D} {d : D} {fr : QhE} {H Hr H1 H2 : QhD} {K : St -> Prop} (ho : o = ⟨some t, .call f az, none⟩) (hds : Zb ⟨fr, H⟩ az = some ds) (hk : Fv G = true)
  (hfr : (fr.all fun p => p.2.ids.all fun k => !G.contains k) = true) (hd : d.ids = []) (hdom : Hr.map Prod.fst = H.map Prod.fst) (hds' : (ds.map fun d => (d.ren (Xd G)).can) = ds') (hok : OkH P f ds' H1 d H2) (h1 : Kd G H = H1) (h2 : Kd G Hr = H2) (hK : K ⟨(t, d) :: fr, Hr⟩) : Bk P o K ⟨fr, H⟩ :=
 Qcz (Qan ho hds hk hfr hd hdom hds' h1 h2 hok hK)
end Go.Abs
namespace Go.Proofs
open Go Go.Abs M3 M25
def rL (c : List Int) : List D := [Zp c]
abbrev HW (h cu wk : Nat) (w : Qm) (c : List Int) (hb : Bool) (f : Nat) (ps : List D) (b1 b2 : Box) : QhD :=
 [(500001, b1), (h, b2), (cu, ⟨c.map rI, 1, 3, true⟩), (wk, ⟨[[Zx w, .osl cu c.length, .bool hb, .clr f h ps]], 4, 73, false⟩)]
abbrev bA1 (rows : List (List Int)) : Box := ⟨rows.map rL, 1, 32, true⟩
abbrev bA2 (rows : List (List Int)) : Box := ⟨[[.osl 500001 rows.length]], 1, 29, false⟩
theorem Dd {w : Qm} {cur c : List Int} {hb : Bool} {most : Int} {rows : List (List Int)} (h : most <= rows.length) :
  OkH Tryd.prog 19 [Zp c, .ref 2000006 0 0, .ptr [.int .i64 most]] (HW 2000006 2500003 2500000 w cur hb 19 [.ptr [.int .i64 most]] (bA1 rows) (bA2 rows)) (.bool false) (HW 2000006 2500003 2500000 w cur hb 19 [.ptr [.int .i64 most]] (bA1 rows) (bA2 rows)) := by
 refine OkH.ofT ZL Tryd.func19 QfU (QhG rfl) (fun k _ h => h) (fun k b h => ?_) ?_
 ·simp only [Qx] at h
  (repeat' split at h) <;> first | (cases h; subst_vars; refine ⟨Wa, fun j hj => ?_⟩; simp [Box.ids, D.sid] at hj; done) | (cases h; subst_vars; refine ⟨Wa, fun j hj => ?_⟩; simp [Box.ids, D.sid, Zx] at hj; first | (subst hj; rfl) | (rcases hj with rfl | rfl <;> rfl)) | cases h
 show TW _ _ tf19.body _ _
 refine Qd fun K hK => ?_
 refine Qb rfl ?_
 refine hK _ _ (Zo (Qn rfl (Qn rfl (Qn rfl QL))) ?_)
 clear hK K
 refine Qz ?_
 refine Qd fun K hK => ?_
 refine Qt rfl rfl rfl ?_
 refine QY rfl rfl ?_
 refine Qt rfl rfl rfl ?_
 refine Fw rfl rfl ?_
 refine hK _ _ (Zo (Qn rfl (Qn rfl (Qn rfl QL))) ?_)
 clear hK K
 refine Qu rfl (fun _ => ?_) (fun h2 => absurd h (by simpa using h2))
 refine Qd fun K hK => ?_
 refine Qb rfl ?_
 refine hK _ _ (Zo (Qn rfl QL) ?_)
 clear hK K
 refine Qs ?_
 refine Qf ?_
 exact Ys rfl rfl fun k b h => h
theorem Lc {w : Qm} {cur c : List Int} {hb : Bool} {most : Int} {rows : List (List Int)} (h : ¬ most <= rows.length) (hl : rows.length <= 1048576) :
  OkH Tryd.prog 19 [Zp c, .ref 2000006 0 0, .ptr [.int .i64 most]] (HW 2000006 2500003 2500000 w cur hb 19 [.ptr [.int .i64 most]] (bA1 rows) (bA2 rows)) (.bool true) (HW 2000006 2500003 2500000 w cur hb 19 [.ptr [.int .i64 most]] (bA1 (rows ++ [c])) (bA2 (rows ++ [c]))) := by
 refine OkH.ofT ZL Tryd.func19 QfU (QhG rfl) (fun k hk h => ?_) (fun k b h => ?_) ?_
 ·simp only [Qx] at h ⊢
  (repeat' split) <;> simp_all [lk]
 ·simp only [Qx] at h
  (repeat' split at h) <;> first | (cases h; subst_vars; refine ⟨Wa, fun j hj => ?_⟩; simp [Box.ids, D.sid] at hj; done) | (cases h; subst_vars; refine ⟨Wa, fun j hj => ?_⟩; simp [Box.ids, D.sid, Zx] at hj; first | (subst hj; rfl) | (rcases hj with rfl | rfl <;> rfl)) | cases h
 show TW _ _ tf19.body _ _
 refine Qd fun K hK => ?_
 refine Qb rfl ?_
 refine hK _ _ (Zo (Qn rfl (Qn rfl (Qn rfl QL))) ?_)
 clear hK K
 refine Qz ?_
 refine Qd fun K hK => ?_
 refine Qt rfl rfl rfl ?_
 refine QY rfl rfl ?_
 refine Qt rfl rfl rfl ?_
 refine Fw rfl rfl ?_
 refine hK _ _ (Zo (Qn rfl (Qn rfl (Qn rfl QL))) ?_)
 clear hK K
 refine Qu rfl (fun h2 => absurd (by simpa using h2) h) (fun _ => ?_)
 refine Qq ?_
 refine QJ (Qn rfl (Qn rfl QL)) ?_
 refine Qd fun K hK => ?_
 refine Qt rfl rfl rfl ?_
 refine Qb rfl ?_
 refine Z5 rfl rfl ?_
 refine Jc rfl rfl (fun _ h => Qbn Wc h) rfl Wc rfl rfl rfl We We ?_
 refine Zf rfl rfl rfl rfl rfl rfl rfl rfl ?_
 refine hK _ _ (Zo QL ?_)
 clear hK K
 refine S2 (QP (l := []) (lH := [500001, 2000006, 2500003, 2500000]) QL (Qa rfl (Qa rfl (Qa rfl (Qa rfl Qi)))) rfl (H' := HW 2000006 2500003 2500000 w cur hb 19 [.ptr [.int .i64 most]] (bA1 (rows ++ [c])) (bA2 (rows ++ [c]))) (by simp only [HW, bA1, bA2, List.map_append, List.length_append] <;> rfl) rfl) ?_
 refine Qd fun K hK => ?_
 refine Qb rfl ?_
 refine hK _ _ (Zo (Qn rfl QL) ?_)
 clear hK K
 refine Qs ?_
 exact Ys rfl rfl fun k b h => h
abbrev xF : Option (List Int) -> D
 | none => .fsl []
 | some c => Zp c
abbrev bF1 : Box := ⟨[], 1, 32, true⟩
abbrev bF2 (s : Option (List Int)) : Box := ⟨[[xF s]], 1, 32, true⟩
theorem QdN {w : Qm} {cur c : List Int} {hb : Bool} {s : Option (List Int)} :
  OkH Tryd.prog 25 [Zp c, .ref 2000006 0 0] (HW 2000006 2500003 2500000 w cur hb 25 [] bF1 (bF2 s)) (.bool false) (HW 2000006 2500003 2500000 w cur hb 25 [] bF1 (bF2 (some c))) := by
 refine OkH.ofT ZL Tryd.func25 Qgp (QhG rfl) (fun k hk h => ?_) (fun k b h => ?_) ?_
 ·simp only [Qx] at h ⊢
  (repeat' split) <;> simp_all [lk]
 ·simp only [Qx] at h
  (repeat' split at h) <;> first | (cases h; subst_vars; refine ⟨Wa, fun j hj => ?_⟩; simp [Box.ids, D.sid] at hj; done) | (cases h; subst_vars; refine ⟨Wa, fun j hj => ?_⟩; simp [Box.ids, D.sid, Zx] at hj; first | (subst hj; rfl) | (rcases hj with rfl | rfl <;> rfl)) | cases h
 show TW _ _ tf25.body _ _
 refine Qd fun K hK => ?_
 refine Qb rfl ?_
 refine hK _ _ (Zo (Qn rfl (Qn rfl QL)) ?_)
 clear hK K
 refine Qd fun K hK => ?_
 refine Qb rfl ?_
 refine Zf rfl rfl rfl rfl rfl rfl rfl rfl ?_
 refine hK _ _ (Zo QL ?_)
 clear hK K
 refine S2 (QP (l := []) (lH := [500001, 2000006, 2500003, 2500000]) QL (Qa rfl (Qa rfl (Qa rfl (Qa rfl Qi)))) rfl (H' := HW 2000006 2500003 2500000 w cur hb 25 [] bF1 (bF2 (some c))) rfl rfl) ?_
 refine Qd fun K hK => ?_
 refine Qb rfl ?_
 refine hK _ _ (Zo (Qn rfl QL) ?_)
 clear hK K
 refine Qs ?_
 exact Ys rfl rfl fun k b h => h
end Go.Proofs
namespace Go.Abs
open Go
/-! ### The same where the walk picks its state -/
section
variable {P : Program} {nt : Nat}
def ZZ (P : Program) : List AOper -> (St -> Prop) -> St -> Prop
 | [], K, s => K s
 | o :: r, K, s => run P .fixed [o] (ZZ P r K) s \/ Qam P o (ZZ P r K) s
theorem QcP {o : AOper} {r : List AOper} {K : St -> Prop} {s : St} (h : run P .fixed (o :: r) K s) : run P .fixed [o] (run P .fixed r K) s := by
 obtain ⟨dst, op, gd⟩ := o
 cases gd with
 | none => exact h
 | some p => exact h
theorem RF {K K' : St -> Prop} (hK : ∀ s, K s -> K' s) {l : List AOper} {dr : Dr} {s : St} (h : run P dr l K s) : run P dr l K' s := by
 obtain ⟨s', h1, h2⟩ := JW h
 exact h2 _ (hK _ h1)
theorem LY {r : List AOper} {K : St -> Prop} : ∀ {l : List AOper} {s : St}, run P .fixed l (ZZ P r K) s -> ZZ P (l ++ r) K s
 | [], _, h => h
 | _ :: _, _, h => .inl (RF (fun _ h => LY h) (QcP h))
theorem QcA {o : AOper} {K : St -> Prop} {s : St} (h : Bk P o K s) : ∃ s', K s' /\ ∀ k2 : St -> Prop, k2 s' -> Bk P o k2 s := by
 obtain ⟨h1, t, f, args, G, Hr, d, h2, h3, h4, h5⟩ := h
 exact ⟨_, h5, fun k2 hk => ⟨h1, t, f, args, G, Hr, d, h2, h3, h4, hk⟩⟩
theorem QbL {K : St -> Prop} : ∀ {l : List AOper} {s : St}, ZZ P l K s -> ∃ s', K s' /\ ∀ k2 : St -> Prop, k2 s' -> ZZ P l k2 s
 | [], s, h => ⟨s, h, fun _ hk => hk⟩
 | o :: r, s, h => by
  rcases h with h | ⟨s1, hle, h⟩
  ·obtain ⟨s2, h1, h2⟩ := JW h
   obtain ⟨s3, h3, h4⟩ := QbL h1
   exact ⟨s3, h3, fun k2 hk => .inl (h2 _ (h4 _ hk))⟩
  ·obtain ⟨s2, h1, h2⟩ := QcA h
   obtain ⟨s3, h3, h4⟩ := QbL h1
   exact ⟨s3, h3, fun k2 hk => .inr ⟨s1, hle, h2 _ (h4 _ hk)⟩⟩
theorem QbJ {K : St -> Prop} : ∀ {l : List AOper} {s : St}, ZZ P l K s -> Ki P l K s
 | [], _, h => h
 | _ :: _, _, h => by
  rcases h with h | ⟨s1, hle, h⟩
  ·exact .inl (GR (fun _ h => QbJ h) (Z4 h))
  ·exact .inr ⟨s1, hle, Cp (fun _ h => QbJ h) h⟩
theorem QbK {l lr ol : List AOper} {o : AOper} {K : St -> Prop} {s : St} (h : run P .fixed l (Qam P o (ZZ P lr K)) s) (hl : ol = l ++ o :: lr := by rfl) : ZZ P ol K s := by
 subst hl
 exact LY (RF (fun _ h => .inr h) h)
theorem QdF {l : List AOper} {K : St -> Prop} {s : St} (h : run P .fixed l K s) : ZZ P l K s := by
 have := LY (P := P) (r := []) (K := K) h
 rwa [List.append_nil] at this
theorem QbD {Q : ZT -> St -> Prop} {s : St} {ol : List AOper} {live : List Nat} {b : TCode} (h : ∀ K : St -> Prop, (∀ fr H, TX P nt b Q ⟨Zc live fr, H⟩ -> K ⟨fr, H⟩) -> ZZ P ol K s) : TX P nt (.seq (.region false ol) live b) Q s := by
 obtain ⟨s1, ⟨e, s2, h1, h2⟩, h3⟩ := QbL (h (fun st => TX P nt b Q ⟨Zc live st.fr, st.H⟩) fun fr H h => h)
 exact ⟨e, s2, h1, RZ fun K hK => QbJ (h3 K (hK s1.fr s1.H h2))⟩
end
end Go.Abs
namespace Go.Abs
open Go
/-! ### What holds of a function that hands back a new slice of plain cells, on data, holds of it over own boxes -/
theorem DC {g g' : Gh} {d : D} {v : Value} (h : d.flat1 = true) (hv : RepS g d v) : RepS g' d v := by
 cases d <;> simp only [D.flat1, QhN] at h <;> exact hv
theorem DD {d : D} (h : d.flat1 = true) : d.sid = [] := by
 cases d <;> simp only [D.flat1, QhN] at h <;> rfl
theorem Me {g g' : Gh} {c : Array Value} : ∀ {off : Nat} {ds : List D}, (∀ d ∈ ds, d.flat1 = true) -> CellsC g c off ds -> CellsC g' c off ds
 | _, [], _, _ => by simp only [CellsC]
 | off, d :: ds, hf, h => by
  simp only [CellsC] at h ⊢
  obtain ⟨⟨h1, x, h2, h3⟩, h4⟩ := h
  exact ⟨⟨h1, x, h2, DC (hf d Wc) h3⟩, Me (fun y hy => hf y (by simp [hy])) h4⟩
theorem RE {g g' : Gh} {c : Array Value} : ∀ {off : Nat} {rs : List (List D)}, (∀ r ∈ rs, ∀ d ∈ r, d.flat1 = true) -> RowsC g c off rs -> RowsC g' c off rs
 | _, [], _, _ => by simp only [RowsC]
 | off, r :: rs, hf, h => by
  simp only [RowsC] at h ⊢
  exact ⟨Me (hf r Wc) h.1, RE (fun y hy => hf y (by simp [hy])) h.2⟩
theorem OkH.ofNew {P : Program} {f : Nat} {ds ds' : List D} {H : QhD} {k m : Nat} {b : Box} (n : Nat) (h : OkH P f ds' [] (.osl k m) [(k, b)]) (hds : ds.map (D.dfzT H n) = ds') (hp : ds.all D.dfzOk = true) (hf : ∀ r ∈ b.rows, ∀ d ∈ r, d.flat1 = true) (hk : k < 1000000) (hn : lk H k = none) : OkH P f ds H (.osl k m) ((k, b) :: H) := by
 refine ⟨h.1, fun g w vs hrel hargs hids => ?_⟩
 subst hds
 have hA : ∀ {ds : List D} {vs : List Value}, RepVs (Ha w) ds vs -> RepA (⟨Ha w, g.β, g.σ⟩ : Gh) ds vs := by
  intro ds
  induction ds with
  | nil => intro vs hh; cases vs with
   | nil => trivial
   | cons v vs => simp only [RepVs] at hh
  | cons d ds ih => intro vs hh; cases vs with
   | nil => simp only [RepVs] at hh
   | cons v vs =>
    simp only [RepVs] at hh
    exact ⟨Rep.of hh.1, ih hh.2⟩
 have hids' : ∀ x ∈ ds.map (D.dfzT H n), ∀ j ∈ x.ids, (lk ([] : QhD) j).isSome = true := by
  intro x hx j hj
  exfalso
  have key : ∀ {ds : List D} {vs : List Value}, RepVs (Ha w) ds vs -> ∀ x ∈ ds, x.ids = [] := by
   intro ds
   induction ds with
   | nil => intro vs _ x hx; cases hx
   | cons d ds ih =>
    intro vs hh x hx
    cases vs with
    | nil => simp only [RepVs] at hh
    | cons v vs =>
     simp only [RepVs] at hh
     rcases QhH.1 hx with rfl | hx
     ·exact Xa hh.1
     ·exact ih hh.2 x hx
  rw [key (FH hrel n hargs hp) x hx] at hj
  cases hj
 refine (h.2 ⟨Ha w, g.β, g.σ⟩ w vs ⟨(fun _ _ h => by cases h), (fun _ _ h => by cases h), (fun _ _ _ _ _ _ _ h => by cases h), Pj w⟩ (hA (FH hrel n hargs hp)) hids').mono fun e w' ⟨v, g', he, hv, hr', hsz, hfr, hfx, hkeep, hnew⟩ => ?_
 have hno : ∀ B, ¬ FS (⟨Ha w, g.β, g.σ⟩ : Gh) [] B := fun B ⟨_, _, h, _⟩ => by cases h
 have hold : ∀ B, B < w.heap.size -> w'.heap[B]? = w.heap[B]? := fun B hB => (hfr B hB (hno B)).1
 have hbig : ∀ B e, g'.β k = some (B, e) -> w.heap.size <= B := fun B e hβ => by
  rcases hnew k B e hk (by rw [Qx, if_pos rfl]; rfl) hβ with h | ⟨_, _, _, h, _⟩
  ·exact h
  ·cases h
 obtain ⟨gu, guK, guβ, guσ⟩ : ∃ gu : Gh, (∀ B, gu.K B = if B < w.heap.size then g.K B else g'.K B) /\ (∀ j, gu.β j = if j = k then g'.β k else g.β j) /\ ∀ j, gu.σ j = if j = k then g'.σ k else g.σ j :=
  ⟨⟨fun B => if B < w.heap.size then g.K B else g'.K B, fun j => if j = k then g'.β k else g.β j, fun j => if j = k then g'.σ k else g.σ j⟩, fun _ => rfl, fun _ => rfl, fun _ => rfl⟩
 have hkk : gu.β k = g'.β k /\ gu.σ k = g'.σ k := by rw [guβ, guσ, if_pos rfl, if_pos rfl]; exact ⟨rfl, rfl⟩
 have hko : ∀ j, j ≠ k -> gu.β j = g.β j /\ gu.σ j = g.σ j := fun j hj => by rw [guβ, guσ, if_neg hj, if_neg hj]; exact ⟨rfl, rfl⟩
 have hne : ∀ j x, lk H j = some x -> j ≠ k := fun j x h e => by rw [e, hn] at h; cases h
 have hb0 := hr'.bx k b (by rw [Qx, if_pos rfl])
 refine ⟨v, gu, he, ?_, ⟨fun j x hj i hi => ?_, fun j x hj => ?_, fun j j' x x' B e e' h1 h2 h3 h4 => ?_, fun B o y hy => ?_⟩, hsz, fun B hB _ => ⟨hold B hB, by rw [guK, if_pos hB]⟩, hfx, fun j hj hs => ?_, fun j B e hj hs hβ => ?_⟩
 ·have hv' : RepS g' (.osl k m) v := hv
  show RepS gu (.osl k m) v
  simp only [RepS, Gh.gone] at hv' ⊢
  rw [hkk.1, hkk.2]; exact hv'
 ·rw [Qx] at hj
  split at hj
  ·cases hj
   unfold Box.ids at hi
   split at hi
   ·cases hi
   ·obtain ⟨r, hr, hi⟩ := QhM.1 hi
    obtain ⟨d, hd, hi⟩ := QhM.1 hi
    rw [DD (hf r hr d hd)] at hi; cases hi
  ·rw [Qx]; split
   ·rfl
   ·exact hrel.wfH j x hj i hi
 ·rw [Qx] at hj
  split at hj
  ·rename_i e0; cases hj; subst e0
   obtain ⟨b1, b2, b3⟩ := hb0
   rcases b3 with ⟨x1, ⟨y1, y2⟩ | ⟨i1, i2, i3, sv, p, B, i4, i5, i6, i7, i8, i9⟩⟩ | ⟨h4, B, c, h5, h6, h7, h8, h9, h10⟩
   ·exact ⟨b1, b2, .inl ⟨x1, .inl ⟨by rw [hkk.1]; exact y1, by rw [hkk.2]; exact y2⟩⟩⟩
   ·have := hbig B _ i5
    exact ⟨b1, b2, .inl ⟨x1, .inr ⟨i1, i2, i3, sv, p, B, i4, by rw [hkk.1]; exact i5, i6, fun o => by rw [guK, if_neg Wa]; exact i7 o, i8, by rw [hkk.2]; exact i9⟩⟩⟩
   ·have := hbig B _ h5
    exact ⟨b1, b2, .inr ⟨h4, B, c, by rw [hkk.1]; exact h5, h6, by rw [hkk.2]; exact h7, by rw [hkk.2]; exact RE hf h8, fun o => by rw [guK, if_neg Wa]; exact h9 o, h10⟩⟩
  ·have hjk := hne j x hj
   refine (hrel.bx j x hj).move (hko j hjk) (fun r hr d hd i hi => ?_) (fun B o y hy => ?_) fun B e hβ => ⟨hold B ((hrel.bx j x hj).blk hβ).1, fun o ho => by rw [guK, if_pos ((hrel.bx j x hj).blk hβ).1]; exact ho, fun _ => .inl (QhR _)⟩
   ·have := hrel.sid hj r hr d hd i hi
    obtain ⟨z, hz⟩ := QhL.1 this
    exact hko i (hne i z hz)
   ·rw [guK, if_pos (hrel.kr.lt hy)]; exact hy
 ·have sep : ∀ j x B e e', lk H j = some x -> g'.β k = some (B, e) -> g.β j = some (B, e') -> False := fun j x B e e' h1 h2 h3 => by
   have := hbig B e h2
   have := ((hrel.bx j x h1).blk h3).1
   omega
  rw [Qx] at h1 h2
  split at h1
  ·rename_i e1
   split at h2
   ·rename_i e2; exact e1.symm.trans e2
   ·have := hne j' x' h2
    rw [(hko j' this).1] at h4
    subst e1
    rw [hkk.1] at h3
    exact (sep j' x' B e e' h2 h3 h4).elim
  ·have hj := hne j x h1
   rw [(hko j hj).1] at h3
   split at h2
   ·rename_i e2
    subst e2
    rw [hkk.1] at h4
    exact (sep j x B e' e h1 h4 h3).elim
   ·have := hne j' x' h2
    rw [(hko j' this).1] at h4
    exact hrel.inj j j' x x' B e e' h1 h2 h3 h4
 ·rw [guK] at hy
  split at hy
  ·rename_i hB
   obtain ⟨c, e, f, q1, q2⟩ := hrel.kr B o y hy
   exact ⟨c, e, f, by rw [hold B hB]; exact q1, q2⟩
  ·exact hr'.kr B o y hy
 ·have hjk : j ≠ k := Wa
  exact ⟨by rw [Qx, if_neg (Ne.symm hjk)]; exact hs, (hko j hjk).1, (hko j hjk).2⟩
 ·by_cases hjk : j = k
  ·subst hjk
   rw [hkk.1] at hβ
   exact .inl (hbig B e hβ)
  ·rw [Qx, if_neg (Ne.symm hjk)] at hs
   rw [(hko j hjk).1] at hβ
   exact .inr ⟨j, e, hj, hs, hβ⟩
theorem QfR {a b : Nat} (ha : a < 1000000) (hb : b < 1000000) : Rn (Qbj a b) (Qbj a b) where
 inv k := by unfold Qbj; (repeat' split) <;> omega
 small k := by unfold Qbj; (repeat' split) <;> omega
theorem Sq {fr fr1 : QhE} {H H1 : QhD} {l lH : List Nat} (k k0 j : Nat) {n : Nat} {b : Box} {row row' : List D} {e0 t0 : Nat} (hf : Zc l fr = fr1) (hH : HP lH H = H1) (hb : lk H k = some b) (hp : b.pr = true) (hn : n = b.rows.length) (h0 : lk H k0 = some ⟨[row], e0, t0, false⟩) (hj : row[j]? = some (.osl k n)) (hr : row.set j (.sl b.rows) = row') (hr2 : (row'.all fun d => !d.sid.contains k) = true)
  (c1 : (fr1.all fun p => !p.2.ids.contains k) = true) (c2 : (H1.all fun p => p.1 != k && (p.2.pr || !p.2.ids.contains k)) = true) (hw : wfB ((k0, ⟨[row'], e0, t0, false⟩) :: H1) fr1 = true) (hbk : QbU H ((k0, ⟨[row'], e0, t0, false⟩) :: H1) = true) (hk : k < 1000000 := by decide) (hkk : k0 ≠ k := by decide) : St.le ⟨fr, H⟩ ⟨fr1, (k0, ⟨[row'], e0, t0, false⟩) :: H1⟩ := by
 intro E g a w r
 obtain ⟨g', _, r'⟩ := r.freeze k hk
 subst hf hH hr
 simp only [wfB, QhJ, QhP] at hw
 simp only [QhP, Bool.not_eq_true', List.contains_eq_mem, decide_eq_false_iff_not] at c1 hr2
 simp only [QhP, QhJ, Bool.or_eq_true, Bool.not_eq_true', List.contains_eq_mem, decide_eq_false_iff_not, bne_iff_ne, ne_eq] at c2
 have hS : ∀ (x : D), k ∉ x.ids -> x.fz H (· == k) = x := fun x hx => Qa0 fun i hi => by
  simp only [beq_eq_false_iff_ne, ne_eq]; rintro rfl; exact hx hi
 have hrow : row.map (D.fzS H (· == k)) = row.set j (.sl b.rows) := by
  have hjl : j < row.length := (List.getElem?_eq_some_iff.1 hj).1
  apply List.ext_getElem
  ·simp
  ·intro i h1 h2
   rw [List.getElem_map, List.getElem_set]
   split
   ·rename_i e; subst e
    have : row[j] = .osl k n := (List.getElem?_eq_some_iff.1 hj).2
    rw [this]
    simp only [D.fzS, beq_self_eq_true, if_true, hb, hp, hn, and_self]
   ·rename_i e
    have hil : i < row.length := by simpa using h1
    have hm : row[i] ∈ row.set j (.sl b.rows) := by
     refine List.mem_iff_getElem.2 ⟨i, by simpa using hil, ?_⟩
     rw [List.getElem_set_ne e]
    have := hr2 _ hm
    generalize row[i] = d at this ⊢
    cases d <;> try rfl
    all_goals
     simp only [D.sid, QhO] at this
     simp only [D.fzS]
     rw [if_neg (by simp only [beq_iff_eq]; exact fun e => this e.symm)]
 refine ⟨g', r'.less (fun u d h => ?_) (fun j2 x h => ?_) (fun u d h j hj => hw.1 (u, d) (ZR h) j hj) (fun j x h i hi => hw.2 (j, x) (ZR h) i hi) fun j2 hj2 hs => ?_⟩
 ·simp only [St.freeze, Yd]
  have h1 := YN l fr u d h
  rw [h1, Option.map_some, hS d (c1 (u, d) (ZR h))]
 ·rw [Qx] at h
  simp only [St.freeze, Gu]
  split at h
  ·rename_i e; cases h; subst e
   rw [if_neg hkk, Yd (Box.fz H (· == k)), h0, Option.map_some]
   simp only [Box.fz, QhN, if_false, List.map_cons, List.map_nil, hrow]
  ·have h1 := J4 lH H j2 x h
   have h2 := c2 (j2, x) (ZR h)
   rw [if_neg h2.1, Yd (Box.fz H (· == k)), h1, Option.map_some]
   congr 1
   refine PI (h2.2.imp id fun h3 i hi => ?_)
   simp only [beq_eq_false_iff_ne, ne_eq]; rintro rfl; exact h3 hi
 ·have : (lk H j2).isSome = true := by
   simp only [St.freeze, Gu] at hs
   rw [if_neg Wa, Yd (Box.fz H (· == k)), QhX] at hs
   exact hs
  exact F7 hbk j2 hj2 this
end Go.Abs
namespace Go.Proofs
open Go Go.Abs M3 M25
theorem YG {ρ : Nat -> Nat} {c : List Int} : (c.map rI).map (fun r => r.map (D.renS ρ)) = c.map rI := by simp [rI, D.renS, Function.comp]
theorem BC {c : List Int} (hc : c ≠ []) (hl : c.length <= 1048576) : OkH Tryd.prog 34 [Zp c] [] (.osl 500000 c.length) [(500000, ⟨c.map rI, 1, 3, true⟩)] := by
 refine OkH.new ZL Tryd.func34 Qgy (QhG rfl) rfl ?_
 show TW _ _ tf34.body _ _
 refine Qd fun K hK => ?_
 refine Qb rfl ?_
 refine hK _ _ (Zo (Qn rfl (QL)) ?_)
 clear hK K
 refine Qz ?_ -- 0
 refine Qd fun K hK => ?_
 refine Qb rfl ?_
 refine Bq rfl (by simpa using hc) ?_
 refine hK _ _ (Zo (Qn rfl (Qn rfl (QL))) ?_)
 clear hK K
 refine Zg rfl ?_
 refine Qq ?_
 refine QJ (Qn rfl (QL)) ?_
 refine Qd fun K hK => ?_
 refine Q2 rfl rfl ?_
 refine Qb rfl ?_
 refine Jc rfl rfl (fun _ h => Qez (Qet c) h) rfl Wc rfl rfl rfl We We ?_
 refine Qb rfl ?_
 refine hK _ _ (Zo (Qn rfl (QL)) ?_)
 clear hK K
 refine S2 (G2 (l := []) (lH := []) 5 500000 2 QL Qi rfl rfl rfl rfl rfl rfl rfl) ?_
 refine Qs ?_
 exact Ys rfl (by simp [QbO, D.fz, D.fzS, small, D.can, D.canS, Zp]) fun k b h => h
theorem _root_.Wn {p : Prop} (h : p := by simp only [N5, List.map_cons, List.map_nil, Box.ren, YG]; rfl) : p := h
theorem BB {s : St} {c : List Int} (hc : c ≠ []) (hl : c.length <= 1048576) (h1 : s.ev (.s 25) = some (.osl 1500003 c.length)) (h2 : lk s.H 1500003 = some ⟨c.map rI, 1, 3, true⟩) (h3 : lk s.H 26 = none) :
  XR Tryd.prog 34 [.s 25] s [(1500003, ⟨c.map rI, 1, 3, true⟩)] [(26, ⟨c.map rI, 1, 3, true⟩)] [] (.osl 26 c.length) := by
 refine ⟨[.osl 1500003 c.length], by simp [Zb, h1], fun k b hk => ?_, fun k b hk j hj => ?_, fun x hx j hj => ?_, (fun k b hk => by cases hk), fun k b hk => ?_, fun k hk => ?_, .inl ?_⟩
 ·obtain ⟨rfl, rfl⟩ := HC hk; exact h2
 ·obtain ⟨rfl, rfl⟩ := HC hk; simp [Box.ids] at hj
 ·simp at hx; subst hx; simp [D.ids, D.sid] at hj; subst hj; rfl
 ·obtain ⟨rfl, rfl⟩ := HC hk; exact ⟨by decide, h3, fun j hj => by simp [Box.ids] at hj⟩
 ·simp [D.ids, D.sid] at hk; subst hk; rfl
 ·have h4 := OkH.rnm' (QfR (a := 500000) (b := 26) Wf Wf) (BC hc hl) (ds2 := [Zp c]) (H2 := []) (d2 := .osl 26 c.length) (H2' := [(26, ⟨c.map rI, 1, 3, true⟩)]) rfl rfl rfl Wn
  have h5 := OkH.ofNew (H := upH [(1500003, ⟨c.map rI, 1, 3, true⟩)]) (ds := [D.osl 2500003 c.length]) 3 h4 (by
   simp only [upH, List.map_cons, List.map_nil, Box.ren, YG, D.dfzT, D.dfz, Qx]
   simp [upN, rI, D.dfz, D.own, Zp]) rfl (fun r hr d hd => by obtain ⟨v, _, rfl⟩ := QhT.1 hr; simp [rI] at hd; subst hd; rfl) Wf rfl
  exact h5
structure PutOk {σ : Type} (w : Qm) (hb : Bool) (p : MC σ) (B1 B2 : σ -> Box) (f : Nat) (ps : List D) : Prop where
 p1 : ∀ s, (B1 s).pr = true
 s1 : ∀ s, ∀ r ∈ (B1 s).rows, ∀ d ∈ r, d.sid = []
 s2 : ∀ s, ∀ r ∈ (B2 s).rows, ∀ d ∈ r, ∀ j ∈ d.sid, j = 500001
 cap : ps.all D.capOk = true
 ren : ∀ ρ : Nat -> Nat, (ps.map fun d => (d.ren ρ).can) = ps
 ids : ∀ d ∈ ps, d.ids = []
 ok : ∀ s cur c, p.ok s 1 -> OkH Tryd.prog f (Zp c :: .ref 2000006 0 0 :: ps) (HW 2000006 2500003 2500000 w cur hb f ps (B1 s) (B2 s)) (.bool (p.st s c).2) (HW 2000006 2500003 2500000 w cur hb f ps (B1 (p.st s c).1) (B2 (p.st s c).1))
section
variable {σ : Type} {w : Qm} {hb : Bool} {p : MC σ} {B1 B2 : σ -> Box} {f : Nat} {ps : List D} (hp : PutOk w hb p B1 B2 f ps)
include hp
theorem PutOk.i1 (s : σ) : (B1 s).ids = [] := by unfold Box.ids; rw [hp.p1 s]; rfl
theorem PutOk.i2 (s : σ) : ∀ j ∈ (B2 s).ids, j = 500001 := fun j hj => by
 unfold Box.ids at hj
 split at hj
 ·cases hj
 ·obtain ⟨r, hr, hj⟩ := QhM.1 hj
  obtain ⟨d, hd, hj⟩ := QhM.1 hj
  exact hp.s2 s r hr d hd j hj
omit hp in
theorem PJ {ρ : Nat -> Nat} {b : Box} (h : ∀ r ∈ b.rows, ∀ d ∈ r, ∀ j ∈ d.sid, ρ j = j) : b.ren ρ = b := by
 obtain ⟨rows, esz, et, pr⟩ := b
 simp only [Box.ren, Box.mk.injEq, and_true]
 have : ∀ l : List (List D), (∀ r ∈ l, ∀ d ∈ r, ∀ j ∈ d.sid, ρ j = j) -> (l.map fun r => r.map (D.renS ρ)) = l := by
  intro l
  induction l with
  | nil => intro _; rfl
  | cons r l ih =>
   intro hl
   rw [List.map_cons, ih fun r' hr' => hl r' (by simp [hr'])]
   congr 1
   have h2 := hl r Wc
   clear hl ih
   induction r with
   | nil => rfl
   | cons d r ih =>
    rw [List.map_cons, ih fun d' hd' => h2 d' (by simp [hd'])]
    congr 1
    have h3 := h2 d Wc
    cases d <;> first | rfl | (simp only [D.renS]; rw [h3 _ Wm])
 exact this rows h
theorem PutOk.r1 {ρ : Nat -> Nat} (s : σ) : (B1 s).ren ρ = B1 s := PJ fun r hr d hd j hj => by rw [hp.s1 s r hr d hd] at hj; cases hj
theorem PutOk.r2 {ρ : Nat -> Nat} (h : ρ 500001 = 500001) (s : σ) : (B2 s).ren ρ = B2 s := PJ fun r hr d hd j hj => by rw [hp.s2 s r hr d hd j hj]; exact h
theorem B9 (c : List Int) (s : σ) : ∀ k b, lk (HW 1000006 1500003 1500000 w c hb f ps (B1 s) (B2 s)) k = some b -> 500000 <= k /\ ∀ j ∈ b.ids, (lk (HW 1000006 1500003 1500000 w c hb f ps (B1 s) (B2 s)) j).isSome = true := fun k b h => by
 simp only [Qx] at h
 split at h
 ·cases h; subst_vars
  exact ⟨Wa, fun j hj => by rw [hp.i1 s] at hj; cases hj⟩
 ·split at h
  ·cases h; subst_vars
   exact ⟨Wa, fun j hj => by rw [hp.i2 s j hj]; rfl⟩
  ·split at h
   ·cases h; subst_vars
    exact ⟨Wa, fun j hj => by simp [Box.ids] at hj⟩
   ·split at h
    ·cases h; subst_vars
     refine ⟨Wa, fun j hj => ?_⟩
     simp [Box.ids, D.sid, Zx] at hj
     rcases hj with rfl | rfl <;> rfl
    ·cases h
omit hp in
theorem So {c c' : List Int} {b1 b2 b1' b2' : Box} : ∀ k, 1000000 <= k -> (lk (HW 1000006 1500003 1500000 w c hb f ps b1 b2) k).isSome = true -> (lk (HW 1000006 1500003 1500000 w c' hb f ps b1' b2') k).isSome = true := fun k _ h => by
 simp only [Qx] at h ⊢
 (repeat' split) <;> simp_all [lk]
theorem Gp {c : List Int} {s : σ} {fr : QhE} (h : (fr.all fun q => q.2.ids.all fun k => (lk (HW 1000006 1500003 1500000 w c hb f ps (B1 s) (B2 s)) k).isSome) = true) : wfB (HW 1000006 1500003 1500000 w c hb f ps (B1 s) (B2 s)) fr = true := by
 simp only [wfB, QhJ]
 refine ⟨h, ?_⟩
 simp only [List.all_cons, List.all_nil, Bool.and_true, QhJ, QhP]
 refine ⟨fun j hj => ?_, fun j hj => ?_, fun j hj => ?_, fun j hj => ?_⟩
 ·rw [hp.i1 s] at hj; cases hj
 ·rw [hp.i2 s j hj]; rfl
 ·simp [Box.ids] at hj
 ·simp [Box.ids, D.sid, Zx] at hj
  rcases hj with rfl | rfl <;> rfl
end
end Go.Proofs
namespace Go.Proofs
open Go Go.Abs M3 M25
abbrev WB (w : Qm) (c : List Int) (hb : Bool) (f : Nat) (ps : List D) : Box := ⟨[[Zx w, .osl 1500003 c.length, .bool hb, .clr f 1000006 ps]], 4, 73, false⟩
theorem up1 : upN 500001 = 1500001 := by unfold upN; rfl
theorem up2 : upN 1000006 = 2000006 := by unfold upN; rfl
theorem up3 : upN 1500003 = 2500003 := by unfold upN; rfl
theorem up4 : upN 1500000 = 2500000 := by unfold upN; rfl
theorem Lz {ρ : Nat -> Nat} {w : Qm} : D.renS ρ (Zx w) = Zx w := rfl
theorem Qck {w : Qm} {c : List Int} {hb : Bool} {f : Nat} {ps : List D} {b1 b2 : Box} : D.dfzT (upH (HW 1000006 1500003 1500000 w c hb f ps b1 b2)) 3 (Bh (.ref 1500000 0 0)) = .ptr [Zx w, Zp c, .bool hb, .junk] := by
 have n1 : Bh (.ref 1500000 0 0) = .ref 2500000 0 0 := by simp [Bh, D.ren, D.renS, upN, D.can, D.canS]
 have e0 : upH (HW 1000006 1500003 1500000 w c hb f ps b1 b2) = [(1500001, b1.ren upN), (2000006, b2.ren upN), (2500003, ⟨(c.map rI).map (fun r => r.map (D.renS upN)), 1, 3, true⟩), (2500000, ⟨[[Zx w, .osl 2500003 c.length, .bool hb, .clr f 2000006 ps]], 4, 73, false⟩)] := by
  simp only [upH, List.map_cons, List.map_nil, up1, up2, up3, up4]
  simp only [Box.ren, List.map_cons, List.map_nil, Lz]
  simp only [D.renS, up2, up3]
 have e1 : lk (upH (HW 1000006 1500003 1500000 w c hb f ps b1 b2)) 2500000 = some ⟨[[Zx w, .osl 2500003 c.length, .bool hb, .clr f 2000006 ps]], 4, 73, false⟩ := by rw [e0]; simp [Qx]
 have e2 : lk (upH (HW 1000006 1500003 1500000 w c hb f ps b1 b2)) 2500003 = some ⟨(c.map rI).map (fun r => r.map (D.renS upN)), 1, 3, true⟩ := by rw [e0]; simp [Qx]
 rw [YG] at e2
 rw [n1]
 generalize upH (HW 1000006 1500003 1500000 w c hb f ps b1 b2) = H at e1 e2 ⊢
 show D.dfz H 3 (.ref 2500000 0 0) = _
 have e3 : D.dfz H 2 (.osl 2500003 c.length) = Zp c := by
  unfold D.dfz
  simp only [e2, List.length_map, if_true]
  simp [rI, D.dfz, D.own, Zp]
 unfold D.dfz
 simp only [e1, List.getD_cons_zero, List.drop_zero, List.map_cons, List.map_nil, e3]
 rfl
theorem evC {s : St} : ∀ {ps : List D}, Zb s (ps.map .c) = some ps
 | [] => rfl
 | d :: ps => by simp only [List.map_cons, Zb, St.ev, evC]
section
variable {σ : Type} {w : Qm} {hb : Bool} {p : MC σ} {B1 B2 : σ -> Box} {f : Nat} {ps : List D} (hp : PutOk w hb p B1 B2 f ps)
include hp
theorem DU {c : List Int} {b1 b2 : Box} : ∀ q ∈ HW 1000006 1500003 1500000 w c hb f ps b1 b2, lk (HW 1000006 1500003 1500000 w c hb f ps b1 b2) q.1 = some q.2 := fun q hq => by
 simp only [HW, QhH, List.not_mem_nil, or_false] at hq
 rcases hq with rfl | rfl | rfl | rfl <;> rfl
theorem Tt {c c' : List Int} {b1 b2 b1' b2' : Box} : ∀ j ∈ (HW 1000006 1500003 1500000 w c hb f ps b1 b2).map Prod.fst, (lk (HW 1000006 1500003 1500000 w c' hb f ps b1' b2') j).isSome = true := fun j hj => by
 simp only [HW, List.map_cons, List.map_nil, QhH, List.not_mem_nil, or_false] at hj
 rcases hj with rfl | rfl | rfl | rfl <;> rfl
theorem DT (c : List Int) (s : σ) : ∀ q ∈ HW 1000006 1500003 1500000 w c hb f ps (B1 s) (B2 s), ∀ j ∈ q.2.ids, (lk (HW 1000006 1500003 1500000 w c hb f ps (B1 s) (B2 s)) j).isSome = true := fun q hq => (B9 hp c s q.1 q.2 (DU hp q hq)).2
variable (hw : WSm w) (hr : WIn w) (h0 : 0 < w.length)
include hw hr h0
theorem QeG {s : St} {c : List Int} {x : σ} {t : Bool} (hch : ChOk w c) (hc0 : 0 <= cA c 0) (ht : tidyB w c = t) (h1 : Zb s [.s 14] = some [.ref 1500000 0 0]) (hH : s.H = HW 1000006 1500003 1500000 w c hb f ps (B1 x) (B2 x)) :
  XR Tryd.prog 33 [.s 14] s (HW 1000006 1500003 1500000 w c hb f ps (B1 x) (B2 x)) [] [(1500000, WB w c hb f ps)] (.bool t) :=
 Dg 3 (ht ▸ XD hw hr hch (hb := hb) h0 hc0) h1 (by rw [hH]; exact DU hp) (DT hp c x) rfl (by rw [List.map_cons, List.map_nil, List.map_cons, List.map_nil, Qck]) rfl rfl rfl rfl
theorem Qc1 {c : List Int} {x : σ} (hch : ChOk w c) (hc0 : 0 <= cA c 0) (ht : tidyB w c = false) :
  OkH Tryd.prog 20 [.ref 1500000 0 0, .int .i64 w.length] (HW 1000006 1500003 1500000 w c hb f ps (B1 x) (B2 x)) (.bool true) (HW 1000006 1500003 1500000 w c hb f ps (B1 x) (B2 x)) := by
 have hcl := hch.len
 refine OkH.ofT ZL Tryd.func20 QfD (QhG rfl) (So) (B9 hp c x) ?_
 show TW _ _ tf20.body _ _
 refine Qd fun K hK => ?_
 refine Qb rfl ?_
 refine hK _ _ (Zo (Qn rfl (Qn rfl (QL))) ?_)
 clear hK K
 refine Qz ?_
 refine Qd fun K hK => ?_
 refine Qb rfl ?_
 refine Qb rfl ?_
 refine Ze rfl rfl ?_
 refine Qe rfl rfl ?_
 refine Qt rfl rfl rfl ?_
 refine QY rfl rfl ?_
 refine Y3 rfl rfl ?_
 refine hK _ _ (Zo (Qn rfl (Qn rfl (Qn rfl (QL)))) ?_)
 clear hK K
 refine Qu rfl (fun _ => ?_) (fun h => absurd h (by simp [hcl]))
 refine Qd fun K hK => ?_
 refine Qb rfl ?_
 refine LR (QeG hp hw hr h0 hch hc0 ht rfl rfl) (Tt hp) rfl rfl ?_
 refine Zm rfl ?_
 refine Qb rfl ?_
 refine Yk rfl ?_
 refine Yk rfl ?_
 refine Yk rfl ?_
 refine Yk rfl ?_
 refine Yk rfl ?_
 refine Yk rfl ?_
 refine Yk rfl ?_
 refine Yk rfl ?_
 refine Yk rfl ?_
 refine Yk rfl ?_
 refine Qh rfl rfl ?_
 refine Qb rfl ?_
 refine hK _ _ (Zo (Qn rfl (QL)) ?_)
 clear hK K
 refine Qs ?_
 refine Qf ?_
 refine Ys rfl rfl fun k b h => ?_
 rw [Qx]
 by_cases e : 1500000 = k
 ·subst e; rw [if_pos rfl]; exact h
 ·rw [if_neg e]; exact h
theorem Qcd {c : List Int} {x : σ} : ((HW 1000006 1500003 1500000 w c hb f ps (B1 x) (B2 x)).all fun q => q.1 != 26 && (q.2.pr || !q.2.ids.contains 26)) = true := by
 simp only [HW, List.all_cons, List.all_nil, Bool.and_true, QhJ]
 refine ⟨⟨rfl, by rw [hp.p1 x]; rfl⟩, ⟨rfl, ?_⟩, ⟨rfl, rfl⟩, ⟨rfl, ?_⟩⟩
 ·rw [Bool.or_eq_true]
  right
  rw [Bool.not_eq_true', List.contains_eq_mem, decide_eq_false_iff_not]
  intro h
  have := hp.i2 x 26 h
  omega
 ·rfl
theorem Qa3 {c : List Int} {x : σ} : ∀ j, lk (Kd [500001] (HW 1000006 1500003 1500000 w c hb f ps (B1 x) (B2 x))) j = lk (HW 2000006 2500003 2500000 w c hb f ps (B1 x) (B2 x)) j := fun j => by
 have e : Kd [500001] (HW 1000006 1500003 1500000 w c hb f ps (B1 x) (B2 x)) = HW 2000006 2500003 2500000 w c hb f ps (B1 x) (B2 x) := by
  have e1 : Xd [500001] 500001 = 500001 := rfl
  have e2 : Xd [500001] 1000006 = 2000006 := rfl
  have e3 : Xd [500001] 1500003 = 2500003 := rfl
  have e4 : Xd [500001] 1500000 = 2500000 := rfl
  simp only [Kd, HW, List.map_cons, List.map_nil, e1, e2, e3, e4, hp.r1, hp.r2 e1]
  simp only [Box.ren, YG, List.map_cons, List.map_nil, D.renS, e2, e3]
  rfl
 rw [e]
theorem QaG {c : List Int} {x : σ} (hch : ChOk w c) (hc0 : 0 <= cA c 0) (ht : tidyB w c = true) (hok : p.ok x 1) :
  OkH Tryd.prog 20 [.ref 1500000 0 0, .int .i64 w.length] (HW 1000006 1500003 1500000 w c hb f ps (B1 x) (B2 x)) (.bool (p.st x c).2) (HW 1000006 1500003 1500000 w c hb f ps (B1 (p.st x c).1) (B2 (p.st x c).1)) := by
 have hcl := hch.len
 have hwl := hw.len
 have hne : c ≠ [] := by intro e; subst e; simp at hcl; omega
 refine OkH.ofT ZL Tryd.func20 QfD (QhG rfl) (So) (B9 hp c (p.st x c).1) ?_
 show TW _ _ tf20.body _ _
 refine Qd fun K hK => ?_
 refine Qb rfl ?_
 refine hK _ _ (Zo (Qn rfl (Qn rfl (QL))) ?_)
 clear hK K
 refine Qz ?_
 refine Qd fun K hK => ?_
 refine Qb rfl ?_
 refine Qb rfl ?_
 refine Ze rfl rfl ?_
 refine Qe rfl rfl ?_
 refine Qt rfl rfl rfl ?_
 refine QY rfl rfl ?_
 refine Y3 rfl rfl ?_
 refine hK _ _ (Zo (Qn rfl (Qn rfl (Qn rfl (QL)))) ?_)
 clear hK K
 refine Qu rfl (fun _ => ?_) (fun h => absurd h (by simp [hcl]))
 (refine QbC (l1 := (match tf20.body with | .seq _ _ (.seq (.seq _ _ (.cond _ (.seq (.region _ l) _ _) _)) _ _) => l.take 13 | _ => [])) (l2 := (match tf20.body with | .seq _ _ (.seq (.seq _ _ (.cond _ (.seq (.region _ l) _ _) _)) _ _) => l.drop 14 | _ => [])) (fun K hK => ?_))
 refine Qb rfl ?_
 refine LR (QeG hp hw hr h0 hch hc0 ht rfl rfl) (Tt hp) rfl rfl ?_
 refine Zm rfl ?_
 refine Qb rfl ?_
 refine Qc rfl ?_
 refine Qb rfl ?_
 refine Qc rfl ?_
 refine Ze rfl rfl ?_
 refine Qc rfl ?_
 refine Qe rfl rfl ?_
 refine Qc rfl ?_
 refine QH rfl rfl rfl rfl rfl ?_
 refine Qc rfl ?_
 refine Qb rfl ?_
 refine Qc rfl ?_
 refine Ze rfl rfl ?_
 refine Qc rfl ?_
 refine Qe rfl rfl ?_
 refine Qc rfl ?_
 refine QH rfl rfl rfl rfl rfl ?_
 refine Qc rfl ?_
 refine Bo (BB hne Wa rfl rfl rfl) rfl (fun j hj => by simp at hj; subst hj; rfl) rfl rfl ?_
 refine RY ?_
 (refine G8 (le_trans (Nx (l := [17, 21]) (lH := [500001, 1000006, 1500003, 1500000]) 26 26 (Qn rfl (Qn rfl QL)) (Qa rfl (Qa rfl (Qa rfl (Qa rfl Qi)))) rfl rfl rfl Wc rfl (Qcd hp hw hr h0) (Gp hp rfl) rfl) (QP (l := [17, 21, 26]) (lH := [500001, 1000006, 1500003, 1500000]) (Qn rfl (Qn rfl (Qn rfl QL))) (Qa rfl (Qa rfl (Qa rfl (Qa rfl Qi)))) rfl rfl (Gp hp (fr := [(17, .bool false), (21, .clr f 1000006 ps), (26, Zp c)]) rfl) rfl)) ?_)
 (refine Co (Hr := HW 1000006 1500003 1500000 w c hb f ps (B1 (p.st x c).1) (B2 (p.st x c).1)) (G := [500001]) (ds := Zp c :: .ref 1000006 0 0 :: ps) rfl rfl rfl (by simp [D.capOk, hp.cap]) ?_ rfl rfl rfl rfl rfl ?_ (hp.ok x c c hok) (Qa3 hp hw hr h0) (Qa3 hp hw hr h0) ?_)
 ·simp only [List.map_cons, List.cons_append, List.nil_append, Zb, St.ev, evC]
  rfl
 ·rw [List.map_cons, List.map_cons, hp.ren]; rfl
 refine Qh rfl rfl ?_
 refine Qb rfl ?_
 refine hK _ _ (Zo (Qn rfl (QL)) ?_)
 clear hK K
 refine Qs ?_
 refine Qf ?_
 exact Ys rfl rfl fun k b h => h
end
end Go.Proofs
namespace M25
open Go Go.Abs M3
/-! ### One unit's round -/
section
variable {σ : Type} {p : MC σ} {F : Nat -> List (List Int)} {s s' : σ} {j n : Nat}
theorem Pg (h : Yg p s ((List.range j).flatMap F) = (s', true)) : Yg p s ((List.range (j + 1)).flatMap F) = Yg p s' (F j) := by
 rw [List.range_succ, List.flatMap_append, GH, h, if_pos rfl]
 simp
theorem NO (h : j < n) : List.range n = List.range (j + 1) ++ (List.range' (j + 1) (n - (j + 1))) := by
 rw [List.range_eq_range', List.range_eq_range']
 have := List.range'_append_1 (s := 0) (m := j + 1) (n := n - (j + 1))
 rw [Nat.zero_add] at this
 rw [this, show j + 1 + (n - (j + 1)) = n by omega]
theorem Ph (hj : j < n) (h : Yg p s ((List.range j).flatMap F) = (s', true)) (h2 : (Yg p s' (F j)).2 = false) : Yg p s ((List.range n).flatMap F) = Yg p s' (F j) := by
 rw [NO hj, List.flatMap_append, GH, Pg h, if_neg (by rw [h2]; simp)]
theorem Qew (hj : j < n) (h : Yg p s ((List.range j).flatMap F) = (s', true)) (hok : p.ok s ((List.range n).flatMap F).length) : p.ok s' (F j).length := by
 have := CH (p := p) (s := s) (a := (List.range j).flatMap F) (k := (F j).length) (p.mono hok (by
  rw [NO hj, List.flatMap_append, List.length_append, List.range_succ, List.flatMap_append, List.length_append]
  simp))
 rwa [h] at this
end
section
variable {w : Qm} {c q : List Int} {l : Nat} {x : Int}
theorem K9 (hq : c.take l = q) (hl : l < c.length) : (c.set l x).take (l + 1) = q ++ [x] := by
 rw [List.take_succ_eq_append_getElem (by simpa using hl), List.take_set_of_le (Nat.le_refl _), hq]
 simp
theorem FU (hq : c.take l = q) (hl : l < c.length) : Yf w (c.set l x) l = Yf w (q ++ [x]) l := by
 have h : AgL (c.set l x) (q ++ [x]) l := by
  have := Bu (c := c.set l x) (l := l)
  rwa [K9 hq hl] at this
 exact NL h
theorem CP (hp : PreW w q) (hq : c.take l = q) (hcl : c.length = w.length) (hl : l < w.length) (hx : x < w[l].cs.length) : ∀ u (h : u < w.length) (h2 : u < (c.set l x).length), u <= l -> (c.set l x)[u] < w[u].cs.length := fun u h h2 hul => by
 rw [List.getElem_set]
 split
 ·rename_i e; subst e; exact hx
 ·rename_i e
  have hu : u < q.length := by rw [<- hq, List.length_take]; omega
  have := (hp.bd u hu h).2
  simp only [<- hq, List.getElem_take] at this
  exact this
theorem QcB (hc : 0 < c.length) (hl : l = 0) (h : c[0] < 0) : Yf w c l = false := by
 rw [Yf, decide_eq_true hl, show cA c 0 = c[0] from Y0 (u := 0) hc, decide_eq_true h]; rfl
theorem Cs (h : Yx w c l = false) : Yf w c l = false := by rw [Yf, h, Bool.false_and, Bool.and_false]
theorem QcC (hc : l < c.length) (hl : 0 < l) (h : 0 <= c[l]) (h2 : Ff w c l = false) : Yf w c l = false := by
 rw [Yf, decide_eq_false (Wa : ¬ l = 0), Y0 hc, decide_eq_false (Wa : ¬ c[l] < 0), h2]
 simp
theorem QcD (hc : 0 < c.length) (hl : l = 0) (h : ¬ c[0] < 0) (h2 : Yx w c l = true) : Yf w c l = true := by
 rw [Yf, h2, show cA c 0 = c[0] from Y0 (u := 0) hc, decide_eq_false h, decide_eq_true hl]; rfl
theorem QcE (hc : l < c.length) (hl : 0 < l) (h : ¬ 0 <= c[l]) (h2 : Yx w c l = true) : Yf w c l = true := by
 rw [Yf, h2, decide_eq_false (Wa : ¬ l = 0), Y0 hc, decide_eq_true (Wa : c[l] < 0)]; rfl
theorem QcF (hl : 0 < l) (h : Ff w c l = true) (h2 : Yx w c l = true) : Yf w c l = true := by
 rw [Yf, h2, h, decide_eq_false (Wa : ¬ l = 0)]; simp
theorem Qbp {hi : Bool} {us : List Nat} (hql : q.length = l) (h : Yf w (q ++ [x]) l = true) : subW w hi us q x = listW w hi us (q ++ [x]) := by
 subst hql; exact if_pos h
theorem QeB {hi : Bool} {us : List Nat} (hql : q.length = l) (h : Yf w (q ++ [x]) l = false) : subW w hi us q x = [] := by
 subst hql; exact if_neg (by rw [h]; simp)
theorem QeW {σ : Type} {p : MC σ} {s s' : σ} {hi : Bool} {us : List Nat} {n j : Nat} (hql : q.length = l) (h : Yg p s ((List.range j).flatMap fun i => subW w hi us q (Zh hi n i)) = (s', true)) (hq : c.take l = q) (hl : l < c.length) (hf : Yf w (c.set l (Zh hi n j)) l = false) : Yg p s ((List.range (j + 1)).flatMap fun i => subW w hi us q (Zh hi n i)) = (s', true) := by
 rw [Pg h]
 show Yg p s' (subW w hi us q (Zh hi n j)) = _
 rw [QeB hql (by rw [<- FU hq hl]; exact hf)]; rfl
theorem Qga {σ : Type} {p : MC σ} {s s' : σ} {hi : Bool} {us : List Nat} {n j : Nat} (h : Yg p s ((List.range j).flatMap fun i => subW w hi us q (Zh hi n i)) = (s', true)) (h2 : (Yg p s' (subW w hi us q (Zh hi n j))).2 = true) : Yg p s ((List.range (j + 1)).flatMap fun i => subW w hi us q (Zh hi n i)) = ((Yg p s' (subW w hi us q (Zh hi n j))).1, true) := by
 rw [Pg h, <- h2]
theorem QcM {σ : Type} {p : MC σ} {s s' : σ} {hi : Bool} {us : List Nat} {n m j : Nat} (hj : j < m) (h : Yg p s ((List.range j).flatMap fun i => subW w hi us q (Zh hi n i)) = (s', true)) (h2 : (Yg p s' (subW w hi us q (Zh hi n j))).2 = false) : Yg p s ((List.range m).flatMap fun i => subW w hi us q (Zh hi n i)) = ((Yg p s' (subW w hi us q (Zh hi n j))).1, false) := by
 rw [Ph hj h h2, <- h2]
theorem RJ (hql : q.length = l) (h : c.take (l + 1) = q ++ [x]) : c.take l = q := by
 have := congrArg (List.take l) h
 rw [List.take_take, Nat.min_eq_left Wa, List.take_append_of_le_length Wa, QhV (Wa : q.length <= l)] at this
 exact this
theorem Dj {hi : Bool} {n j : Nat} : Zh hi n j = if hi = true then (n : Int) - 1 - j else (j : Int) - 1 := rfl
end
end M25
namespace Go.Proofs
open Go Go.Abs M3 M25
section
variable {σ : Type} {w : Qm} {hb : Bool} {p : MC σ} {B1 B2 : σ -> Box} {f : Nat} {ps : List D} (hp : PutOk w hb p B1 B2 f ps)
include hp
variable (hw : WSm w) (hr : WIn w)
include hw hr
theorem Qa1 {s : St} {c : List Int} {x : σ} {l : Nat} {t : Bool} (hcl : c.length = w.length) (hl : l < w.length) (hbd : ∀ u (h : u < w.length) (h2 : u < c.length), u <= l -> c[u] < w[u].cs.length) (ht : Yx w c l = t) {o1 o2 : Opd} (h1 : Zb s [o1, o2] = some [.ref 1500000 0 0, .int .i64 l]) (hH : ∀ q ∈ HW 1000006 1500003 1500000 w c hb f ps (B1 x) (B2 x), lk s.H q.1 = some q.2) :
  XR Tryd.prog 35 [o1, o2] s (HW 1000006 1500003 1500000 w c hb f ps (B1 x) (B2 x)) [] [] (.bool t) :=
 S9 3 (ht ▸ Xq hw hr hcl (hb := hb) hl hbd) h1 hH (DT hp c x) rfl (by rw [List.map_cons, List.map_cons, Qck]; rfl) rfl rfl rfl
theorem QfG {s : St} {c : List Int} {x : σ} {l : Nat} {t : Bool} (hcl : c.length = w.length) (hl : l < w.length) (hc0 : 0 <= c[l]'Wa) (hck : c[l]'Wa < w[l].cs.length) (ht : Ff w c l = t) {o1 o2 : Opd} (h1 : Zb s [o1, o2] = some [.ref 1500000 0 0, .int .i64 l]) (hH : ∀ q ∈ HW 1000006 1500003 1500000 w c hb f ps (B1 x) (B2 x), lk s.H q.1 = some q.2) :
  XR Tryd.prog 36 [o1, o2] s (HW 1000006 1500003 1500000 w c hb f ps (B1 x) (B2 x)) [] [] (.bool t) :=
 S9 3 (ht ▸ Xh hw hr hcl (hb := hb) hl hc0 hck) h1 hH (DT hp c x) rfl (by rw [List.map_cons, List.map_cons, Qck]; rfl) rfl rfl rfl
omit hw hr in
theorem DV {c : List Int} {x : σ} : Kd [500001] (HW 1000006 1500003 1500000 w c hb f ps (B1 x) (B2 x)) = HW 2000006 2500003 2500000 w c hb f ps (B1 x) (B2 x) := by
 have e1 : Xd [500001] 500001 = 500001 := rfl
 have e2 : Xd [500001] 1000006 = 2000006 := rfl
 have e3 : Xd [500001] 1500003 = 2500003 := rfl
 have e4 : Xd [500001] 1500000 = 2500000 := rfl
 simp only [Kd, HW, List.map_cons, List.map_nil, e1, e2, e3, e4, hp.r1, hp.r2 e1]
 simp only [Box.ren, YG, List.map_cons, List.map_nil, D.renS, e2, e3]
 rfl
omit hw hr in
theorem DW {c : List Int} {x : σ} : N5 Qbk (HW 1000006 1500003 1500000 w c hb f ps (B1 x) (B2 x)) = HW 2000006 2500003 2500000 w c hb f ps (B1 x) (B2 x) := by
 have e1 : Qbk 500001 = 500001 := rfl
 have e2 : Qbk 1000006 = 2000006 := rfl
 have e3 : Qbk 1500003 = 2500003 := rfl
 have e4 : Qbk 1500000 = 2500000 := rfl
 simp only [N5, HW, List.map_cons, List.map_nil, e1, e2, e3, e4, hp.r1, hp.r2 e1]
 simp only [Box.ren, YG, List.map_cons, List.map_nil, D.renS, e2, e3]
 rfl
end
theorem Qd6 {w : Qm} {hb : Bool} {f : Nat} {ps : List D} {c c' : List Int} {rows : List (List D)} {pr : Bool} {b1 b2 : Box} (h : rows = c'.map rI) (hl : c.length = c'.length) (hpr : pr = true) : [(500001, b1), (1000006, b2), (1500003, (⟨rows, 1, 3, pr⟩ : Box)), (1500000, WB w c hb f ps)] = HW 1000006 1500003 1500000 w c' hb f ps b1 b2 := by
 subst h hpr
 simp only [WB, hl]
def QbH {σ : Type} (w : Qm) (hb : Bool) (p : MC σ) (B1 B2 : σ -> Box) (f : Nat) (ps : List D) (unit : Nat) (q : List Int) (s : σ) (d : D) (H' : QhD) : Prop :=
 ∃ c' : List Int, c'.length = w.length /\ c'.take unit = q /\ d = .bool (Yg p s (listW w hb ((ZS w).drop unit) q)).2 /\ H' = HW 1000006 1500003 1500000 w c' hb f ps (B1 (Yg p s (listW w hb ((ZS w).drop unit) q)).1) (B2 (Yg p s (listW w hb ((ZS w).drop unit) q)).1)
def QbI {σ : Type} (w : Qm) (hb : Bool) (p : MC σ) (B1 B2 : σ -> Box) (f : Nat) (ps : List D) (unit : Nat) (cur : List Int) (s : σ) : Prop :=
 ∃ d H', QbH w hb p B1 B2 f ps unit (cur.take unit) s d H' /\ OkH Tryd.prog 20 [.ref 1500000 0 0, .int .i64 unit] (HW 1000006 1500003 1500000 w cur hb f ps (B1 s) (B2 s)) d H'
section
variable {σ : Type} {w : Qm} {hb : Bool} {p : MC σ} {B1 B2 : σ -> Box} {f : Nat} {ps : List D} (hp : PutOk w hb p B1 B2 f ps) (hw : WSm w) (hr : WIn w) (h0 : 0 < w.length)
include hp
theorem C8 (hw : WSm w) (hr : WIn w) (h0 : 0 < w.length) {cur : List Int} {s : σ} (hcl : cur.length = w.length) (hq : PreW w (cur.take w.length)) (hok : p.ok s (listW w hb ((ZS w).drop w.length) (cur.take w.length)).length) : QbI w hb p B1 B2 f ps w.length cur s := by
 have e : cur.take w.length = cur := QhV Wa
 have hch : ChOk w cur := by
  rw [e] at hq
  exact ⟨hcl, fun u hu hc => hq.bd u hc hu⟩
 have hc0 : 0 <= cA cur 0 := by
  rw [e] at hq
  exact (hq.inv (by intro e2; subst e2; simp at hcl; omega)).2
 have ed : (ZS w).drop w.length = [] := List.drop_of_length_le (by simp [ZS])
 cases ht : tidyB w cur with
 | true =>
  have hL : listW w hb ((ZS w).drop w.length) (cur.take w.length) = [cur] := by
   rw [ed, e, listW, if_pos (C3.1 ht)]
  rw [hL] at hok
  refine ⟨_, _, ⟨cur, hcl, rfl, rfl, rfl⟩, ?_⟩
  rw [hL, TP]
  exact QaG hp hw hr h0 hch hc0 ht hok
 | false =>
  have hL : listW w hb ((ZS w).drop w.length) (cur.take w.length) = [] := by
   rw [ed, e, listW, if_neg fun h => by rw [SP h] at ht; cases ht]
  refine ⟨_, _, ⟨cur, hcl, rfl, rfl, rfl⟩, ?_⟩
  rw [hL]
  exact Qc1 hp hw hr h0 hch hc0 ht
theorem T3 {unit : Nat} {cur c q : List Int} {s s' : σ} {t : Bool} {H : QhD} {b1 b2 : Box} {e : ZT} {fr : QhE} (hc : c.length = w.length) (ht : c.take unit = q) (hrun : Yg p s (listW w hb ((ZS w).drop unit) q) = (s', t)) (hH : H = HW 1000006 1500003 1500000 w c hb f ps (B1 s') (B2 s')) (hfr : lk fr 4 = some (.bool t)) (he : e = .ret \/ e = .normal := by first | exact .inl rfl | exact .inr rfl) :
  ∃ d H', QbH w hb p B1 B2 f ps unit q s d H' /\ (∀ k, 1000000 <= k -> (lk (HW 1000006 1500003 1500000 w cur hb f ps b1 b2) k).isSome = true -> (lk H' k).isSome = true) /\ (∀ k b, lk H' k = some b -> 500000 <= k /\ ∀ j ∈ b.ids, (lk H' j).isSome = true) /\ MB [.tmp 4] d H' e ⟨fr, H⟩ := by
 subst hH
 refine ⟨_, _, ⟨c, hc, ht, rfl, rfl⟩, So, by rw [hrun]; exact B9 hp c s', ?_⟩
 rw [hrun]
 exact Ys hfr rfl (fun k b h => h) he
theorem C9 {unit : Nat} {c c2 : List Int} {s s' : σ} {t : Bool} {o : AOper} {fr : QhE} {K : St -> Prop} {dst : Nat} {o1 o2 : Opd} (ho : o = ⟨some dst, .call 20 [o1, o2], none⟩) (hok : OkH Tryd.prog 20 [.ref 1500000 0 0, .int .i64 ((unit : Int) + 1)] (HW 1000006 1500003 1500000 w c hb f ps (B1 s) (B2 s)) (.bool t) (HW 1000006 1500003 1500000 w c2 hb f ps (B1 s') (B2 s')))
  (hds : Zb ⟨fr, HW 1000006 1500003 1500000 w c hb f ps (B1 s) (B2 s)⟩ [o1, o2] = some [.ref 1500000 0 0, .int .i64 ((unit : Int) + 1)]) (hfr : (fr.all fun p => p.2.ids.all fun k => !([500001] : List Nat).contains k) = true) (hK : K ⟨(dst, .bool t) :: fr, HW 1000006 1500003 1500000 w c2 hb f ps (B1 s') (B2 s')⟩) :
  Bk Tryd.prog o K ⟨fr, HW 1000006 1500003 1500000 w c hb f ps (B1 s) (B2 s)⟩ :=
 NK (G := [500001]) (Hr := HW 1000006 1500003 1500000 w c2 hb f ps (B1 s') (B2 s')) ho hds rfl hfr rfl rfl rfl (OkH.rnm' rnU hok rfl (DW hp) rfl (DW hp)) (DV hp) (DV hp) hK
end
end Go.Proofs
namespace Go.Proofs
open Go Go.Abs M3 M25
theorem _root_.Wj {p : Prop} (h : p := by rw [List.length_set]; omega) : p := h
theorem XE {σ : Type} {w : Qm} {hb : Bool} {p : MC σ} {B1 B2 : σ -> Box} {f : Nat} {ps : List D} (hp : PutOk w hb p B1 B2 f ps) (hw : WSm w) (hr : WIn w) {unit : Nat} (hu : unit < w.length) {cur q : List Int} {s : σ} (hcl : cur.length = w.length) (hqt : cur.take unit = q) (hpre : PreW w q) (hok : p.ok s (listW w hb ((ZS w).drop unit) q).length)
  (ih : ∀ (cur : List Int) (s : σ), cur.length = w.length -> PreW w (cur.take (unit + 1)) -> p.ok s (listW w hb ((ZS w).drop (unit + 1)) (cur.take (unit + 1))).length -> QbI w hb p B1 B2 f ps (unit + 1) cur s) : ∃ d H', QbH w hb p B1 B2 f ps unit q s d H' /\ OkH Tryd.prog 20 [.ref 1500000 0 0, .int .i64 unit] (HW 1000006 1500003 1500000 w (cur) hb f ps (B1 s) (B2 s)) d H' := by
 have hwl := hw.len
 have hcu := hw.cs _ (QhK hu)
 have hql : q.length = unit := by rw [<- hqt, List.length_take]; omega
 have hLE : listW w hb ((ZS w).drop unit) q = (List.range ((w[unit]'hu).cs.length + 1)).flatMap fun i => subW w hb ((ZS w).drop (unit + 1)) q (Zh hb (w[unit]'hu).cs.length i) := by rw [Cj hu]; exact Lw _ _ _ _ _
 rw [hLE] at hok
 refine OkH.ofX ZL Tryd.func20 QfD (QhG Z) ?_
 show TX _ _ tf20.body _ _
 refine Kf fun K hK => Qb Z (hK _ _ (Yl (kp2 Z Z) ?_))
 refine Bt ?_ -- 0
 refine Kf fun K hK => mv2 Z Z (Ze Z Z (Qe Z Z (Qt Z Z Z (QY Z Z (Y3 Z Z (hK _ _ (Yl (kp3 Z Z Z) ?_)))))))
 refine FZ Z (fun h1 => ?_) (fun h1 => ?_)
 ·rw [h1]
  simp only [qA] at h1
  exfalso; omega
 ·rw [h1]
  simp only [qA] at h1
  refine F0 (Xp (kp2 Z Z) (Kf fun K hK => Qb Z (Ze Z Z (Qe Z Z (Qt Z Z Z (Qb Z (QE Z Z Z Wa (QR Wa) Z (Qt Z Z Z (QY Z QM (Qb Z ?_))))))))))
  refine hK _ _ (Yl (kp3 Z Z Z) ?_)
  refine Bt ?_ -- 1
  refine Kf fun K hK => Qb Z (Q0 Z Z Wb (Qb Z (hK _ _ (Yl (kp5 Z Z Z Z Z) ?_))))
  refine LW ?_
  refine QdD (ι := Nat × List Int × σ) (fun j => ⟨[(0, .ref 1500000 0 0), (1, .int .i64 unit), (5, .int .i64 (w[unit]'hu).cs.length), (38, .int .i64 ((w[unit]'hu).cs.length + 1)), (39, .int .i64 j.1)], HW 1000006 1500003 1500000 w (j.2.1) hb f ps (B1 j.2.2) (B2 j.2.2)⟩) (fun j => j.1 <= (w[unit]'hu).cs.length + 1 /\ j.2.1.length = w.length /\ j.2.1.take unit = q /\ Yg p s ((List.range j.1).flatMap fun i => subW w hb ((ZS w).drop (unit + 1)) q (Zh hb (w[unit]'hu).cs.length i)) = (j.2.2, true)) (fun j => (w[unit]'hu).cs.length + 1 - j.1) (0, cur, s) ?_ ?_ ?_
  ·exact QP (l := [0, 1, 5, 38, 39]) (lH := [500001, 1000006, 1500003, 1500000]) (kp5 rfl rfl rfl rfl rfl) (Qa rfl (Qa rfl (Qa rfl (Qa rfl Qi)))) rfl rfl (Gp hp rfl) rfl
  ·exact ⟨QhR _, hcl, hqt, rfl⟩
  intro j hI
  dsimp only
  refine Kf fun K hK => ZI Z Z (hK _ _ (Yl (kp6 Z Z Z Z Z Z) ?_))
  refine Bt ?_ -- 2
  refine FZ Z (fun h2 => ?_) (fun h2 => ?_)
  ·rw [h2]
   simp only [qA] at h2
   have hX := BG (hi := hb) (Wa : j.1 < (w[unit]'hu).cs.length + 1)
   refine F0 (Xp (kp5 Z Z Z Z Z) ?_)
   refine Bt ?_ -- 3
   refine LW (Kf fun K hK => mv2 Z Z (hK _ _ (Yl (kp6 Z Z Z Z Z Z) ?_)))
   refine Kf fun K hK => Qb Z (Ze Z Z (Qe Z Z (Qt Z Z Z (mv2 Z Z (JK Z Z Wb (Z6 Z Z Z Wc Wa Wa Z (Zf Z Z (QR Wa) Z Z Z Z Z (hK _ _ (Yl (kp6 Z Z Z Z Z Z) ?_)))))))))
   refine QaR (ι := Unit) (fun _ => ⟨[(0, .ref 1500000 0 0), (1, .int .i64 unit), (5, .int .i64 (w[unit]'hu).cs.length), (38, .int .i64 ((w[unit]'hu).cs.length + 1)), (39, .int .i64 j.1)], HW 1000006 1500003 1500000 w ((j.2.1.set unit (Zh hb (w[unit]'hu).cs.length j.1))) hb f ps (B1 j.2.2) (B2 j.2.2)⟩) (fun _ => True) ?_ ?_
   ·skip
    refine Kf fun K hK => Qb Z (Ze Z Z (Qe Z Z (Qt Z Z Z (hK _ _ (Yl (kp7 Z Z Z Z Z Z Z) ?_)))))
    refine FZ Z (fun h3 => ?_) (fun h3 => ?_)
    ·skip
     refine GP fun K hK => Qb Z (Ze Z Z (Qe Z Z (Qt Z Z Z (mv2 Z Z (JK Z Z Wb (Qb Z (JK Z Z Wb (Z6 Z Z Z Wc Wa Wa Z ?_))))))))
     refine Zf Z Z (List.getElem?_set_self We) Z Z Z Z Z ?_
     refine hK _ ?_
     refine Q9 () ?_ ?_
     ·exact QP (l := [0, 1, 5, 38, 39]) (lH := [500001, 1000006, 1500003, 1500000]) (kp5 rfl rfl rfl rfl rfl) (Qa rfl (Qa rfl (Qa rfl (Qa rfl Qi)))) rfl (Qd6 (by rw [Dj, if_pos h3, List.map_set, List.set_set]; rfl) (by rw [List.length_set]) rfl) (Gp hp rfl) rfl
     ·exact trivial
    ·skip
     refine F0 ?_
     refine Q9 () ?_ ?_
     ·exact QP (l := [0, 1, 5, 38, 39]) (lH := [500001, 1000006, 1500003, 1500000]) (kp5 rfl rfl rfl rfl rfl) (Qa rfl (Qa rfl (Qa rfl (Qa rfl Qi)))) rfl (Qd6 (by rw [Dj, if_neg (by rw [h3]; simp), List.map_set]; rfl) (by rw [List.length_set]) rfl) (Gp hp rfl) rfl
     ·exact trivial
   intro _ _
   refine QaR (ι := Unit) (fun _ => ⟨[(0, .ref 1500000 0 0), (1, .int .i64 unit), (5, .int .i64 (w[unit]'hu).cs.length), (38, .int .i64 ((w[unit]'hu).cs.length + 1)), (39, .int .i64 j.1)], HW 1000006 1500003 1500000 w ((j.2.1.set unit (Zh hb (w[unit]'hu).cs.length j.1))) hb f ps (B1 j.2.2) (B2 j.2.2)⟩) (fun _ => Yf w (j.2.1.set unit (Zh hb (w[unit]'hu).cs.length j.1)) unit = true) ?_ ?_
   ·skip
    refine Kf fun K hK => Qb Z (Y3 Z Z (Qb Z ?_))
    refine Qr (g := 66) Z (fun h4 => ?_) (fun h4 => ?_)
    ·rw [h4]
     simp only [qA] at h4
     refine Qc Z (Qb Z (Qc Z (Ze Z Z (Qc Z (Qe Z Z (Qc Z (Qt Z Z Z (Qc Z (Z6 Z Z Z Wc Wa Wj Z (Qc Z (Qt Z (J0 Z (QZ Wa Wj)) Z ?_)))))))))))
     refine Qc Z (ZI Z Z (Qh Z Z (Qb Z ?_)))
     refine Qr (g := 75) Z (fun h5 => ?_) (fun h5 => ?_)
     ·rw [h5]
      simp only [qA] at h5
      refine gn4 Z Z Z Z (Qh Z Z (Qb Z (gn3 Z Z Z (Qo Z (Qo Z (Qo Z ?_))))))
      refine Qo Z (Qo Z (Qo Z (Qo Z (Qo Z (gn2 Z Z (Qo Z (Qo Z (Qo Z (Qo Z (Yk Z ?_))))))))))
      refine Qh Z Z (hK _ _ (Yl (kp6 Z Z Z Z Z Z) ?_))
      refine R0 Z (PF (Kz (QA (Xp (kp5 Z Z Z Z Z) (GP fun K hK => Q0 Z Z Wb (Qb Z (hK _ ?_)))))))
      refine Qk (j.1 + 1, (j.2.1.set unit (Zh hb (w[unit]'hu).cs.length j.1)), j.2.2) ?_ ?_ ?_
      ·exact QP (l := [0, 1, 5, 38, 39]) (lH := [500001, 1000006, 1500003, 1500000]) (kp5 rfl rfl rfl rfl rfl) (Qa rfl (Qa rfl (Qa rfl (Qa rfl Qi)))) rfl rfl (Gp hp rfl) rfl
      ·exact ⟨Wa, by rw [List.length_set]; exact hI.2.1, by rw [List.take_set_of_le (Nat.le_refl _)]; exact hI.2.2.1, QeW hql hI.2.2.2 hI.2.2.1 Wa (QcB Wj Wa (by simpa using h5))⟩
      ·show (w[unit]'hu).cs.length + 1 - (j.1 + 1) < (w[unit]'hu).cs.length + 1 - j.1; omega
     ·rw [h5]
      simp only [qA] at h5
      refine Qc Z (Qb Z (Qc Z (Qb Z (Qc Z (FY (Qa1 hp hw hr (x := j.2.2) (c := (j.2.1.set unit (Zh hb (w[unit]'hu).cs.length j.1))) (by rw [List.length_set]; exact hI.2.1) hu (CP hpre hI.2.2.1 hI.2.1 hu hX.2) Z Z (DU hp)) (Qc Z (Zm Z (Qh Z Z (Qb Z ?_)))))))))
      refine Qr (g := 81) Z (fun h6 => ?_) (fun h6 => ?_)
      ·rw [h6]
       simp only [qA] at h6
       refine gn3 Z Z Z (Qo Z (Qo Z (Qo Z (Qo Z (Qo Z (Qo Z (Qo Z (Qo Z (Yk Z ?_)))))))))
       refine Yk Z (Qo Z (Qo Z (Qo Z (Qo Z (Yk Z (Qh Z Z (hK _ _ (Yl (kp6 Z Z Z Z Z Z) ?_))))))))
       refine R0 Z (PF (Kz (QA (Xp (kp5 Z Z Z Z Z) (GP fun K hK => Q0 Z Z Wb (Qb Z (hK _ ?_)))))))
       refine Qk (j.1 + 1, (j.2.1.set unit (Zh hb (w[unit]'hu).cs.length j.1)), j.2.2) ?_ ?_ ?_
       ·exact QP (l := [0, 1, 5, 38, 39]) (lH := [500001, 1000006, 1500003, 1500000]) (kp5 rfl rfl rfl rfl rfl) (Qa rfl (Qa rfl (Qa rfl (Qa rfl Qi)))) rfl rfl (Gp hp rfl) rfl
       ·exact ⟨Wa, by rw [List.length_set]; exact hI.2.1, by rw [List.take_set_of_le (Nat.le_refl _)]; exact hI.2.2.1, QeW hql hI.2.2.2 hI.2.2.1 Wa (Cs h6)⟩
       ·show (w[unit]'hu).cs.length + 1 - (j.1 + 1) < (w[unit]'hu).cs.length + 1 - j.1; omega
      ·rw [h6]
       simp only [qA] at h6
       refine Qc Z (Qb Z (Qc Z (YZ Z Z (Qc Z (Qb Z ?_)))))
       refine Qr (g := 84) Z (fun h7 => ?_) (fun h7 => ?_)
       ·rw [h7]
        simp only [qA] at h7
        exfalso; omega
       ·rw [h7]
        simp only [qA] at h7
        refine gn4 Z Z Z Z (gn4 Z Z Z Z (Qc Z (Qh Z Z (Qc Z (Qb Z ?_)))))
        refine gn4 Z Z Z Z (Qc Z (Qh Z Z (Qh Z Z (hK _ _ (Yl (kp6 Z Z Z Z Z Z) ?_)))))
        refine LX Z (F0 ?_)
        refine Q9 () ?_ ?_
        ·exact QP (l := [0, 1, 5, 38, 39]) (lH := [500001, 1000006, 1500003, 1500000]) (kp5 rfl rfl rfl rfl rfl) (Qa rfl (Qa rfl (Qa rfl (Qa rfl Qi)))) rfl rfl (Gp hp rfl) rfl
        ·exact QcD Wj Wa (by simpa using h5) h6
    ·rw [h4]
     simp only [qA] at h4
     refine gn4 Z Z Z Z (gn3 Z Z Z (Qh Z Z (Qb Z (Qc Z (Qb Z (Qc Z ?_))))))
     refine Qb Z (Qc Z (FY (Qa1 hp hw hr (x := j.2.2) (c := (j.2.1.set unit (Zh hb (w[unit]'hu).cs.length j.1))) (by rw [List.length_set]; exact hI.2.1) hu (CP hpre hI.2.2.1 hI.2.1 hu hX.2) Z Z (DU hp)) (Qc Z (Zm Z (Qh Z Z (Qb Z ?_))))))
     refine Qr (g := 81) Z (fun h8 => ?_) (fun h8 => ?_)
     ·rw [h8]
      simp only [qA] at h8
      refine gn3 Z Z Z (Qo Z (Qo Z (Qo Z (Qo Z (Qo Z (Qo Z (Qo Z (Qo Z (Yk Z ?_)))))))))
      refine Yk Z (Qo Z (Qo Z (Qo Z (Qo Z (Yk Z (Qh Z Z (hK _ _ (Yl (kp6 Z Z Z Z Z Z) ?_))))))))
      refine R0 Z (PF (Kz (QA (Xp (kp5 Z Z Z Z Z) (GP fun K hK => Q0 Z Z Wb (Qb Z (hK _ ?_)))))))
      refine Qk (j.1 + 1, (j.2.1.set unit (Zh hb (w[unit]'hu).cs.length j.1)), j.2.2) ?_ ?_ ?_
      ·exact QP (l := [0, 1, 5, 38, 39]) (lH := [500001, 1000006, 1500003, 1500000]) (kp5 rfl rfl rfl rfl rfl) (Qa rfl (Qa rfl (Qa rfl (Qa rfl Qi)))) rfl rfl (Gp hp rfl) rfl
      ·exact ⟨Wa, by rw [List.length_set]; exact hI.2.1, by rw [List.take_set_of_le (Nat.le_refl _)]; exact hI.2.2.1, QeW hql hI.2.2.2 hI.2.2.1 Wa (Cs h8)⟩
      ·show (w[unit]'hu).cs.length + 1 - (j.1 + 1) < (w[unit]'hu).cs.length + 1 - j.1; omega
     ·rw [h8]
      simp only [qA] at h8
      refine Qc Z (Qb Z (Qc Z (YZ Z Z (Qc Z (Qb Z ?_)))))
      refine Qr (g := 84) Z (fun h9 => ?_) (fun h9 => ?_)
      ·rw [h9]
       simp only [qA] at h9
       refine Qc Z (Qb Z (Qc Z (Ze Z Z (Qc Z (Qe Z Z (Qc Z (Qt Z Z Z (Qc Z (Qb Z (Qc Z (Z6 Z Z Z Wc Wa Wj Z ?_)))))))))))
       refine Qc Z (Qt Z (J0 Z (QR Wj)) Z (Qc Z (Fw Z Z (Qc Z (Qh Z Z (Qc Z (Qb Z ?_)))))))
       refine Qr (g := 94) Z (fun h10 => ?_) (fun h10 => ?_)
       ·rw [h10]
        simp only [qA] at h10
        refine Qc Z (Qb Z (Qc Z (Qb Z (Qc Z (FY (QfG hp hw hr (x := j.2.2) (c := (j.2.1.set unit (Zh hb (w[unit]'hu).cs.length j.1))) (by rw [List.length_set]; exact hI.2.1) hu h10 (CP hpre hI.2.2.1 hI.2.1 hu hX.2 unit hu Wj (Nat.le_refl _)) Z Z (DU hp)) (Qc Z (Zm Z (Qc Z (Qh Z Z (Qh Z Z (hK _ _ (Yl (kp6 Z Z Z Z Z Z) ?_))))))))))))
        refine FZ Z (fun h11 => ?_) (fun h11 => ?_)
        ·rw [h11]
         simp only [qA] at h11
         refine PF (Kz (QA (Xp (kp5 Z Z Z Z Z) (GP fun K hK => Q0 Z Z Wb (Qb Z (hK _ ?_))))))
         refine Qk (j.1 + 1, (j.2.1.set unit (Zh hb (w[unit]'hu).cs.length j.1)), j.2.2) ?_ ?_ ?_
         ·exact QP (l := [0, 1, 5, 38, 39]) (lH := [500001, 1000006, 1500003, 1500000]) (kp5 rfl rfl rfl rfl rfl) (Qa rfl (Qa rfl (Qa rfl (Qa rfl Qi)))) rfl rfl (Gp hp rfl) rfl
         ·exact ⟨Wa, by rw [List.length_set]; exact hI.2.1, by rw [List.take_set_of_le (Nat.le_refl _)]; exact hI.2.2.1, QeW hql hI.2.2.2 hI.2.2.1 Wa (QcC Wj Wa h10 h11)⟩
         ·show (w[unit]'hu).cs.length + 1 - (j.1 + 1) < (w[unit]'hu).cs.length + 1 - j.1; omega
        ·rw [h11]
         simp only [qA] at h11
         refine F0 ?_
         refine Q9 () ?_ ?_
         ·exact QP (l := [0, 1, 5, 38, 39]) (lH := [500001, 1000006, 1500003, 1500000]) (kp5 rfl rfl rfl rfl rfl) (Qa rfl (Qa rfl (Qa rfl (Qa rfl Qi)))) rfl rfl (Gp hp rfl) rfl
         ·exact QcF Wa h11 h8
       ·rw [h10]
        simp only [qA] at h10
        refine gn4 Z Z Z Z (Qc Z (Qh Z Z (Qh Z Z (hK _ _ (Yl (kp6 Z Z Z Z Z Z) ?_)))))
        refine LX Z (F0 ?_)
        refine Q9 () ?_ ?_
        ·exact QP (l := [0, 1, 5, 38, 39]) (lH := [500001, 1000006, 1500003, 1500000]) (kp5 rfl rfl rfl rfl rfl) (Qa rfl (Qa rfl (Qa rfl (Qa rfl Qi)))) rfl rfl (Gp hp rfl) rfl
        ·exact QcE Wj Wa Wa h8
      ·rw [h9]
       simp only [qA] at h9
       exfalso; omega
   intro _ hP
   obtain ⟨d2, H2, ⟨c2, hc2, hc2t, rfl, rfl⟩, hok2⟩ := ih (j.2.1.set unit (Zh hb (w[unit]'hu).cs.length j.1)) j.2.2 (by rw [List.length_set]; exact hI.2.1) (by rw [K9 hI.2.2.1 Wa]; exact hpre.push Wa (by subst hql; exact hX) (by rw [hql, <- FU hI.2.2.1 Wa]; exact hP)) (by rw [K9 hI.2.2.1 Wa, <- Qbp hql (by rw [<- FU hI.2.2.1 Wa]; exact hP)]; exact Qew (F := fun i => subW w hb ((ZS w).drop (unit + 1)) q (Zh hb (w[unit]'hu).cs.length i)) Wa hI.2.2.2 hok)
   rw [K9 hI.2.2.1 Wa, <- Qbp hql (by rw [<- FU hI.2.2.1 Wa]; exact hP)] at hok2
   obtain ⟨t2, ht2⟩ : ∃ t, (Yg p j.2.2 (subW w hb ((ZS w).drop (unit + 1)) q (Zh hb (w[unit]'hu).cs.length j.1))).2 = t := ⟨_, rfl⟩
   rw [ht2] at hok2
   (refine QbD fun K hK => QbK (l := [_, _, _]) ?_)
   refine mv2 Z Z (Q0 Z Z (Qp Wa Wa) (RY ?_))
   (refine G8 (s' := ⟨[(0, .ref 1500000 0 0), (1, .int .i64 unit), (5, .int .i64 (w[unit]'hu).cs.length), (38, .int .i64 ((w[unit]'hu).cs.length + 1)), (39, .int .i64 j.1), (101, .ref 1500000 0 0), (103, .int .i64 (unit + 1))], HW 1000006 1500003 1500000 w ((j.2.1.set unit (Zh hb (w[unit]'hu).cs.length j.1))) hb f ps (B1 j.2.2) (B2 j.2.2)⟩) (QP (l := [0, 1, 5, 38, 39, 101, 103]) (lH := [500001, 1000006, 1500003, 1500000]) (kp7 rfl rfl rfl rfl rfl rfl rfl) (Qa rfl (Qa rfl (Qa rfl (Qa rfl Qi)))) rfl rfl (Gp hp rfl) rfl) ?_)
   (refine C9 hp rfl hok2 rfl rfl ?_)
   (refine QdF ?_)
   refine Zm Z (hK _ _ (Yl (kp6 Z Z Z Z Z Z) ?_))
   refine FZ Z (fun h12 => ?_) (fun h12 => ?_)
   ·rw [h12]
    simp only [qA] at h12
    refine Kf fun K hK => Qb Z (hK _ _ (Yl (kp1 Z) ?_))
    refine QdE (Qj (TY (QC (Qj (TY ?_)))))
    exact T3 hp hc2 (RJ hql (hc2t.trans (K9 hI.2.2.1 Wa))) (by rw [hLE]; exact QcM Wa hI.2.2.2 (ht2.trans h12)) rfl rfl
   ·rw [h12]
    simp only [qA] at h12
    refine F0 (Ql (Xp (kp5 Z Z Z Z Z) (GP fun K hK => Q0 Z Z Wb (Qb Z (hK _ ?_)))))
    refine Qk (j.1 + 1, c2, (Yg p j.2.2 (subW w hb ((ZS w).drop (unit + 1)) q (Zh hb (w[unit]'hu).cs.length j.1))).1) ?_ ?_ ?_
    ·exact QP (l := [0, 1, 5, 38, 39]) (lH := [500001, 1000006, 1500003, 1500000]) (kp5 rfl rfl rfl rfl rfl) (Qa rfl (Qa rfl (Qa rfl (Qa rfl Qi)))) rfl rfl (Gp hp rfl) rfl
    ·exact ⟨Wa, hc2, RJ hql (hc2t.trans (K9 hI.2.2.1 Wa)), Qga hI.2.2.2 (ht2.trans h12)⟩
    ·show (w[unit]'hu).cs.length + 1 - (j.1 + 1) < (w[unit]'hu).cs.length + 1 - j.1; omega
  ·rw [h2]
   simp only [qA] at h2
   refine PF (CO (Qv (QA (Xp (QL) (Kf fun K hK => Qb Z (hK _ _ (Yl (kp1 Z) ?_)))))))
   refine QdE ?_
   exact T3 hp hI.2.1 hI.2.2.1 (by rw [hLE, <- show j.1 = (w[unit]'hu).cs.length + 1 by omega]; exact hI.2.2.2) rfl rfl
open Go Go.Abs M3 M25
theorem JN {w : Qm} (hw : WSm w) (hr : WIn w) {hb : Bool} {f et : Nat} {ps : List D} : OkH Tryd.prog 18 [Zj w, .bool hb, .clr f 1000006 ps, gD] [(1000006, ⟨[[.fsl []]], 1, et, true⟩)] (.ref 500000 0 0) [(500000, ⟨[[Zx w, .osl 500003 w.length, .bool hb, .clr f 1000006 ps]], 4, 73, false⟩), (500003, ⟨(List.replicate w.length 0).map rI, 1, 3, true⟩), (1000006, ⟨[[.fsl []]], 1, et, true⟩)] := by
 have hwl := hw.len
 refine OkH.ofTG (ds := [Zj w, .bool hb, .clr f 1000006 ps]) (dg := gD) ZL Tryd.func18 Qgk (QhG Z) ?_ ?_ ?_
 ·intro k hk h; simp only [Qx] at h ⊢; (repeat' split) <;> simp_all [lk]
 ·intro k b h; simp only [Qx] at h; (repeat' split at h) <;> first | (cases h; subst_vars; refine ⟨Wa, fun j hj => ?_⟩; simp [Box.ids, D.sid] at hj; done) | (cases h; subst_vars; refine ⟨Wa, fun j hj => ?_⟩; simp [Box.ids, D.sid, Zx] at hj; rcases hj with rfl | rfl <;> rfl) | cases h
 show TW _ _ tf18.body _ _
 refine Qd fun K hK => Zs Z Z Z (Qb Z (kc4 hK Z Z Z Z ?_))
 refine Qd fun K hK => mv2 Z Z (Qe Z Z (Qt Z Z Z (QY Z QM (S0 Z Z Z Wa We We (ZM Z Z (Zs Z Z Z (Qb Z (kc3 hK Z Z Z ?_))))))))
 refine Qz ?_ -- 0
 refine Qd fun K hK => Qe Z Z (Qt Z Z Z (QY Z QM (Qb Z (kc6 hK Z Z Z Z Z Z ?_))))
 refine Qw ?_
 refine Q5 (ι := Nat) (fun i => ⟨[(3, .ref 3 0 0), (7, .ref 28 0 0), (30, .sl (w.map ZK)), (31, .int .i64 w.length), (32, .int .i64 i), (900000, gD)], [(3, ⟨[[.sl (w.map ZK)]], 1, 24, true⟩), (26, ⟨List.replicate w.length [.int .i64 0], 1, 3, true⟩), (28, ⟨[[.osl 100 (w.take i).length, .osl 26 w.length, .bool hb, .clr f 1000006 ps]], 4, 73, false⟩), (100, ⟨(w.take i).map (fun u => [Jy w u]), 1, 74, true⟩), (1000006, ⟨[[.fsl []]], 1, et, true⟩)]⟩) (fun i => i <= w.length) (fun i => w.length - i) 0 ?_ ?_ ?_
 ·exact le_trans (Xl 28 0 100 1 74 rfl rfl rfl rfl) (QP (l := [3, 7, 30, 31, 32, 900000]) (lH := [3, 26, 28, 100, 1000006]) (kp6 rfl rfl rfl rfl rfl rfl) (Qa rfl (Qa rfl (Qa rfl (Qa rfl (Qa rfl Qi))))) rfl rfl rfl)
 ·exact QhR _
 intro i hI
 have hlen : (w.take i).length = i := by simp only [List.length_take]; omega
 have hcu := fun (h : i < w.length) => hw.cs _ (QhK h)
 refine Qd fun K hK => ZI Z Z (kc7 hK Z Z Z Z Z Z Z ?_)
 refine Qz ?_ -- 1
 refine Qu Z (fun h1 => ?_) (fun h1 => ?_)
 ·rw [h1]
  simp only [qA] at h1
  refine Qq (ks6 Z Z Z Z Z Z ?_)
  refine Qz ?_ -- 2
  refine Qw (Qd fun K hK => QE Z Z Z Wa (QR Wa) Z (QD (cs := [_, _, _]) Z Z Z Z (Zu Z (Zf Z Z Z Z Z Z Z Z (kc7 hK Z Z Z Z Z Z Z ?_)))))
  refine Qd fun K hK => Qb Z (kc8 hK Z Z Z Z Z Z Z Z ?_)
  refine Qz ?_ -- 3
  refine Qd fun K hK => Qe Z Z (Qt Z Z Z (QY Z QM (Qb Z (kc hK (HQ Z Z Z Z Z Z Z Z Z Z) ?_))))
  refine Qw ?_
  have hcu1 := hcu Wa
  refine Q5 (ι := Nat) (fun k => ⟨[(3, .ref 3 0 0), (7, .ref 28 0 0), (10, .osl 10 ((w[i]'Wa).cs.take k).length), (30, .sl (w.map ZK)), (31, .int .i64 w.length), (32, .int .i64 i), (37, Fk (w[i]'Wa).cs), (38, .int .i64 (w[i]'Wa).cs.length), (39, .int .i64 k), (900000, gD)], [(3, ⟨[[.sl (w.map ZK)]], 1, 24, true⟩), (10, ⟨((w[i]'Wa).cs.take k).map (Du w), 2, 78, true⟩), (26, ⟨List.replicate w.length [.int .i64 0], 1, 3, true⟩), (28, ⟨[[.osl 100 (w.take i).length, .osl 26 w.length, .bool hb, .clr f 1000006 ps]], 4, 73, false⟩), (100, ⟨(w.take i).map (fun u => [Jy w u]), 1, 74, true⟩), (1000006, ⟨[[.fsl []]], 1, et, true⟩)]⟩) (fun k => k <= (w[i]'Wa).cs.length) (fun k => (w[i]'Wa).cs.length - k) 0 ?_ ?_ ?_
  ·exact le_trans (Yy 10 10 2 78 rfl rfl) (QP (l := [3, 7, 10, 30, 31, 32, 37, 38, 39, 900000]) (lH := [3, 10, 26, 28, 100, 1000006]) (HQ rfl rfl rfl rfl rfl rfl rfl rfl rfl rfl) (Qa rfl (Qa rfl (Qa rfl (Qa rfl (Qa rfl (Qa rfl Qi)))))) rfl rfl rfl)
  ·exact QhR _
  intro k hK1
  have hlen2 : ((w[i]'Wa).cs.take k).length = k := by simp only [List.length_take]; omega
  have hns := fun (h : k < (w[i]'Wa).cs.length) => hw.ns _ (QhK (Wa : i < w.length)) _ (QhK h)
  have hnl := fun (h : k < (w[i]'Wa).cs.length) => hw.nl _ (QhK (Wa : i < w.length)) _ (QhK h)
  refine Qd fun K hK => ZI Z Z (kc hK (FA Z Z Z Z Z Z Z Z Z Z Z) ?_)
  refine Qz ?_ -- 4
  refine Qu Z (fun h2 => ?_) (fun h2 => ?_)
  ·rw [h2]
   simp only [qA] at h2
   refine Qq (QJ (HQ Z Z Z Z Z Z Z Z Z Z) ?_)
   refine Qz ?_ -- 5
   refine Qw (Qd fun K hK => QE Z Z Z Wa (QR Wa) Z (QD (cs := [_, _, _, _, _, _, _, _]) Z Z Z Z (Zu Z (Zf Z Z Z Z Z Z Z Z (kc hK (FA Z Z Z Z Z Z Z Z Z Z Z) ?_)))))
   refine Qd fun K hK => Zu Z (kc hK (NX Z Z Z Z Z Z Z Z Z Z Z Z) ?_)
   refine Qz ?_ -- 6
   refine Qd fun K hK => Qe Z Z (Qt Z Z Z (QY Z QM (Qb Z (kc hK (RR Z Z Z Z Z Z Z Z Z Z Z Z Z Z Z) ?_))))
   refine Qw ?_
   have hns1 := hns Wa
   refine Q5 (ι := Nat) (fun a => ⟨[(3, .ref 3 0 0), (7, .ref 28 0 0), (10, .osl 10 ((w[i]'Wa).cs.take k).length), (12, .ref 12 0 0), (13, .ref 13 0 0), (30, .sl (w.map ZK)), (31, .int .i64 w.length), (32, .int .i64 i), (37, Fk (w[i]'Wa).cs), (38, .int .i64 (w[i]'Wa).cs.length), (39, .int .i64 k), (44, Hy ((w[i]'Wa).cs[k]'Wa).ns), (45, .int .i64 ((w[i]'Wa).cs[k]'Wa).ns.length), (46, .int .i64 a), (900000, gD)], [(3, ⟨[[.sl (w.map ZK)]], 1, 24, true⟩), (10, ⟨((w[i]'Wa).cs.take k).map (Du w), 2, 78, true⟩), (12, ⟨[PU ((w[i]'Wa).cs[k]'Wa)], 8, 45, true⟩), (13, ⟨[[.osl 101 (((w[i]'Wa).cs[k]'Wa).ns.take a).length, .fsl []]], 2, 78, false⟩), (26, ⟨List.replicate w.length [.int .i64 0], 1, 3, true⟩), (28, ⟨[[.osl 100 (w.take i).length, .osl 26 w.length, .bool hb, .clr f 1000006 ps]], 4, 73, false⟩), (100, ⟨(w.take i).map (fun u => [Jy w u]), 1, 74, true⟩), (101, ⟨(((w[i]'Wa).cs[k]'Wa).ns.take a).map (fun r => [NZ w r]), 1, 76, true⟩), (1000006, ⟨[[.fsl []]], 1, et, true⟩)]⟩) (fun a => a <= ((w[i]'Wa).cs[k]'Wa).ns.length) (fun a => ((w[i]'Wa).cs[k]'Wa).ns.length - a) 0 ?_ ?_ ?_
   ·exact le_trans (Xl 13 0 101 1 76 rfl rfl rfl rfl) (QP (l := [3, 7, 10, 12, 13, 30, 31, 32, 37, 38, 39, 44, 45, 46, 900000]) (lH := [3, 10, 12, 13, 26, 28, 100, 101, 1000006]) (RR rfl rfl rfl rfl rfl rfl rfl rfl rfl rfl rfl rfl rfl rfl rfl) (Qa rfl (Qa rfl (Qa rfl (Qa rfl (Qa rfl (Qa rfl (Qa rfl (Qa rfl (Qa rfl Qi))))))))) rfl rfl rfl)
   ·exact QhR _
   intro a hA
   have hlen3 : (((w[i]'Wa).cs[k]'Wa).ns.take a).length = a := by simp only [List.length_take]; omega
   have hrl := fun (h : a < ((w[i]'Wa).cs[k]'Wa).ns.length) => hnl Wa _ (QhK h)
   refine Qd fun K hK => ZI Z Z (kc hK (Qa5 Z Z Z Z Z Z Z Z Z Z Z Z Z Z Z Z) ?_)
   refine Qz ?_ -- 7
   refine Qu Z (fun h3 => ?_) (fun h3 => ?_)
   ·rw [h3]
    simp only [qA] at h3
    refine Qq (QJ (RR Z Z Z Z Z Z Z Z Z Z Z Z Z Z Z) ?_)
    refine Qz ?_ -- 8
    refine Qw (Qd fun K hK => QE Z Z Z Wa (QR Wa) Z (Qt Z Z Z (Qb Z (kc hK (Qa5 Z Z Z Z Z Z Z Z Z Z Z Z Z Z Z Z) ?_))))
    refine Qd fun K hK => Qb Z (kc hK (QfM Z Z Z Z Z Z Z Z Z Z Z Z Z Z Z Z Z) ?_)
    refine Qz ?_ -- 9
    refine Qd fun K hK => Qb Z (QY Z QM (Qb Z (kc hK (Qdf Z Z Z Z Z Z Z Z Z Z Z Z Z Z Z Z Z Z Z) ?_)))
    refine Qw ?_
    have hrl1 := hrl Wa
    refine Q5 (ι := Nat) (fun b => ⟨[(3, .ref 3 0 0), (7, .ref 28 0 0), (10, .osl 10 ((w[i]'Wa).cs.take k).length), (12, .ref 12 0 0), (13, .ref 13 0 0), (16, .osl 16 ((((w[i]'Wa).cs[k]'Wa).ns[a]'Wa).take b).length), (30, .sl (w.map ZK)), (31, .int .i64 w.length), (32, .int .i64 i), (37, Fk (w[i]'Wa).cs), (38, .int .i64 (w[i]'Wa).cs.length), (39, .int .i64 k), (44, Hy ((w[i]'Wa).cs[k]'Wa).ns), (45, .int .i64 ((w[i]'Wa).cs[k]'Wa).ns.length), (46, .int .i64 a), (50, Xk (((w[i]'Wa).cs[k]'Wa).ns[a]'Wa)), (51, .int .i64 (((w[i]'Wa).cs[k]'Wa).ns[a]'Wa).length), (52, .int .i64 b), (900000, gD)], [(3, ⟨[[.sl (w.map ZK)]], 1, 24, true⟩), (10, ⟨((w[i]'Wa).cs.take k).map (Du w), 2, 78, true⟩), (12, ⟨[PU ((w[i]'Wa).cs[k]'Wa)], 8, 45, true⟩), (13, ⟨[[.osl 101 (((w[i]'Wa).cs[k]'Wa).ns.take a).length, .fsl []]], 2, 78, false⟩), (16, ⟨((((w[i]'Wa).cs[k]'Wa).ns[a]'Wa).take b).map (dWk w), 2, 81, true⟩), (26, ⟨List.replicate w.length [.int .i64 0], 1, 3, true⟩), (28, ⟨[[.osl 100 (w.take i).length, .osl 26 w.length, .bool hb, .clr f 1000006 ps]], 4, 73, false⟩), (100, ⟨(w.take i).map (fun u => [Jy w u]), 1, 74, true⟩), (101, ⟨(((w[i]'Wa).cs[k]'Wa).ns.take a).map (fun r => [NZ w r]), 1, 76, true⟩), (1000006, ⟨[[.fsl []]], 1, et, true⟩)]⟩) (fun b => b <= (((w[i]'Wa).cs[k]'Wa).ns[a]'Wa).length) (fun b => (((w[i]'Wa).cs[k]'Wa).ns[a]'Wa).length - b) 0 ?_ ?_ ?_
    ·exact le_trans (Yy 16 16 2 81 rfl rfl) (QP (l := [3, 7, 10, 12, 13, 16, 30, 31, 32, 37, 38, 39, 44, 45, 46, 50, 51, 52, 900000]) (lH := [3, 10, 12, 13, 16, 26, 28, 100, 101, 1000006]) (Qdf rfl rfl rfl rfl rfl rfl rfl rfl rfl rfl rfl rfl rfl rfl rfl rfl rfl rfl rfl) (Qa rfl (Qa rfl (Qa rfl (Qa rfl (Qa rfl (Qa rfl (Qa rfl (Qa rfl (Qa rfl (Qa rfl Qi)))))))))) rfl rfl rfl)
    ·exact QhR _
    intro b hB
    have hlen4 : ((((w[i]'Wa).cs[k]'Wa).ns[a]'Wa).take b).length = b := by simp only [List.length_take]; omega
    refine Qd fun K hK => ZI Z Z (kc hK (QfN Z Z Z Z Z Z Z Z Z Z Z Z Z Z Z Z Z Z Z Z) ?_)
    refine Qz ?_ -- 10
    refine Qu Z (fun h4 => ?_) (fun h4 => ?_)
    ·rw [h4]
     simp only [qA] at h4
     refine Qq (QJ (Qdf Z Z Z Z Z Z Z Z Z Z Z Z Z Z Z Z Z Z Z) ?_)
     refine Qz ?_ -- 11
     refine Qw (Qd fun K hK => QE Z Z Z Wa (QR Wa) Z (QD (cs := [_, _, _]) Z Z Z Z (Zu Z (Zf Z Z Z Z Z Z Z Z (kc hK (QfN Z Z Z Z Z Z Z Z Z Z Z Z Z Z Z Z Z Z Z Z) ?_)))))
     refine QN fun K hK => Qb Z (QD (cs := [_]) Z Z Z Z (QD (cs := [_, _, _]) Z Z Z Z (QK (Mc hw (hr.nr _ (QhK (Wa : i < w.length)) _ (QhK (Wa : k < (w[i]'Wa).cs.length)) _ (QhK (Wa : a < ((w[i]'Wa).cs[k]'Wa).ns.length)) _ (QhK (Wa : b < (((w[i]'Wa).cs[k]'Wa).ns[a]'Wa).length))) (hw.nw _ (QhK (Wa : i < w.length)) _ (QhK (Wa : k < (w[i]'Wa).cs.length)) _ (QhK (Wa : a < ((w[i]'Wa).cs[k]'Wa).ns.length)) _ (QhK (Wa : b < (((w[i]'Wa).cs[k]'Wa).ns[a]'Wa).length)))) Z Z (.inl Z) (Q2 Z Z (Jc Z Z (fun _ h => Ka Z Z Z h) Z Wc Z Z Z We We (Qb Z (hK _ ?_)))))))
     refine Ql (QJ (Qdf Z Z Z Z Z Z Z Z Z Z Z Z Z Z Z Z Z Z Z) (QN fun K hK => Q0 Z Z Wb (Qb Z (hK _ ?_))))
     refine Qk (b + 1) ?_ ?_ ?_
     ·exact QP (l := [3, 7, 10, 12, 13, 16, 30, 31, 32, 37, 38, 39, 44, 45, 46, 50, 51, 52, 900000]) (lH := [3, 10, 12, 13, 16, 26, 28, 100, 101, 1000006]) (Qdf rfl rfl rfl rfl rfl rfl rfl rfl rfl rfl rfl rfl rfl rfl rfl rfl rfl rfl rfl) (Qa rfl (Qa rfl (Qa rfl (Qa rfl (Qa rfl (Qa rfl (Qa rfl (Qa rfl (Qa rfl (Qa rfl Qi)))))))))) (by rw [XL (Wa : b < (((w[i]'Wa).cs[k]'Wa).ns[a]'Wa).length)] <;> rfl) (by rw [YX (Wa : b < (((w[i]'Wa).cs[k]'Wa).ns[a]'Wa).length)] <;> rfl) rfl
     ·omega
     ·omega
    ·rw [h4]
     simp only [qA] at h4
     refine QU (QB (Qv (QA (QJ (Qa5 Z Z Z Z Z Z Z Z Z Z Z Z Z Z Z Z) (S2 (Nx (l := [3, 7, 10, 12, 13, 30, 31, 32, 37, 38, 39, 44, 45, 46, 900000]) (lH := [3, 26, 28, 100, 1000006, 10, 12, 13, 101]) 16 16 (RR Z Z Z Z Z Z Z Z Z Z Z Z Z Z Z) (Qa Z (Qa Z (Qa Z (Qa Z (Qa Z (Qa Z (Qa Z (Qa Z (Qa Z Qi))))))))) Z Z Z (by (simp; done)) Z Z Z Z) (QN fun K hK => Qe Z Z (Qt Z Z Z (Qb Z (Q2 Z Z (Jc Z Z (fun _ h => Ka Z Z Z h) Z Wc Z Z Z We We ?_))))))))))
     refine Qe Z Z (Zf Z Z Z Z Z Z Z Z (hK _ ?_))
     refine Ql (QJ (RR Z Z Z Z Z Z Z Z Z Z Z Z Z Z Z) (QN fun K hK => Q0 Z Z Wb (Qb Z (hK _ ?_))))
     refine Qk (a + 1) ?_ ?_ ?_
     ·exact QP (l := [3, 7, 10, 12, 13, 30, 31, 32, 37, 38, 39, 44, 45, 46, 900000]) (lH := [3, 10, 12, 13, 26, 28, 100, 101, 1000006]) (RR rfl rfl rfl rfl rfl rfl rfl rfl rfl rfl rfl rfl rfl rfl rfl) (Qa rfl (Qa rfl (Qa rfl (Qa rfl (Qa rfl (Qa rfl (Qa rfl (Qa rfl (Qa rfl Qi))))))))) rfl (by rw [XL (Wa : a < ((w[i]'Wa).cs[k]'Wa).ns.length), YX (Wa : a < ((w[i]'Wa).cs[k]'Wa).ns.length), QhV (Wa : (((w[i]'Wa).cs[k]'Wa).ns[a]'Wa).length <= b)] <;> rfl) rfl
     ·omega
     ·omega
   ·rw [h3]
    simp only [qA] at h3
    refine QU (QB (Qv (QA (QJ (NX Z Z Z Z Z Z Z Z Z Z Z Z) ?_))))
    refine Qz ?_ -- 12
    refine Qd fun K hK => Qe Z Z (Qt Z Z Z (QY Z QM (Qb Z (kc hK (Qcg Z Z Z Z Z Z Z Z Z Z Z Z Z Z) ?_))))
    refine Qw ?_
    refine Q5 (ι := Nat) (fun m => ⟨[(3, .ref 3 0 0), (7, .ref 28 0 0), (10, .osl 10 ((w[i]'Wa).cs.take k).length), (13, .ref 13 0 0), (30, .sl (w.map ZK)), (31, .int .i64 w.length), (32, .int .i64 i), (37, Fk (w[i]'Wa).cs), (38, .int .i64 (w[i]'Wa).cs.length), (39, .int .i64 k), (71, Xk ((w[i]'Wa).cs[k]'Wa).bs), (72, .int .i64 ((w[i]'Wa).cs[k]'Wa).bs.length), (73, .int .i64 m), (900000, gD)], [(3, ⟨[[.sl (w.map ZK)]], 1, 24, true⟩), (10, ⟨((w[i]'Wa).cs.take k).map (Du w), 2, 78, true⟩), (13, ⟨[[.osl 101 (((w[i]'Wa).cs[k]'Wa).ns.take a).length, .osl 102 (((w[i]'Wa).cs[k]'Wa).bs.take m).length]], 2, 78, false⟩), (26, ⟨List.replicate w.length [.int .i64 0], 1, 3, true⟩), (28, ⟨[[.osl 100 (w.take i).length, .osl 26 w.length, .bool hb, .clr f 1000006 ps]], 4, 73, false⟩), (100, ⟨(w.take i).map (fun u => [Jy w u]), 1, 74, true⟩), (101, ⟨(((w[i]'Wa).cs[k]'Wa).ns.take a).map (fun r => [NZ w r]), 1, 76, true⟩), (102, ⟨(((w[i]'Wa).cs[k]'Wa).bs.take m).map (dWk w), 2, 81, true⟩), (1000006, ⟨[[.fsl []]], 1, et, true⟩)]⟩) (fun m => m <= ((w[i]'Wa).cs[k]'Wa).bs.length) (fun m => ((w[i]'Wa).cs[k]'Wa).bs.length - m) 0 ?_ ?_ ?_
    ·exact le_trans (Xl 13 1 102 2 81 rfl rfl rfl rfl) (QP (l := [3, 7, 10, 13, 30, 31, 32, 37, 38, 39, 71, 72, 73, 900000]) (lH := [3, 10, 13, 26, 28, 100, 101, 102, 1000006]) (Qcg rfl rfl rfl rfl rfl rfl rfl rfl rfl rfl rfl rfl rfl rfl) (Qa rfl (Qa rfl (Qa rfl (Qa rfl (Qa rfl (Qa rfl (Qa rfl (Qa rfl (Qa rfl Qi))))))))) rfl rfl rfl)
    ·exact QhR _
    intro m hM
    have hlen5 : (((w[i]'Wa).cs[k]'Wa).bs.take m).length = m := by simp only [List.length_take]; omega
    refine Qd fun K hK => ZI Z Z (kc hK (RR Z Z Z Z Z Z Z Z Z Z Z Z Z Z Z) ?_)
    refine Qz ?_ -- 13
    refine Qu Z (fun h5 => ?_) (fun h5 => ?_)
    ·rw [h5]
     simp only [qA] at h5
     refine Qq (QJ (Qcg Z Z Z Z Z Z Z Z Z Z Z Z Z Z) ?_)
     refine Qz ?_ -- 14
     refine Qw (Qd fun K hK => QE Z Z Z Wa (QR Wa) Z (QD (cs := [_, _, _]) Z Z Z Z (Zu Z (Zf Z Z Z Z Z Z Z Z (kc hK (RR Z Z Z Z Z Z Z Z Z Z Z Z Z Z Z) ?_)))))
     refine QN fun K hK => Qe Z Z (QH (ds0 := [2, 0, 0]) Z Z Z Z Z (Q7 (ds0 := [4, 3, 2, 0, 0]) (cs := [_]) Z Z Z Z Z Z (Q7 (ds0 := [4, 3, 2, 0, 0]) (cs := [_, _, _]) Z Z Z Z Z Z (Zk (ds0 := [3, 2, 0]) (Mc hw (hr.bw _ (QhK (Wa : i < w.length)) _ (QhK (Wa : k < (w[i]'Wa).cs.length)) _ (QhK (Wa : m < ((w[i]'Wa).cs[k]'Wa).bs.length))) (hw.bw _ (QhK (Wa : i < w.length)) _ (QhK (Wa : k < (w[i]'Wa).cs.length)) _ (QhK (Wa : m < ((w[i]'Wa).cs[k]'Wa).bs.length)))) Z Z (.inl Z) Z Z (Q2 Z Z (JY (ds0 := [0]) Z Z Wi ⟨_, rfl, rfl, rfl, rfl, rfl⟩ Z Z Wc Z Z We We Z Z (Qe Z Z (Jd (ds0 := []) Z Z Z Z Z Z Z Z Z Z (hK _ ?_)))))))))
     refine Ql (QJ (Qcg Z Z Z Z Z Z Z Z Z Z Z Z Z Z) (QN fun K hK => Q0 Z Z Wb (Qb Z (hK _ ?_))))
     refine Qk (m + 1) ?_ ?_ ?_
     ·exact le_trans (Gs (l := [3, 7, 30, 31, 32, 37, 38, 39, 900000, 10, 13, 71, 72, 73]) (lH := [3, 26, 28, 100, 1000006, 10, 101]) 83 102 13 (Qcg rfl rfl rfl rfl rfl rfl rfl rfl rfl rfl rfl rfl rfl rfl) (Qa rfl (Qa rfl (Qa rfl (Qa rfl (Qa rfl (Qa rfl (Qa rfl Qi))))))) rfl rfl rfl rfl rfl rfl rfl rfl) (QP (l := [3, 7, 10, 13, 30, 31, 32, 37, 38, 39, 71, 72, 73, 900000]) (lH := [3, 10, 13, 26, 28, 100, 101, 102, 1000006]) (Qcg rfl rfl rfl rfl rfl rfl rfl rfl rfl rfl rfl rfl rfl rfl) (Qa rfl (Qa rfl (Qa rfl (Qa rfl (Qa rfl (Qa rfl (Qa rfl (Qa rfl (Qa rfl Qi))))))))) rfl (by rw [XL (Wa : m < ((w[i]'Wa).cs[k]'Wa).bs.length), YX (Wa : m < ((w[i]'Wa).cs[k]'Wa).bs.length)] <;> rfl) rfl)
     ·omega
     ·omega
    ·rw [h5]
     simp only [qA] at h5
     refine QU (QB (Qv (QA (QJ (FA Z Z Z Z Z Z Z Z Z Z Z) (S2 (le_trans (Sq (l := [3, 7, 30, 31, 32, 37, 38, 39, 900000, 10, 13]) (lH := [3, 26, 28, 100, 1000006, 10, 102]) 101 13 0 (FA Z Z Z Z Z Z Z Z Z Z Z) (Qa Z (Qa Z (Qa Z (Qa Z (Qa Z (Qa Z (Qa Z Qi))))))) Z Z Wc Z Z Z Z Z Z Z Z) (Sq (l := [3, 7, 30, 31, 32, 37, 38, 39, 900000, 10, 13]) (lH := [3, 26, 28, 100, 1000006, 10]) 102 13 1 (FA Z Z Z Z Z Z Z Z Z Z Z) (Qa Z (Qa Z (Qa Z (Qa Z (Qa Z (Qa Z Qi)))))) Z Z Wc Z Z Z Z Z Z Z Z)) (QN fun K hK => Qb Z (QD (cs := [_, _]) Z Z Z Z (Q2 Z Z (Jc Z Z (fun _ h => Ka Z Z Z h) Z Wc Z Z Z We We (Qb Z ?_))))))))))
     refine hK _ ?_
     refine Ql (QJ (HQ Z Z Z Z Z Z Z Z Z Z) (QN fun K hK => Q0 Z Z Wb (Qb Z (hK _ ?_))))
     refine Qk (k + 1) ?_ ?_ ?_
     ·exact QP (l := [3, 7, 10, 30, 31, 32, 37, 38, 39, 900000]) (lH := [3, 10, 26, 28, 100, 1000006]) (HQ rfl rfl rfl rfl rfl rfl rfl rfl rfl rfl) (Qa rfl (Qa rfl (Qa rfl (Qa rfl (Qa rfl (Qa rfl Qi)))))) (by rw [XL (Wa : k < (w[i]'Wa).cs.length)] <;> rfl) (by rw [YX (Wa : k < (w[i]'Wa).cs.length), QhV (Wa : ((w[i]'Wa).cs[k]'Wa).ns.length <= a), QhV (Wa : ((w[i]'Wa).cs[k]'Wa).bs.length <= m)] <;> rfl) rfl
     ·omega
     ·omega
  ·rw [h2]
   simp only [qA] at h2
   refine QU (QB (Qv (QA (ks7 Z Z Z Z Z Z Z (S2 (Nx (l := [3, 7, 30, 31, 32, 900000]) (lH := [3, 26, 28, 100, 1000006]) 10 10 (kp6 Z Z Z Z Z Z) (Qa Z (Qa Z (Qa Z (Qa Z (Qa Z Qi))))) Z Z Z (by (simp; done)) Z Z Z Z) (QN fun K hK => mv2 Z Z (Ze Z Z (Qe Z Z (Qt Z Z Z ?_)))))))))
   refine Qb Z (Q2 Z Z (Jc Z Z (fun _ h => Ka Z Z Z h) Z Wc Z Z Z We We (Ze Z Z (Qe Z Z (Zf Z Z Z Z Z Z Z Z (hK _ ?_))))))
   refine Ql (ks6 Z Z Z Z Z Z (QN fun K hK => Q0 Z Z Wb (Qb Z (hK _ ?_))))
   refine Qk (i + 1) ?_ ?_ ?_
   ·exact QP (l := [3, 7, 30, 31, 32, 900000]) (lH := [3, 26, 28, 100, 1000006]) (kp6 rfl rfl rfl rfl rfl rfl) (Qa rfl (Qa rfl (Qa rfl (Qa rfl (Qa rfl Qi))))) rfl (by rw [XL (Wa : i < w.length), YX (Wa : i < w.length), QhV (Wa : (w[i]'Wa).cs.length <= k)] <;> rfl) rfl
   ·omega
   ·omega
 ·rw [h1]
  simp only [qA] at h1
  refine QU (QB (Qv (QA (ks1 Z (S2 (le_trans (Sq (l := [7]) (lH := [26, 1000006]) 100 28 0 (kp1 Z) (Qa Z (Qa Z Qi)) Z Z Wc Z Z Z Z Z Z Z Z) (le_trans (MZ 28 500000 Wf Wf _) (le_trans (MZ 26 500003 Wf Wf _) (QP (fr' := [(7, .ref 500000 0 0)]) (H' := [(500000, ⟨[[Zx w, .osl 500003 w.length, .bool hb, .clr f 1000006 ps]], 4, 73, false⟩), (500003, ⟨(List.replicate w.length 0).map rI, 1, 3, true⟩), (1000006, ⟨[[.fsl []]], 1, et, true⟩)]) (l := [7]) (lH := [500000, 500003, 1000006]) (kp1 Z) (Qa Z (Qa Z (Qa Z Qi))) Z (by rw [QhV (Wa : w.length <= i)]; simp only [Box.ren, List.map_cons, List.map_nil, List.set_cons_zero, D.renS, List.map_replicate]; rfl) Z Z)))) (Qd fun K hK => mv2 Z Z (kc1 hK Z ?_)))))))
  refine Qs ?_
  exact Ys rfl rfl fun k b h => h
open Go Go.Abs M3 M25
theorem Pr {σ : Type} {w : Qm} {hb : Bool} {p : MC σ} {B1 B2 : σ -> Box} {f : Nat} {ps : List D} (hp : PutOk w hb p B1 B2 f ps) (hw : WSm w) (hr : WIn w) (h0 : 0 < w.length) : ∀ (k unit : Nat) (cur : List Int) (s : σ), unit + k = w.length -> cur.length = w.length -> PreW w (cur.take unit) -> p.ok s (listW w hb ((ZS w).drop unit) (cur.take unit)).length -> QbI w hb p B1 B2 f ps unit cur s
 | 0, unit, cur, s, hu, hcl, hq, hok => by
  have : unit = w.length := Wa
  subst this
  exact C8 hp hw hr h0 hcl hq hok
 | k + 1, unit, cur, s, hu, hcl, hq, hok =>
  XE hp hw hr Wa hcl rfl hq hok fun cur s h1 h2 h3 => Pr hp hw hr h0 k (unit + 1) cur s Wa h1 h2 h3
/-! ### What All puts -/
def pA (most : Int) : MC (List (List Int)) where
 st s c := if most <= s.length then (s, false) else (s ++ [c], true)
 ok s k := s.length + k <= 1048576
 step {s c k} h := by
  show (if most <= s.length then (s, false) else (s ++ [c], true)).1.length + k <= 1048576
  have h' : s.length + (k + 1) <= 1048576 := h
  split
  ·show s.length + k <= _; omega
  ·show (s ++ [c]).length + k <= _; rw [List.length_append]; simp only [List.length_cons, List.length_nil]; omega
 mono {s j k} h hj := by
  have h' : s.length + k <= 1048576 := h
  show s.length + j <= 1048576
  omega
theorem QcH {w : Qm} {most : Int} : PutOk w false (pA most) (fun s => bA1 s) (fun s => bA2 s) 19 [.ptr [.int .i64 most]] where
 p1 _ := rfl
 s1 s r hr d hd := by
  obtain ⟨c, _, rfl⟩ := QhT.1 hr
  simp [rL] at hd; subst hd; rfl
 s2 s r hr d hd j hj := by
  simp at hr; subst hr; simp at hd; subst hd; simpa [D.sid] using hj
 cap := rfl
 ren _ := rfl
 ids d hd := by simp at hd; subst hd; rfl
 ok s cur c h := by
  by_cases hm : most <= s.length
  ·have e : (pA most).st s c = (s, false) := if_pos hm
   rw [e]
   exact Dd hm
  ·have e : (pA most).st s c = (s ++ [c], true) := if_neg hm
   rw [e]
   refine Lc hm ?_
   have h1 : s.length + 1 <= 1048576 := h
   omega
def pF : MC (Option (List Int)) where
 st _ c := (some c, false)
 ok _ _ := True
 step _ := trivial
 mono _ _ := trivial
theorem QcI {w : Qm} : PutOk w true pF (fun _ => bF1) (fun s => bF2 s) 25 [] where
 p1 _ := rfl
 s1 s r hr d hd := by cases hr
 s2 s r hr d hd j hj := by
  simp at hr; subst hr; simp at hd; subst hd
  cases s <;> simp [D.sid, Zp] at hj
 cap := rfl
 ren _ := rfl
 ids d hd := by cases hd
 ok s cur c h := QdN
theorem QfP (w : Qm) : PreW w ((List.replicate w.length (0 : Int)).take 0) := PreW.nil w
def PV (l : List (List Int)) : D := .sl (l.map rL)
noncomputable def allW (w : Qm) : List (List Int) := listW w false (ZS w) []
theorem ME {fr : QhE} {H : QhD} {k n : Nat} {b : Box} {rows : List (List D)} (h : lk H k = some b) (hp : b.pr = true) (hn : n = b.rows.length) (e : b.rows = rows) : JM ⟨fr, H⟩ (.osl k n) = .sl rows := by
 simp [JM, D.fz, D.fzS, FE, h, hp, hn, e, D.can, D.canS]
theorem Da {w : Qm} (hwr : Fx w) (hm : MayW w) {most : Int} (hL : (allW w).length <= 1048576) : Ok Tryd.prog 9 [Zj w, .int .i64 most, gD] (.tup [PV (Yg (pA most) [] (allW w)).1, .bool (Yg (pA most) [] (allW w)).2]) := by
 have hv := hm.val hwr
 have hw := hv.wsm
 have hr := hv.win
 have h0 : 0 < w.length := hv.len.1
 obtain ⟨d, H', ⟨c', hc', _, rfl, rfl⟩, hok⟩ := Pr (QcH (w := w) (most := most)) hw hr h0 w.length 0 (List.replicate w.length 0) [] Wa Wc (QfP w) (by rw [List.drop_zero]; show _ + _ <= _; simpa [allW] using hL)
 rw [List.drop_zero, List.take_zero] at hok
 change OkH Tryd.prog 20 _ _ (.bool (Yg (pA most) [] (allW w)).2) (HW 1000006 1500003 1500000 w c' false 19 [.ptr [.int .i64 most]] (bA1 (Yg (pA most) [] (allW w)).1) (bA2 (Yg (pA most) [] (allW w)).1)) at hok
 refine Ok.ofTG (ds := [Zj w, .int .i64 most]) (dg := gD) ZL Tryd.func9 tp9 (QhG rfl) ?_
 show TW _ _ tf9.body _ _
 refine Qd fun K hK => ?_
 refine Zs rfl rfl rfl ?_
 refine Zs rfl rfl rfl ?_
 refine Qb rfl ?_
 refine Qb rfl ?_
 refine hK _ _ (Zo (Qn rfl (Qn rfl (Qn rfl QL))) ?_)
 clear hK K
 refine Qz ?_
 refine Qd fun K hK => ?_
 refine QD (cs := [_]) rfl rfl rfl rfl ?_
 refine QK (M4 hm ▸ XQ hwr) rfl rfl (.inr rfl) ?_
 refine Zm rfl ?_
 refine hK _ _ (Zo (Qn rfl (Qn rfl (Qn rfl (Qn rfl QL)))) ?_)
 clear hK K
 refine Zg rfl ?_
 refine Qq ?_
 refine QJ (Qn rfl (Qn rfl (Qn rfl QL))) ?_
 refine Qd fun K hK => ?_
 refine Zu rfl ?_
 refine hK _ _ (Zo (Qn rfl (Qn rfl (Qn rfl (Qn rfl QL)))) ?_)
 clear hK K
 refine S2 (le_trans (Rg 3 _ Wf) (QP (fr' := [(2, .ref 2 0 0), (3, .ptr [.int .i64 most]), (6, .ref 6 0 0), (900000, gD)]) (H' := [(2, ⟨[[.sl (w.map ZK)]], 1, 24, true⟩), (6, ⟨[[.fsl []]], 1, 29, true⟩)]) (l := [2, 3, 6, 900000]) (lH := [2, 6]) (Qn rfl (Qn rfl (Qn rfl (Qn rfl QL)))) (Qa rfl (Qa rfl Qi)) rfl rfl rfl rfl)) ?_
 (refine RZ fun K hK => GI (l := [_, _]) ?_)
 refine QD (cs := [_]) rfl rfl rfl rfl ?_
 refine LS rfl rfl rfl rfl ?_
 refine RY ?_
 (refine G8 (QP (fr' := [(6, .ref 6 0 0), (11, Zj w), (12, .clr 19 6 [.ptr [.int .i64 most]]), (900000, gD)]) (H' := [(6, ⟨[[.fsl []]], 1, 29, true⟩)]) (l := [6, 11, 12, 900000]) (lH := [6]) (Qn rfl (Qn rfl (Qn rfl (Qn rfl QL)))) (Qa rfl Qi) rfl rfl rfl rfl) ?_)
 (refine Qcz (Cn (G := [500000, 500003]) (Hr := [(500000, ⟨[[Zx w, .osl 500003 w.length, .bool false, .clr 19 6 [.ptr [.int .i64 most]]]], 4, 73, false⟩), (500003, ⟨(List.replicate w.length 0).map rI, 1, 3, true⟩), (6, ⟨[[.fsl []]], 1, 29, true⟩)]) rfl rfl rfl rfl rfl rfl rfl rfl rfl ?_ (JN hw hr (hb := false) (f := 19) (et := 29) (ps := [.ptr [.int .i64 most]])) ?_))
 ·simp only [Kd, List.map_cons, List.map_nil, Box.ren, YG]; rfl
 (refine GI (l := []) ?_)
 refine RY ?_
 (refine G8 (le_trans (Xl 6 0 500001 1 32 rfl rfl rfl rfl) (QP (fr' := [(6, .ref 6 0 0), (13, .ref 500000 0 0)]) (H' := [(500001, bA1 []), (6, bA2 []), (500003, ⟨(List.replicate w.length 0).map rI, 1, 3, true⟩), (500000, ⟨[[Zx w, .osl 500003 w.length, .bool false, .clr 19 6 [.ptr [.int .i64 most]]]], 4, 73, false⟩)]) (l := [6, 13]) (lH := [500001, 6, 500003, 500000]) (Qn rfl (Qn rfl QL)) (Qa rfl (Qa rfl (Qa rfl (Qa rfl Qi)))) rfl rfl rfl rfl)) ?_)
 (refine NK (G := [500001]) (Hr := [(500001, bA1 (Yg (pA most) [] (allW w)).1), (6, bA2 (Yg (pA most) [] (allW w)).1), (500003, ⟨c'.map rI, 1, 3, true⟩), (500000, ⟨[[Zx w, .osl 500003 c'.length, .bool false, .clr 19 6 [.ptr [.int .i64 most]]]], 4, 73, false⟩)]) rfl rfl rfl rfl rfl rfl rfl hok ?_ ?_ ?_)
 ·simp only [Kd, List.map_cons, List.map_nil, Box.ren, YG, HW, List.length_replicate]; rfl
 ·simp only [Kd, List.map_cons, List.map_nil, Box.ren, YG, HW]
  have e : ∀ l : List (List Int), (l.map rL).map (fun r => r.map (D.renS (Xd [500001]))) = l.map rL := fun l => by simp [rL, Zp, D.renS, Function.comp]
  rw [e]; rfl
 refine TQ ?_
 refine Qb rfl ?_
 refine hK _ _ (Zo (Qn rfl (Qn rfl QL)) ?_)
 clear hK K
 refine Qd fun K hK => ?_
 refine Qt rfl rfl rfl ?_
 refine Qb rfl ?_
 refine Qb rfl ?_
 refine Qb rfl ?_
 refine hK _ _ (Zo (Qn rfl (Qn rfl QL)) ?_)
 clear hK K
 refine Qs ?_
 exact Zt rfl rfl ⟨ME rfl rfl Wc rfl, rfl⟩
theorem Qb0 {w : Qm} (hwr : Fx w) (hm : ¬ MayW w) {most : Int} : Ok Tryd.prog 9 [Zj w, .int .i64 most, gD] (.tup [PV [], .bool true]) := by
 refine Ok.ofTG (ds := [Zj w, .int .i64 most]) (dg := gD) ZL Tryd.func9 tp9 (QhG rfl) ?_
 show TW _ _ tf9.body _ _
 refine Qd fun K hK => ?_
 refine Zs rfl rfl rfl ?_
 refine Zs rfl rfl rfl ?_
 refine Qb rfl ?_
 refine Qb rfl ?_
 refine hK _ _ (Zo (Qn rfl (Qn rfl (Qn rfl QL))) ?_)
 clear hK K
 refine Qz ?_
 refine Qd fun K hK => ?_
 refine QD (cs := [_]) rfl rfl rfl rfl ?_
 refine QK (X3 hm ▸ XQ hwr) rfl rfl (.inr rfl) ?_
 refine Zm rfl ?_
 refine hK _ _ (Zo (Qn rfl (Qn rfl (Qn rfl (Qn rfl QL)))) ?_)
 clear hK K
 refine QV rfl ?_
 refine Qd fun K hK => ?_
 refine Qb rfl ?_
 refine Qb rfl ?_
 refine hK _ _ (Zo (Qn rfl (Qn rfl QL)) ?_)
 clear hK K
 refine Qs ?_
 refine Qf ?_
 exact Zt rfl rfl ⟨rfl, rfl⟩
open Go Go.Abs M3 M25
/-! ### First -/
def MM (l : List (List Int)) : D := .tup [Zp (l.getLast?.getD []), .bool l.getLast?.isSome]
theorem Qgb (l : List (List Int)) : Yg pF none l = (l.head?, l.isEmpty) := by
 cases l with
 | nil => rfl
 | cons c l => rfl
theorem Qbu {ρ : Nat -> Nat} {x : Option (List Int)} : (xF x).renS ρ = xF x := by cases x <;> simp [D.renS, Zp]
theorem PK {w : Qm} (hwr : Fx w) (hm : MayW w) : Ok Tryd.prog 11 [Zj w, gD] (MM (allW w)) := by
 have hv := hm.val hwr
 have hw := hv.wsm
 have hr := hv.win
 have h0 : 0 < w.length := hv.len.1
 obtain ⟨d, H', ⟨c', hc', _, rfl, rfl⟩, hok⟩ := Pr (QcI (w := w)) hw hr h0 w.length 0 (List.replicate w.length 0) none Wa Wc (QfP w) trivial
 rw [List.drop_zero, List.take_zero] at hok
 have e0 : listW w true (ZS w) [] = (allW w).reverse := Mo w _ _
 rw [e0, Qgb, List.head?_reverse, List.isEmpty_reverse] at hok
 have eL : MM (allW w) = .tup [Zp ((allW w).getLast?.getD []), .bool (!(allW w).isEmpty)] := by
  unfold MM; congr 4; cases allW w <;> simp
 rw [eL]
 generalize (allW w).getLast? = x at hok ⊢
 generalize (allW w).isEmpty = y at hok ⊢
 have hok2 : OkH Tryd.prog 20 [.ref 1500000 0 0, .int .i64 0] (HW 1000004 1500003 1500000 w (List.replicate w.length 0) true 25 [] bF1 (bF2 none)) (.bool y) (HW 1000004 1500003 1500000 w c' true 25 [] bF1 (bF2 x)) := by
  refine OkH.rnm' (rnS (a := 1000006) (b := 1000004) Wf Wf) hok rfl ?_ rfl ?_
  ·simp only [N5, List.map_cons, List.map_nil, Box.ren, YG, HW]; rfl
  ·simp only [N5, List.map_cons, List.map_nil, Box.ren, YG, HW, Qbu]; rfl
 have hnw := OkH.rnm' (rnS (a := 1000006) (b := 1000004) Wf Wf) (JN hw hr (hb := true) (f := 25) (et := 32) (ps := [])) (ds2 := [Zj w, .bool true, .clr 25 1000004 [], gD]) (H2 := [(1000004, ⟨[[.fsl []]], 1, 32, true⟩)]) (d2 := .ref 500000 0 0) (H2' := [(500000, ⟨[[Zx w, .osl 500003 w.length, .bool true, .clr 25 1000004 []]], 4, 73, false⟩), (500003, ⟨(List.replicate w.length 0).map rI, 1, 3, true⟩), (1000004, ⟨[[.fsl []]], 1, 32, true⟩)]) rfl rfl rfl Wn
 refine Ok.ofTG (ds := [Zj w]) (dg := gD) ZL Tryd.func11 QfT (QhG rfl) ?_
 show TW _ _ tf11.body _ _
 refine Qd fun K hK => ?_
 refine Zs rfl rfl rfl ?_
 refine Qb rfl ?_
 refine Qb rfl ?_
 refine hK _ _ (Zo (Qn rfl (Qn rfl QL)) ?_)
 clear hK K
 refine Qz ?_
 refine Qd fun K hK => ?_
 refine QD (cs := [_]) rfl rfl rfl rfl ?_
 refine QK (M4 hm ▸ XQ hwr) rfl rfl (.inr rfl) ?_
 refine Zm rfl ?_
 refine hK _ _ (Zo (Qn rfl (Qn rfl (Qn rfl QL))) ?_)
 clear hK K
 refine Zg rfl ?_
 refine Qq ?_
 refine QJ (Qn rfl (Qn rfl QL)) ?_
 refine Qd fun K hK => ?_
 refine Zu rfl ?_
 refine hK _ _ (Zo (Qn rfl (Qn rfl (Qn rfl QL))) ?_)
 clear hK K
 refine S2 (QP (fr' := [(1, .ref 1 0 0), (4, .ref 4 0 0), (900000, gD)]) (H' := [(1, ⟨[[.sl (w.map ZK)]], 1, 24, true⟩), (4, ⟨[[.fsl []]], 1, 32, true⟩)]) (l := [1, 4, 900000]) (lH := [1, 4]) (Qn rfl (Qn rfl (Qn rfl QL))) (Qa rfl (Qa rfl Qi)) rfl rfl rfl rfl) ?_
 (refine RZ fun K hK => GI (l := [_, _]) ?_)
 refine QD (cs := [_]) rfl rfl rfl rfl ?_
 refine LS rfl rfl rfl rfl ?_
 refine RY ?_
 (refine G8 (QP (fr' := [(4, .ref 4 0 0), (9, Zj w), (10, .clr 25 4 []), (900000, gD)]) (H' := [(4, ⟨[[.fsl []]], 1, 32, true⟩)]) (l := [4, 9, 10, 900000]) (lH := [4]) (Qn rfl (Qn rfl (Qn rfl (Qn rfl QL)))) (Qa rfl Qi) rfl rfl rfl rfl) ?_)
 (refine Qcz (Cn (G := [500000, 500003]) (Hr := [(500000, ⟨[[Zx w, .osl 500003 w.length, .bool true, .clr 25 4 []]], 4, 73, false⟩), (500003, ⟨(List.replicate w.length 0).map rI, 1, 3, true⟩), (4, ⟨[[.fsl []]], 1, 32, true⟩)]) rfl rfl rfl rfl rfl rfl rfl rfl rfl ?_ hnw ?_))
 ·simp only [Kd, List.map_cons, List.map_nil, Box.ren, YG]; rfl
 (refine GI (l := []) ?_)
 refine RY ?_
 (refine G8 (le_trans (Qch 500001 1 32 rfl) (QP (fr' := [(4, .ref 4 0 0), (11, .ref 500000 0 0)]) (H' := [(500001, bF1), (4, bF2 none), (500003, ⟨(List.replicate w.length 0).map rI, 1, 3, true⟩), (500000, ⟨[[Zx w, .osl 500003 w.length, .bool true, .clr 25 4 []]], 4, 73, false⟩)]) (l := [4, 11]) (lH := [500001, 4, 500003, 500000]) (Qn rfl (Qn rfl QL)) (Qa rfl (Qa rfl (Qa rfl (Qa rfl Qi)))) rfl rfl rfl rfl)) ?_)
 (refine NK (G := [500001]) (Hr := [(500001, bF1), (4, bF2 x), (500003, ⟨c'.map rI, 1, 3, true⟩), (500000, ⟨[[Zx w, .osl 500003 c'.length, .bool true, .clr 25 4 []]], 4, 73, false⟩)]) rfl rfl rfl rfl rfl rfl rfl hok2 ?_ ?_ ?_)
 ·simp only [Kd, List.map_cons, List.map_nil, Box.ren, YG, HW, List.length_replicate]; rfl
 ·simp only [Kd, List.map_cons, List.map_nil, Box.ren, YG, HW, Qbu]; rfl
 refine TQ ?_
 refine Qb rfl ?_
 refine hK _ _ (Zo (Qn rfl (Qn rfl QL)) ?_)
 clear hK K
 refine Qd fun K hK => ?_
 refine Qt rfl rfl rfl ?_
 refine Qb rfl ?_
 refine Zm rfl ?_
 refine Qb rfl ?_
 refine Qb rfl ?_
 refine hK _ _ (Zo (Qn rfl (Qn rfl QL)) ?_)
 clear hK K
 refine Qs ?_
 cases x with
 | none => exact Zt rfl rfl ⟨rfl, rfl⟩
 | some c => exact Zt rfl rfl ⟨rfl, rfl⟩
theorem Db {w : Qm} (hwr : Fx w) (hm : ¬ MayW w) : Ok Tryd.prog 11 [Zj w, gD] (MM []) := by
 refine Ok.ofTG (ds := [Zj w]) (dg := gD) ZL Tryd.func11 QfT (QhG rfl) ?_
 show TW _ _ tf11.body _ _
 refine Qd fun K hK => ?_
 refine Zs rfl rfl rfl ?_
 refine Qb rfl ?_
 refine Qb rfl ?_
 refine hK _ _ (Zo (Qn rfl (Qn rfl QL)) ?_)
 clear hK K
 refine Qz ?_
 refine Qd fun K hK => ?_
 refine QD (cs := [_]) rfl rfl rfl rfl ?_
 refine QK (X3 hm ▸ XQ hwr) rfl rfl (.inr rfl) ?_
 refine Zm rfl ?_
 refine hK _ _ (Zo (Qn rfl (Qn rfl (Qn rfl QL))) ?_)
 clear hK K
 refine QV rfl ?_
 refine Qd fun K hK => ?_
 refine Qb rfl ?_
 refine Qb rfl ?_
 refine hK _ _ (Zo (Qn rfl (Qn rfl QL)) ?_)
 clear hK K
 refine Qs ?_
 refine Qf ?_
 exact Zt rfl rfl ⟨rfl, rfl⟩
end Go.Proofs
namespace M25
open Go Go.Abs M3
/-! ### The world that shows something -/
def wTal : Qm := [⟨[], [], [⟨⟨0, 0, 0, [], []⟩, 0, [[⟨1, ([(Jm, Gr)], [(Jm, Gr)])⟩]], []⟩]⟩, ⟨[98], [], [⟨⟨1, 0, 0, [], []⟩, 0, [], []⟩, ⟨⟨2, 0, 0, [], []⟩, 0, [], []⟩]⟩]
theorem SM : Fx wTal := by
 have hS : Sm [(Jm, Gr)] := ⟨by decide, fun s hs => by simp only [QhO] at hs; subst hs; exact ⟨⟨by decide, by decide⟩, ⟨by decide, by decide⟩⟩⟩
 refine ⟨by decide, fun u hu => ?_, fun u hu => ?_, fun u hu c hc => ?_⟩ <;> simp only [wTal, QhH, List.not_mem_nil, or_false] at hu <;> rcases hu with rfl | rfl
 ·exact ⟨by decide, by decide⟩
 ·exact ⟨by decide, by decide⟩
 ·exact (by decide : (1 : Nat) <= 1048576)
 ·exact (by decide : (2 : Nat) <= 1048576)
 ·simp only [QhO] at hc; subst hc
  refine ⟨⟨by decide, by decide⟩, by decide, by decide, fun r hr => ?_, fun x hx => by cases hx⟩
  simp only [QhO] at hr; subst hr
  exact ⟨by decide, fun x hx => by simp only [QhO] at hx; subst hx; exact ⟨hS, hS⟩⟩
 ·simp only [QhH, List.not_mem_nil, or_false] at hc
  rcases hc with rfl | rfl <;> exact ⟨⟨by decide, by decide⟩, by decide, by decide, fun r hr => (by cases hr), fun x hx => (by cases hx)⟩
theorem SL : MayW wTal := ⟨by decide, fun i hi => by
 have h3 : i = 0 \/ i = 1 := by
  have : wTal.length = 2 := rfl
  omega
 have k0 : cdR 2 ⟨⟨0, 0, 0, [], []⟩, 0, [[⟨1, ([(Jm, Gr)], [(Jm, Gr)])⟩]], []⟩ = true := by decide +kernel
 have k1 : cdR 2 ⟨⟨1, 0, 0, [], []⟩, 0, [], []⟩ = true := by decide +kernel
 have k2 : cdR 2 ⟨⟨2, 0, 0, [], []⟩, 0, [], []⟩ = true := by decide +kernel
 have k3 : LO ⟨1, 0, 0, [], []⟩ ⟨2, 0, 0, [], []⟩ < 0 := by decide +kernel
 rcases h3 with rfl | rfl
 ·exact ⟨fun _ => (by decide : (1 : Nat) <= 16), fun _ _ => ⟨rfl, rfl, rfl⟩, fun _ h => absurd h Wf, fun _ h => absurd h Wf, fun _ k (hk : k < 1) => by
   have : k = 0 := Wa
   subst this
   exact ⟨k0, fun h => absurd h Wa⟩⟩
 ·exact ⟨fun _ => (by decide : (2 : Nat) <= 16), fun _ h => absurd h Wf, fun _ _ => (by decide : ([98] : List UInt8) ≠ []), fun _ h => absurd h Wf, fun _ k (hk : k < 2) => by
   have : k = 0 \/ k = 1 := Wa
   rcases this with rfl | rfl
   ·exact ⟨k1, fun h => absurd h Wa⟩
   ·exact ⟨k2, fun _ => k3⟩⟩⟩
theorem T0 {b : Int} (hb : b = 0 \/ b = 1) : tidyM wTal [0, b] = [0, b] := by
 have hx : mtM wTal [0, b] ⟨1, ([(Jm, Gr)], [(Jm, Gr)])⟩ = true := by rcases hb with rfl | rfl <;> decide +kernel
 have n0 : Ndd wTal [0, b] 0 := .root (by rcases hb with rfl | rfl <;> decide)
 have n1 : Ndd wTal [0, b] 1 := .step (x := ⟨1, ([(Jm, Gr)], [(Jm, Gr)])⟩) (r := [⟨1, ([(Jm, Gr)], [(Jm, Gr)])⟩]) n0 (by simp [GF, wTal, cA]) Wc hx
 have b0 : nddB wTal [0, b] 0 = true := @decide_eq_true _ (Classical.propDecidable _) n0
 have b1 : nddB wTal [0, b] 1 = true := @decide_eq_true _ (Classical.propDecidable _) n1
 show [if nddB wTal [0, b] 0 = true then cA [0, b] (0 : Nat) else -1, if nddB wTal [0, b] 1 = true then cA [0, b] (1 : Nat) else -1] = [0, b]
 rw [if_pos b0, if_pos b1]; rfl
theorem C1 : listW wTal false (ZS wTal) [] = [[0, 0], [0, 1]] := by
 have p1 : Yf wTal [-1] 0 = false := by decide +kernel
 have p2 : Yf wTal [0] 0 = true := by decide +kernel
 have p3 : Yf wTal [0, -1] 1 = false := by decide +kernel
 have p4 : Yf wTal [0, 0] 1 = true := by decide +kernel
 have p5 : Yf wTal [0, 1] 1 = true := by decide +kernel
 have t0 := T0 (b := 0) (.inl rfl)
 have t1 := T0 (b := 1) (.inr rfl)
 have e2 : listW wTal false [2] [0] = [[0, 0], [0, 1]] := by
  show (if Yf wTal [0, -1] 1 = true then (if tidyM wTal [0, -1] = [0, -1] then [[0, -1]] else []) else []) ++ ((if Yf wTal [0, 0] 1 = true then (if tidyM wTal [0, 0] = [0, 0] then [[0, 0]] else []) else []) ++ ((if Yf wTal [0, 1] 1 = true then (if tidyM wTal [0, 1] = [0, 1] then [[0, 1]] else []) else []) ++ [])) = _
  rw [if_neg (by rw [p3]; decide), if_pos p4, if_pos p5, if_pos t0, if_pos t1]; rfl
 show (if Yf wTal [-1] 0 = true then listW wTal false [2] [-1] else []) ++ ((if Yf wTal [0] 0 = true then listW wTal false [2] [0] else []) ++ []) = _
 rw [if_neg (by rw [p1]; decide), if_pos p2, e2]; rfl
theorem QaC : szT wTal 100 = 6 := by
 rw [LG (M4 SL) Wf]; decide +kernel
end M25
namespace Go.Proofs
open Go Go.Abs M3 M25
theorem Qfc : Ok Tryd.prog 9 [Zj wTal, .int .i64 9, gD] (.tup [PV [[0, 0], [0, 1]], .bool true]) := by
 have e : allW wTal = [[0, 0], [0, 1]] := C1
 have h := Da (most := 9) SM SL (by rw [e]; decide)
 rw [e] at h
 exact h
theorem Qfd : Ok Tryd.prog 11 [Zj wTal, gD] (.tup [Zp [0, 1], .bool true]) := by
 have e : allW wTal = [[0, 0], [0, 1]] := C1
 have h := PK SM SL
 rw [e] at h
 exact h
theorem Qfe : Ok Tryd.prog 7 [Zj wTal, .int .i64 100, gD] (.int .i64 6) := by
 have h := PO SM (most := 100) Wf
 rw [QaC] at h
 exact h
theorem Yn  : Ok Tryd.prog 6 [gD] (.bool true) := by
 refine Ok.ofTG (ds := []) (dg := gD) ZL Tryd.func6 tp6 (QhG Z) ?_
 show TW _ _ tf6.body _ _
 refine Qd fun K hK => Qb Z (kc1 hK Z ?_)
 refine Qd fun K hK => QK (Ga) Z Z (.inl Z) (Zu Z (Zf Z Z Z Z Z Z Z Z (kc2 hK Z Z ?_)))
 refine Qd fun K hK => QD (cs := [_, _]) Z Z Z Z (ZM Z Z (Z5 Z Z (Z5 Z Z (ZM Z Z (Z5 Z Z (ZM Z Z (ZM Z Z (ZM Z Z (ZM Z Z (ZM Z Z ?_))))))))))
 refine Z5 Z Z (ZM Z Z (Z5 Z Z (ZM Z Z (Zu Z (Zf Z Z Z Z Z Z Z Z (kc2 hK Z Z ?_))))))
 refine Qd fun K hK => QD (cs := [_]) Z Z Z Z (QK (Ok.weak Qfc (by rfl)) Z Z (.inl Z) (Qb Z (Q4 Z Z (Q4 Z Z (mv2 Z Z (kc4 hK Z Z Z Z ?_))))))
 refine Qd fun K hK => QD (cs := [_]) Z Z Z Z (QK (Ok.weak Qfd (by rfl)) Z Z (.inl Z) (Qb Z (Q4 Z Z (Q4 Z Z (mv2 Z Z (kc6 hK Z Z Z Z Z Z ?_))))))
 refine Qd fun K hK => QD (cs := [_]) Z Z Z Z (QK (Ok.weak Qfe (by rfl)) Z Z (.inr Z) (Y3 Z Z (Qb Z ?_)))
 refine Qr (g := 36) Z (fun h1 => ?_) (fun h1 => ?_)
 ·rw [h1]
  simp only [qB] at h1
  refine Qc Z (Qb Z (Qh Z Z (Qb Z ?_)))
  refine Qr (g := 39) Z (fun h2 => ?_) (fun h2 => ?_)
  ·rw [h2]
   simp only [qB] at h2
   refine Qc Z (Qb Z (Qc Z (QY Z QM (Qc Z (Y3 Z Z (Qh Z Z (Qb Z ?_)))))))
   refine Qr (g := 44) Z (fun h3 => ?_) (fun h3 => ?_)
   ·rw [h3]
    simp only [qB] at h3
    refine Qc Z (Qb Z (Qc Z (QE Z Z Z Wf Z Z (Qc Z (Qt Z Z Z (Qc Z (QY Z QM (Qc Z (Y3 Z Z (Qh Z Z (Qb Z ?_)))))))))))
    refine Qr (g := 51) Z (fun h4 => ?_) (fun h4 => ?_)
    ·rw [h4]
     simp only [qB] at h4
     refine Qc Z (Qb Z (Qc Z (QE Z Z Z Wf Z Z (Qc Z (Qt Z Z Z (Qc Z (QE Z Z Z Wf Z Z (Qc Z (Qt Z Z Z (Qc Z (Y3 Z Z ?_)))))))))))
     refine Qh Z Z (Qb Z ?_)
     refine Qr (g := 59) Z (fun h5 => ?_) (fun h5 => ?_)
     ·rw [h5]
      simp only [qB] at h5
      refine Qc Z (Qb Z (Qh Z Z (Qb Z ?_)))
      refine Qr (g := 62) Z (fun h6 => ?_) (fun h6 => ?_)
      ·rw [h6]
       simp only [qB] at h6
       refine Qc Z (Qb Z (Qc Z (QY Z QM (Qc Z (Y3 Z Z (Qh Z Z (Qb Z ?_)))))))
       refine Qr (g := 67) Z (fun h7 => ?_) (fun h7 => ?_)
       ·rw [h7]
        simp only [qB] at h7
        refine Qc Z (Qb Z (Qc Z (QE Z Z Z Wf Z Z (Qc Z (Qt Z Z Z (Qc Z (Y3 Z Z (Qh Z Z (Qb Z (kc1 hK Z ?_))))))))))
        refine Qs (Qg Z ?_)
        rfl
       ·rw [h7]
        simp only [qB] at h7
        (simp at h7; done)
      ·rw [h6]
       (simp at h6; done)
     ·rw [h5]
      simp only [qB] at h5
      (simp at h5; done)
    ·rw [h4]
     simp only [qB] at h4
     (simp at h4; done)
   ·rw [h3]
    simp only [qB] at h3
    (simp at h3; done)
  ·rw [h2]
   (simp at h2; done)
 ·rw [h1]
  simp only [qB] at h1
  (simp at h1; done)
open Go Go.Abs M3 M25
end Go.Proofs
namespace Go.Proofs
open Go Go.Abs M3 M25
theorem CQ {o : List Int} {k : Nat} {b : Int} : (o.map rI).set k [.int .i64 b] = (o.set k b).map rI := List.map_set.symm
/-- In place, from the last unit on: how far it is. -/
def cN (c : List Int) (i : Nat) : List Int := c.take i ++ List.replicate (c.length - i) (-1)
theorem QaV {c : List Int} {i : Nat} (h : i <= c.length) : (cN c i).length = c.length := by simp [cN]; omega
theorem QdL {c : List Int} {i : Nat} (h0 : 0 < i) (h : i <= c.length) (hl : i - 1 < (cN c i).length) : (cN c i)[i - 1] = c[i - 1] := by
 have h1 : i - 1 < (c.take i).length := by simp; omega
 simp only [cN, List.getElem_append_left h1, List.getElem_take]
theorem Qfb {c : List Int} {i : Nat} (h0 : 0 < i) (h : i <= c.length) : (cN c i).set (i - 1) (-1) = cN c (i - 1) := by
 refine List.ext_getElem (by simp [cN]; omega) fun j h1 h2 => ?_
 simp only [List.getElem_set, cN, List.getElem_append, List.length_take, List.getElem_take, List.getElem_replicate]
 (repeat' split) <;> first | rfl | (exfalso; omega)
theorem QdM {c : List Int} {i : Nat} (h0 : 0 < i) (h : i <= c.length) {x : Int} : (cN c i).set (i - 1) x = c.take (i - 1) ++ x :: List.replicate (c.length - (i - 1 + 1)) (-1) := by
 refine List.ext_getElem (by simp [cN]; omega) fun j h1 h2 => ?_
 simp only [List.getElem_set, cN, List.getElem_append, List.length_take, List.getElem_take, List.getElem_replicate, List.getElem_cons]
 (repeat' split) <;> first | rfl | (exfalso; omega)
def nxB (w : Qm) (c : List Int) : Bool := (nxU (ZS w) c).isSome
def nxC (w : Qm) (c : List Int) : List Int := (nxU (ZS w) c).getD (List.replicate c.length (-1))
theorem TE {w : Qm} {i : Nat} (h : i < w.length) : (ZS w)[i]'(by simpa [ZS] using h) = w[i].cs.length := by simp [ZS]
section
variable {w : Qm} {c : List Int} {i : Nat} {q : List Int}
theorem Qcv (hcl : c.length = w.length) (h0 : 0 < i) (hi : i <= c.length) (hn : nxU ((ZS w).drop i) (c.drop i) = none) (hx : c[i - 1]'Wa + 1 < ((w[i - 1]'Wa).cs.length : Int)) : nxU (ZS w) c = some ((cN c i).set (i - 1) (c[i - 1]'Wa + 1)) := by
 have hnl : (ZS w).length = w.length := by simp [ZS]
 rw [QdM h0 hi]
 exact Qek Wa Wa (by rw [show i - 1 + 1 = i by omega]; exact hn) (by rw [TE Wa]; exact hx)
theorem Qel (hcl : c.length = w.length) (h0 : 0 < i) (hi : i <= c.length) (hn : nxU ((ZS w).drop i) (c.drop i) = none) (hx : ¬ c[i - 1]'Wa + 1 < ((w[i - 1]'Wa).cs.length : Int)) : nxU ((ZS w).drop (i - 1)) (c.drop (i - 1)) = none := by
 have hnl : (ZS w).length = w.length := by simp [ZS]
 exact Qfw Wa Wa (by rw [show i - 1 + 1 = i by omega]; exact hn) (by rw [TE Wa]; exact hx)
theorem Qcs {d : List Int} (h : nxU (ZS w) c = some d) : true = nxB w c /\ d = nxC w c := by rw [nxB, nxC, h]; exact ⟨rfl, rfl⟩
theorem Qei (h : nxU ((ZS w).drop 0) (c.drop 0) = none) : false = nxB w c /\ cN c 0 = nxC w c := by
 have h1 := Qej h
 rw [nxB, nxC, h1]; exact ⟨rfl, by simp [cN]⟩
theorem toN {i : Nat} (h0 : 0 < i) : ((i : Int) - 1).toNat = i - 1 := Wa
end
theorem ZW {a b : List Int} (ha : a.length <= 10000000) : Ok Tryd.prog 14 [Zp a, Zp b] (.bool (decide (a = b))) := by
 refine Ok.ofT ZL Tryd.func14 Qgg (QhG Z) ?_
 show TW _ _ tf14.body _ _
 refine Qd fun K hK => Qb Z (kc2 hK Z Z ?_)
 refine Qz ?_ -- 0
 refine Qd fun K hK => Qb Z (QY Z QM (Qb Z (QY Z QM (Z7 Z Z (kc3 hK Z Z Z ?_)))))
 refine Qu Z (fun h1 => ?_) (fun h1 => ?_)
 ·rw [h1]
  simp only [qA] at h1
  refine Qd fun K hK => Qb Z (kc1 hK Z ?_)
  refine Qs (Qf (Qg Z ?_))
  rw [decide_eq_false fun e => h1 (by rw [e])]
 ·rw [h1]
  simp only [qA] at h1
  refine Qq (ks2 Z Z ?_)
  refine Qz ?_ -- 1
  refine Qd fun K hK => Qb Z (kc3 hK Z Z Z ?_)
  refine Qw ?_
  refine Q5 (ι := Nat) (fun i => ⟨[(0, Zp a), (1, Zp b), (5, .int .i64 i)], []⟩) (fun i => i <= a.length /\ a.take i = b.take i) (fun i => a.length - i) 0 ?_ ?_ ?_
  ·exact Q3 (kp3 rfl rfl rfl)
  ·exact ⟨QhR _, by simp⟩
  intro i hI
  refine Qz ?_ -- 2
  refine Qd fun K hK => mv2 Z Z (QY Z QM (ZI Z Z (kc4 hK Z Z Z Z ?_)))
  refine Qu Z (fun h2 => ?_) (fun h2 => ?_)
  ·rw [h2]
   simp only [qA] at h2
   refine Qq (ks3 Z Z Z ?_)
   refine Qz ?_ -- 3
   refine Qw (Qd fun K hK => mv2 Z Z (QE Z Z Z Wa (QR Wa) Z (QH (ds0 := [0]) Z Z Z Z Z (mv2 Z Z (QE Z Z Z Wa (QR Wa) Z (QH (ds0 := [0]) Z Z Z Z Z (Z7 Z Z (kc4 hK Z Z Z Z ?_))))))))
   refine Qu Z (fun h3 => ?_) (fun h3 => ?_)
   ·rw [h3]
    simp only [qA] at h3
    refine Qd fun K hK => Qb Z (kc1 hK Z ?_)
    refine Qs (Qj (Qf (QC (Qj (Qf (Qg Z ?_))))))
    rw [CL (i := i) Wa Wa h3]
   ·rw [h3]
    simp only [qA] at h3
    refine Qq (Ql (ks3 Z Z Z (QN fun K hK => Qb Z (Q0 Z Z Wb (Qb Z (hK _ ?_))))))
    refine Qk (i + 1) ?_ ?_ ?_
    ·exact Q3 (kp3 rfl rfl rfl)
    ·exact ⟨Wa, RK Wa Wa hI.2 h3⟩
    ·omega
  ·rw [h2]
   simp only [qA] at h2
   refine QU (QB (Qv (QA (QJ (QL) (Qd fun K hK => Qb Z (kc1 hK Z ?_))))))
   refine Qs (Qg Z ?_)
   rw [QhV Wa, QhV Wa] at hI; exact (decide_eq_true hI.2).symm
theorem Hd {a b : List (List Int)} (ha : a.length <= 10000000) (hb : ∀ r ∈ a, r.length <= 1000000) : Ok Tryd.prog 13 [.sl (a.map fun r => [Zp r]), .sl (b.map fun r => [Zp r])] (.bool (decide (a = b))) := by
 refine Ok.ofT ZL Tryd.func13 Qgf (QhG Z) ?_
 show TW _ _ tf13.body _ _
 refine Qd fun K hK => Qb Z (kc2 hK Z Z ?_)
 refine Qz ?_ -- 0
 refine Qd fun K hK => Qb Z (QY Z QM (Qb Z (QY Z QM (Z7 Z Z (kc3 hK Z Z Z ?_)))))
 refine Qu Z (fun h1 => ?_) (fun h1 => ?_)
 ·rw [h1]
  simp only [qA] at h1
  refine Qd fun K hK => Qb Z (kc1 hK Z ?_)
  refine Qs (Qf (Qg Z ?_))
  rw [decide_eq_false fun e => h1 (by rw [e])]
 ·rw [h1]
  simp only [qA] at h1
  refine Qq (ks2 Z Z ?_)
  refine Qz ?_ -- 1
  refine Qd fun K hK => Qb Z (kc3 hK Z Z Z ?_)
  refine Qw ?_
  refine Q5 (ι := Nat) (fun i => ⟨[(0, .sl (a.map fun r => [Zp r])), (1, .sl (b.map fun r => [Zp r])), (5, .int .i64 i)], []⟩) (fun i => i <= a.length /\ a.take i = b.take i) (fun i => a.length - i) 0 ?_ ?_ ?_
  ·exact Q3 (kp3 rfl rfl rfl)
  ·exact ⟨QhR _, by simp⟩
  intro i hI
  refine Qz ?_ -- 2
  refine Qd fun K hK => mv2 Z Z (QY Z QM (ZI Z Z (kc4 hK Z Z Z Z ?_)))
  refine Qu Z (fun h2 => ?_) (fun h2 => ?_)
  ·rw [h2]
   simp only [qA] at h2
   refine Qq (ks3 Z Z Z ?_)
   refine Qz ?_ -- 3
   refine Qw (Qd fun K hK => mv2 Z Z (QE Z Z Z Wa (QR Wa) Z (QH (ds0 := [1, 0]) Z Z Z Z Z (mv2 Z Z (QE Z Z Z Wa (QR Wa) Z (QH (ds0 := [1, 0]) Z Z Z Z Z (Zk (ds0 := [0]) (ZW (by have := hb _ (QhK (Wa : i < a.length)); omega)) Z Z (.inr Z) Z Z (Zm Z ?_))))))))
   refine kc4 hK Z Z Z Z ?_
   refine Qu Z (fun h3 => ?_) (fun h3 => ?_)
   ·rw [h3]
    simp only [qA] at h3
    refine Qd fun K hK => Qb Z (kc1 hK Z ?_)
    refine Qs (Qj (Qf (QC (Qj (Qf (Qg Z ?_))))))
    rw [CL (i := i) Wa Wa h3]
   ·rw [h3]
    simp only [qA] at h3
    refine Qq (Ql (ks3 Z Z Z (QN fun K hK => Qb Z (Q0 Z Z Wb (Qb Z (hK _ ?_))))))
    refine Qk (i + 1) ?_ ?_ ?_
    ·exact Q3 (kp3 rfl rfl rfl)
    ·exact ⟨Wa, RK Wa Wa hI.2 h3⟩
    ·omega
  ·rw [h2]
   simp only [qA] at h2
   refine QU (QB (Qv (QA (QJ (QL) (Qd fun K hK => Qb Z (kc1 hK Z ?_))))))
   refine Qs (Qg Z ?_)
   rw [QhV Wa, QhV Wa] at hI; exact (decide_eq_true hI.2).symm
theorem Km {w : Qm} (hw : Fx w) {c : List Int} (hc : c.length <= 1048576) : OkH Tryd.prog 23 [Zj w, Zp c] [] (.osl 500000 (tidyR w c).length) [(500000, ⟨(tidyR w c).map rI, 1, 3, true⟩)] := by
 refine OkH.new ZL Tryd.func23 Qgn (QhG Z) Z ?_
 show TW _ _ tf23.body _ _
 have hnd := G6 w c
 have htl := RN w c
 refine Qd fun K hK => Zs Z Z Z (Qb Z (kc2 hK Z Z ?_))
 refine Qd fun K hK => Qb Z (kc3 hK Z Z Z ?_)
 refine Qd fun K hK => QD (cs := [_]) Z Z Z Z (Qb Z (QK (Kb hw hc) Z Z (.inl Z) (Qb Z (kc3 hK Z Z Z ?_))))
 refine Qz ?_ -- 0
 refine Qd fun K hK => Qb Z (kc4 hK Z Z Z Z ?_)
 refine Qw ?_
 refine Q5 (ι := Nat) (fun i => ⟨[(1, Zp c), (5, .osl 5 ((tidyR w c).take i).length), (6, Dq (neededR w c)), (7, .int .i64 i)], [(5, ⟨((tidyR w c).take i).map rI, 1, 3, true⟩)]⟩) (fun i => i <= (neededR w c).length) (fun i => (neededR w c).length - i) 0 ?_ ?_ ?_
 ·exact le_trans (Yy 5 5 1 3 rfl rfl) (QP (l := [1, 5, 6, 7]) (lH := [5]) (kp4 rfl rfl rfl rfl) (Qa rfl Qi) rfl rfl rfl)
 ·exact QhR _
 intro i hI
 have hlen : ((tidyR w c).take i).length <= i := by simp; omega
 refine Qz ?_ -- 1
 refine Qd fun K hK => mv2 Z Z (QY Z QM (ZI Z Z (kc5 hK Z Z Z Z Z ?_)))
 refine Qu Z (fun h1 => ?_) (fun h1 => ?_)
 ·rw [h1]
  simp only [qA] at h1
  refine Qq (ks4 Z Z Z Z ?_)
  refine Qz ?_ -- 2
  refine Qw (Qd fun K hK => mv2 Z Z (QE Z Z Z Wa (QR Wa) Z (Qt Z Z Z (Qb Z (kc5 hK Z Z Z Z Z ?_)))))
  refine Qz ?_ -- 3
  refine Qd fun K hK => mv2 Z Z (QE Z Z Z Wa (QR Wa) Z (Qt Z Z Z (Zm Z (kc6 hK Z Z Z Z Z Z ?_))))
  refine Qu Z (fun h2 => ?_) (fun h2 => ?_)
  ·rw [h2]
   simp only [qA] at h2
   refine QN fun K hK => Qb Z (hK _ ?_)
   refine ks5 Z Z Z Z Z (QN fun K hK => mv2 Z Z (Q2 Z Z (Jc Z Z (fun _ h => Ka Z Z Z h) Z Wc Z Z Z We We (Qb Z (hK _ ?_)))))
   refine Ql (ks4 Z Z Z Z (QN fun K hK => Qb Z (Q0 Z Z Wb (Qb Z (hK _ ?_)))))
   refine Qk (i + 1) ?_ ?_ ?_
   ·exact QP (l := [1, 5, 6, 7]) (lH := [5]) (kp4 rfl rfl rfl rfl) (Qa rfl Qi) (by rw [Hb Wa, List.length_append] <;> rfl) (by rw [Hb Wa, List.map_append, tdAt, if_neg (by rw [<- Ru Wa]; rw [h2]; simp)] <;> rfl) rfl
   ·omega
   ·omega
  ·rw [h2]
   simp only [qA] at h2
   refine Qq (ks5 Z Z Z Z Z (QN fun K hK => mv2 Z Z (Q2 Z Z (Jc Z Z (fun _ h => Ka Z Z Z h) Z Wc Z Z Z We We (Qb Z (hK _ ?_))))))
   refine Ql (ks4 Z Z Z Z (QN fun K hK => Qb Z (Q0 Z Z Wb (Qb Z (hK _ ?_)))))
   refine Qk (i + 1) ?_ ?_ ?_
   ·exact QP (l := [1, 5, 6, 7]) (lH := [5]) (kp4 rfl rfl rfl rfl) (Qa rfl Qi) (by rw [Hb Wa, List.length_append] <;> rfl) (by rw [Hb Wa, List.map_append, tdAt, if_pos (by rw [<- Ru Wa]; exact h2), Y0 Wa] <;> rfl) rfl
   ·omega
   ·omega
 ·rw [h1]
  simp only [qA] at h1
  refine QU (QB (Qv (QA (ks1 Z (S2 (G2 (l := []) (lH := []) 5 500000 5 (QL) Qi Z Z Z Z Z Z Z) (Qd fun K hK => mv2 Z Z (kc1 hK Z ?_)))))))
  refine Qs ?_
  rw [QhV (Wa : (tidyR w c).length <= i)]
  exact Ys rfl (by simp [QbO, D.fz, D.fzS, small, D.can, D.canS, Zp]) fun k b h => h
theorem Hi {w : Qm} (hw : Fx w) {c : List Int} (hch : ChOk w c) : OkH Tryd.prog 24 [Zj w, .osl 1000018 c.length] [(1000018, ⟨c.map rI, 1, 3, true⟩)] (.bool (nxB w c)) [(1000018, ⟨(nxC w c).map rI, 1, 3, true⟩)] := by
 have hcl := hch.len
 have hwl := hw.len
 refine OkH.ofT ZL Tryd.func24 Qgo (QhG Z) (fun k hk h => ?_) (fun k b h => ?_) ?_
 ·simp only [Qx] at h ⊢
  (repeat' split) <;> simp_all [lk]
 ·simp only [Qx] at h
  (repeat' split at h) <;> first | (cases h; subst_vars; refine ⟨Wa, fun j hj => ?_⟩; simp [Box.ids, D.sid] at hj; done) | cases h
 show TW _ _ tf24.body _ _
 refine Qd fun K hK => Zs Z Z Z (Qb Z (kc2 hK Z Z ?_))
 refine Qz ?_ -- 0
 refine Qd fun K hK => Qb Z (QY Z Z (JK Z Z (Qp Wa Wa) (Qb Z (kc3 hK Z Z Z ?_))))
 refine Qw ?_
 refine Q5 (ι := Nat × List Int) (fun s => ⟨[(1, .osl 1000018 (s.2).length), (2, .ref 2 0 0), (5, .int .i64 ((s.1 : Int) - 1))], [(2, ⟨[[.sl (w.map ZK)]], 1, 24, true⟩), (1000018, ⟨(s.2).map rI, 1, 3, true⟩)]⟩) (fun s => s.1 <= c.length /\ s.2 = cN c s.1 /\ nxU ((ZS w).drop s.1) (c.drop s.1) = none) (fun s => s.1) (c.length, c) ?_ ?_ ?_
 ·exact QP (l := [1, 2, 5]) (lH := [2, 1000018]) (kp3 rfl rfl rfl) (Qa rfl (Qa rfl Qi)) rfl rfl rfl
 ·exact ⟨Nat.le_refl _, by simp [cN], Qal (by simp [ZS, hcl])⟩
 intro s hI
 have hsl : s.2.length = c.length := by rw [hI.2.1]; exact QaV hI.1
 have hat : ∀ h : 0 < s.1, s.2[((s.1 : Int) - 1).toNat]'Wa = c[s.1 - 1]'Wa := fun h => by simp only [toN h, hI.2.1]; exact QdL h hI.1 (by rw [QaV hI.1]; omega)
 have hwt : ∀ h : 0 < s.1, (w[((s.1 : Int) - 1).toNat]'Wa).cs.length = (w[s.1 - 1]'Wa).cs.length := fun h => by simp only [toN h]
 refine Qz ?_ -- 1
 refine Qd fun K hK => Qb Z (Fw Z Z (kc4 hK Z Z Z Z ?_))
 refine Qu Z (fun h1 => ?_) (fun h1 => ?_)
 ·rw [h1]
  simp only [qA] at h1
  have hat1 := hat Wa; have hwt1 := hwt Wa; have hbd := hch.bd (s.1 - 1) Wa Wa; have hcs1 := hw.cl _ (QhK (Wa : s.1 - 1 < w.length))
  refine Qq (ks3 Z Z Z ?_)
  refine Qz ?_ -- 2
  refine Qw ?_
  refine Qz ?_ -- 3
  refine Qd fun K hK => mv2 Z Z (HZ (ds0 := [9, 8, 0]) Z Z Z Wc Wa Wa Z Z Z (QH (ds0 := [8, 0]) Z (J0 Z (QZ Wa Wa)) Z Z Z (Q0 Z Z (Qp Wa Wa) (Qe Z Z (QH (ds0 := [4, 3, 2, 1, 0]) Z Z Z Z Z (Qb Z (QE Z Z Z Wa (QZ Wa Wa) Z (QX Z Z (QH (ds0 := [1, 0]) Z Z Z Z Z ?_)))))))))
  refine QY Z QM (ZI Z Z (kc4 hK Z Z Z Z ?_))
  refine Qu Z (fun h2 => ?_) (fun h2 => ?_)
  ·rw [h2]
   simp only [qA] at h2
   refine Qd fun K hK => mv2 Z Z (Z6 Z Z Z Wc Wa Wa Z (Qt Z (J0 Z (QZ Wa Wa)) Z (Q0 Z Z (Qp Wa Wa) (Z6 Z Z Z Wc Wa Wa Z (Zf Z Z (QZ Wa Wa) Z Z Z Z Z (hK _ _ (Zo (QL) ?_)))))))
   refine Qd fun K hK => Qb Z (kc1 hK Z ?_)
   refine Qs (Qf (Qj (Qf (QC (Qj (Qf ?_))))))
   have hy := Qcs (Qcv hcl (Wa : 0 < s.1) hI.1 hI.2.2 Wa)
   have e : (s.2.map rI).set (((s.1 : Int) - 1).toNat) [.int .i64 (s.2[((s.1 : Int) - 1).toNat]'Wa + 1)] = (nxC w c).map rI := by rw [CQ, <- hy.2, hat1, toN (Wa : 0 < s.1)]; exact congrArg (fun z => (List.set z _ _).map rI) hI.2.1
   rw [<- hy.1, <- e]
   exact Ys rfl rfl (CV rfl)
  ·rw [h2]
   simp only [qA] at h2
   refine Qq (ks3 Z Z Z (QN fun K hK => mv2 Z Z (Z6 Z Z Z Wc Wa Wa Z (Zf Z Z (QZ Wa Wa) Z Z Z Z Z (hK _ ?_)))))
   refine Ql (ks3 Z Z Z (QN fun K hK => Qb Z (JK Z Z (Qp Wa Wa) (Qb Z (hK _ ?_)))))
   refine Qk (s.1 - 1, s.2.set ((s.1 : Int) - 1).toNat (-1)) ?_ ?_ ?_
   ·exact QP (l := [1, 2, 5]) (lH := [2, 1000018]) (kp3 rfl rfl rfl) (Qa rfl (Qa rfl Qi)) (by simp only [List.length_set]; rw [show ((s.1 - 1 : Nat) : Int) - 1 = (s.1 : Int) - 1 - 1 by omega] <;> rfl) (by rw [<- CQ] <;> rfl) rfl
   ·exact ⟨by show s.1 - 1 <= c.length; omega, by rw [toN Wa, hI.2.1]; exact Qfb Wa hI.1, Qel hcl Wa hI.1 hI.2.2 Wa⟩
   ·show s.1 - 1 < s.1; omega
 ·rw [h1]
  simp only [qA] at h1
  refine QU (QB (Qv (QA (QJ (QL) (Qd fun K hK => Qb Z (kc1 hK Z ?_))))))
  refine Qs ?_
  have h0 : s.1 = 0 := Wa
  rw [h0] at hI
  have hy := Qei hI.2.2
  rw [<- hy.1, <- hy.2, <- hI.2.1]
  exact Ys rfl rfl (CV rfl)
end Go.Proofs
namespace Go.Abs
open Go
/-! ### A region in its order, weakened between two of its operations -/
section
variable {P : Program} {nt : Nat} {E : Env}
def H3 (P : Program) : List AOper -> (St -> Prop) -> St -> Prop
 | [], K, s => K s
 | o :: r, K, s => ∃ s', s.le s' /\ L5 P o (H3 P r K) s'
theorem Mt {ops : Array Oper} {K : St -> Prop} {Q : Exit -> Act -> World -> Prop} (hnt : E.nt = nt) (hdst : ∀ (j : Nat) (o' : Oper), ops[j]? = some o' -> ∀ t, o'.dst = some t -> t < E.nt) : ∀ (l : List Oper) (k : Nat) (l' : List AOper) (s : St) (g : Gh) (a : Act) (w : World), (∀ j, l[j]? = ops[k + j]?) ->
  QO P nt ops l = some l' -> Rel E g s a w -> H3 P l' K s -> (∀ s' g' a' w', Rel E g' s' a' w' -> K s' -> Q .normal a' w') -> wpOps P ops Q (List.range' k l.length) a w
 | [], k, l', s, g, a, w, _, hp, r, h, hK => by
  simp only [QO, QhI] at hp
  subst hp
  exact hK s g a w r h
 | o :: l, k, l', s, g, a, w, hl, hp, r, h, hK => by
  simp only [QO] at hp
  split at hp
  ·rename_i o' r' e1 e2
   cases hp
   have h0 : ops[k]? = some o := by simpa using (hl 0).symm
   rw [List.length_cons, List.range'_succ, wpOps_cons]
   unfold wpOp
   rw [h0]
   simp only
   obtain ⟨s1, hle, h⟩ := h
   obtain ⟨g1, r1⟩ := hle E g a w r
   have := M9 (Q := Q) hnt r1 e1 hdst h (K' := wpOps P ops Q (List.range' (k + 1) l.length)) fun s' g' a' w' r2 h2 =>
     Mt hnt hdst l (k + 1) r' s' g' a' w' (fun j => by have := hl (j + 1); simpa [Nat.add_assoc, Nat.add_comm 1 j] using this) e2 r2 h2 hK
   split
   ·rename_i hw; rw [if_pos hw] at this; exact .inl this
   ·rename_i hw; rw [if_neg hw] at this; exact this
  ·cases hp
theorem T8 {Q : ZT -> St -> Prop} {s : St} {l : List AOper} (h : H3 P l (Q .normal) s) : AW P nt (.region false l) Q s := fun code E g a w hm hp hn hfl r => by
 obtain ⟨id, ops, rfl, _, h1⟩ := JU hp
 refine wpIn_region (Hc (fun ⟨_, _, h⟩ => h) (Xn h1) _ _ _ ?_)
 rw [List.range_eq_range', <- Array.length_toList]
 exact Mt hn (fun j o' ho t ht => by rw [hn]; exact YU h1 j o' ho t ht) ops.toList 0 l s g a w Wc h1 r h fun s' g' a' w' r' h' => ⟨s', g', h', r'⟩
theorem GT {r : List AOper} {K : St -> Prop} : ∀ {l : List AOper} {s : St}, GS P l (H3 P r K) s -> H3 P (l ++ r) K s
 | [], _, h => h
 | _ :: _, s, h => ⟨s, Qci, GR (fun _ h => GT h) h⟩
theorem QcO {l lr ol : List AOper} {o : AOper} {K : St -> Prop} {s : St} (h : run P .fixed l (fun s1 => ∃ s2, s1.le s2 /\ H3 P (o :: lr) K s2) s) (hl : ol = l ++ o :: lr := by rfl) : H3 P ol K s := by
 subst hl
 refine GT (YE (fun s1 h => ?_) (Z4 h))
 obtain ⟨s2, h1, s3, h2, h3⟩ := h
 exact ⟨s3, le_trans h1 h2, h3⟩
theorem Qav {l : List AOper} {K : St -> Prop} {s : St} (h : run P .fixed l K s) : H3 P l K s := by
 have := GT (P := P) (r := []) (K := K) (Z4 h)
 rwa [List.append_nil] at this
theorem QbB {Q : ZT -> St -> Prop} {s : St} {ol : List AOper} (h : ∀ K : St -> Prop, (∀ s, Q .normal s -> K s) -> H3 P ol K s) : TW P nt (.region false ol) Q s := T8 (h _ fun _ h => h)
end
end Go.Abs
namespace Go.Proofs
open Go Go.Abs M3 M25
/-! ### The document's own walk: one choice behind the other -/
def eAt (w : Qm) (t : Nat) : List Int := (ZG (ZS w)).getD t []
noncomputable def oR (w : Qm) (t : Nat) : List (List Int) := ((ZG (ZS w)).take t).filter (goodM w)
def Qdi (w : Qm) : Prop := allW w = (ZG (ZS w)).filter (goodM w)
theorem LZ {w : Qm} (hw : WSm w) (hr : WIn w) (h0 : 0 < w.length) : Qdi w := by
 have h := Rh hw hr h0 (ZS w) [] Wc (PreW.nil w)
 simpa [allW, Qdi] using h
section
variable {w : Qm} {t : Nat} {most : Int}
theorem GZ (ht : t < (ZG (ZS w)).length) : eAt w t = (ZG (ZS w))[t] := by simp [eAt, ht]
theorem Tj (ht : t < (ZG (ZS w)).length) : ChOk w (eAt w t) := by
 rw [GZ ht]
 exact Tm (q := []) (PreW.nil w) Wc
theorem BT (w : Qm) : 0 < (ZG (ZS w)).length := by
 obtain ⟨l, hl⟩ := KT (ZS w); rw [hl]; simp
theorem Qfi (w : Qm) : eAt w 0 = List.replicate w.length (-1) := by
 obtain ⟨l, hl⟩ := KT (ZS w)
 rw [eAt, hl]
 show Qco (ZS w) = _
 rw [Qco, List.map_const', ZS, List.length_map]
theorem Qfx (w : Qm) (t : Nat) : (oR w t).length <= (ZG (ZS w)).length := by
 refine QhY (List.length_filter_le _ _) ?_
 rw [List.length_take]; omega
theorem TF (ht : t < (ZG (ZS w)).length) (hg : goodM w (eAt w t) = true) : oR w (t + 1) = oR w t ++ [eAt w t] := by
 rw [GZ ht] at hg ⊢
 rw [oR, oR, List.take_succ_eq_append_getElem ht, List.filter_append, List.filter_cons, if_pos hg]; rfl
theorem Ck (ht : t < (ZG (ZS w)).length) (hg : goodM w (eAt w t) = false) : oR w (t + 1) = oR w t := by
 rw [GZ ht] at hg
 rw [oR, oR, List.take_succ_eq_append_getElem ht, List.filter_append, List.filter_cons, if_neg (by rw [hg]; decide)]; simp
theorem Qem (hA : Qdi w) (h : (ZG (ZS w)).length <= t) : oR w t = allW w := by rw [oR, QhV h]; exact hA.symm
theorem QfA (w : Qm) (most : Int) : Yg (pA most) [] (oR w 0) = (oR w 0, true) := by simp [oR, Yg]
theorem Ph (hA : Qdi w) (hI : Yg (pA most) [] (oR w t) = (oR w t, true)) (ht : t < (ZG (ZS w)).length) (hg : goodM w (eAt w t) = true) (hm : most <= (oR w t).length) : Yg (pA most) [] (allW w) = (oR w t, false) := by
 have e : allW w = oR w (t + 1) ++ ((ZG (ZS w)).drop (t + 1)).filter (goodM w) := by
  rw [oR, <- List.filter_append, List.take_append_drop]; exact hA
 rw [e, TF ht hg, List.append_assoc, GH, hI]
 show Yg (pA most) (oR w t) _ = _
 have e2 : (pA most).st (oR w t) (eAt w t) = (oR w t, false) := if_pos hm
 simp only [List.cons_append, Yg, e2]; rfl
theorem Qev (hI : Yg (pA most) [] (oR w t) = (oR w t, true)) (ht : t < (ZG (ZS w)).length) (hg : goodM w (eAt w t) = true) (hm : ¬ most <= (oR w t).length) : Yg (pA most) [] (oR w (t + 1)) = (oR w (t + 1), true) := by
 have e2 : (pA most).st (oR w t) (eAt w t) = (oR w t ++ [eAt w t], true) := if_neg hm
 rw [TF ht hg, GH, hI]
 show Yg (pA most) (oR w t) _ = _
 rw [TP, e2]
theorem TS (hI : Yg (pA most) [] (oR w t) = (oR w t, true)) (ht : t < (ZG (ZS w)).length) (hg : goodM w (eAt w t) = false) : Yg (pA most) [] (oR w (t + 1)) = (oR w (t + 1), true) := by rw [Ck ht hg]; exact hI
theorem Tr (hm : MayW w) (ht : t < (ZG (ZS w)).length) (h1 : Gk w (eAt w t) = true) (h2 : tidyR w (eAt w t) = eAt w t) : goodM w (eAt w t) = true := by
 have hc := Tj ht
 rw [SQ (Cc hm ⟨hc.len, hc.bd⟩)] at h2
 exact KW.2 ⟨h1, h2⟩
theorem Sj (hm : MayW w) (ht : t < (ZG (ZS w)).length) (h2 : ¬ tidyR w (eAt w t) = eAt w t) : goodM w (eAt w t) = false := by
 have hc := Tj ht
 rw [SQ (Cc hm ⟨hc.len, hc.bd⟩)] at h2
 exact Bool.eq_false_iff.2 fun h => h2 (KW.1 h).2
theorem Si (h1 : Gk w (eAt w t) = false) : goodM w (eAt w t) = false := Bool.eq_false_iff.2 fun h => by
 have := (KW.1 h).1
 rw [h1] at this; cases this
theorem Qcu (ht : t < (ZG (ZS w)).length) (h : nxB w (eAt w t) = true) : t + 1 < (ZG (ZS w)).length /\ nxC w (eAt w t) = eAt w (t + 1) := by
 have e := PZ ht
 rw [<- GZ ht] at e
 rw [nxB, e] at h
 have h1 : t + 1 < (ZG (ZS w)).length := by
  by_cases hh : t + 1 < (ZG (ZS w)).length
  ·exact hh
  ·rw [List.getElem?_eq_none Wa] at h; cases h
 refine ⟨h1, ?_⟩
 rw [nxC, e, GZ h1, List.getElem?_eq_getElem h1]; rfl
theorem Qct (ht : t < (ZG (ZS w)).length) (h : nxB w (eAt w t) = false) : (ZG (ZS w)).length <= t + 1 := by
 have e := PZ ht
 rw [<- GZ ht] at e
 rw [nxB, e] at h
 by_cases hh : t + 1 < (ZG (ZS w)).length
 ·rw [List.getElem?_eq_getElem hh] at h; cases h
 ·omega
end
theorem QaT {s : St} {d d' e e' : D} (h1 : JM s d = d') (h2 : JM s e = e') : [d, e].map (JM s) = [d', e'] := by simp [h1, h2]
theorem R1 {fr : QhE} {H : QhD} {k n : Nat} {c : List Int} (h : lk H k = some ⟨c.map rI, 1, 3, true⟩) (hn : n = c.length) : JM ⟨fr, H⟩ (.osl k n) = Zp c := ME h rfl (by simp [hn]) rfl
theorem QeH {s : St} {w : Qm} {c : List Int} (hw : Fx w) (hc : c.length <= 1048576) {n : Nat} (hn : n = c.length) (h0 : s.ev (.s 32) = some (Zj w)) (h1 : s.ev (.s 33) = some (.osl 18 n)) (h2 : lk s.H 18 = some ⟨c.map rI, 1, 3, true⟩) (h3 : lk s.H 34 = none) :
  XR Tryd.prog 23 [.s 32, .s 33] s [(18, ⟨c.map rI, 1, 3, true⟩)] [(34, ⟨(tidyR w c).map rI, 1, 3, true⟩)] [] (.osl 34 (tidyR w c).length) := by
 subst hn
 refine ⟨[Zj w, .osl 18 c.length], by simp [Zb, h0, h1], fun k b hk => ?_, fun k b hk j hj => ?_, fun x hx j hj => ?_, (fun k b hk => by cases hk), fun k b hk => ?_, fun k hk => ?_, .inl ?_⟩
 ·obtain ⟨rfl, rfl⟩ := HC hk; exact h2
 ·obtain ⟨rfl, rfl⟩ := HC hk; simp [Box.ids] at hj
 ·simp at hx; rcases hx with rfl | rfl
  ·simp [D.ids, D.sid, Zj] at hj
  ·simp [D.ids, D.sid] at hj; subst hj; rfl
 ·obtain ⟨rfl, rfl⟩ := HC hk; exact ⟨by decide, h3, fun j hj => by simp [Box.ids] at hj⟩
 ·simp [D.ids, D.sid] at hk; subst hk; rfl
 ·have h4 := OkH.rnm' (QfR (a := 500000) (b := 34) Wf Wf) (Km hw hc) (ds2 := [Zj w, Zp c]) (H2 := []) (d2 := .osl 34 (tidyR w c).length) (H2' := [(34, ⟨(tidyR w c).map rI, 1, 3, true⟩)]) rfl rfl rfl Wn
  have h5 := OkH.ofNew (H := upH [(18, ⟨c.map rI, 1, 3, true⟩)]) (ds := [Zj w, D.osl 1000018 c.length]) 3 h4 (by
   simp only [upH, List.map_cons, List.map_nil, Box.ren, YG, D.dfzT, D.dfz, Qx]
   simp [upN, rI, D.dfz, D.own, Zp, Zj]) rfl (fun r hr d hd => by obtain ⟨v, _, rfl⟩ := QhT.1 hr; simp [rI] at hd; subst hd; rfl) Wf rfl
  exact h5
theorem QfV : upN 18 = 1000018 := by unfold upN; rfl
theorem Qfv {s : St} {w : Qm} {c : List Int} (hw : Fx w) (hch : ChOk w c) {n : Nat} (hn : n = c.length) (h0 : s.ev (.s 48) = some (Zj w)) (h1 : s.ev (.s 49) = some (.osl 18 n)) (h2 : lk s.H 18 = some ⟨c.map rI, 1, 3, true⟩) :
  XR Tryd.prog 24 [.s 48, .s 49] s [(18, ⟨c.map rI, 1, 3, true⟩)] [] [(18, ⟨(nxC w c).map rI, 1, 3, true⟩)] (.bool (nxB w c)) := by
 subst hn
 refine QdO (ds := [Zj w, .osl 18 c.length]) (ds' := [Zj w, .osl 1000018 c.length]) (b' := ⟨(nxC w c).map rI, 1, 3, true⟩) (by simp [Zb, h0, h1]) (fun k b hk => ?_) (fun k b hk j hj => ?_) (fun x hx j hj => ?_) rfl rfl rfl ?_ (by simp only [Box.ren, YG]) ?_
 ·obtain ⟨rfl, rfl⟩ := HC hk; exact h2
 ·obtain ⟨rfl, rfl⟩ := HC hk; simp [Box.ids] at hj
 ·simp at hx; rcases hx with rfl | rfl
  ·simp [D.ids, D.sid, Zj] at hj
  ·simp [D.ids, D.sid] at hj; subst hj; rfl
 ·rfl
 ·refine OkH.lkc (fun k => ?_) (fun k => ?_) (Hi hw hch)
  ·simp only [upH, List.map_cons, List.map_nil, Box.ren, YG, QfV]
  ·simp only [upH, List.map_cons, List.map_nil, Box.ren, YG, QfV, Qx]
   split <;> rfl
theorem Qeu {n : Nat} : List.replicate (n : Int).toNat [D.int .i64 0] = (List.replicate n (0 : Int)).map rI := by
 rw [List.map_replicate]; rfl
theorem Qb9 {c : List Int} {i : Nat} (h : i < c.length) (e : c.take i = List.replicate i (-1)) : (c.set i (-1)).take (i + 1) = List.replicate (i + 1) (-1) := by
 rw [List.take_succ_eq_append_getElem (by simpa using h), List.take_set_of_le (Nat.le_refl _), e, List.getElem_set_self, List.replicate_succ']
end Go.Proofs
namespace Go.Proofs
open Go Go.Abs M3 M25
theorem MJ {w : Qm} (hwr : Fx w) (hm : ¬ MayW w) {most : Int} : Ok Tryd.prog 10 [Zj w, .int .i64 most] (.tup [PV [], .bool true]) := by
 refine Ok.ofT ZL Tryd.func10 QfS (QhG Z) ?_
 show TW _ _ tf10.body _ _
 refine Qd fun K hK => Zs Z Z Z (mv2 Z Z (kc2 hK Z Z ?_))
 refine Qd fun K hK => Qb Z (kc3 hK Z Z Z ?_)
 refine Qz (Qd fun K hK => QD (cs := [_]) Z Z Z Z (QK (X3 hm ▸ Z8 hwr) Z Z (.inr Z) (Zm Z (kc4 hK Z Z Z Z ?_))))
 refine QV Z (Qd fun K hK => mv2 Z Z (kc2 hK Z Z ?_))
 refine Qs (Qf ?_)
 exact Zt rfl rfl ⟨rfl, rfl⟩
theorem Ko {w : Qm} (hwr : Fx w) (hm : MayW w) {most : Int} (hE : (ZG (ZS w)).length <= 1048576) : Ok Tryd.prog 10 [Zj w, .int .i64 most] (.tup [PV (Yg (pA most) [] (allW w)).1, .bool (Yg (pA most) [] (allW w)).2]) := by
 refine Ok.ofT ZL Tryd.func10 QfS (QhG Z) ?_
 show TW _ _ tf10.body _ _
 have hv := hm.val hwr
 have hw := hv.wsm
 have hr := hv.win
 have h0 : 0 < w.length := hv.len.1
 have hwl := hw.len
 have hA := LZ hw hr h0
 refine Qd fun K hK => Zs Z Z Z (mv2 Z Z (kc2 hK Z Z ?_))
 refine Qd fun K hK => Qb Z (kc3 hK Z Z Z ?_)
 refine Qz ?_ -- 0
 refine Qd fun K hK => QD (cs := [_]) Z Z Z Z (QK ((M4 hm ▸ Z8 hwr)) Z Z (.inr Z) (Zm Z (kc4 hK Z Z Z Z ?_)))
 refine Qu Z (fun h1 => ?_) (fun h1 => ?_)
 ·rw [h1]
  simp only [qA] at h1
  (simp at h1; done)
 ·rw [h1]
  simp only [qA] at h1
  refine Qq (ks3 Z Z Z (Qd fun K hK => QD (cs := [_]) Z Z Z Z (QK (Kc hw) Z Z (.inl Z) (Zu Z (Zf Z Z Z Z Z Z Z Z (kc4 hK Z Z Z Z ?_))))))
  refine Qd fun K hK => Qe Z Z (Qt Z Z Z (QY Z QM (S0 Z Z Z Wa We We (Qb Z (kc5 hK Z Z Z Z Z ?_)))))
  refine Qz ?_ -- 1
  refine Qd fun K hK => Qb Z (kc6 hK Z Z Z Z Z Z ?_)
  refine Qw ?_
  refine Q5 (ι := Nat × List Int) (fun s => ⟨[(1, .int .i64 most), (2, .ref 2 0 0), (6, .fsl []), (7, .ref 7 0 0), (8, .osl 18 (s.2).length), (9, .int .i64 s.1)], [(2, ⟨[[.sl (w.map ZK)]], 1, 24, true⟩), (7, ⟨[Mg w], 3, 59, true⟩), (18, ⟨(s.2).map rI, 1, 3, true⟩)]⟩) (fun s => s.1 <= w.length /\ s.2.length = w.length /\ s.2.take s.1 = List.replicate s.1 (-1)) (fun s => w.length - s.1) (0, List.replicate w.length 0) ?_ ?_ ?_
  ·exact QP (l := [1, 2, 6, 7, 8, 9]) (lH := [2, 7, 18]) (kp6 rfl rfl rfl rfl rfl rfl) (Qa rfl (Qa rfl (Qa rfl Qi))) Wc (by rw [Qeu] <;> rfl) rfl
  ·exact ⟨QhR _, by simp, rfl⟩
  intro s hI
  have hsl := hI.2.1
  refine Qz ?_ -- 2
  refine Qd fun K hK => mv2 Z Z (QY Z Z (ZI Z Z (kc7 hK Z Z Z Z Z Z Z ?_)))
  refine Qu Z (fun h2 => ?_) (fun h2 => ?_)
  ·rw [h2]
   simp only [qA] at h2
   refine Qq (ks6 Z Z Z Z Z Z ?_)
   refine Qz ?_ -- 3
   refine Qw (QN fun K hK => mv2 Z Z (Z6 Z Z Z Wc Wa Wa Z (Zf Z Z (QR Wa) Z Z Z Z Z (hK _ ?_))))
   refine Ql (ks6 Z Z Z Z Z Z (QN fun K hK => Qb Z (Q0 Z Z Wb (Qb Z (hK _ ?_)))))
   refine Qk (s.1 + 1, s.2.set s.1 (-1)) ?_ ?_ ?_
   ·exact QP (l := [1, 2, 6, 7, 8, 9]) (lH := [2, 7, 18]) (kp6 rfl rfl rfl rfl rfl rfl) (Qa rfl (Qa rfl (Qa rfl Qi))) (by simp only [List.length_set] <;> rfl) (by rw [<- CQ] <;> rfl) rfl
   ·exact ⟨(Wa : s.1 + 1 <= w.length), by rw [List.length_set]; exact hsl, Qb9 Wa hI.2.2⟩
   ·show w.length - (s.1 + 1) < w.length - s.1; omega
  ·rw [h2]
   simp only [qA] at h2
   refine QU (QB (Qv (QA (ks5 Z Z Z Z Z (Qw ?_)))))
   have hs2 : s.2 = eAt w 0 := by rw [Qfi, <- QhV (Wa : s.2.length <= s.1), hI.2.2, show s.1 = w.length by omega]
   refine Q5 (ι := Nat) (fun t => ⟨[(1, .int .i64 most), (2, .ref 2 0 0), (6, .osl 6 (oR w t).length), (7, .ref 7 0 0), (8, .osl 18 (eAt w t).length)], [(2, ⟨[[.sl (w.map ZK)]], 1, 24, true⟩), (6, ⟨(oR w t).map rL, 1, 32, true⟩), (7, ⟨[Mg w], 3, 59, true⟩), (18, ⟨(eAt w t).map rI, 1, 3, true⟩)]⟩) (fun t => t < (ZG (ZS w)).length /\ Yg (pA most) [] (oR w t) = (oR w t, true)) (fun t => (ZG (ZS w)).length - t) 0 ?_ ?_ ?_
   ·exact le_trans (Yy 6 6 1 32 rfl rfl) (QP (l := [1, 2, 6, 7, 8]) (lH := [2, 6, 7, 18]) (kp5 rfl rfl rfl rfl rfl) (Qa rfl (Qa rfl (Qa rfl (Qa rfl Qi)))) (by rw [hs2] <;> rfl) (by rw [hs2] <;> rfl) rfl)
   ·exact ⟨BT w, QfA w most⟩
   intro t hJ
   have hch := Tj hJ.1
   have hcl := hch.len
   have hol := Qfx w t
   refine Qw ?_
   refine Fh (ι := Unit) (fun _ => ⟨[(1, .int .i64 most), (2, .ref 2 0 0), (6, .osl 6 (oR w (t + 1)).length), (7, .ref 7 0 0), (8, .osl 18 (eAt w t).length)], [(2, ⟨[[.sl (w.map ZK)]], 1, 24, true⟩), (6, ⟨(oR w (t + 1)).map rL, 1, 32, true⟩), (7, ⟨[Mg w], 3, 59, true⟩), (18, ⟨(eAt w t).map rI, 1, 3, true⟩)]⟩) (fun _ => Yg (pA most) [] (oR w (t + 1)) = (oR w (t + 1), true)) ?_ ?_
   ·skip
    refine Qd fun K hK => QD (cs := [_, _, _]) Z Z Z Z (Qb Z (QK (Hk hw hr hch h0) Z (QaT Z (R1 Z Z)) (.inr Z) (Qb Z ?_)))
    refine Qr (g := 31) Z (fun h3 => ?_) (fun h3 => ?_)
    ·rw [h3]
     refine Qc Z (QD (cs := [_]) Z Z Z Z (Qc Z (Qb Z (Qc Z (FY (QeH hwr Wa Z Z Z Z Z) (Qc Z (Qb Z (Qc Z (QK (ZW (a := tidyR w (eAt w t)) (b := eAt w t) (by have := LI w (eAt w t); omega)) Z (QaT (R1 Z Z) (R1 Z Z)) (.inr Z) (Qh Z Z (kc6 hK Z Z Z Z Z Z ?_)))))))))))
     refine Qu Z (fun h4 => ?_) (fun h4 => ?_)
     ·rw [h4]
      simp only [qA] at h4
      refine Qz ?_ -- 5
      refine Qd fun K hK => Qb Z (QY Z Z (Qb Z (Fw Z Z (kc6 hK Z Z Z Z Z Z ?_))))
      refine Qu Z (fun h5 => ?_) (fun h5 => ?_)
      ·rw [h5]
       simp only [qA] at h5
       refine Qd fun K hK => mv2 Z Z (Qb Z (kc2 hK Z Z ?_))
       refine Qs (Qf (ZJ (Qj (QC (Qj ?_)))))
       rw [Ph hA hJ.2 hJ.1 (Tr hm hJ.1 h3 h4) h5]
       exact Zt rfl rfl ⟨ME rfl rfl Wc rfl, rfl⟩
      ·rw [h5]
       simp only [qA] at h5
       refine Qq (ks5 Z Z Z Z Z (QbB fun K hK => ?_))
       (refine QcO (l := [_, _, _]) ?_)
       refine Qb rfl (Qb rfl (Qdr rfl rfl (fun _ h => Ka rfl Wc rfl h) rfl (.inl rfl) (fun r hr => by cases hr) We We (RY ?_)))
       (refine ⟨_, le_trans (Nx (l := [1, 2, 6, 7, 8, 43]) (lH := [2, 6, 7, 18]) 45 45 (kp6 rfl rfl rfl rfl rfl rfl) (Qa rfl (Qa rfl (Qa rfl (Qa rfl Qi)))) rfl rfl rfl Wc rfl rfl rfl rfl) (QP (fr' := [(1, .int .i64 most), (2, .ref 2 0 0), (6, .osl 6 (oR w t).length), (7, .ref 7 0 0), (8, .osl 18 (eAt w t).length), (43, .osl 6 (oR w t).length), (45, Zp (eAt w t))]) (H' := [(2, ⟨[[.sl (w.map ZK)]], 1, 24, true⟩), (6, ⟨(oR w t).map rL, 1, 32, true⟩), (7, ⟨[Mg w], 3, 59, true⟩), (18, ⟨(eAt w t).map rI, 1, 3, true⟩)]) (l := [1, 2, 6, 7, 8, 43, 45]) (lH := [2, 6, 7, 18]) (kp7 rfl rfl rfl rfl rfl rfl rfl) (Qa rfl (Qa rfl (Qa rfl (Qa rfl Qi)))) rfl rfl rfl rfl), ?_⟩)
       (refine Qav ?_)
       refine Z5 Z Z (Jc Z Z (fun _ h => Qbn Wc h) Z Wc Z Z Z We We (Qb Z (hK _ ?_)))
       refine Q9 () ?_ ?_
       ·exact QP (l := [1, 2, 6, 7, 8]) (lH := [2, 6, 7, 18]) (kp5 rfl rfl rfl rfl rfl) (Qa rfl (Qa rfl (Qa rfl (Qa rfl Qi)))) (by rw [TF hJ.1 (Tr hm hJ.1 h3 h4), List.length_append] <;> rfl) (by rw [TF hJ.1 (Tr hm hJ.1 h3 h4), List.map_append] <;> rfl) rfl
       ·exact Qev hJ.2 hJ.1 (Tr hm hJ.1 h3 h4) h5
     ·rw [h4]
      simp only [qA] at h4
      refine Qq ?_
      refine Q9 () ?_ ?_
      ·exact QP (l := [1, 2, 6, 7, 8]) (lH := [2, 6, 7, 18]) (kp5 rfl rfl rfl rfl rfl) (Qa rfl (Qa rfl (Qa rfl (Qa rfl Qi)))) (by rw [Ck hJ.1 (Sj hm hJ.1 h4)] <;> rfl) (by rw [Ck hJ.1 (Sj hm hJ.1 h4)] <;> rfl) rfl
      ·exact TS hJ.2 hJ.1 (Sj hm hJ.1 h4)
    ·rw [h3]
     refine gn4 Z Z Z Z (Yk Z (Qh Z Z (kc6 hK Z Z Z Z Z Z ?_)))
     refine Zg Z (Qq ?_)
     refine Q9 () ?_ ?_
     ·exact QP (l := [1, 2, 6, 7, 8]) (lH := [2, 6, 7, 18]) (kp5 rfl rfl rfl rfl rfl) (Qa rfl (Qa rfl (Qa rfl (Qa rfl Qi)))) (by rw [Ck hJ.1 (Si h3)] <;> rfl) (by rw [Ck hJ.1 (Si h3)] <;> rfl) rfl
     ·exact TS hJ.2 hJ.1 (Si h3)
   intro _ hQ
   refine Qd fun K hK => QD (cs := [_]) Z Z Z Z (Qb Z (FY (Qfv hwr hch Z Z Z Z) (Zm Z (kc6 hK Z Z Z Z Z Z ?_))))
   refine Qu Z (fun h6 => ?_) (fun h6 => ?_)
   ·rw [h6]
    simp only [qA] at h6
    refine Qd fun K hK => mv2 Z Z (Qb Z (kc2 hK Z Z ?_))
    refine Qs (Qj (QC (Qj ?_)))
    rw [<- Qem (t := t + 1) hA (Qct hJ.1 (by simpa using h6)), hQ]
    exact Zt rfl rfl ⟨ME rfl rfl Wc rfl, rfl⟩
   ·rw [h6]
    simp only [qA] at h6
    have hnx := Qcu hJ.1 (by simpa using h6)
    refine Qq (Ql ?_)
    refine Qk (t + 1) ?_ ?_ ?_
    ·exact QP (l := [1, 2, 6, 7, 8]) (lH := [2, 6, 7, 18]) (kp5 rfl rfl rfl rfl rfl) (Qa rfl (Qa rfl (Qa rfl (Qa rfl Qi)))) (by rw [show (eAt w t).length = (eAt w (t + 1)).length by have hz := (Tj hnx.1).len; omega] <;> rfl) (by rw [hnx.2] <;> rfl) rfl
    ·exact ⟨hnx.1, hQ⟩
    ·show (ZG (ZS w)).length - (t + 1) < (ZG (ZS w)).length - t; omega
end Go.Proofs
