/- Part 3 of the means of the proof: a verified abstract evaluator, the prepared functions, and contracts of functions. It states nothing of the claim by itself. -/
import Derived.Test.YtmlclkgmdndcdaaGreatB2
import Derived.KernelRfl
import Derived.Test.YtmlclkgmdndcdaaGreatProg
set_option linter.unusedSimpArgs false
set_option linter.unusedVariables false
namespace Go.Abs
open Go
/-! ### Walks over boxes that are lent, of which little is known -/
def Big (H : List (Nat × Box)) : Prop := ∀ k b, lk H k = some b -> 1000000 <= k
def Closed (H : List (Nat × Box)) : Prop := ∀ k b, lk H k = some b -> ∀ j ∈ b.ids, (lk H j).isSome = true
theorem Big.none {H : List (Nat × Box)} (h : Big H) {k : Nat} (hk : k < 1000000) : lk H k = none := by
 cases hh : lk H k with
 | none => rfl
 | some b => have := h k b hh; omega
theorem Qo {α : Type} {H : List (Nat × α)} {k k' : Nat} {x b : α} (h : k' ≠ k) (e : lk H k = some b) : lk ((k', x) :: H) k = some b := by rw [Qn, if_neg h]; exact e
theorem Zv {α : Type} {H : List (Nat × α)} {k k' : Nat} {x : α} (h : k' ≠ k) (e : lk H k = none) : lk ((k', x) :: H) k = none := by rw [Qn, if_neg h]; exact e
theorem Qz {α : Type} {k : Nat} {v : α} {l : List (Nat × α)} : lk ((k, v) :: l) k = some v := by rw [Qn, if_pos rfl]
theorem Big.cons {H : List (Nat × Box)} (h : Big H) {k : Nat} {b : Box} (hk : 1000000 <= k) : Big ((k, b) :: H) := fun j x hj => by
 rw [Qn] at hj
 split at hj
 ·rename_i e; subst e; exact hk
 ·exact h j x hj
theorem Q0 {H : List (Nat × Box)} {k j : Nat} {b : Box} (h : (lk H j).isSome = true) : (lk ((k, b) :: H) j).isSome = true := by
 rw [Qn]; split
 ·rfl
 ·exact h
theorem Q3 {k : Nat} {b : Box} {l : List (Nat × Box)} : (lk ((k, b) :: l) k).isSome = true := by rw [Qz]; rfl
theorem Zu {l : List (Nat × Box)} {k : Nat} {b : Box} (h : lk l k = some b) : (lk l k).isSome = true := by rw [h]; rfl
def QdB (b : Box) : Prop := b.ids = []
theorem Qan {b : Box} (h : b.pr = true) : b.ids = [] := by simp [Box.ids, h]
theorem Closed.cons {H : List (Nat × Box)} (h : Closed H) {k : Nat} {b : Box} (hb : ∀ j ∈ b.ids, (lk H j).isSome = true) : Closed ((k, b) :: H) := fun j x hj i hi => by
 rw [Qn] at hj
 split at hj
 ·cases hj; exact Q0 (hb i hi)
 ·exact Q0 (h j x hj i hi)
theorem Closed.pr {H : List (Nat × Box)} (h : Closed H) {k : Nat} {b : Box} (hb : b.pr = true) : Closed ((k, b) :: H) := h.cons fun j hj => by rw [Qan hb] at hj; cases hj
theorem Qqm {l : List Nat} {fr fr1 fr' : List (Nat × D)} {H H' : List (Nat × Box)} (hf : Zf l fr = fr1) (ef : fr1 = fr') (hH : ∀ k b, lk H' k = some b -> lk H k = some b) (hfr : ∀ p ∈ fr', ∀ k ∈ p.2.ids, (lk H' k).isSome = true) (hcl : Closed H') (hbig : ∀ k, 1000000 <= k -> (lk H k).isSome = true -> (lk H' k).isSome = true) : St.le ⟨fr, H⟩ ⟨fr', H'⟩ := by
 subst hf ef
 intro E g a w r
 exact ⟨g, r.less (fun t d h => YY l fr t d h) hH (fun t d h k hk => hfr (t, d) (ZO h) k hk) hcl hbig⟩
theorem QbD {fr fr' : List (Nat × D)} {H H' : List (Nat × Box)} (ef : fr = fr') (hH : ∀ k, lk H k = lk H' k) : St.le ⟨fr, H⟩ ⟨fr', H'⟩ := by
 subst ef; exact Qii ⟨fun _ => rfl, hH⟩
theorem Qgl {A H0 : List (Nat × Box)} {k : Nat} {b : Box} (h : lk (A ++ H0) k = some b) : (k, b) ∈ A \/ (lk A k = none /\ lk H0 k = some b) := by
 rw [Z0] at h
 split at h
 ·rename_i v hv; cases h; exact .inl (ZO hv)
 ·rename_i hv; exact .inr ⟨hv, h⟩
theorem Qsk {l : List Nat} {fr fr1 fr' : List (Nat × D)} {H A H0 : List (Nat × Box)} (hf : Zf l fr = fr1) (ef : fr1 = fr') (hA : ∀ p ∈ A, lk H p.1 = some p.2 /\ p.2.pr = true) (h0 : ∀ k b, lk A k = none -> lk H0 k = some b -> lk H k = some b) (hfr : ∀ p ∈ fr', ∀ k ∈ p.2.ids, (lk (A ++ H0) k).isSome = true) (hcl : Closed H0)
  (hbig : ∀ k, 1000000 <= k -> (lk H k).isSome = true -> (lk (A ++ H0) k).isSome = true) : St.le ⟨fr, H⟩ ⟨fr', A ++ H0⟩ := by
 have up : ∀ j, (lk H0 j).isSome = true -> (lk (A ++ H0) j).isSome = true := fun j hj => by
  rw [Z0]; split
  ·rfl
  ·exact hj
 refine Qqm hf ef (fun k b hk => ?_) hfr (fun k b hk j hj => ?_) hbig
 ·rcases Qgl hk with h | ⟨h1, h2⟩
  ·exact (hA _ h).1
  ·exact h0 k b h1 h2
 ·rcases Qgl hk with h | ⟨h1, h2⟩
  ·rw [Qan (hA _ h).2] at hj; cases hj
  ·exact up j (hcl k b h2 j hj)
theorem Qk6 {H : List (Nat × Box)} : Big (upH H) := fun k b hk => by
 obtain ⟨j, b0, rfl, _, _⟩ := YZ hk
 unfold upN; omega
theorem Qe1 {H : List (Nat × Box)} (h : Closed H) : Closed (upH H) := fun k b hk j hj => by
 obtain ⟨i, b0, rfl, h1, rfl⟩ := YZ hk
 rw [Box.ren_ids] at hj
 obtain ⟨j0, hj0, rfl⟩ := List.mem_map.1 hj
 rw [QaV, Option.isSome_map]
 exact h i b0 h1 j0 hj0
theorem Qll {P : Program} {f : Nat} {args : List Opd} {s : St} {ds ds' : List D} {HF : List (Nat × Box)} {k : Nat} {b b' : Box} {d : D} (ha : Zx s args = some ds) (hF : ∀ j x, lk HF j = some x -> lk s.H j = some x) (hcl : Closed HF) (hds : ∀ x ∈ ds, ∀ j ∈ x.ids, (lk HF j).isSome = true)
  (hk : (lk HF k).isSome = true) (hb : b.pr = true) (hd : d.ids = []) (hu : ds.map QsG = ds') (hr : b.ren upN = b') (hok : OkH P f ds' (upH HF) d ((upN k, b') :: upH HF)) : Qbt P f args s HF [] [(k, b)] d := by
 subst hu hr
 refine ⟨ds, ha, hF, hcl, hds, fun j x hj => ?_, (fun j x hj => by cases hj), (fun j hj => by rw [hd] at hj; cases hj), hok⟩
 rw [Qn] at hj
 split at hj
 ·rename_i e; cases hj; subst e; exact ⟨hk, fun i hi => by rw [Qan hb] at hi; cases hi⟩
 ·cases hj
theorem XV {H : List (Nat × Box)} {k : Nat} {b : Box} (hB : Big H) (hC : Closed H) (hk : 1000000 <= k) (hb : b.pr = true) : (∀ j, 1000000 <= j -> (lk H j).isSome = true -> (lk ((k, b) :: H) j).isSome = true) /\ (∀ j x, lk ((k, b) :: H) j = some x -> 500000 <= j /\ ∀ i ∈ x.ids, (lk ((k, b) :: H) i).isSome = true) :=
 ⟨fun _ _ h => Q0 h, fun j x hj => ⟨by have := hB.cons (b := b) hk j x hj; omega, hC.pr hb j x hj⟩⟩
theorem Qgg {l : List Nat} {fr fr1 fr' : List (Nat × D)} {B A A' H0 : List (Nat × Box)} (hf : Zf l fr = fr1) (ef : fr1 = fr') (hA : ∀ p ∈ A, lk B p.1 = some p.2 /\ p.2.pr = true) (eA : A = A') (hBA : ∀ p ∈ B, 1000000 <= p.1 -> (lk A p.1).isSome = true) (hb : Big H0) (hcl : Closed H0) (hfr : ∀ p ∈ fr', ∀ k ∈ p.2.ids, (lk (A' ++ H0) k).isSome = true) : St.le ⟨fr, B ++ H0⟩ ⟨fr', A' ++ H0⟩ := by
 subst eA
 have noB : ∀ k b, lk H0 k = some b -> lk A k = none -> lk B k = none := fun k b h1 h2 => by
  cases h : lk B k with
  | none => rfl
  | some x =>
   have := hBA (k, x) (ZO h) (hb k b h1)
   simp only at this
   rw [h2] at this; cases this
 refine Qsk hf ef (fun p hp => ?_) (fun k b h1 h2 => ?_) hfr hcl fun k hk hs => ?_
 ·obtain ⟨q1, q2⟩ := hA p hp
  exact ⟨YB q1, q2⟩
 ·rw [Y4 (noB k b h2 h1)]; exact h2
 ·rw [Z0] at hs ⊢
  cases h : lk B k with
  | some x =>
   have := hBA (k, x) (ZO h) hk
   obtain ⟨y, hy⟩ := Option.isSome_iff_exists.1 this
   simp only at hy
   rw [hy]; rfl
  | none =>
   rw [h] at hs
   cases h2 : lk A k with
   | some x => rfl
   | none => exact hs
theorem QaU {B H : List (Nat × Box)} {kg : Nat} {g : Box} (hb : Big H) (h1 : lk B kg = some g) (h2 : ∀ p ∈ B, 1000000 <= p.1 -> p.1 = kg) : ∀ k b, lk ((kg, g) :: H) k = some b -> lk (B ++ H) k = some b := fun k b hk => by
 rw [Qn] at hk
 split at hk
 ·rename_i e; cases hk; subst e; exact YB h1
 ·rename_i e
  rw [Z0]
  cases h : lk B k with
  | none => exact hk
  | some x => exact absurd (h2 (k, x) (ZO h) (hb k b hk)).symm e
def scr (k : Nat) (H : List (Nat × Box)) : List (Nat × Box) := H.map fun p => (p.1, p.2.scrub k)
theorem QjX {k : Nat} {b : Box} (h : k ∉ b.ids) : b.scrub k = b := by
 unfold Box.scrub
 split
 ·rfl
 ·rename_i hp
  have hids : b.ids = b.rows.flatMap fun r => r.flatMap D.sid := by unfold Box.ids; rw [if_neg hp]
  rw [hids] at h
  have key : ∀ rows : List (List D), (k ∉ rows.flatMap fun r => r.flatMap D.sid) -> (rows.map fun r => r.map (D.scrubC k)) = rows := by
   intro rows
   induction rows with
   | nil => intro _; rfl
   | cons r rs ih =>
    intro h'
    rw [List.flatMap_cons, List.mem_append] at h'
    rw [List.map_cons, ih (fun hh => h' (.inr hh)), Yx fun x hx => ?_]
    have hx' : k ∉ x.sid := fun hk => h' (.inl (List.mem_flatMap.2 ⟨x, hx, hk⟩))
    cases x <;> try rfl
    ·rename_i j n
     simp only [D.sid, List.mem_singleton] at hx'
     simp only [D.scrubC]
     first | rfl | rw [if_neg (fun e => hx' e.symm)] | rw [if_neg (fun e => hx' e)]
    ·rename_i j i o
     simp only [D.sid, List.mem_singleton] at hx'
     simp only [D.scrubC]
     first | rfl | rw [if_neg (fun e => hx' e.symm)] | rw [if_neg (fun e => hx' e)]
  rw [key b.rows h]
theorem Qqo {k : Nat} : ∀ {H : List (Nat × Box)} {j : Nat}, lk (scr k H) j = (lk H j).map (Box.scrub k)
 | [], _ => rfl
 | (i, b) :: H, j => by
  show (if i = j then some (b.scrub k) else lk (scr k H) j) = _
  rw [Qn, Qqo]
  split <;> rfl
theorem Qin {H : List (Nat × Box)} {k j : Nat} (hB : Big H) (hC : Closed H) (hk : k < 1000000) : lk (scr k H) j = lk H j := by
 rw [Qqo]
 cases h : lk H j with
 | none => rfl
 | some b =>
  rw [Option.map_some, QjX fun hi => ?_]
  obtain ⟨x, hx⟩ := Option.isSome_iff_exists.1 (hC j b h k hi)
  have := hB k x hx
  omega
theorem Qsm {fr : List (Nat × D)} {B H0 : List (Nat × Box)} (k : Nat) (hB : Big H0) (hC : Closed H0) (hk : k < 1000000 := by decide) : St.le ⟨fr, B ++ scr k H0⟩ ⟨fr, B ++ H0⟩ :=
 Qii ⟨fun _ => rfl, fun j => by
  show lk (B ++ scr k H0) j = lk (B ++ H0) j
  rw [Z0, Z0, Qin hB hC hk]⟩
theorem QkA {l : List Nat} {fr fr1 : List (Nat × D)} {B A H0 : List (Nat × Box)} (k t : Nat) {n : Nat} {b : Box} (hf : Zf l fr = fr1) (ht : lk fr t = some (.osl k n)) (hb : lk B k = some b) (hp : b.pr = true) (hn : n = b.rows.length) (c1 : ∀ p ∈ fr1, k ∉ p.2.ids)
  (hA : ∀ p ∈ A, p.1 ≠ k /\ lk B p.1 = some p.2 /\ p.2.pr = true) (hBA : ∀ p ∈ B, 1000000 <= p.1 -> (lk A p.1).isSome = true) (hB : Big H0) (hC : Closed H0) (hfr : ∀ p ∈ fr1, ∀ j ∈ p.2.ids, (lk (A ++ H0) j).isSome = true) (hk : k < 1000000 := by decide) : St.le ⟨fr, B ++ H0⟩ ⟨(t, .sl b.rows) :: fr1, A ++ H0⟩ := by
 intro E g a w r
 obtain ⟨g', _, r'⟩ := r.freeze k hk
 subst hf
 have hbB : lk (B ++ H0) k = some b := YB hb
 have hS : ∀ (x : D), k ∉ x.ids -> x.fz (B ++ H0) (· == k) = x := fun x hx => Qhi fun j hj => by
  simp only [beq_eq_false_iff_ne, ne_eq]; rintro rfl; exact hx hj
 have hH0k : ∀ j x, lk H0 j = some x -> k ∉ x.ids := fun j x h hi => by
  obtain ⟨y, hy⟩ := Option.isSome_iff_exists.1 (hC j x h k hi)
  have := hB k y hy
  omega
 have noB : ∀ j x, lk H0 j = some x -> lk A j = none -> lk B j = none := fun j x h1 h2 => by
  cases h : lk B j with
  | none => rfl
  | some y =>
   have := hBA (j, y) (ZO h) (hB j x h1)
   simp only at this
   rw [h2] at this; cases this
 have boxOf : ∀ j x, lk (A ++ H0) j = some x -> j ≠ k /\ lk (B ++ H0) j = some x /\ (x.pr = true \/ k ∉ x.ids) := fun j x h => by
  rcases Qgl h with h | ⟨h1, h2⟩
  ·obtain ⟨q1, q2, q3⟩ := hA _ h
   exact ⟨q1, YB q2, .inl q3⟩
  ·refine ⟨fun e => ?_, ?_, .inr (hH0k j x h2)⟩
   ·subst e; have := hB _ x h2; omega
   ·rw [Y4 (noB j x h2 h1)]; exact h2
 refine ⟨g', r'.less (fun u d h => ?_) (fun j x h => ?_) (fun u d h j hj => ?_) (fun j x h i hi => ?_) fun j hj hs => ?_⟩
 ·simp only [St.freeze, ZU]
  rw [Qn] at h
  split at h
  ·rename_i e; cases h; subst e
   rw [ht]; simp only [Option.map_some]
   congr 1
   simp only [D.fz, D.fzS, beq_self_eq_true, if_true, hbB, hp, hn, and_self]
  ·have h1 := YY l fr u d h
   rw [h1, Option.map_some, hS d (c1 (u, d) (ZO h))]
 ·obtain ⟨q1, q2, q3⟩ := boxOf j x h
  simp only [St.freeze, Qcn]
  rw [if_neg q1, ZU (Box.fz (B ++ H0) (· == k)), q2, Option.map_some]
  congr 1
  refine Xw (q3.imp id fun h3 i hi => ?_)
  simp only [beq_eq_false_iff_ne, ne_eq]; rintro rfl; exact h3 hi
 ·rw [Qn] at h
  split at h
  ·cases h; simp [D.ids, D.sid] at hj
  ·exact hfr (u, d) (ZO h) j hj
 ·rcases Qgl h with h | ⟨h1, h2⟩
  ·rw [Qan (hA _ h).2.2] at hi; cases hi
  ·have := hC j x h2 i hi
   rw [Z0]; split
   ·rfl
   ·exact this
 ·have hs' : (lk (B ++ H0) j).isSome = true := by
   simp only [St.freeze, Qcn] at hs
   rw [if_neg (by omega), ZU (Box.fz (B ++ H0) (· == k)), Option.isSome_map] at hs
   exact hs
  rw [Z0] at hs' ⊢
  cases h : lk B j with
  | some x =>
   have := hBA (j, x) (ZO h) hj
   obtain ⟨y, hy⟩ := Option.isSome_iff_exists.1 this
   simp only at hy
   rw [hy]; rfl
  | none =>
   rw [h] at hs'
   cases h2 : lk A j with
   | some x => rfl
   | none => exact hs'
section
variable {P : Program} {r : List AOper} {K : St -> Prop} {fr : List (Nat × D)} {H : List (Nat × Box)} {t : Nat}
theorem QqH {esz et bytes kk n : Nat} {x y : Opd} {b : Box} {ys : List (List D)} {q : D} {pr : Bool} (hx : St.ev ⟨fr, H⟩ x = some (.osl kk n)) (hy : St.ev ⟨fr, H⟩ y = some q) (hq : kk ∉ q.ids) (hs : St.src ⟨fr, H⟩ esz q ys pr) (hn : lk H t = none)
  (hb : lk H kk = some b) (hl : n = b.rows.length) (he : b.esz = esz) (het : b.et = et) (hbb : (n + ys.length) * bytes <= 140737488355328) (hc : n + ys.length <= 4611686018427387904)
  (k : run P .fixed r K ⟨(t, .osl t (n + ys.length)) :: fr, (t, ⟨b.rows ++ ys, esz, et, b.pr && pr⟩) :: (kk, Z7) :: H⟩) (hk0 : kk < 1000000 := by decide) (ht0 : t < 1000000 := by decide) : run P .fixed (⟨some t, .append esz et bytes x y, none⟩ :: r) K ⟨fr, H⟩ :=
 .inr (.inl ⟨_, _, _, _, ⟨t, kk, n, b, q, ys, pr, rfl, hx, hk0, hn, ht0, hb, hl, he, het, hy, hq, hs, hbb, hc, rfl, rfl, rfl, rfl⟩, rfl, k⟩)
end
/-! ### The same over boxes whose names are greater than N -/
def QtI (N : Nat) (H : List (Nat × Box)) : Prop := ∀ k b, lk H k = some b -> N <= k
def QoR (H : List (Nat × Box)) : Prop := ∀ p ∈ H, p.2.pr = true
theorem Qqy {k : Nat} : ∀ {H : List (Nat × Box)}, QoR H -> scr k H = H
 | [], _ => rfl
 | (j, b) :: H, h => by
  show (j, b.scrub k) :: scr k H = _
  have hb : b.scrub k = b := by unfold Box.scrub; rw [if_pos (h (j, b) (by simp))]
  rw [hb, Qqy fun p hp => h p (by simp [hp])]
theorem Qij {fr : List (Nat × D)} {B H0 : List (Nat × Box)} (k : Nat) (h : QoR H0) : St.le ⟨fr, B ++ scr k H0⟩ ⟨fr, B ++ H0⟩ := by rw [Qqy h]; exact le_refl _
theorem QkC {l : List Nat} {fr fr1 fr' : List (Nat × D)} {B A A' H0 : List (Nat × Box)} {N : Nat} (hf : Zf l fr = fr1) (ef : fr1 = fr') (hA : ∀ p ∈ A, lk B p.1 = some p.2) (eA : A = A') (hcA : ∀ p ∈ A', ∀ j ∈ p.2.ids, (lk (A' ++ H0) j).isSome = true) (hBA : ∀ p ∈ B, N <= p.1 -> (lk A p.1).isSome = true) (hb : QtI N H0) (hpr : QoR H0) (hfr : ∀ p ∈ fr', ∀ k ∈ p.2.ids, (lk (A' ++ H0) k).isSome = true) (hN : N <= 1000000 := by decide) : St.le ⟨fr, B ++ H0⟩ ⟨fr', A' ++ H0⟩ := by
 subst eA
 have noB : ∀ k b, lk H0 k = some b -> lk A k = none -> lk B k = none := fun k b h1 h2 => by
  cases h : lk B k with
  | none => rfl
  | some x =>
   have := hBA (k, x) (ZO h) (hb k b h1)
   simp only at this
   rw [h2] at this; cases this
 refine Qqm hf ef (fun k b hk => ?_) hfr (fun k b hk j hj => ?_) fun k hk hs => ?_
 ·rcases Qgl hk with h | ⟨h1, h2⟩
  ·exact YB (hA _ h)
  ·rw [Y4 (noB k b h2 h1)]; exact h2
 ·rcases Qgl hk with h | ⟨h1, h2⟩
  ·exact hcA _ h j hj
  ·rw [Qan (hpr _ (ZO h2))] at hj; cases hj
 ·rw [Z0] at hs ⊢
  cases h : lk B k with
  | some x =>
   have := hBA (k, x) (ZO h) (Nat.le_trans hN hk)
   obtain ⟨y, hy⟩ := Option.isSome_iff_exists.1 this
   simp only at hy
   rw [hy]; rfl
  | none =>
   rw [h] at hs
   cases h2 : lk A k with
   | some x => rfl
   | none => exact hs
/-! ### Cells told as plain slices -/
theorem canS_cell {d : D} : d.canS.isCell = d.isCell := by cases d <;> rfl
theorem QcC {d : D} : d.canS.sid = d.sid := by cases d <;> rfl
theorem RepS.canS {g : Gh} {d : D} {v : Value} (h : RepS g d v) : RepS g d.canS v := by
 cases d <;> simp only [D.canS] <;> try exact h
 simp only [RepS, RepP] at h ⊢
 obtain ⟨a0, q1, q2⟩ := h
 exact ⟨a0, _, q1, Nat.le_refl _, q2⟩
theorem CellsC.canS {g : Gh} {c : Array Value} : ∀ {off : Nat} {ds : List D}, CellsC g c off ds -> CellsC g c off (ds.map D.canS)
 | _, [], _ => by simp only [List.map_nil, CellsC]
 | off, d :: ds, h => by
  simp only [CellsC, List.map_cons] at h ⊢
  obtain ⟨⟨h1, x, h2, h3⟩, h4⟩ := h
  exact ⟨⟨canS_cell.trans h1, x, h2, h3.canS⟩, h4.canS⟩
theorem RowsC.canAt {g : Gh} {c : Array Value} : ∀ {off : Nat} {rs : List (List D)} (i : Nat), RowsC g c off rs -> RowsC g c off (rs.modify i fun r => r.map D.canS)
 | _, [], i, h => by cases i <;> exact h
 | off, r :: rs, 0, h => by
  simp only [RowsC, List.modify_zero_cons] at h ⊢
  exact ⟨h.1.canS, by rw [List.length_map]; exact h.2⟩
 | off, r :: rs, i + 1, h => by
  simp only [RowsC, List.modify_succ_cons] at h ⊢
  exact ⟨h.1, RowsC.canAt i h.2⟩
theorem Qbj {α : Type} {f : α -> α} : ∀ {l : List α} {i : Nat} {x : α}, x ∈ l.modify i f -> x ∈ l \/ ∃ y ∈ l, x = f y
 | [], i, x, h => by cases i <;> exact absurd h (by simp)
 | a :: l, 0, x, h => by
  simp only [List.modify_zero_cons, List.mem_cons] at h
  rcases h with rfl | h
  ·exact .inr ⟨a, by simp, rfl⟩
  ·exact .inl (by simp [h])
 | a :: l, i + 1, x, h => by
  simp only [List.modify_succ_cons, List.mem_cons] at h
  rcases h with rfl | h
  ·exact .inl (by simp)
  ·rcases Qbj h with h | ⟨y, hy, e⟩
   ·exact .inl (by simp [h])
   ·exact .inr ⟨y, by simp [hy], e⟩
theorem Qft {fr : List (Nat × D)} {H : List (Nat × Box)} {k : Nat} {b : Box} (i : Nat) (hb : lk H k = some b) : St.le ⟨fr, H⟩ ⟨fr, (k, { b with rows := b.rows.modify i fun r => r.map D.canS }) :: H⟩ := fun E g a w r => by
 have hsid : ∀ (r : List D), (r.map D.canS).flatMap D.sid = r.flatMap D.sid := fun r => by
  induction r with
  | nil => rfl
  | cons d r ih => rw [List.map_cons, List.flatMap_cons, List.flatMap_cons, QcC, ih]
 have hids : ∀ j, j ∈ Box.ids { b with rows := b.rows.modify i fun r => r.map D.canS } -> j ∈ b.ids := fun j hj => by
  unfold Box.ids at hj ⊢
  simp only at hj
  split at hj
  ·cases hj
  ·rename_i hp
   rw [if_neg hp]
   obtain ⟨row, hrow, hk⟩ := List.mem_flatMap.1 hj
   rcases Qbj hrow with h | ⟨y, hy, rfl⟩
   ·exact List.mem_flatMap.2 ⟨row, h, hk⟩
   ·rw [hsid] at hk; exact List.mem_flatMap.2 ⟨y, hy, hk⟩
 have hsome : ∀ j, (lk ((k, ({ b with rows := b.rows.modify i fun r => r.map D.canS } : Box)) :: H) j).isSome = (lk H j).isSome := fun j => by
  rw [Qn]; split
  ·rename_i e; subst e; rw [hb]; rfl
  ·rfl
 have hget : ∀ j b', lk ((k, ({ b with rows := b.rows.modify i fun r => r.map D.canS } : Box)) :: H) j = some b' -> (j = k /\ b' = { b with rows := b.rows.modify i fun r => r.map D.canS }) \/ (j ≠ k /\ lk H j = some b') := fun j b' h => by
  rw [Qn] at h
  split at h
  ·rename_i e; cases h; exact .inl ⟨e.symm, rfl⟩
  ·rename_i e; exact .inr ⟨Ne.symm e, h⟩
 refine ⟨g, r.nt, r.df, r.fr, fun t d h j hj => (hsome j).trans (r.wfF t d h j hj), fun j b' h i' hi => ?_, fun j b' h => ?_, fun j j' b1 b2 B e e' h1 h2 h3 h4 => ?_, r.kr, r.ext, r.kx, fun j hj => let ⟨h1, h2, h3, h4⟩ := r.kp j hj; ⟨h1, h2, h3, (hsome j).trans h4⟩⟩
 ·rcases hget j b' h with ⟨rfl, rfl⟩ | ⟨_, h⟩
  ·rw [hsome]; exact r.wfH _ b hb i' (hids i' hi)
  ·rw [hsome]; exact r.wfH j b' h i' hi
 ·rcases hget j b' h with ⟨rfl, rfl⟩ | ⟨_, h⟩
  ·obtain ⟨h1, h2, h3⟩ := r.bx _ b hb
   by_cases hr : b.rows = []
   ·have e : ({ b with rows := b.rows.modify i fun r => r.map D.canS } : Box) = b := by
     obtain ⟨rows, e1, e2, e3⟩ := b
     simp only at hr
     subst hr
     cases i <;> rfl
    rw [e]; exact ⟨h1, h2, h3⟩
   ·refine ⟨fun row hrow => ?_, fun hp row hrow d hd => ?_, .inr ?_⟩
    ·rcases Qbj hrow with h | ⟨y, hy, rfl⟩
     ·exact h1 row h
     ·rw [List.length_map]; exact h1 y hy
    ·rcases Qbj hrow with h | ⟨y, hy, rfl⟩
     ·exact h2 hp row h d hd
     ·obtain ⟨d0, hd0, rfl⟩ := List.mem_map.1 hd
      rw [QcC]; exact h2 hp y hy d0 hd0
    ·obtain ⟨_, B, c, q1, q2, q3, q4, q5⟩ := h3.resolve_left fun h => hr h.1
     refine ⟨fun e => hr ?_, B, c, q1, q2, q3, q4.canAt i, q5⟩
     have := congrArg List.length e
     simp only [List.length_modify, List.length_nil] at this
     exact List.eq_nil_of_length_eq_zero this
  ·exact r.bx j b' h
 ·have : ∀ j b', lk ((k, ({ b with rows := b.rows.modify i fun r => r.map D.canS } : Box)) :: H) j = some b' -> ∃ b'', lk H j = some b'' := fun j b' h => by
   rcases hget j b' h with ⟨rfl, _⟩ | ⟨_, h⟩
   ·exact ⟨b, hb⟩
   ·exact ⟨b', h⟩
  obtain ⟨c1, q1⟩ := this j b1 h1
  obtain ⟨c2, q2⟩ := this j' b2 h2
  exact r.inj j j' c1 c2 B e e' q1 q2 h3 h4
theorem QnT {fr fr' : List (Nat × D)} {H H' : List (Nat × Box)} (k : Nat) (hk : k < 1000000) (hF : ∀ t d, lk fr' t = some d -> ∃ d0, lk fr t = some d0 /\ d0.fz H (· == k) = d) (hH : ∀ j b, lk H' j = some b -> j ≠ k /\ ∃ b0, lk H j = some b0 /\ b0.fz H (· == k) = b)
  (wfF : ∀ t d, lk fr' t = some d -> ∀ j ∈ d.ids, (lk H' j).isSome = true) (wfH : Closed H') (hbig : ∀ j, 1000000 <= j -> (lk H j).isSome = true -> (lk H' j).isSome = true) : St.le ⟨fr, H⟩ ⟨fr', H'⟩ := by
 intro E g a w r
 obtain ⟨g', _, r'⟩ := r.freeze k hk
 refine ⟨g', r'.less (fun u d h => ?_) (fun j x h => ?_) wfF wfH fun j hj hs => hbig j hj ?_⟩
 ·obtain ⟨d0, q1, q2⟩ := hF u d h
  simp only [St.freeze, ZU, q1, Option.map_some, q2]
 ·obtain ⟨q1, b0, q2, q3⟩ := hH j x h
  simp only [St.freeze, Qcn]
  rw [if_neg q1, ZU (Box.fz H (· == k)), q2, Option.map_some, q3]
 ·simp only [St.freeze, Qcn] at hs
  rw [if_neg (by omega), ZU (Box.fz H (· == k)), Option.isSome_map] at hs
  exact hs
theorem Qre {fr fr' : List (Nat × D)} {H H' : List (Nat × Box)} (S : Nat -> Bool) (hS : ∀ k, S k = true -> k < 1000000) (hF : ∀ t d, lk fr' t = some d -> ∃ d0, lk fr t = some d0 /\ d0.fz H S = d) (hH : ∀ j b, lk H' j = some b -> S j = false /\ ∃ b0, lk H j = some b0 /\ b0.fz H S = b)
  (wfF : ∀ t d, lk fr' t = some d -> ∀ j ∈ d.ids, (lk H' j).isSome = true) (wfH : Closed H') (hbig : ∀ j, 1000000 <= j -> (lk H j).isSome = true -> (lk H' j).isSome = true) : St.le ⟨fr, H⟩ ⟨fr', H'⟩ := by
 intro E g a w r
 obtain ⟨g', _, r'⟩ := r.freezeS S hS
 refine ⟨g', r'.less (fun u d h => ?_) (fun j x h => ?_) wfF wfH fun j hj hs => hbig j hj ?_⟩
 ·obtain ⟨d0, q1, q2⟩ := hF u d h
  simp only [St.freezeS, ZU, q1, Option.map_some, q2]
 ·obtain ⟨q1, b0, q2, q3⟩ := hH j x h
  simp only [St.freezeS, Qgm]
  rw [if_neg (by rw [q1]; simp), ZU (Box.fz H S), q2, Option.map_some, q3]
 ·simp only [St.freezeS, Qgm] at hs
  split at hs
  ·cases hs
  ·rw [ZU (Box.fz H S), Option.isSome_map] at hs
   exact hs
theorem Zo (n : Nat) (p : List Nat) : Qcf n p [] = true := by simp [Qcf]
theorem Zp {n k : Nat} {R : List (Nat × List Nat)} : Qcf n [k] R = R.all fun e => e.1 != k || e.2.contains n := by simp [Qcf]
theorem Zq {n k j : Nat} {R : List (Nat × List Nat)} : Qcf n [k, j] R = ((R.all fun e => e.1 != k || e.2.contains n) && R.all fun e => e.1 != j || e.2.contains n) := by simp [Qcf]
theorem ZG {P ds : List Nat} {n k : Nat} (h : ds.contains n = true) : ((P.map fun x => (x, ds)).all fun e => e.1 != k || e.2.contains n) = true := by
 rw [List.all_eq_true]
 intro e he
 obtain ⟨x, _, rfl⟩ := List.mem_map.1 he
 rw [h, Bool.or_true]
theorem Qrf {fr : List (Nat × D)} {H : List (Nat × Box)} (t : Nat) (ht : lk fr t = some (.fsl [])) : St.le ⟨fr, H⟩ ⟨(t, .sl []) :: fr, H⟩ := by
 intro E g a w r
 refine ⟨g, { r with fr := fun u d h => ?_, wfF := fun u d h j hj => ?_ }⟩
 ·rw [Qn] at h
  split at h
  ·rename_i e; cases h; subst e
   have h1 := r.fr t (.fsl []) ht
   simp only [Rep, RepS, RepP] at h1 ⊢
   obtain ⟨a0, h2, _⟩ := h1
   exact ⟨a0, 0, h2, Nat.le_refl _, .inl trivial⟩
  ·exact r.fr u d h
 ·rw [Qn] at h
  split at h
  ·cases h; simp [D.ids, D.sid] at hj
  ·exact r.wfF u d h j hj
end Go.Abs
namespace Go.Abs
open Go
theorem Qsl {fr fr1 : List (Nat × D)} {H H1 : List (Nat × Box)} {l lH : List Nat} (kA kR : Nat) (pr' : Bool) {bA bR : Box} {rows' : List (List D)} (hf : Zf l fr = fr1) (hH : Qbg lH H = H1) (hA : lk H kA = some bA) (hR : lk H kR = some bR) (hpA : bA.pr = false) (hp : bR.pr = true)
  (hfz : (bA.rows.map fun r => r.map (D.fzS H (· == kR))) = rows') (hpr : pr' = true -> rows' ≠ [] /\ ∀ r ∈ rows', ∀ d ∈ r, d.sid = []) (hne : kA ≠ kR) (c1 : (fr1.all fun p => !p.2.ids.contains kR) = true) (c2 : (H1.all fun p => p.1 != kR && (p.2.pr || !p.2.ids.contains kR)) = true)
  (hw : wfB ((kA, ⟨rows', bA.esz, bA.et, pr'⟩) :: H1) fr1 = true) (hbk : QqU H ((kA, ⟨rows', bA.esz, bA.et, pr'⟩) :: H1) = true) (hk : kR < 1000000 := by decide) : St.le ⟨fr, H⟩ ⟨fr1, (kA, ⟨rows', bA.esz, bA.et, pr'⟩) :: H1⟩ := by
 subst hf hH
 simp only [wfB, Bool.and_eq_true, List.all_eq_true] at hw
 simp only [List.all_eq_true, Bool.not_eq_true', List.contains_eq_mem, decide_eq_false_iff_not] at c1
 simp only [List.all_eq_true, Bool.and_eq_true, Bool.or_eq_true, Bool.not_eq_true', List.contains_eq_mem, decide_eq_false_iff_not, bne_iff_ne, ne_eq] at c2
 have hsome : ∀ j, (lk ((kA, (⟨rows', bA.esz, bA.et, false⟩ : Box)) :: Qbg lH H) j).isSome = (lk ((kA, (⟨rows', bA.esz, bA.et, pr'⟩ : Box)) :: Qbg lH H) j).isSome := fun j => by
  rw [Qn, Qn]; split <;> rfl
 have hids : ∀ j, j ∈ Box.ids ⟨rows', bA.esz, bA.et, false⟩ -> (lk ((kA, (⟨rows', bA.esz, bA.et, pr'⟩ : Box)) :: Qbg lH H) j).isSome = true := fun j hj => by
  cases hc : pr'
  ·rw [hc] at hw; exact hw.2 (kA, ⟨rows', bA.esz, bA.et, false⟩) (by simp) j hj
  ·exfalso
   unfold Box.ids at hj
   simp only [Bool.false_eq_true, if_false] at hj
   obtain ⟨r, hr, hj⟩ := List.mem_flatMap.1 hj
   obtain ⟨d, hd, hj⟩ := List.mem_flatMap.1 hj
   rw [(hpr hc).2 r hr d hd] at hj; cases hj
 have h1 : St.le ⟨fr, H⟩ ⟨Zf l fr, (kA, ⟨rows', bA.esz, bA.et, false⟩) :: Qbg lH H⟩ := by
  refine QnT kR hk (fun t d h => ⟨d, YY l fr t d h, Qhi fun j hj => ?_⟩) (fun j b h => ?_) (fun t d h j hj => ?_) (fun j b h i hi => ?_) fun j hj hs => ?_
  ·simp only [beq_eq_false_iff_ne, ne_eq]; rintro rfl; exact c1 (t, d) (ZO h) hj
  ·rw [Qn] at h
   split at h
   ·rename_i e; cases h; subst e
    refine ⟨hne, bA, hA, ?_⟩
    unfold Box.fz; rw [if_neg (by rw [hpA]; simp)]
    rw [hfz, hpA]
   ·have := c2 (j, b) (ZO h)
    refine ⟨this.1, b, QcH lH H j b h, Xw (this.2.imp id fun h3 i hi => ?_)⟩
    simp only [beq_eq_false_iff_ne, ne_eq]; rintro rfl; exact h3 hi
  ·rw [hsome]; exact hw.1 (t, d) (ZO h) j hj
  ·rw [hsome]
   rw [Qn] at h
   split at h
   ·cases h; exact hids i hi
   ·exact hw.2 (j, b) (List.mem_cons_of_mem _ (ZO h)) i hi
  ·rw [hsome]; exact QfU hbk j hj hs
 cases hc : pr'
 ·exact h1
 ·refine le_trans h1 (le_trans (Qge (k := kA) (by rw [Qn, if_pos rfl]) (hpr hc).1 (hpr hc).2) (Qii ⟨fun _ => rfl, fun j => ?_⟩))
  show lk ((kA, _) :: (kA, _) :: Qbg lH H) j = lk ((kA, _) :: Qbg lH H) j
  rw [Qn, Qn, Qn]
  split <;> rfl
end Go.Abs
namespace Go.Abs
open Go
theorem Z.{u} {α : Sort u} {a : α} : a = a := rfl
theorem qB : (∀ (p : Prop) [Decidable p], (decide p = true) = p) /\ (∀ (p : Prop) [Decidable p], (decide p = false) ↔ ¬ p) /\ (∀ a b : Bool, ((!a) = b) = (a = !b)) /\ (!true) = false /\ (!false) = true := ⟨fun _ _ => decide_eq_true_eq, fun _ _ => decide_eq_false_iff_not, fun a b => by simp, rfl, rfl⟩
theorem qA : (∀ (p : Prop) [Decidable p], (decide p = true) = p) /\ (∀ (p : Prop) [Decidable p], (decide p = false) ↔ ¬ p) /\ (∀ a b : Bool, ((!a) = b) = (a = !b)) /\ (!true) = false /\ (!false) = true /\ (∀ (α β : Type) (f : α -> β) (l : List α), (l.map f).length = l.length) := ⟨qB.1, qB.2.1, qB.2.2.1, rfl, rfl, fun _ _ _ _ => List.length_map _⟩
theorem qa {p : Prop} [Decidable p] : (decide p = true) = p := decide_eq_true_eq
theorem qb {p : Prop} [Decidable p] : (decide p = false) ↔ ¬ p := decide_eq_false_iff_not
theorem qc {a b : Bool} : ((!a) = b) = (a = !b) := by simp
theorem qd : (!true) = false := rfl
theorem qe : (!false) = true := rfl
section
variable {fr : List (Nat × D)}
theorem kp1 {t0 : Nat} {d0 : D} (h0 : lk fr t0 = some d0) : Zf [t0] fr = [(t0, d0)] := Qd h0 Q7
theorem kp2 {t0 t1 : Nat} {d0 d1 : D} (h0 : lk fr t0 = some d0) (h1 : lk fr t1 = some d1) : Zf [t0, t1] fr = [(t0, d0), (t1, d1)] := Qd h0 (Qd h1 Q7)
theorem kp3 {t0 t1 t2 : Nat} {d0 d1 d2 : D} (h0 : lk fr t0 = some d0) (h1 : lk fr t1 = some d1) (h2 : lk fr t2 = some d2) : Zf [t0, t1, t2] fr = [(t0, d0), (t1, d1), (t2, d2)] := Qd h0 (Qd h1 (Qd h2 Q7))
theorem kp4 {t0 t1 t2 t3 : Nat} {d0 d1 d2 d3 : D} (h0 : lk fr t0 = some d0) (h1 : lk fr t1 = some d1) (h2 : lk fr t2 = some d2) (h3 : lk fr t3 = some d3) : Zf [t0, t1, t2, t3] fr = [(t0, d0), (t1, d1), (t2, d2), (t3, d3)] := Qd h0 (Qd h1 (Qd h2 (Qd h3 Q7)))
theorem kp5 {t0 t1 t2 t3 t4 : Nat} {d0 d1 d2 d3 d4 : D} (h0 : lk fr t0 = some d0) (h1 : lk fr t1 = some d1) (h2 : lk fr t2 = some d2) (h3 : lk fr t3 = some d3) (h4 : lk fr t4 = some d4) : Zf [t0, t1, t2, t3, t4] fr = [(t0, d0), (t1, d1), (t2, d2), (t3, d3), (t4, d4)] := Qd h0 (Qd h1 (Qd h2 (Qd h3 (Qd h4 Q7))))
theorem kp6 {t0 t1 t2 t3 t4 t5 : Nat} {d0 d1 d2 d3 d4 d5 : D} (h0 : lk fr t0 = some d0) (h1 : lk fr t1 = some d1) (h2 : lk fr t2 = some d2) (h3 : lk fr t3 = some d3) (h4 : lk fr t4 = some d4) (h5 : lk fr t5 = some d5) : Zf [t0, t1, t2, t3, t4, t5] fr = [(t0, d0), (t1, d1), (t2, d2), (t3, d3), (t4, d4), (t5, d5)] := Qd h0 (Qd h1 (Qd h2 (Qd h3 (Qd h4 (Qd h5 Q7)))))
theorem kp7 {t0 t1 t2 t3 t4 t5 t6 : Nat} {d0 d1 d2 d3 d4 d5 d6 : D} (h0 : lk fr t0 = some d0) (h1 : lk fr t1 = some d1) (h2 : lk fr t2 = some d2) (h3 : lk fr t3 = some d3) (h4 : lk fr t4 = some d4) (h5 : lk fr t5 = some d5) (h6 : lk fr t6 = some d6) : Zf [t0, t1, t2, t3, t4, t5, t6] fr = [(t0, d0), (t1, d1), (t2, d2), (t3, d3), (t4, d4), (t5, d5), (t6, d6)] := Qd h0 (Qd h1 (Qd h2 (Qd h3 (Qd h4 (Qd h5 (Qd h6 Q7))))))
theorem kp8 {t0 t1 t2 t3 t4 t5 t6 t7 : Nat} {d0 d1 d2 d3 d4 d5 d6 d7 : D} (h0 : lk fr t0 = some d0) (h1 : lk fr t1 = some d1) (h2 : lk fr t2 = some d2) (h3 : lk fr t3 = some d3) (h4 : lk fr t4 = some d4) (h5 : lk fr t5 = some d5) (h6 : lk fr t6 = some d6) (h7 : lk fr t7 = some d7) : Zf [t0, t1, t2, t3, t4, t5, t6, t7] fr = [(t0, d0), (t1, d1), (t2, d2), (t3, d3), (t4, d4), (t5, d5), (t6, d6), (t7, d7)] := Qd h0 (Qd h1 (Qd h2 (Qd h3 (Qd h4 (Qd h5 (Qd h6 (Qd h7 Q7)))))))
theorem kp9 {t0 t1 t2 t3 t4 t5 t6 t7 t8 : Nat} {d0 d1 d2 d3 d4 d5 d6 d7 d8 : D} (h0 : lk fr t0 = some d0) (h1 : lk fr t1 = some d1) (h2 : lk fr t2 = some d2) (h3 : lk fr t3 = some d3) (h4 : lk fr t4 = some d4) (h5 : lk fr t5 = some d5) (h6 : lk fr t6 = some d6) (h7 : lk fr t7 = some d7) (h8 : lk fr t8 = some d8) : Zf [t0, t1, t2, t3, t4, t5, t6, t7, t8] fr = [(t0, d0), (t1, d1), (t2, d2), (t3, d3), (t4, d4), (t5, d5), (t6, d6), (t7, d7), (t8, d8)] := Qd h0 (Qd h1 (Qd h2 (Qd h3 (Qd h4 (Qd h5 (Qd h6 (Qd h7 (Qd h8 Q7))))))))
theorem QmE {t0 t1 t2 t3 t4 t5 t6 t7 t8 t9 : Nat} {d0 d1 d2 d3 d4 d5 d6 d7 d8 d9 : D} (h0 : lk fr t0 = some d0) (h1 : lk fr t1 = some d1) (h2 : lk fr t2 = some d2) (h3 : lk fr t3 = some d3) (h4 : lk fr t4 = some d4) (h5 : lk fr t5 = some d5) (h6 : lk fr t6 = some d6) (h7 : lk fr t7 = some d7) (h8 : lk fr t8 = some d8) (h9 : lk fr t9 = some d9) : Zf [t0, t1, t2, t3, t4, t5, t6, t7, t8, t9] fr = [(t0, d0), (t1, d1), (t2, d2), (t3, d3), (t4, d4), (t5, d5), (t6, d6), (t7, d7), (t8, d8), (t9, d9)] := Qd h0 (Qd h1 (Qd h2 (Qd h3 (Qd h4 (Qd h5 (Qd h6 (Qd h7 (Qd h8 (Qd h9 Q7)))))))))
theorem QtQ {t0 t1 t2 t3 t4 t5 t6 t7 t8 t9 t10 : Nat} {d0 d1 d2 d3 d4 d5 d6 d7 d8 d9 d10 : D} (h0 : lk fr t0 = some d0) (h1 : lk fr t1 = some d1) (h2 : lk fr t2 = some d2) (h3 : lk fr t3 = some d3) (h4 : lk fr t4 = some d4) (h5 : lk fr t5 = some d5) (h6 : lk fr t6 = some d6) (h7 : lk fr t7 = some d7) (h8 : lk fr t8 = some d8) (h9 : lk fr t9 = some d9) (h10 : lk fr t10 = some d10) : Zf [t0, t1, t2, t3, t4, t5, t6, t7, t8, t9, t10] fr = [(t0, d0), (t1, d1), (t2, d2), (t3, d3), (t4, d4), (t5, d5), (t6, d6), (t7, d7), (t8, d8), (t9, d9), (t10, d10)] := Qd h0 (Qd h1 (Qd h2 (Qd h3 (Qd h4 (Qd h5 (Qd h6 (Qd h7 (Qd h8 (Qd h9 (Qd h10 Q7))))))))))
theorem Qsj {t0 t1 t2 t3 t4 t5 t6 t7 t8 t9 t10 t11 : Nat} {d0 d1 d2 d3 d4 d5 d6 d7 d8 d9 d10 d11 : D} (h0 : lk fr t0 = some d0) (h1 : lk fr t1 = some d1) (h2 : lk fr t2 = some d2) (h3 : lk fr t3 = some d3) (h4 : lk fr t4 = some d4) (h5 : lk fr t5 = some d5) (h6 : lk fr t6 = some d6) (h7 : lk fr t7 = some d7) (h8 : lk fr t8 = some d8) (h9 : lk fr t9 = some d9) (h10 : lk fr t10 = some d10) (h11 : lk fr t11 = some d11) : Zf [t0, t1, t2, t3, t4, t5, t6, t7, t8, t9, t10, t11] fr = [(t0, d0), (t1, d1), (t2, d2), (t3, d3), (t4, d4), (t5, d5), (t6, d6), (t7, d7), (t8, d8), (t9, d9), (t10, d10), (t11, d11)] := Qd h0 (Qd h1 (Qd h2 (Qd h3 (Qd h4 (Qd h5 (Qd h6 (Qd h7 (Qd h8 (Qd h9 (Qd h10 (Qd h11 Q7)))))))))))
theorem Qs1 {t0 t1 t2 t3 t4 t5 t6 t7 t8 t9 t10 t11 t12 : Nat} {d0 d1 d2 d3 d4 d5 d6 d7 d8 d9 d10 d11 d12 : D} (h0 : lk fr t0 = some d0) (h1 : lk fr t1 = some d1) (h2 : lk fr t2 = some d2) (h3 : lk fr t3 = some d3) (h4 : lk fr t4 = some d4) (h5 : lk fr t5 = some d5) (h6 : lk fr t6 = some d6) (h7 : lk fr t7 = some d7) (h8 : lk fr t8 = some d8) (h9 : lk fr t9 = some d9) (h10 : lk fr t10 = some d10) (h11 : lk fr t11 = some d11) (h12 : lk fr t12 = some d12) : Zf [t0, t1, t2, t3, t4, t5, t6, t7, t8, t9, t10, t11, t12] fr = [(t0, d0), (t1, d1), (t2, d2), (t3, d3), (t4, d4), (t5, d5), (t6, d6), (t7, d7), (t8, d8), (t9, d9), (t10, d10), (t11, d11), (t12, d12)] := Qd h0 (Qd h1 (Qd h2 (Qd h3 (Qd h4 (Qd h5 (Qd h6 (Qd h7 (Qd h8 (Qd h9 (Qd h10 (Qd h11 (Qd h12 Q7))))))))))))
theorem kp14 {t0 t1 t2 t3 t4 t5 t6 t7 t8 t9 t10 t11 t12 t13 : Nat} {d0 d1 d2 d3 d4 d5 d6 d7 d8 d9 d10 d11 d12 d13 : D} (h0 : lk fr t0 = some d0) (h1 : lk fr t1 = some d1) (h2 : lk fr t2 = some d2) (h3 : lk fr t3 = some d3) (h4 : lk fr t4 = some d4) (h5 : lk fr t5 = some d5) (h6 : lk fr t6 = some d6) (h7 : lk fr t7 = some d7) (h8 : lk fr t8 = some d8) (h9 : lk fr t9 = some d9) (h10 : lk fr t10 = some d10) (h11 : lk fr t11 = some d11) (h12 : lk fr t12 = some d12) (h13 : lk fr t13 = some d13) : Zf [t0, t1, t2, t3, t4, t5, t6, t7, t8, t9, t10, t11, t12, t13] fr = [(t0, d0), (t1, d1), (t2, d2), (t3, d3), (t4, d4), (t5, d5), (t6, d6), (t7, d7), (t8, d8), (t9, d9), (t10, d10), (t11, d11), (t12, d12), (t13, d13)] := Qd h0 (Qd h1 (Qd h2 (Qd h3 (Qd h4 (Qd h5 (Qd h6 (Qd h7 (Qd h8 (Qd h9 (Qd h10 (Qd h11 (Qd h12 (Qd h13 Q7)))))))))))))
theorem kp15 {t0 t1 t2 t3 t4 t5 t6 t7 t8 t9 t10 t11 t12 t13 t14 : Nat} {d0 d1 d2 d3 d4 d5 d6 d7 d8 d9 d10 d11 d12 d13 d14 : D} (h0 : lk fr t0 = some d0) (h1 : lk fr t1 = some d1) (h2 : lk fr t2 = some d2) (h3 : lk fr t3 = some d3) (h4 : lk fr t4 = some d4) (h5 : lk fr t5 = some d5) (h6 : lk fr t6 = some d6) (h7 : lk fr t7 = some d7) (h8 : lk fr t8 = some d8) (h9 : lk fr t9 = some d9) (h10 : lk fr t10 = some d10) (h11 : lk fr t11 = some d11) (h12 : lk fr t12 = some d12) (h13 : lk fr t13 = some d13) (h14 : lk fr t14 = some d14) : Zf [t0, t1, t2, t3, t4, t5, t6, t7, t8, t9, t10, t11, t12, t13, t14] fr = [(t0, d0), (t1, d1), (t2, d2), (t3, d3), (t4, d4), (t5, d5), (t6, d6), (t7, d7), (t8, d8), (t9, d9), (t10, d10), (t11, d11), (t12, d12), (t13, d13), (t14, d14)] := Qd h0 (Qd h1 (Qd h2 (Qd h3 (Qd h4 (Qd h5 (Qd h6 (Qd h7 (Qd h8 (Qd h9 (Qd h10 (Qd h11 (Qd h12 (Qd h13 (Qd h14 Q7))))))))))))))
theorem kp16 {t0 t1 t2 t3 t4 t5 t6 t7 t8 t9 t10 t11 t12 t13 t14 t15 : Nat} {d0 d1 d2 d3 d4 d5 d6 d7 d8 d9 d10 d11 d12 d13 d14 d15 : D} (h0 : lk fr t0 = some d0) (h1 : lk fr t1 = some d1) (h2 : lk fr t2 = some d2) (h3 : lk fr t3 = some d3) (h4 : lk fr t4 = some d4) (h5 : lk fr t5 = some d5) (h6 : lk fr t6 = some d6) (h7 : lk fr t7 = some d7) (h8 : lk fr t8 = some d8) (h9 : lk fr t9 = some d9) (h10 : lk fr t10 = some d10) (h11 : lk fr t11 = some d11) (h12 : lk fr t12 = some d12) (h13 : lk fr t13 = some d13) (h14 : lk fr t14 = some d14) (h15 : lk fr t15 = some d15) : Zf [t0, t1, t2, t3, t4, t5, t6, t7, t8, t9, t10, t11, t12, t13, t14, t15] fr = [(t0, d0), (t1, d1), (t2, d2), (t3, d3), (t4, d4), (t5, d5), (t6, d6), (t7, d7), (t8, d8), (t9, d9), (t10, d10), (t11, d11), (t12, d12), (t13, d13), (t14, d14), (t15, d15)] := Qd h0 (Qd h1 (Qd h2 (Qd h3 (Qd h4 (Qd h5 (Qd h6 (Qd h7 (Qd h8 (Qd h9 (Qd h10 (Qd h11 (Qd h12 (Qd h13 (Qd h14 (Qd h15 Q7)))))))))))))))
theorem kp17 {t0 t1 t2 t3 t4 t5 t6 t7 t8 t9 t10 t11 t12 t13 t14 t15 t16 : Nat} {d0 d1 d2 d3 d4 d5 d6 d7 d8 d9 d10 d11 d12 d13 d14 d15 d16 : D} (h0 : lk fr t0 = some d0) (h1 : lk fr t1 = some d1) (h2 : lk fr t2 = some d2) (h3 : lk fr t3 = some d3) (h4 : lk fr t4 = some d4) (h5 : lk fr t5 = some d5) (h6 : lk fr t6 = some d6) (h7 : lk fr t7 = some d7) (h8 : lk fr t8 = some d8) (h9 : lk fr t9 = some d9) (h10 : lk fr t10 = some d10) (h11 : lk fr t11 = some d11) (h12 : lk fr t12 = some d12) (h13 : lk fr t13 = some d13) (h14 : lk fr t14 = some d14) (h15 : lk fr t15 = some d15) (h16 : lk fr t16 = some d16) : Zf [t0, t1, t2, t3, t4, t5, t6, t7, t8, t9, t10, t11, t12, t13, t14, t15, t16] fr = [(t0, d0), (t1, d1), (t2, d2), (t3, d3), (t4, d4), (t5, d5), (t6, d6), (t7, d7), (t8, d8), (t9, d9), (t10, d10), (t11, d11), (t12, d12), (t13, d13), (t14, d14), (t15, d15), (t16, d16)] := Qd h0 (Qd h1 (Qd h2 (Qd h3 (Qd h4 (Qd h5 (Qd h6 (Qd h7 (Qd h8 (Qd h9 (Qd h10 (Qd h11 (Qd h12 (Qd h13 (Qd h14 (Qd h15 (Qd h16 Q7))))))))))))))))
theorem kp18 {t0 t1 t2 t3 t4 t5 t6 t7 t8 t9 t10 t11 t12 t13 t14 t15 t16 t17 : Nat} {d0 d1 d2 d3 d4 d5 d6 d7 d8 d9 d10 d11 d12 d13 d14 d15 d16 d17 : D} (h0 : lk fr t0 = some d0) (h1 : lk fr t1 = some d1) (h2 : lk fr t2 = some d2) (h3 : lk fr t3 = some d3) (h4 : lk fr t4 = some d4) (h5 : lk fr t5 = some d5) (h6 : lk fr t6 = some d6) (h7 : lk fr t7 = some d7) (h8 : lk fr t8 = some d8) (h9 : lk fr t9 = some d9) (h10 : lk fr t10 = some d10) (h11 : lk fr t11 = some d11) (h12 : lk fr t12 = some d12) (h13 : lk fr t13 = some d13) (h14 : lk fr t14 = some d14) (h15 : lk fr t15 = some d15) (h16 : lk fr t16 = some d16) (h17 : lk fr t17 = some d17) : Zf [t0, t1, t2, t3, t4, t5, t6, t7, t8, t9, t10, t11, t12, t13, t14, t15, t16, t17] fr = [(t0, d0), (t1, d1), (t2, d2), (t3, d3), (t4, d4), (t5, d5), (t6, d6), (t7, d7), (t8, d8), (t9, d9), (t10, d10), (t11, d11), (t12, d12), (t13, d13), (t14, d14), (t15, d15), (t16, d16), (t17, d17)] := Qd h0 (Qd h1 (Qd h2 (Qd h3 (Qd h4 (Qd h5 (Qd h6 (Qd h7 (Qd h8 (Qd h9 (Qd h10 (Qd h11 (Qd h12 (Qd h13 (Qd h14 (Qd h15 (Qd h16 (Qd h17 Q7)))))))))))))))))
theorem kp19 {t0 t1 t2 t3 t4 t5 t6 t7 t8 t9 t10 t11 t12 t13 t14 t15 t16 t17 t18 : Nat} {d0 d1 d2 d3 d4 d5 d6 d7 d8 d9 d10 d11 d12 d13 d14 d15 d16 d17 d18 : D} (h0 : lk fr t0 = some d0) (h1 : lk fr t1 = some d1) (h2 : lk fr t2 = some d2) (h3 : lk fr t3 = some d3) (h4 : lk fr t4 = some d4) (h5 : lk fr t5 = some d5) (h6 : lk fr t6 = some d6) (h7 : lk fr t7 = some d7) (h8 : lk fr t8 = some d8) (h9 : lk fr t9 = some d9) (h10 : lk fr t10 = some d10) (h11 : lk fr t11 = some d11) (h12 : lk fr t12 = some d12) (h13 : lk fr t13 = some d13) (h14 : lk fr t14 = some d14) (h15 : lk fr t15 = some d15) (h16 : lk fr t16 = some d16) (h17 : lk fr t17 = some d17) (h18 : lk fr t18 = some d18) : Zf [t0, t1, t2, t3, t4, t5, t6, t7, t8, t9, t10, t11, t12, t13, t14, t15, t16, t17, t18] fr = [(t0, d0), (t1, d1), (t2, d2), (t3, d3), (t4, d4), (t5, d5), (t6, d6), (t7, d7), (t8, d8), (t9, d9), (t10, d10), (t11, d11), (t12, d12), (t13, d13), (t14, d14), (t15, d15), (t16, d16), (t17, d17), (t18, d18)] := Qd h0 (Qd h1 (Qd h2 (Qd h3 (Qd h4 (Qd h5 (Qd h6 (Qd h7 (Qd h8 (Qd h9 (Qd h10 (Qd h11 (Qd h12 (Qd h13 (Qd h14 (Qd h15 (Qd h16 (Qd h17 (Qd h18 Q7))))))))))))))))))
theorem kp20 {t0 t1 t2 t3 t4 t5 t6 t7 t8 t9 t10 t11 t12 t13 t14 t15 t16 t17 t18 t19 : Nat} {d0 d1 d2 d3 d4 d5 d6 d7 d8 d9 d10 d11 d12 d13 d14 d15 d16 d17 d18 d19 : D} (h0 : lk fr t0 = some d0) (h1 : lk fr t1 = some d1) (h2 : lk fr t2 = some d2) (h3 : lk fr t3 = some d3) (h4 : lk fr t4 = some d4) (h5 : lk fr t5 = some d5) (h6 : lk fr t6 = some d6) (h7 : lk fr t7 = some d7) (h8 : lk fr t8 = some d8) (h9 : lk fr t9 = some d9) (h10 : lk fr t10 = some d10) (h11 : lk fr t11 = some d11) (h12 : lk fr t12 = some d12) (h13 : lk fr t13 = some d13) (h14 : lk fr t14 = some d14) (h15 : lk fr t15 = some d15) (h16 : lk fr t16 = some d16) (h17 : lk fr t17 = some d17) (h18 : lk fr t18 = some d18) (h19 : lk fr t19 = some d19) : Zf [t0, t1, t2, t3, t4, t5, t6, t7, t8, t9, t10, t11, t12, t13, t14, t15, t16, t17, t18, t19] fr = [(t0, d0), (t1, d1), (t2, d2), (t3, d3), (t4, d4), (t5, d5), (t6, d6), (t7, d7), (t8, d8), (t9, d9), (t10, d10), (t11, d11), (t12, d12), (t13, d13), (t14, d14), (t15, d15), (t16, d16), (t17, d17), (t18, d18), (t19, d19)] := Qd h0 (Qd h1 (Qd h2 (Qd h3 (Qd h4 (Qd h5 (Qd h6 (Qd h7 (Qd h8 (Qd h9 (Qd h10 (Qd h11 (Qd h12 (Qd h13 (Qd h14 (Qd h15 (Qd h16 (Qd h17 (Qd h18 (Qd h19 Q7)))))))))))))))))))
theorem kp21 {t0 t1 t2 t3 t4 t5 t6 t7 t8 t9 t10 t11 t12 t13 t14 t15 t16 t17 t18 t19 t20 : Nat} {d0 d1 d2 d3 d4 d5 d6 d7 d8 d9 d10 d11 d12 d13 d14 d15 d16 d17 d18 d19 d20 : D} (h0 : lk fr t0 = some d0) (h1 : lk fr t1 = some d1) (h2 : lk fr t2 = some d2) (h3 : lk fr t3 = some d3) (h4 : lk fr t4 = some d4) (h5 : lk fr t5 = some d5) (h6 : lk fr t6 = some d6) (h7 : lk fr t7 = some d7) (h8 : lk fr t8 = some d8) (h9 : lk fr t9 = some d9) (h10 : lk fr t10 = some d10) (h11 : lk fr t11 = some d11) (h12 : lk fr t12 = some d12) (h13 : lk fr t13 = some d13) (h14 : lk fr t14 = some d14) (h15 : lk fr t15 = some d15) (h16 : lk fr t16 = some d16) (h17 : lk fr t17 = some d17) (h18 : lk fr t18 = some d18) (h19 : lk fr t19 = some d19) (h20 : lk fr t20 = some d20) : Zf [t0, t1, t2, t3, t4, t5, t6, t7, t8, t9, t10, t11, t12, t13, t14, t15, t16, t17, t18, t19, t20] fr = [(t0, d0), (t1, d1), (t2, d2), (t3, d3), (t4, d4), (t5, d5), (t6, d6), (t7, d7), (t8, d8), (t9, d9), (t10, d10), (t11, d11), (t12, d12), (t13, d13), (t14, d14), (t15, d15), (t16, d16), (t17, d17), (t18, d18), (t19, d19), (t20, d20)] := Qd h0 (Qd h1 (Qd h2 (Qd h3 (Qd h4 (Qd h5 (Qd h6 (Qd h7 (Qd h8 (Qd h9 (Qd h10 (Qd h11 (Qd h12 (Qd h13 (Qd h14 (Qd h15 (Qd h16 (Qd h17 (Qd h18 (Qd h19 (Qd h20 Q7))))))))))))))))))))
theorem kp22 {t0 t1 t2 t3 t4 t5 t6 t7 t8 t9 t10 t11 t12 t13 t14 t15 t16 t17 t18 t19 t20 t21 : Nat} {d0 d1 d2 d3 d4 d5 d6 d7 d8 d9 d10 d11 d12 d13 d14 d15 d16 d17 d18 d19 d20 d21 : D} (h0 : lk fr t0 = some d0) (h1 : lk fr t1 = some d1) (h2 : lk fr t2 = some d2) (h3 : lk fr t3 = some d3) (h4 : lk fr t4 = some d4) (h5 : lk fr t5 = some d5) (h6 : lk fr t6 = some d6) (h7 : lk fr t7 = some d7) (h8 : lk fr t8 = some d8) (h9 : lk fr t9 = some d9) (h10 : lk fr t10 = some d10) (h11 : lk fr t11 = some d11) (h12 : lk fr t12 = some d12) (h13 : lk fr t13 = some d13) (h14 : lk fr t14 = some d14) (h15 : lk fr t15 = some d15) (h16 : lk fr t16 = some d16) (h17 : lk fr t17 = some d17) (h18 : lk fr t18 = some d18) (h19 : lk fr t19 = some d19) (h20 : lk fr t20 = some d20) (h21 : lk fr t21 = some d21) : Zf [t0, t1, t2, t3, t4, t5, t6, t7, t8, t9, t10, t11, t12, t13, t14, t15, t16, t17, t18, t19, t20, t21] fr = [(t0, d0), (t1, d1), (t2, d2), (t3, d3), (t4, d4), (t5, d5), (t6, d6), (t7, d7), (t8, d8), (t9, d9), (t10, d10), (t11, d11), (t12, d12), (t13, d13), (t14, d14), (t15, d15), (t16, d16), (t17, d17), (t18, d18), (t19, d19), (t20, d20), (t21, d21)] := Qd h0 (Qd h1 (Qd h2 (Qd h3 (Qd h4 (Qd h5 (Qd h6 (Qd h7 (Qd h8 (Qd h9 (Qd h10 (Qd h11 (Qd h12 (Qd h13 (Qd h14 (Qd h15 (Qd h16 (Qd h17 (Qd h18 (Qd h19 (Qd h20 (Qd h21 Q7)))))))))))))))))))))
theorem kp23 {t0 t1 t2 t3 t4 t5 t6 t7 t8 t9 t10 t11 t12 t13 t14 t15 t16 t17 t18 t19 t20 t21 t22 : Nat} {d0 d1 d2 d3 d4 d5 d6 d7 d8 d9 d10 d11 d12 d13 d14 d15 d16 d17 d18 d19 d20 d21 d22 : D} (h0 : lk fr t0 = some d0) (h1 : lk fr t1 = some d1) (h2 : lk fr t2 = some d2) (h3 : lk fr t3 = some d3) (h4 : lk fr t4 = some d4) (h5 : lk fr t5 = some d5) (h6 : lk fr t6 = some d6) (h7 : lk fr t7 = some d7) (h8 : lk fr t8 = some d8) (h9 : lk fr t9 = some d9) (h10 : lk fr t10 = some d10) (h11 : lk fr t11 = some d11) (h12 : lk fr t12 = some d12) (h13 : lk fr t13 = some d13) (h14 : lk fr t14 = some d14) (h15 : lk fr t15 = some d15) (h16 : lk fr t16 = some d16) (h17 : lk fr t17 = some d17) (h18 : lk fr t18 = some d18) (h19 : lk fr t19 = some d19) (h20 : lk fr t20 = some d20) (h21 : lk fr t21 = some d21) (h22 : lk fr t22 = some d22) : Zf [t0, t1, t2, t3, t4, t5, t6, t7, t8, t9, t10, t11, t12, t13, t14, t15, t16, t17, t18, t19, t20, t21, t22] fr = [(t0, d0), (t1, d1), (t2, d2), (t3, d3), (t4, d4), (t5, d5), (t6, d6), (t7, d7), (t8, d8), (t9, d9), (t10, d10), (t11, d11), (t12, d12), (t13, d13), (t14, d14), (t15, d15), (t16, d16), (t17, d17), (t18, d18), (t19, d19), (t20, d20), (t21, d21), (t22, d22)] := Qd h0 (Qd h1 (Qd h2 (Qd h3 (Qd h4 (Qd h5 (Qd h6 (Qd h7 (Qd h8 (Qd h9 (Qd h10 (Qd h11 (Qd h12 (Qd h13 (Qd h14 (Qd h15 (Qd h16 (Qd h17 (Qd h18 (Qd h19 (Qd h20 (Qd h21 (Qd h22 Q7))))))))))))))))))))))
theorem kp24 {t0 t1 t2 t3 t4 t5 t6 t7 t8 t9 t10 t11 t12 t13 t14 t15 t16 t17 t18 t19 t20 t21 t22 t23 : Nat} {d0 d1 d2 d3 d4 d5 d6 d7 d8 d9 d10 d11 d12 d13 d14 d15 d16 d17 d18 d19 d20 d21 d22 d23 : D} (h0 : lk fr t0 = some d0) (h1 : lk fr t1 = some d1) (h2 : lk fr t2 = some d2) (h3 : lk fr t3 = some d3) (h4 : lk fr t4 = some d4) (h5 : lk fr t5 = some d5) (h6 : lk fr t6 = some d6) (h7 : lk fr t7 = some d7) (h8 : lk fr t8 = some d8) (h9 : lk fr t9 = some d9) (h10 : lk fr t10 = some d10) (h11 : lk fr t11 = some d11) (h12 : lk fr t12 = some d12) (h13 : lk fr t13 = some d13) (h14 : lk fr t14 = some d14) (h15 : lk fr t15 = some d15) (h16 : lk fr t16 = some d16) (h17 : lk fr t17 = some d17) (h18 : lk fr t18 = some d18) (h19 : lk fr t19 = some d19) (h20 : lk fr t20 = some d20) (h21 : lk fr t21 = some d21) (h22 : lk fr t22 = some d22) (h23 : lk fr t23 = some d23) : Zf [t0, t1, t2, t3, t4, t5, t6, t7, t8, t9, t10, t11, t12, t13, t14, t15, t16, t17, t18, t19, t20, t21, t22, t23] fr = [(t0, d0), (t1, d1), (t2, d2), (t3, d3), (t4, d4), (t5, d5), (t6, d6), (t7, d7), (t8, d8), (t9, d9), (t10, d10), (t11, d11), (t12, d12), (t13, d13), (t14, d14), (t15, d15), (t16, d16), (t17, d17), (t18, d18), (t19, d19), (t20, d20), (t21, d21), (t22, d22), (t23, d23)] := Qd h0 (Qd h1 (Qd h2 (Qd h3 (Qd h4 (Qd h5 (Qd h6 (Qd h7 (Qd h8 (Qd h9 (Qd h10 (Qd h11 (Qd h12 (Qd h13 (Qd h14 (Qd h15 (Qd h16 (Qd h17 (Qd h18 (Qd h19 (Qd h20 (Qd h21 (Qd h22 (Qd h23 Q7)))))))))))))))))))))))
end
end Go.Abs
namespace Go.Proofs
open Go Go.Abs
set_option maxRecDepth 100000
abbrev oo (t : Nat) (op : AOp) : AOper := ⟨some t,op,none⟩
abbrev om (t x : Nat) : AOper := ⟨some t,.mov (.s x),none⟩
abbrev oL (t n x : Nat) : AOper := ⟨some t,.load true n (.s x),none⟩
abbrev ol (t n x : Nat) : AOper := ⟨some t,.load false n (.s x),none⟩
abbrev oA (t n x : Nat) : AOper := ⟨some t,.fieldAddr n (.s x),none⟩
abbrev oe (t n x : Nat) : AOper := ⟨some t,.extract n (.s x),none⟩
abbrev oT (t g : Nat) (op : AOp) : AOper := ⟨some t,op,some (g,true)⟩
abbrev oF (t g : Nat) (op : AOp) : AOper := ⟨some t,op,some (g,false)⟩
def tf5 : TFn := ⟨72,[.tmp 4],.seq (.region false [oo 4 (.mov (.c (.bool false)))]) [0,1] (.seq (.seq (.region false [om 11 1,oo 12 (.len (.s 11)),oo 13 (.bin .gtr false (.s 12) (.c (.int .i64 40)))]) [0,1,13] (.cond (.s 13) (.seq (.region false [oo 14 (.call 9 []),om 4 14]) [4] (.ret)) (
 .skip))) [0,1] (.seq (.region false [om 15 0,oo 16 (.call 10 [(.s 15),(.c (.int .i64 5))]),oo 5 (.alloc 26 [(.fsl [])]),⟨none,.store 1 (.s 5) (.s 16),none⟩]) [1,5] (.seq (.region true [oL 18 1 5,oL 19 1 5,oo 20 (.call 12 [(.s 19),(.c (.fsl []))]),om 21 1,oo 22 (.call 11 [(.s 18),(.s 20),(.s 21)]),
 om 17 22,oe 23 0 17,oe 24 1 17,om 6 23,om 7 24]) [5,6] (.seq (.region false [oL 25 1 5,om 26 6,oo 27 (.call 25 [(.s 25),(.s 26)]),om 8 27]) [5,6,8] (.seq (.region false [oo 9 (.mov (.c (.int .i64 0)))]) [5,6,8,9] (.seq (.seq (.region false [oo 10 (.mov (.c (.int .i64 0)))]) [5,6,8,9,10] (
 .block 0 (.loop (.seq (.seq (.region false [om 28 10,om 29 8,oo 30 (.len (.s 29)),oo 31 (.bin .lss false (.s 28) (.s 30)),om 32 31,oT 33 32 (.mov (.s 10)),oT 34 32 (.fieldAddr 0 (.s 5)),oT 35 32 (.load false 1 (.s 34)),oT 36 32 (.len (.s 35)),oT 37 32 (.bin .lss false (.s 33) (.s 36)),
 oo 38 (.pick (.s 32) (.s 37) (.c (.bool false)))]) [5,6,8,9,10,38] (.cond (.s 38) (.skip) (.exit 0))) [5,6,8,9,10] (.seq (.block 1 (.seq (.seq (.region false [om 41 8,om 42 10,oo 43 (.indexAddr 1 (.s 41) (.s 42)),ol 44 1 43,oo 45 (.bin .lss false (.s 44) (.c (.int .i64 0)))]) [5,6,8,9,10,45] (
 .cond (.s 45) (.exit 1) (.skip))) [5,6,8,9,10] (.seq (.region false [om 46 9,oo 47 (.bin .add false (.s 46) (.c (.int .i64 1))),om 9 47]) [5,6,8,9,10] (.seq (.region true [oL 48 1 5,om 49 6,om 50 10,oo 51 (.call 16 [(.s 48),(.s 49),(.s 50)]),oL 52 1 5,om 53 8,om 54 10,
 oo 55 (.call 23 [(.s 52),(.s 53),(.s 54)]),oo 56 (.bin .neq false (.s 51) (.s 55))]) [5,6,8,9,10,56] (.cond (.s 56) (.seq (.region false [oo 4 (.mov (.c (.bool false)))]) [4] (.ret)) (.skip)))))) [5,6,8,9,10] (.region false [om 39 10,oo 40 (.bin .add false (.s 39) (.c (.int .i64 1))),
 om 10 40])))))) [5,6,8,9] (.seq (.region false [om 57 8,oo 58 (.len (.s 57)),oA 59 0 5,ol 60 1 59,oo 61 (.len (.s 60)),oo 62 (.bin .eql false (.s 58) (.s 61)),om 63 62,oT 64 63 (.mov (.s 9)),oT 65 63 (.mov (.s 6)),oT 66 63 (.call 17 [(.s 65)]),oT 67 63 (.bin .eql false (.s 64) (.s 66)),
 oo 68 (.pick (.s 63) (.s 67) (.c (.bool false))),om 69 68,oT 70 69 (.call 9 []),oo 71 (.pick (.s 69) (.s 70) (.c (.bool false))),om 4 71]) [4] (.ret))))))))⟩
def tf9 : TFn := ⟨61,[.tmp 0],.seq (.region false [oo 0 (.mov (.c (.bool false)))]) [] (.seq (.region false [oo 6 (.call 38 []),oo 1 (.alloc 26 [(.fsl [])]),⟨none,.store 1 (.s 1) (.s 6),none⟩]) [1] (.seq (.region false [oL 8 1 1,
 oo 9 (.build [(.int .i64 0),(.int .i64 0)] [(0,1,(.c (.int .i64 1))),(1,1,(.c (.int .i64 1)))]),oo 10 (.call 15 [(.s 8),(.c (.fsl [])),(.s 9),(.c (.int .i64 4))]),om 7 10,oe 11 0 7,oe 12 1 7,om 2 11,om 3 12]) [1,2,3] (.seq (.region false [oL 14 1 1,om 15 2,
 oo 16 (.call 33 [(.s 14),(.s 15),(.c (.int .i64 1)),(.c (.int .i64 1))]),om 13 16,oe 17 0 13,oe 18 1 13,om 4 17,om 5 18]) [1,3,4,5] (.seq (.region false [om 19 3,om 20 19,oT 21 20 (.mov (.s 5)),oo 22 (.pick (.s 20) (.s 21) (.c (.bool false))),om 23 22,oT 24 23 (.mov (.s 4)),
 oT 25 23 (.len (.s 24)),oT 26 23 (.bin .eql false (.s 25) (.c (.int .i64 2))),oo 27 (.pick (.s 23) (.s 26) (.c (.bool false))),om 28 27,oT 29 28 (.mov (.s 4)),oT 30 28 (.indexAddr 4 (.s 29) (.c (.int .i64 0))),oT 31 28 (.load true 4 (.s 30)),
 oT 32 28 (.build [(.int .i64 0),(.int .i64 0),(.int .i64 0),(.int .i64 0)] [(0,1,(.c (.int .i64 1))),(1,1,(.c (.int .i64 6))),(2,1,(.c (.int .i64 0))),(3,1,(.c (.int .i64 4)))]),oT 33 28 (.eqs false [0,0,0,0] (.s 31) (.s 32)),oo 34 (.pick (.s 28) (.s 33) (.c (.bool false))),om 35 34,
 oT 36 35 (.mov (.s 4)),oT 37 35 (.indexAddr 4 (.s 36) (.c (.int .i64 1))),oT 38 35 (.load true 4 (.s 37)),oT 39 35 (.build [(.int .i64 0),(.int .i64 0),(.int .i64 0),(.int .i64 0)] [(0,1,(.c (.int .i64 1))),(1,1,(.c (.int .i64 4))),(2,1,(.c (.int .i64 1))),(3,1,(.c (.int .i64 (-1))))]),
 oT 40 35 (.eqs false [0,0,0,0] (.s 38) (.s 39)),oo 41 (.pick (.s 35) (.s 40) (.c (.bool false))),om 42 41,oT 43 42 (.load true 1 (.s 1)),oT 44 42 (.mov (.s 4)),oT 45 42 (.call 26 [(.s 43),(.s 44)]),oo 46 (.pick (.s 42) (.s 45) (.c (.bool false))),om 47 46,oT 48 47 (.load true 1 (.s 1)),
 oT 49 47 (.mov (.s 4)),oT 50 47 (.call 16 [(.s 48),(.s 49),(.c (.int .i64 1))]),oT 51 47 (.bin .eql false (.s 50) (.c (.int .i64 4))),oo 52 (.pick (.s 47) (.s 51) (.c (.bool false))),om 53 52,oT 54 53 (.load true 1 (.s 1)),oT 55 53 (.mov (.s 4)),
 oT 56 53 (.build [(.int .i64 0),(.int .i64 0)] [(0,1,(.c (.int .i64 1))),(1,1,(.c (.int .i64 4)))]),oT 57 53 (.buildSlice 2 35 [(.s 56)]),oT 58 53 (.call 19 [(.s 54),(.s 55),(.s 57)]),oT 59 53 (.bin .eql false (.s 58) (.c (.int .i64 2))),oo 60 (.pick (.s 53) (.s 59) (.c (.bool false))),
 om 0 60]) [0] (.ret)))))⟩
def tf10 : TFn := ⟨90,[.cell 4 true 1],.seq (.region false [oo 4 (.alloc 26 [(.fsl [])])]) [0,1,4] (.seq (.region false [om 10 0,oo 11 (.build [(.fsl []),(.int .i64 0)] [(0,1,(.s 10))]),oo 12 (.box 63 (.s 11)),om 5 12]) [1,4,5] (.seq (.region false [om 13 5,om 14 1,
 oo 15 (.call 39 [(.s 13),(.s 14)]),om 6 15]) [4,5,6] (.seq (.region true [om 16 6,oo 17 (.indexAddr 3 (.s 16) (.c (.int .i64 0))),oA 18 2 17,ol 19 1 18,om 20 5,om 21 6,oo 22 (.call 40 [(.s 20),(.s 21),(.c (.int .i64 3))]),oo 23 (.indexAddr 8 (.s 19) (.c (.int .i64 0))),oA 24 6 23,
 ⟨none,.store 1 (.s 24) (.s 22),none⟩]) [4,5,6] (.seq (.seq (.region false [oo 7 (.mov (.c (.int .i64 1)))]) [4,5,6,7] (.block 0 (.loop (.seq (.seq (.region false [om 25 7,om 26 6,oo 27 (.len (.s 26)),oo 28 (.bin .lss false (.s 25) (.s 27))]) [4,5,6,7,28] (.cond (.s 28) (.skip) (
 .exit 0))) [4,5,6,7] (.seq (.block 1 (.seq (.region false [oo 8 (.mov (.c (.int .i64 0)))]) [4,5,6,7,8] (.block 2 (.loop (.seq (.seq (.region false [om 31 8,om 32 6,om 33 7,oo 34 (.indexAddr 3 (.s 32) (.s 33)),oA 35 2 34,ol 36 1 35,oo 37 (.len (.s 36)),
 oo 38 (.bin .lss false (.s 31) (.s 37))]) [4,5,6,7,8,38] (.cond (.s 38) (.skip) (.exit 2))) [4,5,6,7,8] (.seq (.block 3 (.seq (.region false [om 41 6,om 42 7,oo 43 (.indexAddr 3 (.s 41) (.s 42)),oA 44 2 43,ol 45 1 44,om 46 8,oo 47 (.indexAddr 8 (.s 45) (.s 46)),om 9 47]) [4,5,6,7,8,9] (.seq (
 .seq (.region false [om 48 6,om 49 7,oo 50 (.indexAddr 3 (.s 48) (.s 49)),oA 51 1 50,ol 52 1 51,oo 53 (.bin .neq false (.s 52) (.c (.str [])))]) [4,5,6,7,8,9,53] (.cond (.s 53) (.region false [om 54 9,om 55 7,oo 56 (.bin .sub false (.s 55) (.c (.int .i64 1))),om 57 9,oo 58 (.nilCheck (.s 57)),
 oA 59 0 58,oL 60 5 59,oo 61 (.call 41 [(.s 60)]),oo 62 (.build [(.int .i64 0),(.fsl []),(.fsl [])] [(0,1,(.s 56)),(1,2,(.s 61))]),oo 63 (.buildSlice 3 81 [(.s 62)]),oo 64 (.buildSlice 1 69 [(.s 63)]),oo 65 (.nilCheck (.s 54)),oA 66 6 65,⟨none,.store 1 (.s 66) (.s 64),none⟩]) (
 .skip))) [4,5,6,7,8,9] (.seq (.region true [om 67 9,om 68 9,oo 69 (.nilCheck (.s 68)),oA 70 6 69,ol 71 1 70,om 72 5,om 73 6,oo 74 (.call 40 [(.s 72),(.s 73),(.c (.int .i64 2))]),oo 75 (.append 1 69 24 (.s 71) (.s 74)),oo 76 (.nilCheck (.s 67)),oA 77 6 76,
 ⟨none,.store 1 (.s 77) (.s 75),none⟩]) [4,5,6,7,8,9] (.seq (.region false [om 78 5,oo 79 (.call 42 [(.s 78),(.c (.int .i64 4))]),oo 80 (.bin .eql false (.s 79) (.c (.int .i64 0)))]) [4,5,6,7,8,9,80] (.cond (.s 80) (.region false [om 81 9,om 82 5,om 83 6,oo 84 (.call 43 [(.s 82),(.s 83)]),
 oo 85 (.buildSlice 3 81 [(.s 84)]),oo 86 (.nilCheck (.s 81)),oA 87 7 86,⟨none,.store 1 (.s 87) (.s 85),none⟩]) (.skip))))))) [4,5,6,7,8] (.region false [om 39 8,oo 40 (.bin .add false (.s 39) (.c (.int .i64 1))),om 8 40]))))))) [4,5,6,7] (.region false [om 29 7,
 oo 30 (.bin .add false (.s 29) (.c (.int .i64 1))),om 7 30])))))) [4,6] (.seq (.region false [om 88 6,oo 89 (.build [(.fsl [])] [(0,1,(.s 88))]),⟨none,.store 1 (.s 4) (.s 89),none⟩]) [4] (.ret))))))⟩
def tf11 : TFn := ⟨87,[.tmp 6,.tmp 7],.seq (.region false [oo 3 (.box 26 (.s 0)),oo 6 (.mov (.c (.fsl []))),oo 7 (.mov (.c (.int .i64 0)))]) [1,2,3] (.seq (.region false [oo 8 (.mov (.c (.fsl [])))]) [1,2,3,8] (.seq (.seq (.region false [oo 9 (.mov (.c (.int .i64 0)))]) [1,2,3,8,9] (.block 0 (
 .loop (.seq (.seq (.region false [om 17 9,om 18 2,oo 19 (.len (.s 18)),oo 20 (.bin .leq false (.s 17) (.s 19)),om 21 20,oT 22 21 (.mov (.s 9)),oT 23 21 (.bin .lss false (.s 22) (.c (.int .i64 12))),oo 24 (.pick (.s 21) (.s 23) (.c (.bool false)))]) [1,2,3,8,9,24] (.cond (.s 24) (.skip) (
 .exit 0))) [1,2,3,8,9] (.seq (.block 1 (.seq (.region false [oL 28 1 3,om 29 1,om 30 8,oo 31 (.call 44 [(.s 28),(.s 29),(.s 30)]),om 27 31,oe 32 0 27,oe 33 1 27,om 10 32,om 11 33]) [1,2,3,9,10,11] (.seq (.region false [om 34 10,om 8 34]) [1,2,3,8,9,11] (.seq (.seq (.region false [om 35 11,
 oo 36 (.bin .geq false (.s 35) (.c (.int .i64 0))),om 37 36,oF 38 37 (.mov (.s 9)),oF 39 37 (.mov (.s 2)),oF 40 37 (.len (.s 39)),oF 41 37 (.bin .eql false (.s 38) (.s 40)),oo 42 (.pick (.s 37) (.c (.bool true)) (.s 41))]) [1,2,3,8,9,11,42] (.cond (.s 42) (.seq (.region false [om 43 8,om 44 11,
 om 6 43,om 7 44]) [6,7] (.ret)) (.skip))) [1,2,3,8,9] (.seq (.region true [om 45 2,om 46 9,oo 47 (.indexAddr 1 (.s 45) (.s 46)),ol 48 1 47,oA 49 0 3,ol 50 1 49,oo 51 (.len (.s 50)),oo 52 (.call 13 [(.s 48),(.s 51)]),om 12 52]) [1,2,3,8,9,12] (.seq (.region false [oL 53 1 3,om 54 8,om 55 12,
 oo 56 (.call 14 [(.s 53),(.s 54),(.s 55)]),oo 57 (.call 45 [(.s 56)]),om 13 57]) [1,2,3,8,9,12,13] (.seq (.region false [oo 14 (.mov (.c (.int .i64 0)))]) [1,2,3,8,9,12,13,14] (.block 2 (.loop (.seq (.seq (.region false [om 58 14,om 59 13,oo 60 (.len (.s 59)),
 oo 61 (.bin .lss false (.s 58) (.s 60))]) [1,2,3,8,9,12,13,14,61] (.cond (.s 61) (.skip) (.exit 2))) [1,2,3,8,9,12,13,14] (.seq (.block 3 (.seq (.region true [oL 65 1 3,om 66 8,om 67 12,om 68 13,om 69 14,om 70 2,om 71 9,oo 72 (.indexAddr 1 (.s 70) (.s 71)),ol 73 1 72,
 oo 74 (.call 13 [(.s 73),(.c (.int .i64 7))]),oo 75 (.bin .add false (.s 69) (.s 74)),om 76 13,oo 77 (.len (.s 76)),oo 78 (.bin .rem false (.s 75) (.s 77)),oo 79 (.indexAddr 1 (.s 68) (.s 78)),ol 80 1 79,oo 81 (.call 34 [(.s 65),(.s 66),(.s 67),(.s 80)]),om 64 81,oe 82 0 64,oe 83 1 64,om 15 82,
 om 16 83]) [1,2,3,8,9,12,13,14,15,16] (.seq (.region false [om 84 16]) [1,2,3,8,9,12,13,14,15,84] (.cond (.s 84) (.seq (.region false [om 85 15,om 8 85]) [1,2,3,8,9] (.exit 2)) (.skip))))) [1,2,3,8,9,12,13,14] (.region false [om 62 14,oo 63 (.bin .add false (.s 62) (.c (.int .i64 1))),
 om 14 63])))))))))))) [1,2,3,8,9] (.region false [om 25 9,oo 26 (.bin .add false (.s 25) (.c (.int .i64 1))),om 9 26])))))) [8] (.seq (.region false [om 86 8,om 6 86,oo 7 (.mov (.c (.int .i64 (-1))))]) [6,7] (.ret))))⟩
def tf12 : TFn := ⟨66,[.tmp 4],.seq (.region false [oo 2 (.box 26 (.s 0)),oo 4 (.mov (.c (.fsl [])))]) [1,2] (.seq (.region false [oL 11 1 2,oo 12 (.call 46 [(.s 11)]),om 5 12]) [1,2,5] (.seq (.region false [oo 6 (.mov (.c (.fsl [])))]) [1,2,5,6] (.seq (.seq (
 .region false [oo 7 (.mov (.c (.int .i64 0)))]) [1,2,5,6,7] (.block 0 (.loop (.seq (.seq (.region false [om 13 7,om 14 5,oo 15 (.len (.s 14)),oo 16 (.bin .lss false (.s 13) (.s 15))]) [1,2,5,6,7,16] (.cond (.s 16) (.skip) (.exit 0))) [1,2,5,6,7] (.seq (.block 1 (.region false [om 19 6,om 20 5,
 om 21 7,oo 22 (.indexAddr 5 (.s 20) (.s 21)),oA 23 4 22,ol 24 1 23,oo 25 (.buildSlice 1 41 [(.s 24)]),oo 26 (.append 1 41 24 (.s 19) (.s 25)),om 6 26])) [1,2,5,6,7] (.region false [om 17 7,oo 18 (.bin .add false (.s 17) (.c (.int .i64 1))),om 7 18])))))) [1,2,6] (.seq (.seq (
 .region false [oo 8 (.mov (.c (.int .i64 0)))]) [1,2,6,8] (.block 2 (.loop (.seq (.seq (.region false [om 27 8,om 28 1,oo 29 (.len (.s 28)),oo 30 (.bin .lss false (.s 27) (.s 29)),om 31 30,oT 32 31 (.mov (.s 8)),oT 33 31 (.fieldAddr 0 (.s 2)),oT 34 31 (.load false 1 (.s 33)),
 oT 35 31 (.len (.s 34)),oT 36 31 (.bin .lss false (.s 32) (.s 35)),oo 37 (.pick (.s 31) (.s 36) (.c (.bool false)))]) [1,2,6,8,37] (.cond (.s 37) (.skip) (.exit 2))) [1,2,6,8] (.seq (.block 3 (.seq (.region true [oL 41 1 2,om 42 8,oL 43 1 2,om 44 8,oo 45 (.call 48 [(.s 43),(.s 44)]),oL 46 1 2,
 om 47 8,oo 48 (.call 48 [(.s 46),(.s 47)]),om 49 1,om 50 8,oo 51 (.indexAddr 1 (.s 49) (.s 50)),ol 52 1 51,oo 53 (.bin .and false (.s 48) (.s 52)),oo 54 (.bin .sub false (.s 45) (.s 53)),oo 55 (.build [(.int .i64 0),(.int .i64 0)] [(0,1,(.s 42)),(1,1,(.s 54))]),oo 56 (.buildSlice 2 35 [(.s 55)]),
 oo 57 (.call 47 [(.s 41),(.s 56)]),om 40 57,oe 58 0 40,oe 59 1 40,om 9 58,om 10 59]) [1,2,6,8,9,10] (.seq (.region false [om 60 10]) [1,2,6,8,9,60] (.cond (.s 60) (.region false [om 61 6,om 62 9,oo 63 (.buildSlice 1 41 [(.s 62)]),oo 64 (.append 1 41 24 (.s 61) (.s 63)),om 6 64]) (
 .skip))))) [1,2,6,8] (.region false [om 38 8,oo 39 (.bin .add false (.s 38) (.c (.int .i64 1))),om 8 39])))))) [6] (.seq (.region false [om 65 6,om 4 65]) [4] (.ret))))))⟩
def tf13 : TFn := ⟨17,[.tmp 4],.seq (.region false [oo 4 (.mov (.c (.int .i64 0)))]) [0,1] (.seq (.seq (.region false [om 6 1,oo 7 (.bin .lss false (.s 6) (.c (.int .i64 1)))]) [0,1,7] (.cond (.s 7) (.seq (.region false [oo 4 (.mov (.c (.int .i64 0)))]) [4] (.ret)) (.skip))) [0,1] (.seq (
 .region false [om 8 0,om 9 1,oo 10 (.bin .rem false (.s 8) (.s 9)),om 5 10]) [1,5] (.seq (.seq (.region false [om 11 5,oo 12 (.bin .lss false (.s 11) (.c (.int .i64 0)))]) [1,5,12] (.cond (.s 12) (.seq (.region false [om 13 5,om 14 1,oo 15 (.bin .add false (.s 13) (.s 14)),om 4 15]) [4] (.ret)) (
 .skip))) [5] (.seq (.region false [om 16 5,om 4 16]) [4] (.ret)))))⟩
def tf14 : TFn := ⟨41,[.tmp 6],.seq (.region false [oo 3 (.box 26 (.s 0)),oo 6 (.mov (.c (.int .i64 0)))]) [1,2,3] (.seq (.seq (.region false [om 8 1,oo 9 (.len (.s 8)),oo 10 (.bin .sub false (.s 9) (.c (.int .i64 1))),om 7 10]) [1,2,3,7] (.block 0 (.loop (.seq (.seq (.region false [om 11 7,
 oo 12 (.bin .geq false (.s 11) (.c (.int .i64 0)))]) [1,2,3,7,12] (.cond (.s 12) (.skip) (.exit 0))) [1,2,3,7] (.seq (.block 1 (.seq (.region false [om 15 1,om 16 7,oo 17 (.indexAddr 4 (.s 15) (.s 16)),oA 18 0 17,ol 19 1 18,om 20 2,oo 21 (.bin .eql false (.s 19) (.s 20)),om 22 21,
 oT 23 22 (.mov (.s 2)),oT 24 22 (.bin .geq false (.s 23) (.c (.int .i64 0))),oo 25 (.pick (.s 22) (.s 24) (.c (.bool false))),om 26 25,oT 27 26 (.mov (.s 2)),oT 28 26 (.fieldAddr 0 (.s 3)),oT 29 26 (.load false 1 (.s 28)),oT 30 26 (.len (.s 29)),oT 31 26 (.bin .lss false (.s 27) (.s 30)),
 oo 32 (.pick (.s 26) (.s 31) (.c (.bool false)))]) [1,2,3,7,32] (.cond (.s 32) (.seq (.region false [om 33 1,om 34 7,oo 35 (.indexAddr 4 (.s 33) (.s 34)),oA 36 1 35,ol 37 1 36,om 6 37]) [6] (.ret)) (.skip)))) [1,2,3,7] (.region false [om 13 7,oo 14 (.bin .sub false (.s 13) (.c (.int .i64 1))),
 om 7 14])))))) [2,3] (.seq (.region false [oL 38 1 3,om 39 2,oo 40 (.call 48 [(.s 38),(.s 39)]),om 6 40]) [6] (.ret)))⟩
def tf15 : TFn := ⟨44,[.tmp 8,.tmp 9],.seq (.region false [oo 4 (.box 26 (.s 0)),oo 6 (.box 35 (.s 2)),oo 8 (.mov (.c (.fsl []))),oo 9 (.mov (.c (.bool false)))]) [1,3,4,6] (.seq (.region false [oL 11 1 4,om 12 1,oA 13 0 6,ol 14 1 13,oo 15 (.call 16 [(.s 11),(.s 12),(.s 14)]),
 om 10 15]) [1,3,6,10] (.seq (.seq (.region false [om 16 3,oo 17 (.bin .lss false (.s 16) (.c (.int .i64 0))),om 18 17,oF 19 18 (.mov (.s 10)),oF 20 18 (.fieldAddr 1 (.s 6)),oF 21 18 (.load false 1 (.s 20)),oF 22 18 (.bin .and false (.s 19) (.s 21)),
 oF 23 18 (.bin .eql false (.s 22) (.c (.int .i64 0))),oo 24 (.pick (.s 18) (.c (.bool true)) (.s 23)),om 25 24,oF 26 25 (.mov (.s 10)),oF 27 25 (.fieldAddr 1 (.s 6)),oF 28 25 (.load false 1 (.s 27)),oF 29 25 (.bin .andNot false (.s 26) (.s 28)),
 oF 30 25 (.bin .eql false (.s 29) (.c (.int .i64 0))),oo 31 (.pick (.s 25) (.c (.bool true)) (.s 30))]) [1,3,6,10,31] (.cond (.s 31) (.seq (.region false [oo 8 (.mov (.c (.fsl []))),oo 9 (.mov (.c (.bool false)))]) [8,9] (.ret)) (.skip))) [1,3,6,10] (.seq (.region true [om 32 1,oA 33 0 6,
 ol 34 1 33,om 35 10,oA 36 1 6,ol 37 1 36,oo 38 (.bin .andNot false (.s 35) (.s 37)),om 39 1,oo 40 (.call 17 [(.s 39)]),om 41 3,oo 42 (.build [(.int .i64 0),(.int .i64 0),(.int .i64 0),(.int .i64 0)] [(0,1,(.s 34)),(1,1,(.s 38)),(2,1,(.s 40)),(3,1,(.s 41))]),oo 43 (.call 49 [(.s 32),(.s 42)]),
 om 8 43,oo 9 (.mov (.c (.bool true)))]) [8,9] (.ret))))⟩
def tf16 : TFn := ⟨15,[.tmp 6],.seq (.region false [oo 3 (.box 26 (.s 0)),oo 6 (.mov (.c (.int .i64 0)))]) [1,2,3] (.seq (.seq (.region false [oL 7 1 3,om 8 2,oo 9 (.call 50 [(.s 7),(.s 8)]),oo 10 (.bin .eql false (.s 9) (.c (.int .i64 0)))]) [1,2,3,10] (.cond (.s 10) (.seq (
 .region false [oo 6 (.mov (.c (.int .i64 0)))]) [6] (.ret)) (.skip))) [1,2,3] (.seq (.region false [oL 11 1 3,om 12 1,om 13 2,oo 14 (.call 51 [(.s 11),(.s 12),(.s 13)]),om 6 14]) [6] (.ret)))⟩
def tf17 : TFn := ⟨13,[.tmp 2],.seq (.region false [oo 2 (.mov (.c (.int .i64 0)))]) [0] (.seq (.seq (.region false [om 3 0,oo 4 (.len (.s 3)),oo 5 (.bin .eql false (.s 4) (.c (.int .i64 0)))]) [0,5] (.cond (.s 5) (.seq (.region false [oo 2 (.mov (.c (.int .i64 0)))]) [2] (.ret)) (.skip))) [0] (
 .seq (.region false [om 6 0,om 7 0,oo 8 (.len (.s 7)),oo 9 (.bin .sub false (.s 8) (.c (.int .i64 1))),oo 10 (.indexAddr 4 (.s 6) (.s 9)),oA 11 2 10,ol 12 1 11,om 2 12]) [2] (.ret)))⟩
def tf19 : TFn := ⟨89,[.tmp 6],.seq (.region false [oo 3 (.box 26 (.s 0)),oo 6 (.mov (.c (.int .i64 0)))]) [1,2,3] (.seq (.region false [om 14 2,oo 15 (.len (.s 14)),oo 16 (.makeSlice 1 3 8 [(.int .i64 0)] (.s 15) (.s 15)),om 7 16]) [1,2,3,7] (.seq (.seq (.region false [om 17 2,
 oo 18 (.len (.s 17)),oo 19 (.mov (.c (.int .i64 0)))]) [1,2,3,7,17,18,19] (.block 0 (.loop (.seq (.region false [oo 20 (.bin .lss false (.s 19) (.s 18))]) [1,2,3,7,17,18,19,20] (.seq (.cond (.s 20) (.skip) (.exit 0)) [1,2,3,7,17,18,19] (.seq (.block 1 (.seq (.region false [om 21 19,
 oo 22 (.indexAddr 2 (.s 17) (.s 19)),oL 23 2 22,oo 9 (.alloc 35 [(.int .i64 0),(.int .i64 0)]),om 8 21,⟨none,.store 2 (.s 9) (.s 23),none⟩]) [1,2,3,7,8,9,17,18,19] (.region false [om 24 7,om 25 8,oL 26 1 3,oA 27 0 9,ol 28 1 27,oo 29 (.call 50 [(.s 26),(.s 28)]),
 oo 30 (.indexAddr 1 (.s 24) (.s 25)),⟨none,.store 1 (.s 30) (.s 29),none⟩]))) [1,2,3,7,17,18,19] (.region false [oo 31 (.bin .add false (.s 19) (.c (.int .i64 1))),om 19 31]))))))) [1,2,7] (.seq (.seq (.region false [om 32 1,oo 33 (.len (.s 32)),oo 34 (.bin .add false (.s 33) (.c (.int .i64 1))),
 oo 35 (.mov (.c (.int .i64 0)))]) [1,2,7,34,35] (.block 2 (.loop (.seq (.region false [oo 36 (.bin .lss false (.s 35) (.s 34))]) [1,2,7,34,35,36] (.seq (.cond (.s 36) (.skip) (.exit 2)) [1,2,7,34,35] (.seq (.block 3 (.seq (.region false [om 37 35,om 10 37]) [1,2,7,10,34,35] (.seq (
 .region false [oo 11 (.mov (.c (.bool true)))]) [1,2,7,10,11,34,35] (.seq (.seq (.region false [om 38 2,oo 39 (.len (.s 38)),oo 40 (.mov (.c (.int .i64 0)))]) [1,2,7,10,11,34,35,38,39,40] (.block 4 (.loop (.seq (
 .region false [oo 41 (.bin .lss false (.s 40) (.s 39))]) [1,2,7,10,11,34,35,38,39,40,41] (.seq (.cond (.s 41) (.skip) (.exit 4)) [1,2,7,10,11,34,35,38,39,40] (.seq (.block 5 (.seq (.region false [om 42 40,oo 43 (.indexAddr 2 (.s 38) (.s 40)),oL 44 2 43,
 oo 13 (.alloc 35 [(.int .i64 0),(.int .i64 0)]),om 12 42,⟨none,.store 2 (.s 13) (.s 44),none⟩]) [1,2,7,10,11,12,13,34,35,38,39,40] (.seq (.seq (.region true [om 45 10,oo 46 (.bin .gtr false (.s 45) (.c (.int .i64 0))),om 47 46,oT 48 47 (.mov (.s 1)),oT 49 47 (.mov (.s 10)),
 oT 50 47 (.bin .sub false (.s 49) (.c (.int .i64 1))),oT 51 47 (.indexAddr 4 (.s 48) (.s 50)),oT 52 47 (.fieldAddr 0 (.s 51)),oT 53 47 (.load false 1 (.s 52)),oT 54 47 (.fieldAddr 0 (.s 13)),oT 55 47 (.load false 1 (.s 54)),oT 56 47 (.bin .eql false (.s 53) (.s 55)),
 oo 57 (.pick (.s 47) (.s 56) (.c (.bool false))),om 58 57,oT 59 58 (.mov (.s 7)),oT 60 58 (.mov (.s 12)),oT 61 58 (.indexAddr 1 (.s 59) (.s 60)),oT 62 58 (.load false 1 (.s 61)),oT 63 58 (.bin .neq false (.s 62) (.c (.int .i64 0))),
 oo 64 (.pick (.s 58) (.s 63) (.c (.bool false)))]) [1,2,7,10,11,12,13,34,35,38,39,40,64] (.cond (.s 64) (.region false [om 65 7,om 66 12,om 67 1,om 68 10,oo 69 (.bin .sub false (.s 68) (.c (.int .i64 1))),oo 70 (.indexAddr 4 (.s 67) (.s 69)),oA 71 1 70,ol 72 1 71,
 oo 73 (.indexAddr 1 (.s 65) (.s 66)),⟨none,.store 1 (.s 73) (.s 72),none⟩]) (.skip))) [1,2,7,10,11,12,13,34,35,38,39,40] (.region true [om 74 11,om 75 74,oT 76 75 (.mov (.s 7)),oT 77 75 (.mov (.s 12)),oT 78 75 (.indexAddr 1 (.s 76) (.s 77)),oT 79 75 (.load false 1 (.s 78)),
 oT 80 75 (.fieldAddr 1 (.s 13)),oT 81 75 (.load false 1 (.s 80)),oT 82 75 (.call 52 [(.s 79),(.s 81)]),oT 83 75 (.bin .eql false (.s 82) (.c (.int .i64 2))),oo 84 (.pick (.s 75) (.s 83) (.c (.bool false))),om 11 84])))) [1,2,7,10,11,34,35,38,39,40] (
 .region false [oo 85 (.bin .add false (.s 40) (.c (.int .i64 1))),om 40 85]))))))) [1,2,7,10,11,34,35] (.seq (.region false [om 86 11]) [1,2,7,10,34,35,86] (.cond (.s 86) (.seq (.region false [om 87 10,om 6 87]) [6] (.ret)) (.skip))))))) [1,2,7,34,35] (
 .region false [oo 88 (.bin .add false (.s 35) (.c (.int .i64 1))),om 35 88]))))))) [] (.seq (.region false [oo 6 (.mov (.c (.int .i64 (-1))))]) [6] (.ret)))))⟩
def tf23 : TFn := ⟨48,[.tmp 6],.seq (.region false [oo 3 (.box 26 (.s 0)),oo 6 (.mov (.c (.int .i64 0)))]) [1,2,3] (.seq (.seq (.region false [om 7 2,oo 8 (.bin .lss false (.s 7) (.c (.int .i64 0))),om 9 8,oF 10 9 (.mov (.s 2)),oF 11 9 (.fieldAddr 0 (.s 3)),oF 12 9 (.load false 1 (.s 11)),
 oF 13 9 (.len (.s 12)),oF 14 9 (.bin .geq false (.s 10) (.s 13)),oo 15 (.pick (.s 9) (.c (.bool true)) (.s 14)),om 16 15,oF 17 16 (.mov (.s 2)),oF 18 16 (.mov (.s 1)),oF 19 16 (.len (.s 18)),oF 20 16 (.bin .geq false (.s 17) (.s 19)),oo 21 (.pick (.s 16) (.c (.bool true)) (.s 20))]) [1,2,3,21] (
 .cond (.s 21) (.seq (.region false [oo 6 (.mov (.c (.int .i64 0)))]) [6] (.ret)) (.skip))) [1,2,3] (.seq (.seq (.region true [om 22 1,om 23 2,oo 24 (.indexAddr 1 (.s 22) (.s 23)),ol 25 1 24,oo 26 (.bin .lss false (.s 25) (.c (.int .i64 (-1)))),om 27 26,oF 28 27 (.mov (.s 1)),
 oF 29 27 (.mov (.s 2)),oF 30 27 (.indexAddr 1 (.s 28) (.s 29)),oF 31 27 (.load false 1 (.s 30)),oF 32 27 (.fieldAddr 0 (.s 3)),oF 33 27 (.load false 1 (.s 32)),oF 34 27 (.mov (.s 2)),oF 35 27 (.indexAddr 3 (.s 33) (.s 34)),oF 36 27 (.fieldAddr 2 (.s 35)),oF 37 27 (.load false 1 (.s 36)),
 oF 38 27 (.len (.s 37)),oF 39 27 (.min (.s 38) (.c (.int .i64 16))),oF 40 27 (.bin .geq false (.s 31) (.s 39)),oo 41 (.pick (.s 27) (.c (.bool true)) (.s 40))]) [1,2,41] (.cond (.s 41) (.seq (.region false [oo 6 (.mov (.c (.int .i64 0)))]) [6] (.ret)) (.skip))) [1,2] (.seq (.region false [om 42 1,
 om 43 2,oo 44 (.indexAddr 1 (.s 42) (.s 43)),ol 45 1 44,oo 46 (.bin .add false (.s 45) (.c (.int .i64 1))),oo 47 (.call 55 [(.s 46)]),om 6 47]) [6] (.ret))))⟩
def tf25 : TFn := ⟨55,[.tmp 4],.seq (.region false [oo 2 (.box 26 (.s 0)),oo 4 (.mov (.c (.fsl [])))]) [1,2,4] (.seq (.region false [oA 10 0 2,ol 11 1 10,oo 12 (.len (.s 11)),oo 13 (.makeSlice 1 3 8 [(.int .i64 0)] (.s 12) (.s 12)),oo 5 (.alloc 22 [(.fsl [])]),
 ⟨none,.store 1 (.s 5) (.s 13),none⟩]) [1,4,5] (.seq (.seq (.region false [ol 14 1 5,oo 15 (.len (.s 14)),oo 16 (.mov (.c (.int .i64 0)))]) [1,4,5,15,16] (.block 0 (.loop (.seq (.region false [oo 17 (.bin .lss false (.s 16) (.s 15))]) [1,4,5,15,16,17] (.seq (.cond (.s 17) (.skip) (
 .exit 0)) [1,4,5,15,16] (.seq (.block 1 (.seq (.region false [om 18 16,om 6 18]) [1,4,5,6,15,16] (.region false [ol 19 1 5,om 20 6,oo 21 (.indexAddr 1 (.s 19) (.s 20)),⟨none,.store 1 (.s 21) (.c (.int .i64 (-1))),none⟩]))) [1,4,5,15,16] (
 .region false [oo 22 (.bin .add false (.s 16) (.c (.int .i64 1))),om 16 22]))))))) [1,4,5] (.seq (.seq (.region false [om 23 1,oo 24 (.len (.s 23)),oo 25 (.mov (.c (.int .i64 0)))]) [4,5,23,24,25] (.block 2 (.loop (.seq (.region false [oo 26 (.bin .lss false (.s 25) (.s 24))]) [4,5,23,24,25,26] (
 .seq (.cond (.s 26) (.skip) (.exit 2)) [4,5,23,24,25] (.seq (.block 3 (.seq (.region false [oo 27 (.indexAddr 4 (.s 23) (.s 25)),oL 28 4 27,oo 8 (.alloc 60 [(.int .i64 0),(.int .i64 0),(.int .i64 0),(.int .i64 0)]),⟨none,.store 4 (.s 8) (.s 28),none⟩]) [4,5,8,23,24,25] (.seq (
 .region false [oA 29 3 8,ol 30 1 29,oo 31 (.bin .eql false (.s 30) (.c (.int .i64 (-1)))),om 32 31,oT 33 32 (.fieldAddr 0 (.s 8)),oT 34 32 (.load false 1 (.s 33)),oT 35 32 (.bin .geq false (.s 34) (.c (.int .i64 0))),oo 36 (.pick (.s 32) (.s 35) (.c (.bool false))),om 37 36,
 oT 38 37 (.fieldAddr 0 (.s 8)),oT 39 37 (.load false 1 (.s 38)),oT 40 37 (.load false 1 (.s 5)),oT 41 37 (.len (.s 40)),oT 42 37 (.bin .lss false (.s 39) (.s 41)),oo 43 (.pick (.s 37) (.s 42) (.c (.bool false)))]) [4,5,8,23,24,25,43] (.cond (.s 43) (.seq (.region false [oA 44 1 8,ol 45 1 44,
 oo 46 (.call 57 [(.s 45)])]) [4,5,8,23,24,25,46] (.block 4 (.rangeF (.s 46) 47 9 (.block 5 (.region false [ol 48 1 5,oA 49 0 8,ol 50 1 49,om 51 9,oo 52 (.indexAddr 1 (.s 48) (.s 50)),⟨none,.store 1 (.s 52) (.s 51),none⟩]))))) (.skip))))) [4,5,23,24,25] (
 .region false [oo 53 (.bin .add false (.s 25) (.c (.int .i64 1))),om 25 53]))))))) [5] (.seq (.region false [ol 54 1 5,om 4 54]) [4] (.ret)))))⟩
def tf26 : TFn := ⟨23,[.tmp 4],.seq (.region false [oo 2 (.box 26 (.s 0)),oo 4 (.mov (.c (.bool false)))]) [1,2] (.seq (.seq (.region false [om 7 1,oo 8 (.len (.s 7)),oo 9 (.mov (.c (.int .i64 0)))]) [1,2,7,8,9] (.block 0 (.loop (.seq (
 .region false [oo 10 (.bin .lss false (.s 9) (.s 8))]) [1,2,7,8,9,10] (.seq (.cond (.s 10) (.skip) (.exit 0)) [1,2,7,8,9] (.seq (.block 1 (.seq (.region false [om 11 9,oo 12 (.indexAddr 4 (.s 7) (.s 9)),oL 13 4 12,oo 6 (.alloc 60 [(.int .i64 0),(.int .i64 0),(.int .i64 0),(.int .i64 0)]),om 5 11,
 ⟨none,.store 4 (.s 6) (.s 13),none⟩]) [1,2,5,6,7,8,9] (.seq (.region true [oL 14 1 2,om 15 1,om 16 5,om 17 5,oo 18 (.slice 4 (.s 15) none (some (.s 16)) (some (.s 17))),oL 19 4 6,oo 20 (.call 58 [(.s 14),(.s 18),(.s 19)]),oo 21 (.un .not (.s 20))]) [1,2,7,8,9,21] (.cond (.s 21) (.seq (
 .region false [oo 4 (.mov (.c (.bool false)))]) [4] (.ret)) (.skip))))) [1,2,7,8,9] (.region false [oo 22 (.bin .add false (.s 9) (.c (.int .i64 1))),om 9 22]))))))) [] (.seq (.region false [oo 4 (.mov (.c (.bool true)))]) [4] (.ret)))⟩
def tf27 : TFn := ⟨13,[.tmp 2],.seq (.region false [oo 2 (.mov (.c (.int .i64 0)))]) [0] (.seq (.seq (.region false [om 3 0,oo 4 (.len (.s 3)),oo 5 (.bin .eql false (.s 4) (.c (.int .i64 0)))]) [0,5] (.cond (.s 5) (.seq (.region false [oo 2 (.mov (.c (.int .i64 0)))]) [2] (.ret)) (.skip))) [0] (
 .seq (.region false [om 6 0,om 7 0,oo 8 (.len (.s 7)),oo 9 (.bin .sub false (.s 8) (.c (.int .i64 1))),oo 10 (.indexAddr 4 (.s 6) (.s 9)),oA 11 2 10,ol 12 1 11,om 2 12]) [2] (.ret)))⟩
def tf30 : TFn := ⟨29,[.tmp 6],.seq (.region false [oo 3 (.box 26 (.s 0)),oo 6 (.mov (.c (.bool false)))]) [1,2,3] (.seq (.seq (.region false [oo 7 (.mov (.c (.int .i64 0)))]) [1,2,3,7] (.block 0 (.loop (.seq (.seq (.region false [om 8 7,om 9 2,oo 10 (.len (.s 9)),
 oo 11 (.bin .lss false (.s 8) (.s 10))]) [1,2,3,7,11] (.cond (.s 11) (.skip) (.exit 0))) [1,2,3,7] (.seq (.block 1 (.seq (.region true [oL 14 1 3,om 15 1,om 16 2,om 17 7,oo 18 (.indexAddr 2 (.s 16) (.s 17)),oA 19 0 18,ol 20 1 19,oo 21 (.call 14 [(.s 14),(.s 15),(.s 20)]),om 22 2,om 23 7,
 oo 24 (.indexAddr 2 (.s 22) (.s 23)),oA 25 1 24,ol 26 1 25,oo 27 (.call 60 [(.s 21),(.s 26)]),oo 28 (.bin .neq false (.s 27) (.c (.int .i64 2)))]) [1,2,3,7,28] (.cond (.s 28) (.seq (.region false [oo 6 (.mov (.c (.bool false)))]) [6] (.ret)) (.skip)))) [1,2,3,7] (.region false [om 12 7,
 oo 13 (.bin .add false (.s 12) (.c (.int .i64 1))),om 7 13])))))) [] (.seq (.region false [oo 6 (.mov (.c (.bool true)))]) [6] (.ret)))⟩
def tf33 : TFn := ⟨53,[.tmp 8,.tmp 9],.seq (.region false [oo 4 (.box 26 (.s 0)),oo 8 (.mov (.c (.fsl []))),oo 9 (.mov (.c (.bool false)))]) [1,2,3,4] (.seq (.seq (.region false [oL 11 1 4,om 12 2,oo 13 (.call 50 [(.s 11),(.s 12)]),oo 14 (.bin .eql false (.s 13) (.c (.int .i64 0))),om 15 14,
 oF 16 15 (.mov (.s 3)),oF 17 15 (.bin .lss false (.s 16) (.c (.int .i64 0))),oo 18 (.pick (.s 15) (.c (.bool true)) (.s 17)),om 19 18,oF 20 19 (.mov (.s 3)),oF 21 19 (.fieldAddr 0 (.s 4)),oF 22 19 (.load false 1 (.s 21)),oF 23 19 (.mov (.s 2)),oF 24 19 (.indexAddr 3 (.s 22) (.s 23)),
 oF 25 19 (.fieldAddr 2 (.s 24)),oF 26 19 (.load false 1 (.s 25)),oF 27 19 (.len (.s 26)),oF 28 19 (.bin .geq false (.s 20) (.s 27)),oo 29 (.pick (.s 19) (.c (.bool true)) (.s 28))]) [1,2,3,4,29] (.cond (.s 29) (.seq (.region false [oo 8 (.mov (.c (.fsl []))),
 oo 9 (.mov (.c (.bool false)))]) [8,9] (.ret)) (.skip))) [1,2,3,4] (.seq (.region false [om 30 3,oo 31 (.bin .add false (.s 30) (.c (.int .i64 1))),oo 32 (.bin .shl false (.c (.int .i64 1)) (.s 31)),om 10 32]) [1,2,4,10] (.seq (.seq (.region false [oL 33 1 4,om 34 1,om 35 2,
 oo 36 (.call 51 [(.s 33),(.s 34),(.s 35)]),om 37 10,oo 38 (.bin .and false (.s 36) (.s 37)),oo 39 (.bin .eql false (.s 38) (.c (.int .i64 0))),om 40 39,oF 41 40 (.mov (.s 1)),oF 42 40 (.mov (.s 2)),oF 43 40 (.call 61 [(.s 41),(.s 42)]),
 oo 44 (.pick (.s 40) (.c (.bool true)) (.s 43))]) [1,2,10,44] (.cond (.s 44) (.seq (.region false [oo 8 (.mov (.c (.fsl []))),oo 9 (.mov (.c (.bool false)))]) [8,9] (.ret)) (.skip))) [1,2,10] (.seq (.region false [om 45 1,om 46 2,om 47 10,om 48 1,oo 49 (.call 17 [(.s 48)]),
 oo 50 (.bin .add false (.s 49) (.c (.int .i64 1))),oo 51 (.build [(.int .i64 0),(.int .i64 0),(.int .i64 0),(.int .i64 0)] [(0,1,(.s 46)),(1,1,(.s 47)),(2,1,(.s 50)),(3,1,(.c (.int .i64 (-1))))]),oo 52 (.call 49 [(.s 45),(.s 51)]),om 8 52,oo 9 (.mov (.c (.bool true)))]) [8,9] (.ret)))))⟩
def tf34 : TFn := ⟨53,[.tmp 8,.tmp 9],.seq (.region false [oo 4 (.box 26 (.s 0)),oo 8 (.mov (.c (.fsl []))),oo 9 (.mov (.c (.bool false)))]) [1,2,3,4] (.seq (.seq (.region false [om 11 2,oo 12 (.bin .lss false (.s 11) (.c (.int .i64 0))),om 13 12,oF 14 13 (.mov (.s 2)),
 oF 15 13 (.fieldAddr 0 (.s 4)),oF 16 13 (.load false 1 (.s 15)),oF 17 13 (.len (.s 16)),oF 18 13 (.bin .geq false (.s 14) (.s 17)),oo 19 (.pick (.s 13) (.c (.bool true)) (.s 18)),om 20 19,oF 21 20 (.mov (.s 3)),oF 22 20 (.bin .lss false (.s 21) (.c (.int .i64 0))),
 oo 23 (.pick (.s 20) (.c (.bool true)) (.s 22)),om 24 23,oF 25 24 (.mov (.s 3)),oF 26 24 (.fieldAddr 0 (.s 4)),oF 27 24 (.load false 1 (.s 26)),oF 28 24 (.mov (.s 2)),oF 29 24 (.indexAddr 3 (.s 27) (.s 28)),oF 30 24 (.fieldAddr 2 (.s 29)),oF 31 24 (.load false 1 (.s 30)),oF 32 24 (.len (.s 31)),
 oF 33 24 (.bin .geq false (.s 25) (.s 32)),oo 34 (.pick (.s 24) (.c (.bool true)) (.s 33))]) [1,2,3,4,34] (.cond (.s 34) (.seq (.region false [oo 8 (.mov (.c (.fsl []))),oo 9 (.mov (.c (.bool false)))]) [8,9] (.ret)) (.skip))) [1,2,3,4] (.seq (.region false [om 35 2,om 36 3,
 oo 37 (.conv .u64 (.s 36)),oo 38 (.bin .shl false (.c (.int .i64 2)) (.s 37)),om 39 1,oo 40 (.call 27 [(.s 39)]),oo 41 (.bin .add false (.s 40) (.c (.int .i64 1))),
 oo 42 (.build [(.int .i64 0),(.int .i64 0),(.int .i64 0),(.int .i64 0)] [(0,1,(.s 35)),(1,1,(.s 38)),(2,1,(.s 41)),(3,1,(.c (.int .i64 (-1))))]),oo 10 (.alloc 60 [(.int .i64 0),(.int .i64 0),(.int .i64 0),(.int .i64 0)]),⟨none,.store 4 (.s 10) (.s 42),none⟩]) [1,4,10] (.seq (.seq (
 .region false [oL 43 1 4,om 44 1,oL 45 4 10,oo 46 (.call 62 [(.s 43),(.s 44),(.s 45)]),oo 47 (.un .not (.s 46))]) [1,10,47] (.cond (.s 47) (.seq (.region false [oo 8 (.mov (.c (.fsl []))),oo 9 (.mov (.c (.bool false)))]) [8,9] (.ret)) (.skip))) [1,10] (.seq (.region true [om 48 1,
 oo 49 (.append 4 60 32 (.c (.fsl [])) (.s 48)),oL 50 4 10,oo 51 (.buildSlice 4 60 [(.s 50)]),oo 52 (.append 4 60 32 (.s 49) (.s 51)),om 8 52,oo 9 (.mov (.c (.bool true)))]) [8,9] (.ret)))))⟩
def tf35 : TFn := ⟨58,[.tmp 8,.tmp 9],.seq (.region false [oo 4 (.box 26 (.s 0)),oo 6 (.box 35 (.s 2)),oo 8 (.mov (.c (.fsl []))),oo 9 (.mov (.c (.bool false)))]) [1,3,4,6] (.seq (.seq (.region false [om 12 3,oo 13 (.bin .lss false (.s 12) (.c (.int .i64 0))),om 14 13,
 oF 15 14 (.fieldAddr 0 (.s 6)),oF 16 14 (.load false 1 (.s 15)),oF 17 14 (.bin .lss false (.s 16) (.c (.int .i64 0))),oo 18 (.pick (.s 14) (.c (.bool true)) (.s 17)),om 19 18,oF 20 19 (.fieldAddr 0 (.s 6)),oF 21 19 (.load false 1 (.s 20)),oF 22 19 (.fieldAddr 0 (.s 4)),
 oF 23 19 (.load false 1 (.s 22)),oF 24 19 (.len (.s 23)),oF 25 19 (.bin .geq false (.s 21) (.s 24)),oo 26 (.pick (.s 19) (.c (.bool true)) (.s 25))]) [1,3,4,6,26] (.cond (.s 26) (.seq (.region false [oo 8 (.mov (.c (.fsl []))),oo 9 (.mov (.c (.bool false)))]) [8,9] (.ret)) (.skip))) [1,3,4,6] (
 .seq (.region false [oL 27 1 4,om 28 1,oA 29 0 6,ol 30 1 29,oo 31 (.call 14 [(.s 27),(.s 28),(.s 30)]),om 10 31]) [1,3,6,10] (.seq (.region true [oA 32 0 6,ol 33 1 32,om 34 10,om 35 10,oA 36 1 6,ol 37 1 36,oo 38 (.bin .and false (.s 35) (.s 37)),oo 39 (.bin .sub false (.s 34) (.s 38)),om 40 1,
 oo 41 (.call 27 [(.s 40)]),om 42 3,oo 43 (.build [(.int .i64 0),(.int .i64 0),(.int .i64 0),(.int .i64 0)] [(0,1,(.s 33)),(1,1,(.s 39)),(2,1,(.s 41)),(3,1,(.s 42))]),oo 11 (.alloc 60 [(.int .i64 0),(.int .i64 0),(.int .i64 0),(.int .i64 0)]),⟨none,.store 4 (.s 11) (.s 43),none⟩]) [1,10,11] (.seq (
 .seq (.region false [oA 44 1 11,ol 45 1 44,oo 46 (.bin .eql false (.s 45) (.c (.int .i64 0))),om 47 46,oF 48 47 (.fieldAddr 1 (.s 11)),oF 49 47 (.load false 1 (.s 48)),oF 50 47 (.mov (.s 10)),oF 51 47 (.bin .eql false (.s 49) (.s 50)),oo 52 (.pick (.s 47) (.c (.bool true)) (.s 51))]) [1,11,52] (
 .cond (.s 52) (.seq (.region false [oo 8 (.mov (.c (.fsl []))),oo 9 (.mov (.c (.bool false)))]) [8,9] (.ret)) (.skip))) [1,11] (.seq (.region true [om 53 1,oo 54 (.append 4 60 32 (.c (.fsl [])) (.s 53)),oL 55 4 11,oo 56 (.buildSlice 4 60 [(.s 55)]),oo 57 (.append 4 60 32 (.s 54) (.s 56)),om 8 57,
 oo 9 (.mov (.c (.bool true)))]) [8,9] (.ret))))))⟩
def tf38 : TFn := ⟨18,[.cell 0 true 1],.seq (.region false [oo 0 (.alloc 26 [(.fsl [])])]) [0] (.seq (.region false [oo 2 (.call 66 []),om 1 2]) [0,1] (.seq (
 .region true [oo 3 (.build [(.int .i64 0),(.int .i64 0),(.int .i64 0),(.str []),(.str []),(.int .i64 0),(.fsl []),(.fsl [])] [(5,1,(.c (.int .i64 (-1))))]),oo 4 (.buildSlice 8 71 [(.s 3)]),oo 5 (.build [(.str []),(.str []),(.fsl [])] [(2,1,(.s 4))]),om 6 1,
 oo 7 (.indexAddr 5 (.s 6) (.c (.int .i64 0))),oL 8 5 7,oo 9 (.build [(.int .i64 0),(.int .i64 0),(.int .i64 0),(.str []),(.str []),(.int .i64 0),(.fsl []),(.fsl [])] [(0,5,(.s 8))]),om 10 1,oo 11 (.indexAddr 5 (.s 10) (.c (.int .i64 1))),oL 12 5 11,
 oo 13 (.build [(.int .i64 0),(.int .i64 0),(.int .i64 0),(.str []),(.str []),(.int .i64 0),(.fsl []),(.fsl [])] [(0,5,(.s 12))]),oo 14 (.buildSlice 8 71 [(.s 9),(.s 13)]),oo 15 (.build [(.str []),(.str []),(.fsl [])] [(0,1,(.c (.str [97,110,116]))),(2,1,(.s 14))]),
 oo 16 (.buildSlice 3 74 [(.s 5),(.s 15)]),oo 17 (.build [(.fsl [])] [(0,1,(.s 16))]),⟨none,.store 1 (.s 0) (.s 17),none⟩]) [0] (.ret)))⟩
def tf39 : TFn := ⟨100,[.tmp 4],.seq (.region false [oo 4 (.mov (.c (.fsl [])))]) [0,1] (.seq (.region false [oo 14 (.buildSlice 1 9 [(.c (.str [97,110,116])),(.c (.str [98,101,101])),(.c (.str [99,111,119])),(.c (.str [100,111,103])),(.c (.str [101,108,107]))]),om 5 14]) [0,1,5] (.seq (
 .region false [oo 15 (.build [(.int .i64 0),(.int .i64 0),(.int .i64 0),(.str []),(.str []),(.int .i64 0),(.fsl []),(.fsl [])] [(5,1,(.c (.int .i64 (-1))))]),oo 16 (.buildSlice 8 71 [(.s 15)]),oo 17 (.build [(.str []),(.str []),(.fsl [])] [(2,1,(.s 16))]),oo 18 (.buildSlice 3 74 [(.s 17)]),
 om 6 18]) [0,1,5,6] (.seq (.region false [oo 19 (.call 66 []),om 7 19]) [0,1,5,6,7] (.seq (.seq (.region false [oo 8 (.mov (.c (.int .i64 0)))]) [0,1,5,6,7,8] (.block 0 (.loop (.seq (.seq (.region false [om 20 8,om 21 0,om 22 1,oo 23 (.call 42 [(.s 21),(.s 22)]),
 oo 24 (.bin .add false (.c (.int .i64 1)) (.s 23)),oo 25 (.bin .lss false (.s 20) (.s 24)),om 26 25,oT 27 26 (.mov (.s 8)),oT 28 26 (.mov (.s 5)),oT 29 26 (.len (.s 28)),oT 30 26 (.bin .lss false (.s 27) (.s 29)),oo 31 (.pick (.s 26) (.s 30) (.c (.bool false)))]) [0,1,5,6,7,8,31] (.cond (.s 31) (
 .skip) (.exit 0))) [0,1,5,6,7,8] (.seq (.block 1 (.seq (.region false [oo 9 (.mov (.c (.fsl [])))]) [0,1,5,6,7,8,9] (.seq (.region false [om 34 0,oo 35 (.call 42 [(.s 34),(.c (.int .i64 16))]),om 10 35]) [0,1,5,6,7,8,9,10] (.seq (.seq (
 .region false [oo 11 (.mov (.c (.int .i64 0)))]) [0,1,5,6,7,8,9,10,11] (.block 2 (.loop (.seq (.seq (.region false [om 36 11,om 37 7,oo 38 (.len (.s 37)),oo 39 (.bin .lss false (.s 36) (.s 38))]) [0,1,5,6,7,8,9,10,11,39] (.cond (.s 39) (.skip) (.exit 2))) [0,1,5,6,7,8,9,10,11] (.seq (.block 3 (
 .seq (.region false [om 42 10,om 43 11,oo 44 (.conv .u64 (.s 43)),oo 45 (.bin .shr false (.s 42) (.s 44)),oo 46 (.bin .and false (.s 45) (.c (.int .i64 1))),oo 47 (.bin .eql false (.s 46) (.c (.int .i64 1)))]) [0,1,5,6,7,8,9,10,11,47] (.cond (.s 47) (.region false [om 48 9,om 49 7,om 50 11,
 oo 51 (.indexAddr 5 (.s 49) (.s 50)),oL 52 5 51,oo 53 (.build [(.int .i64 0),(.int .i64 0),(.int .i64 0),(.str []),(.str []),(.int .i64 0),(.fsl []),(.fsl [])] [(0,5,(.s 52))]),oo 54 (.buildSlice 8 71 [(.s 53)]),oo 55 (.append 8 71 112 (.s 48) (.s 54)),om 9 55]) (.skip)))) [0,1,5,6,7,8,9,10,11] (
 .region false [om 40 11,oo 41 (.bin .add false (.s 40) (.c (.int .i64 1))),om 11 41])))))) [0,1,5,6,7,8,9] (.seq (.region false [om 56 6,om 57 5,om 58 8,oo 59 (.indexAddr 1 (.s 57) (.s 58)),ol 60 1 59,om 61 9,oo 62 (.build [(.str []),(.str []),(.fsl [])] [(0,1,(.s 60)),(2,1,(.s 61))]),
 oo 63 (.buildSlice 3 74 [(.s 62)]),oo 64 (.append 3 74 56 (.s 56) (.s 63)),om 6 64]) [0,1,5,6,7,8,9] (.seq (.region false [om 65 8,oo 66 (.bin .lss false (.s 65) (.c (.int .i64 2))),om 67 66,oT 68 67 (.mov (.s 0)),oT 69 67 (.call 42 [(.s 68),(.c (.int .i64 3))]),
 oT 70 67 (.bin .eql false (.s 69) (.c (.int .i64 0))),oo 71 (.pick (.s 67) (.s 70) (.c (.bool false)))]) [0,1,5,6,7,8,9,71] (.cond (.s 71) (.seq (.region false [oo 12 (.mov (.c (.fsl [])))]) [0,1,5,6,7,8,9,12] (.seq (.seq (.region false [oo 13 (.mov (.c (.int .i64 0)))]) [0,1,5,6,7,8,9,12,13] (
 .block 4 (.loop (.seq (.seq (.region false [om 72 13,om 73 9,oo 74 (.len (.s 73)),oo 75 (.bin .lss false (.s 72) (.s 74))]) [0,1,5,6,7,8,9,12,13,75] (.cond (.s 75) (.skip) (.exit 4))) [0,1,5,6,7,8,9,12,13] (.seq (.block 5 (.seq (.region false [om 78 0,oo 79 (.call 42 [(.s 78),(.c (.int .i64 3))]),
 oo 80 (.bin .gtr false (.s 79) (.c (.int .i64 0)))]) [0,1,5,6,7,8,9,12,13,80] (.cond (.s 80) (.region false [om 81 12,om 82 9,om 83 13,oo 84 (.indexAddr 8 (.s 82) (.s 83)),oA 85 0 84,oL 86 5 85,
 oo 87 (.build [(.int .i64 0),(.int .i64 0),(.int .i64 0),(.str []),(.str []),(.int .i64 0),(.fsl []),(.fsl [])] [(0,5,(.s 86))]),oo 88 (.buildSlice 8 71 [(.s 87)]),oo 89 (.append 8 71 112 (.s 81) (.s 88)),om 12 89]) (.skip)))) [0,1,5,6,7,8,9,12,13] (.region false [om 76 13,
 oo 77 (.bin .add false (.s 76) (.c (.int .i64 1))),om 13 77])))))) [0,1,5,6,7,8,12] (.region false [om 90 6,om 91 5,om 92 8,oo 93 (.indexAddr 1 (.s 91) (.s 92)),ol 94 1 93,om 95 12,oo 96 (.build [(.str []),(.str []),(.fsl [])] [(0,1,(.s 94)),(1,1,(.c (.str [102]))),(2,1,(.s 95))]),
 oo 97 (.buildSlice 3 74 [(.s 96)]),oo 98 (.append 3 74 56 (.s 90) (.s 97)),om 6 98]))) (.skip)))))))) [0,1,5,6,7,8] (.region false [om 32 8,oo 33 (.bin .add false (.s 32) (.c (.int .i64 1))),om 8 33])))))) [6] (.seq (.region false [om 99 6,om 4 99]) [4] (.ret))))))⟩
def tf40 : TFn := ⟨36,[.tmp 6],.seq (.region false [oo 6 (.mov (.c (.fsl [])))]) [0,1,2] (.seq (.region false [oo 7 (.mov (.c (.fsl [])))]) [0,1,2,7] (.seq (.seq (.region false [om 10 0,om 11 2,oo 12 (.bin .add false (.s 11) (.c (.int .i64 1))),oo 13 (.call 42 [(.s 10),(.s 12)]),
 om 8 13]) [0,1,7,8] (.block 0 (.loop (.seq (.seq (.region false [om 14 8,oo 15 (.bin .gtr false (.s 14) (.c (.int .i64 0)))]) [0,1,7,8,15] (.cond (.s 15) (.skip) (.exit 0))) [0,1,7,8] (.seq (.block 1 (.seq (.region false [om 18 0,om 19 1,oo 20 (.call 43 [(.s 18),(.s 19)]),
 oo 21 (.buildSlice 3 81 [(.s 20)]),om 9 21]) [0,1,7,8,9] (.seq (.seq (.region false [om 22 0,oo 23 (.call 42 [(.s 22),(.c (.int .i64 3))]),oo 24 (.bin .eql false (.s 23) (.c (.int .i64 0)))]) [0,1,7,8,9,24] (.cond (.s 24) (.region false [om 25 9,om 26 0,om 27 1,oo 28 (.call 43 [(.s 26),(.s 27)]),
 oo 29 (.buildSlice 3 81 [(.s 28)]),oo 30 (.append 3 81 56 (.s 25) (.s 29)),om 9 30]) (.skip))) [0,1,7,8,9] (.region false [om 31 7,om 32 9,oo 33 (.buildSlice 1 69 [(.s 32)]),oo 34 (.append 1 69 24 (.s 31) (.s 33)),om 7 34])))) [0,1,7,8] (.region false [om 16 8,
 oo 17 (.bin .sub false (.s 16) (.c (.int .i64 1))),om 8 17])))))) [7] (.seq (.region false [om 35 7,om 6 35]) [6] (.ret))))⟩
def tf41 : TFn := ⟨24,[.cell 2 true 2],.seq (.region false [oo 1 (.box 68 (.s 0)),oo 2 (.alloc 78 [(.fsl []),(.fsl [])])]) [1,2] (.seq (.seq (.region false [oL 3 5 1,oo 4 (.call 67 [(.s 3)]),oo 5 (.un .not (.s 4))]) [1,2,5] (.cond (.s 5) (.seq (.region false [oo 6 (.call 68 []),
 ⟨none,.store 2 (.s 2) (.s 6),none⟩]) [2] (.ret)) (.skip))) [1,2] (.seq (.seq (.region false [oA 7 3 1,ol 8 1 7,oo 9 (.bin .neq false (.s 8) (.c (.str [])))]) [1,2,9] (.cond (.s 9) (.seq (.region true [oL 10 5 1,oo 11 (.call 69 [(.s 10)]),oL 12 5 1,oo 13 (.call 70 [(.s 12)]),
 oo 14 (.build [(.int .i64 0),(.int .i64 0),(.int .i64 0),(.int .i64 0),(.str []),(.str []),(.bool false),(.int .i64 0),(.int .i64 0),(.int .i64 0),(.int .i64 0),(.str []),(.str []),(.bool false)] [(0,7,(.s 11)),(7,7,(.s 13))]),oo 15 (.buildSlice 14 115 [(.s 14)]),
 oo 16 (.build [(.fsl []),(.fsl [])] [(1,1,(.s 15))]),⟨none,.store 2 (.s 2) (.s 16),none⟩]) [2] (.ret)) (.skip))) [1,2] (.seq (.region true [oL 17 5 1,oo 18 (.call 71 [(.s 17)]),oL 19 5 1,oo 20 (.call 72 [(.s 19)]),
 oo 21 (.build [(.int .i64 0),(.int .i64 0),(.int .i64 0),(.int .i64 0),(.str []),(.str []),(.bool false),(.int .i64 0),(.int .i64 0),(.int .i64 0),(.int .i64 0),(.str []),(.str []),(.bool false)] [(0,7,(.s 18)),(7,7,(.s 20))]),oo 22 (.buildSlice 14 115 [(.s 21)]),
 oo 23 (.build [(.fsl []),(.fsl [])] [(0,1,(.s 22))]),⟨none,.store 2 (.s 2) (.s 23),none⟩]) [2] (.ret))))⟩
def tf42 : TFn := ⟨24,[.tmp 4],.seq (.region false [oo 4 (.mov (.c (.int .i64 0)))]) [0,1] (.seq (.region false [om 5 0,oo 6 (.nilCheck (.s 5)),oA 7 1 6,ol 8 1 7,oo 9 (.bin .add false (.s 8) (.c (.int .i64 1))),oo 10 (.nilCheck (.s 5)),oA 11 1 10,⟨none,.store 1 (.s 11) (.s 9),none⟩]) [0,1] (.seq (
 .region true [om 12 0,oo 13 (.nilCheck (.s 12)),oA 14 0 13,ol 15 1 14,om 16 0,oo 17 (.nilCheck (.s 16)),oA 18 1 17,ol 19 1 18,oo 20 (.bin .sub false (.s 19) (.c (.int .i64 1))),oo 21 (.call 73 [(.s 15),(.s 20)]),om 22 1,oo 23 (.call 13 [(.s 21),(.s 22)]),om 4 23]) [4] (.ret)))⟩
def tf43 : TFn := ⟨21,[.cell 4 true 3],.seq (.region false [oo 4 (.alloc 81 [(.int .i64 0),(.fsl []),(.fsl [])])]) [0,1,4] (.seq (.region false [om 6 0,om 7 1,oo 8 (.len (.s 7)),oo 9 (.bin .sub false (.s 8) (.c (.int .i64 1))),oo 10 (.call 42 [(.s 6),(.s 9)]),
 oo 11 (.bin .add false (.c (.int .i64 1)) (.s 10)),om 5 11]) [0,1,4,5] (.seq (.region false [om 12 5,om 13 0,om 14 1,om 15 5,oo 16 (.indexAddr 3 (.s 14) (.s 15)),oA 17 2 16,ol 18 1 17,oo 19 (.call 74 [(.s 13),(.s 18)]),
 oo 20 (.build [(.int .i64 0),(.fsl []),(.fsl [])] [(0,1,(.s 12)),(1,2,(.s 19))]),⟨none,.store 3 (.s 4) (.s 20),none⟩]) [4] (.ret)))⟩
def tf44 : TFn := ⟨50,[.tmp 6,.tmp 7],.seq (.region false [oo 3 (.box 26 (.s 0)),oo 6 (.mov (.c (.fsl []))),oo 7 (.mov (.c (.int .i64 0)))]) [1,2,3] (.seq (.region false [om 12 2,oo 13 (.append 4 60 32 (.c (.fsl [])) (.s 12)),om 8 13]) [1,3,8] (.seq (.seq (
 .region false [oo 9 (.mov (.c (.int .i64 0)))]) [1,3,8,9] (.block 0 (.loop (.seq (.seq (.region false [om 14 9,oA 15 0 3,ol 16 1 15,oo 17 (.len (.s 16)),oo 18 (.bin .mul false (.s 17) (.c (.int .i64 18))),oo 19 (.bin .leq false (.s 14) (.s 18))]) [1,3,8,9,19] (.cond (.s 19) (.skip) (
 .exit 0))) [1,3,8,9] (.seq (.block 1 (.seq (.region false [oL 23 1 3,om 24 1,om 25 8,oo 26 (.call 75 [(.s 23),(.s 24),(.s 25)]),om 22 26,oe 27 0 22,oe 28 1 22,om 10 27,om 11 28]) [1,3,8,9,10,11] (.seq (.seq (.region false [om 29 11,
 oo 30 (.bin .lss false (.s 29) (.c (.int .i64 0)))]) [1,3,8,9,10,11,30] (.cond (.s 30) (.seq (.region false [om 31 8,om 32 10,om 6 31,om 7 32]) [6,7] (.ret)) (.skip))) [1,3,8,9,10,11] (.region true [oL 34 1 3,om 35 8,om 36 11,oL 37 1 3,om 38 1,om 39 10,oo 40 (.indexAddr 1 (.s 38) (.s 39)),
 ol 41 1 40,om 42 11,oo 43 (.call 76 [(.s 37),(.s 41),(.s 42)]),oo 44 (.build [(.int .i64 0),(.int .i64 0)] [(0,1,(.s 36)),(1,1,(.s 43))]),om 45 10,oo 46 (.call 35 [(.s 34),(.s 35),(.s 44),(.s 45)]),om 33 46,oe 47 0 33,oe 48 1 33,om 8 47])))) [1,3,8,9] (.region false [om 20 9,
 oo 21 (.bin .add false (.s 20) (.c (.int .i64 1))),om 9 21])))))) [8] (.seq (.region false [om 49 8,om 6 49,oo 7 (.mov (.c (.int .i64 (-1))))]) [6,7] (.ret))))⟩
def tf45 : TFn := ⟨20,[.tmp 2],.seq (.region false [oo 2 (.mov (.c (.fsl [])))]) [0] (.seq (.region false [oo 3 (.mov (.c (.fsl [])))]) [0,3] (.seq (.seq (.region false [oo 4 (.mov (.c (.int .i64 0)))]) [0,3,4] (.block 0 (.loop (.seq (.seq (.region false [om 5 4,
 oo 6 (.bin .leq false (.s 5) (.c (.int .i64 16)))]) [0,3,4,6] (.cond (.s 6) (.skip) (.exit 0))) [0,3,4] (.seq (.block 1 (.seq (.region false [om 9 0,om 10 4,oo 11 (.call 55 [(.s 10)]),oo 12 (.bin .and false (.s 9) (.s 11)),oo 13 (.bin .neq false (.s 12) (.c (.int .i64 0)))]) [0,3,4,13] (
 .cond (.s 13) (.region false [om 14 3,om 15 4,oo 16 (.bin .sub false (.s 15) (.c (.int .i64 1))),oo 17 (.buildSlice 1 3 [(.s 16)]),oo 18 (.append 1 3 8 (.s 14) (.s 17)),om 3 18]) (.skip)))) [0,3,4] (.region false [om 7 4,oo 8 (.bin .add false (.s 7) (.c (.int .i64 1))),om 4 8])))))) [3] (.seq (
 .region false [om 19 3,om 2 19]) [2] (.ret))))⟩
def tf46 : TFn := ⟨98,[.tmp 2],.seq (.region false [oo 1 (.box 26 (.s 0)),oo 2 (.mov (.c (.fsl [])))]) [1] (.seq (.region false [oo 13 (.build [(.int .i64 0),(.int .i64 0)] [(0,1,(.c (.int .i64 0))),(1,1,(.c (.int .i64 1)))]),oo 14 (.buildSlice 2 35 [(.s 13)]),
 oo 15 (.build [(.int .i64 0),(.int .i64 0),(.int .i64 0),(.int .i64 0),(.fsl [])] [(0,1,(.c (.int .i64 1))),(4,1,(.s 14))]),oo 16 (.buildSlice 5 89 [(.s 15)]),om 3 16]) [1,3] (.seq (.seq (.region false [oo 4 (.mov (.c (.int .i64 0)))]) [1,3,4] (.block 0 (.loop (.seq (.seq (.region false [om 17 4,
 oA 18 0 1,ol 19 1 18,oo 20 (.len (.s 19)),oo 21 (.bin .lss false (.s 17) (.s 20))]) [1,3,4,21] (.cond (.s 21) (.skip) (.exit 0))) [1,3,4] (.seq (.block 1 (.seq (.region false [oo 5 (.mov (.c (.int .i64 0)))]) [1,3,4,5] (.block 2 (.loop (.seq (.seq (.region false [om 24 5,oA 25 0 1,ol 26 1 25,
 om 27 4,oo 28 (.indexAddr 3 (.s 26) (.s 27)),oA 29 2 28,ol 30 1 29,oo 31 (.len (.s 30)),oo 32 (.bin .lss false (.s 24) (.s 31))]) [1,3,4,5,32] (.cond (.s 32) (.skip) (.exit 2))) [1,3,4,5] (.seq (.block 3 (.seq (.region false [oA 35 0 1,ol 36 1 35,om 37 4,oo 38 (.indexAddr 3 (.s 36) (.s 37)),
 oA 39 2 38,ol 40 1 39,om 41 5,oo 42 (.indexAddr 8 (.s 40) (.s 41)),oL 43 8 42,oo 6 (.alloc 71 [(.int .i64 0),(.int .i64 0),(.int .i64 0),(.str []),(.str []),(.int .i64 0),(.fsl []),(.fsl [])]),⟨none,.store 8 (.s 6) (.s 43),none⟩]) [1,3,4,5,6] (.seq (.seq (
 .region false [oo 7 (.mov (.c (.int .i64 0)))]) [1,3,4,5,6,7] (.block 4 (.loop (.seq (.seq (.region false [om 44 7,oA 45 6 6,ol 46 1 45,oo 47 (.len (.s 46)),oo 48 (.bin .lss false (.s 44) (.s 47))]) [1,3,4,5,6,7,48] (.cond (.s 48) (.skip) (.exit 4))) [1,3,4,5,6,7] (.seq (.block 5 (.seq (
 .region true [oL 52 1 1,om 53 4,om 54 5,oA 55 6 6,ol 56 1 55,om 57 7,oo 58 (.indexAddr 1 (.s 56) (.s 57)),ol 59 1 58,oo 60 (.call 77 [(.s 52),(.s 53),(.s 54),(.s 59),(.c (.bool false))]),om 51 60,oe 61 0 51,oe 62 1 51,om 8 61,om 9 62]) [1,3,4,5,6,7,8,9] (.seq (
 .region false [om 63 9]) [1,3,4,5,6,7,8,63] (.cond (.s 63) (.region false [oL 64 1 1,om 65 3,om 66 4,om 67 8,oo 68 (.build [(.int .i64 0),(.int .i64 0),(.int .i64 0),(.int .i64 0),(.fsl [])] [(0,1,(.c (.int .i64 2))),(1,1,(.s 66)),(4,1,(.s 67))]),oo 69 (.call 78 [(.s 64),(.s 65),(.s 68)]),
 om 3 69]) (.skip))))) [1,3,4,5,6,7] (.region false [om 49 7,oo 50 (.bin .add false (.s 49) (.c (.int .i64 1))),om 7 50])))))) [1,3,4,5,6] (.seq (.region false [oo 10 (.mov (.c (.int .i64 0)))]) [1,3,4,5,6,10] (.block 6 (.loop (.seq (.seq (.region false [om 70 10,oA 71 7 6,ol 72 1 71,
 oo 73 (.len (.s 72)),oo 74 (.bin .lss false (.s 70) (.s 73))]) [1,3,4,5,6,10,74] (.cond (.s 74) (.skip) (.exit 6))) [1,3,4,5,6,10] (.seq (.block 7 (.seq (.region true [oL 78 1 1,om 79 4,om 80 5,oA 81 7 6,ol 82 1 81,om 83 10,om 84 10,oo 85 (.bin .add false (.s 84) (.c (.int .i64 1))),
 oo 86 (.slice 3 (.s 82) (some (.s 83)) (some (.s 85)) none),oo 87 (.call 77 [(.s 78),(.s 79),(.s 80),(.s 86),(.c (.bool true))]),om 77 87,oe 88 0 77,oe 89 1 77,om 11 88,om 12 89]) [1,3,4,5,6,10,11,12] (.seq (.region false [om 90 12]) [1,3,4,5,6,10,11,90] (.cond (.s 90) (.region false [oL 91 1 1,
 om 92 3,om 93 4,om 94 11,oo 95 (.build [(.int .i64 0),(.int .i64 0),(.int .i64 0),(.int .i64 0),(.fsl [])] [(0,1,(.c (.int .i64 3))),(1,1,(.s 93)),(4,1,(.s 94))]),oo 96 (.call 78 [(.s 91),(.s 92),(.s 95)]),om 3 96]) (.skip))))) [1,3,4,5,6,10] (.region false [om 75 10,
 oo 76 (.bin .add false (.s 75) (.c (.int .i64 1))),om 10 76]))))))))) [1,3,4,5] (.region false [om 33 5,oo 34 (.bin .add false (.s 33) (.c (.int .i64 1))),om 5 34]))))))) [1,3,4] (.region false [om 22 4,oo 23 (.bin .add false (.s 22) (.c (.int .i64 1))),om 4 23])))))) [3] (.seq (
 .region false [om 97 3,om 2 97]) [2] (.ret))))⟩
def tf47 : TFn := ⟨58,[.tmp 4,.tmp 5],.seq (.region false [oo 2 (.box 26 (.s 0)),oo 4 (.mov (.c (.fsl []))),oo 5 (.mov (.c (.bool false)))]) [1,2] (.seq (.region false [oL 8 1 2,oo 9 (.call 79 [(.s 8)]),om 6 9]) [1,2,6] (.seq (.seq (.region false [oo 7 (.mov (.c (.int .i64 0)))]) [1,2,6,7] (
 .block 0 (.loop (.seq (.seq (.region false [om 10 7,om 11 1,oo 12 (.len (.s 11)),oo 13 (.bin .lss false (.s 10) (.s 12))]) [1,2,6,7,13] (.cond (.s 13) (.skip) (.exit 0))) [1,2,6,7] (.seq (.block 1 (.seq (.seq (.region false [om 16 1,om 17 7,oo 18 (.indexAddr 2 (.s 16) (.s 17)),oA 19 0 18,
 ol 20 1 19,oo 21 (.bin .lss false (.s 20) (.c (.int .i64 0))),om 22 21,oF 23 22 (.mov (.s 1)),oF 24 22 (.mov (.s 7)),oF 25 22 (.indexAddr 2 (.s 23) (.s 24)),oF 26 22 (.fieldAddr 0 (.s 25)),oF 27 22 (.load false 1 (.s 26)),oF 28 22 (.mov (.s 6)),oF 29 22 (.len (.s 28)),
 oF 30 22 (.bin .geq false (.s 27) (.s 29)),oo 31 (.pick (.s 22) (.c (.bool true)) (.s 30))]) [1,2,6,7,31] (.cond (.s 31) (.seq (.region false [oo 4 (.mov (.c (.fsl []))),oo 5 (.mov (.c (.bool false)))]) [4,5] (.ret)) (.skip))) [1,2,6,7] (.region true [om 32 6,om 33 1,om 34 7,
 oo 35 (.indexAddr 2 (.s 33) (.s 34)),oA 36 0 35,ol 37 1 36,om 38 6,om 39 1,om 40 7,oo 41 (.indexAddr 2 (.s 39) (.s 40)),oA 42 0 41,ol 43 1 42,oo 44 (.indexAddr 1 (.s 38) (.s 43)),ol 45 1 44,om 46 1,om 47 7,oo 48 (.indexAddr 2 (.s 46) (.s 47)),oA 49 1 48,ol 50 1 49,
 oo 51 (.bin .and false (.s 45) (.s 50)),oo 52 (.indexAddr 1 (.s 32) (.s 37)),⟨none,.store 1 (.s 52) (.s 51),none⟩]))) [1,2,6,7] (.region false [om 14 7,oo 15 (.bin .add false (.s 14) (.c (.int .i64 1))),om 7 15])))))) [2,6] (.seq (.region false [oL 53 1 2,om 54 6,
 oo 55 (.call 80 [(.s 53),(.s 54)]),oe 56 0 55,oe 57 1 55,om 4 56,om 5 57]) [4,5] (.ret))))⟩
def tf48 : TFn := ⟨25,[.tmp 4],.seq (.region false [oo 2 (.box 26 (.s 0)),oo 4 (.mov (.c (.int .i64 0)))]) [1,2] (.seq (.seq (.region false [om 5 1,oo 6 (.bin .lss false (.s 5) (.c (.int .i64 0))),om 7 6,oF 8 7 (.mov (.s 1)),oF 9 7 (.fieldAddr 0 (.s 2)),oF 10 7 (.load false 1 (.s 9)),
 oF 11 7 (.len (.s 10)),oF 12 7 (.bin .geq false (.s 8) (.s 11)),oo 13 (.pick (.s 7) (.c (.bool true)) (.s 12))]) [1,2,13] (.cond (.s 13) (.seq (.region false [oo 4 (.mov (.c (.int .i64 0)))]) [4] (.ret)) (.skip))) [1,2] (.seq (.region false [oA 14 0 2,ol 15 1 14,om 16 1,
 oo 17 (.indexAddr 3 (.s 15) (.s 16)),oA 18 2 17,ol 19 1 18,oo 20 (.len (.s 19)),oo 21 (.min (.s 20) (.c (.int .i64 16))),oo 22 (.bin .add false (.s 21) (.c (.int .i64 1))),oo 23 (.call 55 [(.s 22)]),oo 24 (.bin .sub false (.s 23) (.c (.int .i64 1))),om 4 24]) [4] (.ret)))⟩
def tf49 : TFn := ⟨14,[.tmp 4],.seq (.region false [oo 3 (.box 60 (.s 1)),oo 4 (.mov (.c (.fsl [])))]) [0,3] (.seq (.region true [om 5 0,om 6 0,oo 7 (.len (.s 6)),om 8 0,oo 9 (.len (.s 8)),oo 10 (.slice 4 (.s 5) none (some (.s 7)) (some (.s 9))),oL 11 4 3,oo 12 (.buildSlice 4 60 [(.s 11)]),
 oo 13 (.append 4 60 32 (.s 10) (.s 12)),om 4 13]) [4] (.ret))⟩
def tf50 : TFn := ⟨18,[.tmp 4],.seq (.region false [oo 2 (.box 26 (.s 0)),oo 4 (.mov (.c (.int .i64 0)))]) [1,2] (.seq (.seq (.region false [oL 5 1 2,om 6 1,oo 7 (.call 81 [(.s 5),(.s 6)]),oo 8 (.un .not (.s 7))]) [1,2,8] (.cond (.s 8) (.seq (.region false [oo 4 (.mov (.c (.int .i64 0)))]) [4] (
 .ret)) (.skip))) [1,2] (.seq (.region false [oA 9 0 2,ol 10 1 9,om 11 1,oo 12 (.indexAddr 3 (.s 10) (.s 11)),oA 13 2 12,ol 14 1 13,oo 15 (.len (.s 14)),oo 16 (.call 82 [(.s 15)]),oo 17 (.bin .sub false (.s 16) (.c (.int .i64 1))),om 4 17]) [4] (.ret)))⟩
def tf51 : TFn := ⟨30,[.tmp 6],.seq (.region false [oo 3 (.box 26 (.s 0)),oo 6 (.mov (.c (.int .i64 0)))]) [1,2,3] (.seq (.seq (.region false [om 8 1,oo 9 (.len (.s 8)),oo 10 (.bin .sub false (.s 9) (.c (.int .i64 1))),om 7 10]) [1,2,3,7] (.block 0 (.loop (.seq (.seq (.region false [om 11 7,
 oo 12 (.bin .geq false (.s 11) (.c (.int .i64 0)))]) [1,2,3,7,12] (.cond (.s 12) (.skip) (.exit 0))) [1,2,3,7] (.seq (.block 1 (.seq (.region false [om 15 1,om 16 7,oo 17 (.indexAddr 4 (.s 15) (.s 16)),oA 18 0 17,ol 19 1 18,om 20 2,oo 21 (.bin .eql false (.s 19) (.s 20))]) [1,2,3,7,21] (
 .cond (.s 21) (.seq (.region false [om 22 1,om 23 7,oo 24 (.indexAddr 4 (.s 22) (.s 23)),oA 25 1 24,ol 26 1 25,om 6 26]) [6] (.ret)) (.skip)))) [1,2,3,7] (.region false [om 13 7,oo 14 (.bin .sub false (.s 13) (.c (.int .i64 1))),om 7 14])))))) [2,3] (.seq (.region false [oL 27 1 3,om 28 2,
 oo 29 (.call 50 [(.s 27),(.s 28)]),om 6 29]) [6] (.ret)))⟩
def tf52 : TFn := ⟨15,[.tmp 4],.seq (.region false [oo 4 (.mov (.c (.int .i64 0)))]) [0,1] (.seq (.block 0 (.seq (.region false [om 6 0,om 7 1,oo 8 (.bin .andNot false (.s 6) (.s 7)),oo 9 (.bin .eql false (.s 8) (.c (.int .i64 0))),om 5 9]) [0,1,5] (.cond (.s 5) (.seq (
 .region false [oo 4 (.mov (.c (.int .i64 2)))]) [4] (.ret)) (.seq (.region false [om 11 0,om 12 1,oo 13 (.bin .and false (.s 11) (.s 12)),oo 14 (.bin .eql false (.s 13) (.c (.int .i64 0))),om 10 14]) [10] (.cond (.s 10) (.seq (.region false [oo 4 (.mov (.c (.int .i64 0)))]) [4] (.ret)) (
 .skip)))))) [] (.seq (.region false [oo 4 (.mov (.c (.int .i64 1)))]) [4] (.ret)))⟩
def tf55 : TFn := ⟨13,[.tmp 2],.seq (.region false [oo 2 (.mov (.c (.int .i64 0)))]) [0] (.seq (.region false [oo 3 (.mov (.c (.int .i64 1)))]) [0,3] (.seq (.seq (.region false [oo 4 (.mov (.c (.int .i64 0)))]) [0,3,4] (.block 0 (.loop (.seq (.seq (.region false [om 5 4,om 6 0,
 oo 7 (.bin .lss false (.s 5) (.s 6))]) [0,3,4,7] (.cond (.s 7) (.skip) (.exit 0))) [0,3,4] (.seq (.block 1 (.region false [om 10 3,oo 11 (.bin .mul false (.s 10) (.c (.int .i64 2))),om 3 11])) [0,3,4] (.region false [om 8 4,oo 9 (.bin .add false (.s 8) (.c (.int .i64 1))),om 4 9])))))) [3] (.seq (
 .region false [om 12 3,om 2 12]) [2] (.ret))))⟩
def tf57 : TFn := ⟨4,[.tmp 2],.seq (.region false [oo 1 (.box 3 (.s 0)),oo 2 (.mov (.c (.val .nilFunc)))]) [1] (.seq (.region false [oo 3 (.mkfn 84 [(.s 1)]),om 2 3]) [2] (.ret))⟩
def tf58 : TFn := ⟨69,[.tmp 6],.seq (.region false [oo 3 (.box 26 (.s 0)),oo 5 (.box 60 (.s 2)),oo 6 (.mov (.c (.bool false)))]) [1,3,5] (.seq (.region false [oL 8 1 3,om 9 1,oA 10 0 5,ol 11 1 10,oo 12 (.call 51 [(.s 8),(.s 9),(.s 11)]),om 7 12]) [1,3,5,7] (.seq (.block 0 (.seq (
 .region false [oL 14 1 3,oA 15 0 5,ol 16 1 15,oo 17 (.call 50 [(.s 14),(.s 16)]),oo 18 (.bin .eql false (.s 17) (.c (.int .i64 0))),om 19 18,oF 20 19 (.fieldAddr 3 (.s 5)),oF 21 19 (.load false 1 (.s 20)),oF 22 19 (.bin .lss false (.s 21) (.c (.int .i64 (-1)))),
 oo 23 (.pick (.s 19) (.c (.bool true)) (.s 22)),om 24 23,oF 25 24 (.fieldAddr 1 (.s 5)),oF 26 24 (.load false 1 (.s 25)),oF 27 24 (.bin .eql false (.s 26) (.c (.int .i64 0))),oo 28 (.pick (.s 24) (.c (.bool true)) (.s 27)),om 29 28,oF 30 29 (.fieldAddr 1 (.s 5)),oF 31 29 (.load false 1 (.s 30)),
 oF 32 29 (.mov (.s 7)),oF 33 29 (.bin .andNot false (.s 31) (.s 32)),oF 34 29 (.bin .neq false (.s 33) (.c (.int .i64 0))),oo 35 (.pick (.s 29) (.c (.bool true)) (.s 34)),om 13 35]) [1,5,7,13] (.cond (.s 13) (.seq (.region false [oo 6 (.mov (.c (.bool false)))]) [6] (.ret)) (.seq (
 .region false [oA 37 3 5,ol 38 1 37,oo 39 (.bin .eql false (.s 38) (.c (.int .i64 (-1)))),om 36 39]) [1,5,7,36] (.cond (.s 36) (.seq (.region true [oA 40 1 5,ol 41 1 40,oo 42 (.call 85 [(.s 41)]),om 43 42,oT 44 43 (.mov (.s 1)),oT 45 43 (.fieldAddr 0 (.s 5)),oT 46 43 (.load false 1 (.s 45)),
 oT 47 43 (.call 61 [(.s 44),(.s 46)]),oT 48 43 (.un .not (.s 47)),oo 49 (.pick (.s 43) (.s 48) (.c (.bool false))),om 50 49,oT 51 50 (.fieldAddr 2 (.s 5)),oT 52 50 (.load false 1 (.s 51)),oT 53 50 (.mov (.s 1)),oT 54 50 (.call 17 [(.s 53)]),oT 55 50 (.bin .add false (.s 54) (.c (.int .i64 1))),
 oT 56 50 (.bin .eql false (.s 52) (.s 55)),oo 57 (.pick (.s 50) (.s 56) (.c (.bool false))),om 6 57]) [6] (.ret)) (.skip)))))) [1,5,7] (.seq (.region true [oA 58 1 5,ol 59 1 58,om 60 7,oo 61 (.bin .neq false (.s 59) (.s 60)),om 62 61,oT 63 62 (.fieldAddr 2 (.s 5)),oT 64 62 (.load false 1 (.s 63)),
 oT 65 62 (.mov (.s 1)),oT 66 62 (.call 17 [(.s 65)]),oT 67 62 (.bin .eql false (.s 64) (.s 66)),oo 68 (.pick (.s 62) (.s 67) (.c (.bool false))),om 6 68]) [6] (.ret))))⟩
def tf59 : TFn := ⟨12,[.tmp 2],.seq (.region false [oo 2 (.mov (.c (.int .i64 0)))]) [0] (.seq (.region false [om 4 0,oo 5 (.call 45 [(.s 4)]),om 3 5]) [3] (.seq (.seq (.region false [om 6 3,oo 7 (.len (.s 6)),oo 8 (.bin .neq false (.s 7) (.c (.int .i64 1)))]) [3,8] (.cond (.s 8) (.seq (
 .region false [oo 2 (.mov (.c (.int .i64 (-1))))]) [2] (.ret)) (.skip))) [3] (.seq (.region false [om 9 3,oo 10 (.indexAddr 1 (.s 9) (.c (.int .i64 0))),ol 11 1 10,om 2 11]) [2] (.ret))))⟩
def tf60 : TFn := ⟨16,[.tmp 4],.seq (.region false [oo 4 (.mov (.c (.int .i64 0)))]) [0,1] (.seq (.block 0 (.seq (.region false [om 6 0,om 7 1,oo 8 (.bin .and false (.s 6) (.s 7)),om 9 0,oo 10 (.bin .eql false (.s 8) (.s 9)),om 5 10]) [0,1,5] (.cond (.s 5) (.seq (
 .region false [oo 4 (.mov (.c (.int .i64 2)))]) [4] (.ret)) (.seq (.region false [om 12 0,om 13 1,oo 14 (.bin .and false (.s 12) (.s 13)),oo 15 (.bin .eql false (.s 14) (.c (.int .i64 0))),om 11 15]) [11] (.cond (.s 11) (.seq (.region false [oo 4 (.mov (.c (.int .i64 0)))]) [4] (.ret)) (
 .skip)))))) [] (.seq (.region false [oo 4 (.mov (.c (.int .i64 1)))]) [4] (.ret)))⟩
def tf61 : TFn := ⟨8,[.tmp 4],.seq (.region false [oo 3 (.box 3 (.s 1)),oo 4 (.mov (.c (.bool false)))]) [0,3] (.seq (.region false [om 5 0,oo 6 (.mkfn 87 [(.s 3)]),oo 7 (.call 86 [(.s 5),(.s 6)]),om 4 7]) [4] (.ret))⟩
def tf62 : TFn := ⟨85,[.tmp 6],.seq (.region false [oo 3 (.box 26 (.s 0)),oo 5 (.box 60 (.s 2)),oo 6 (.mov (.c (.bool false)))]) [1,3,5] (.seq (.seq (.region false [oA 8 0 5,ol 9 1 8,oo 10 (.bin .lss false (.s 9) (.c (.int .i64 0))),om 11 10,oF 12 11 (.fieldAddr 0 (.s 5)),
 oF 13 11 (.load false 1 (.s 12)),oF 14 11 (.fieldAddr 0 (.s 3)),oF 15 11 (.load false 1 (.s 14)),oF 16 11 (.len (.s 15)),oF 17 11 (.bin .geq false (.s 13) (.s 16)),oo 18 (.pick (.s 11) (.c (.bool true)) (.s 17)),om 19 18,oF 20 19 (.fieldAddr 3 (.s 5)),oF 21 19 (.load false 1 (.s 20)),
 oF 22 19 (.bin .lss false (.s 21) (.c (.int .i64 (-1)))),oo 23 (.pick (.s 19) (.c (.bool true)) (.s 22))]) [1,3,5,23] (.cond (.s 23) (.seq (.region false [oo 6 (.mov (.c (.bool false)))]) [6] (.ret)) (.skip))) [1,3,5] (.seq (.region false [oL 24 1 3,om 25 1,oA 26 0 5,ol 27 1 26,
 oo 28 (.call 14 [(.s 24),(.s 25),(.s 27)]),om 7 28]) [1,5,7] (.seq (.seq (.region false [oA 29 3 5,ol 30 1 29,oo 31 (.bin .eql false (.s 30) (.c (.int .i64 (-1))))]) [1,5,7,31] (.cond (.s 31) (.seq (.region true [oA 32 1 5,ol 33 1 32,oo 34 (.call 59 [(.s 33)]),
 oo 35 (.bin .geq false (.s 34) (.c (.int .i64 0))),om 36 35,oT 37 36 (.fieldAddr 1 (.s 5)),oT 38 36 (.load false 1 (.s 37)),oT 39 36 (.mov (.s 7)),oT 40 36 (.bin .and false (.s 38) (.s 39)),oT 41 36 (.fieldAddr 1 (.s 5)),oT 42 36 (.load false 1 (.s 41)),oT 43 36 (.bin .eql false (.s 40) (.s 42)),
 oo 44 (.pick (.s 36) (.s 43) (.c (.bool false))),om 45 44,oT 46 45 (.mov (.s 1)),oT 47 45 (.fieldAddr 0 (.s 5)),oT 48 45 (.load false 1 (.s 47)),oT 49 45 (.call 88 [(.s 46),(.s 48)]),oT 50 45 (.un .not (.s 49)),oo 51 (.pick (.s 45) (.s 50) (.c (.bool false))),om 52 51,
 oT 53 52 (.fieldAddr 2 (.s 5)),oT 54 52 (.load false 1 (.s 53)),oT 55 52 (.mov (.s 1)),oT 56 52 (.call 27 [(.s 55)]),oT 57 52 (.bin .add false (.s 56) (.c (.int .i64 1))),oT 58 52 (.bin .eql false (.s 54) (.s 57)),oo 59 (.pick (.s 52) (.s 58) (.c (.bool false))),om 6 59]) [6] (.ret)) (
 .skip))) [1,5,7] (.seq (.region true [oA 60 1 5,ol 61 1 60,oo 62 (.bin .neq false (.s 61) (.c (.int .i64 0))),om 63 62,oT 64 63 (.fieldAddr 1 (.s 5)),oT 65 63 (.load false 1 (.s 64)),oT 66 63 (.mov (.s 7)),oT 67 63 (.bin .and false (.s 65) (.s 66)),oT 68 63 (.fieldAddr 1 (.s 5)),
 oT 69 63 (.load false 1 (.s 68)),oT 70 63 (.bin .eql false (.s 67) (.s 69)),oo 71 (.pick (.s 63) (.s 70) (.c (.bool false))),om 72 71,oT 73 72 (.fieldAddr 1 (.s 5)),oT 74 72 (.load false 1 (.s 73)),oT 75 72 (.mov (.s 7)),oT 76 72 (.bin .neq false (.s 74) (.s 75)),
 oo 77 (.pick (.s 72) (.s 76) (.c (.bool false))),om 78 77,oT 79 78 (.fieldAddr 2 (.s 5)),oT 80 78 (.load false 1 (.s 79)),oT 81 78 (.mov (.s 1)),oT 82 78 (.call 27 [(.s 81)]),oT 83 78 (.bin .eql false (.s 80) (.s 82)),oo 84 (.pick (.s 78) (.s 83) (.c (.bool false))),om 6 84]) [6] (.ret)))))⟩
def tf63 : TFn := ⟨19,[.tmp 4],.seq (.region false [oo 4 (.mov (.c (.int .i64 0)))]) [0,1] (.seq (.seq (.region false [om 6 0,oo 7 (.len (.s 6)),oo 8 (.mov (.c (.int .i64 0)))]) [0,1,7,8] (.block 0 (.loop (.seq (.region false [oo 9 (.bin .lss false (.s 8) (.s 7))]) [0,1,7,8,9] (.seq (.cond (.s 9) (
 .skip) (.exit 0)) [0,1,7,8] (.seq (.block 1 (.seq (.region false [om 10 8,om 5 10]) [0,1,5,7,8] (.seq (.region false [om 11 1,om 12 0,om 13 5,oo 14 (.indexAddr 4 (.s 12) (.s 13)),oL 15 4 14,oo 16 (.callV (.s 11) [(.s 15)])]) [0,1,5,7,8,16] (.cond (.s 16) (.seq (.region false [om 17 5,
 om 4 17]) [4] (.ret)) (.skip))))) [0,1,7,8] (.region false [oo 18 (.bin .add false (.s 8) (.c (.int .i64 1))),om 8 18]))))))) [] (.seq (.region false [oo 4 (.mov (.c (.int .i64 (-1))))]) [4] (.ret)))⟩
def tf66 : TFn := ⟨6,[.tmp 0],.seq (.region false [oo 0 (.mov (.c (.fsl [])))]) [] (.seq (.region false [oo 1 (.build [(.int .i64 0),(.int .i64 0),(.int .i64 0),(.str []),(.str [])] [(0,1,(.c (.int .i64 1)))]),
 oo 2 (.build [(.int .i64 0),(.int .i64 0),(.int .i64 0),(.str []),(.str [])] [(0,1,(.c (.int .i64 1))),(1,1,(.c (.int .i64 2)))]),oo 3 (.build [(.int .i64 0),(.int .i64 0),(.int .i64 0),(.str []),(.str [])] [(0,1,(.c (.int .i64 2))),(3,1,(.c (.str [97,46,49])))]),
 oo 4 (.build [(.int .i64 0),(.int .i64 0),(.int .i64 0),(.str []),(.str [])] [(0,1,(.c (.int .i64 2)))]),oo 5 (.buildSlice 5 68 [(.s 1),(.s 2),(.s 3),(.s 4)]),om 0 5]) [0] (.ret))⟩
def tf67 : TFn := ⟨26,[.tmp 2],.seq (.region false [oo 1 (.box 68 (.s 0)),oo 2 (.mov (.c (.bool false)))]) [1] (.seq (.region false [oA 3 0 1,ol 4 1 3,oo 5 (.call 90 [(.s 4)]),om 6 5,oT 7 6 (.fieldAddr 1 (.s 1)),oT 8 6 (.load false 1 (.s 7)),oT 9 6 (.call 90 [(.s 8)]),
 oo 10 (.pick (.s 6) (.s 9) (.c (.bool false))),om 11 10,oT 12 11 (.fieldAddr 2 (.s 1)),oT 13 11 (.load false 1 (.s 12)),oT 14 11 (.call 90 [(.s 13)]),oo 15 (.pick (.s 11) (.s 14) (.c (.bool false))),om 16 15,oT 17 16 (.fieldAddr 3 (.s 1)),oT 18 16 (.load false 1 (.s 17)),
 oT 19 16 (.call 91 [(.s 18),(.c (.bool true))]),oo 20 (.pick (.s 16) (.s 19) (.c (.bool false))),om 21 20,oT 22 21 (.fieldAddr 4 (.s 1)),oT 23 21 (.load false 1 (.s 22)),oT 24 21 (.call 91 [(.s 23),(.c (.bool false))]),oo 25 (.pick (.s 21) (.s 24) (.c (.bool false))),om 2 25]) [2] (.ret))⟩
def tf68 : TFn := ⟨2,[.cell 0 true 2],.seq (.region false [oo 0 (.alloc 78 [(.fsl []),(.fsl [])])]) [0] (.seq (.region false [oo 1 (.build [(.fsl []),(.fsl [])] []),⟨none,.store 2 (.s 0) (.s 1),none⟩]) [0] (.ret))⟩
def tf69 : TFn := ⟨6,[.cell 2 true 7],.seq (.region false [oo 1 (.box 68 (.s 0)),oo 2 (.alloc 112 [(.int .i64 0),(.int .i64 0),(.int .i64 0),(.int .i64 0),(.str []),(.str []),(.bool false)])]) [1,2] (.seq (.region false [oL 3 5 1,oo 4 (.call 92 [(.s 3)]),
 oo 5 (.build [(.int .i64 0),(.int .i64 0),(.int .i64 0),(.int .i64 0),(.str []),(.str []),(.bool false)] [(1,5,(.s 4))]),⟨none,.store 7 (.s 2) (.s 5),none⟩]) [2] (.ret))⟩
def tf70 : TFn := ⟨6,[.cell 2 true 7],.seq (.region false [oo 1 (.box 68 (.s 0)),oo 2 (.alloc 112 [(.int .i64 0),(.int .i64 0),(.int .i64 0),(.int .i64 0),(.str []),(.str []),(.bool false)])]) [1,2] (.seq (.region false [oL 3 5 1,oo 4 (.call 92 [(.s 3)]),
 oo 5 (.build [(.int .i64 0),(.int .i64 0),(.int .i64 0),(.int .i64 0),(.str []),(.str []),(.bool false)] [(1,5,(.s 4)),(6,1,(.c (.bool true)))]),⟨none,.store 7 (.s 2) (.s 5),none⟩]) [2] (.ret))⟩
def tf71 : TFn := ⟨14,[.cell 2 true 7],.seq (.region false [oo 1 (.box 68 (.s 0)),oo 2 (.alloc 112 [(.int .i64 0),(.int .i64 0),(.int .i64 0),(.int .i64 0),(.str []),(.str []),(.bool false)])]) [1,2] (.seq (.seq (.region false [oL 3 5 1,oo 4 (.call 93 [(.s 3)])]) [1,2,4] (.cond (.s 4) (.seq (
 .region false [oo 5 (.call 94 []),⟨none,.store 7 (.s 2) (.s 5),none⟩]) [2] (.ret)) (.skip))) [1,2] (.seq (.region false [oA 6 0 1,ol 7 1 6,oA 8 1 1,ol 9 1 8,oA 10 2 1,ol 11 1 10,
 oo 12 (.build [(.int .i64 0),(.int .i64 0),(.int .i64 0),(.str []),(.str [])] [(0,1,(.s 7)),(1,1,(.s 9)),(2,1,(.s 11))]),oo 13 (.call 69 [(.s 12)]),⟨none,.store 7 (.s 2) (.s 13),none⟩]) [2] (.ret)))⟩
def tf72 : TFn := ⟨21,[.cell 2 true 7],.seq (.region false [oo 1 (.box 68 (.s 0)),oo 2 (.alloc 112 [(.int .i64 0),(.int .i64 0),(.int .i64 0),(.int .i64 0),(.str []),(.str []),(.bool false)])]) [1,2] (.seq (.region false [oA 6 0 1,ol 7 1 6,oA 8 1 1,ol 9 1 8,oA 10 2 1,ol 11 1 10,
 oo 12 (.build [(.int .i64 0),(.int .i64 0),(.int .i64 0),(.str []),(.str [])] [(0,1,(.s 7)),(1,1,(.s 9)),(2,1,(.s 11))]),oo 13 (.call 95 [(.s 12)]),om 5 13,oe 14 0 5,oe 15 1 5,oo 3 (.alloc 68 [(.int .i64 0),(.int .i64 0),(.int .i64 0),(.str []),(.str [])]),⟨none,.store 5 (.s 3) (.s 14),none⟩,
 om 4 15]) [2,3,4] (.seq (.seq (.region false [om 16 4,oo 17 (.un .not (.s 16))]) [2,3,17] (.cond (.s 17) (.seq (.region false [oo 18 (.call 96 []),⟨none,.store 7 (.s 2) (.s 18),none⟩]) [2] (.ret)) (.skip))) [2,3] (.seq (.region false [oL 19 5 3,oo 20 (.call 69 [(.s 19)]),
 ⟨none,.store 7 (.s 2) (.s 20),none⟩]) [2] (.ret))))⟩
def tf73 : TFn := ⟨19,[.tmp 4],.seq (.region false [oo 4 (.mov (.c (.int .i64 0)))]) [0,1] (.seq (.seq (.region false [om 5 1,oo 6 (.bin .lss false (.s 5) (.c (.int .i64 0))),om 7 6,oF 8 7 (.mov (.s 1)),oF 9 7 (.mov (.s 0)),oF 10 7 (.len (.s 9)),oF 11 7 (.bin .geq false (.s 8) (.s 10)),
 oo 12 (.pick (.s 7) (.c (.bool true)) (.s 11))]) [0,1,12] (.cond (.s 12) (.seq (.region false [om 13 1,oo 14 (.bin .rem false (.s 13) (.c (.int .i64 3))),om 4 14]) [4] (.ret)) (.skip))) [0,1] (.seq (.region false [om 15 0,om 16 1,oo 17 (.indexAddr 1 (.s 15) (.s 16)),ol 18 1 17,om 4 18]) [4] (
 .ret)))⟩
def tf74 : TFn := ⟨41,[.cell 4 true 2],.seq (.region false [oo 4 (.alloc 78 [(.fsl []),(.fsl [])])]) [0,1,4] (.seq (.region false [om 8 0,oo 9 (.call 42 [(.s 8),(.c (.int .i64 8))]),om 5 9]) [0,1,4,5] (.seq (.region false [oo 10 (.call 68 []),oo 6 (.alloc 78 [(.fsl []),(.fsl [])]),
 ⟨none,.store 2 (.s 6) (.s 10),none⟩]) [0,1,4,5,6] (.seq (.seq (.region false [oo 7 (.mov (.c (.int .i64 0)))]) [0,1,4,5,6,7] (.block 0 (.loop (.seq (.seq (.region false [om 11 7,om 12 1,oo 13 (.len (.s 12)),oo 14 (.bin .lss false (.s 11) (.s 13))]) [0,1,4,5,6,7,14] (.cond (.s 14) (.skip) (
 .exit 0))) [0,1,4,5,6,7] (.seq (.block 1 (.seq (.region false [om 17 5,om 18 7,oo 19 (.conv .u64 (.s 18)),oo 20 (.bin .shr false (.s 17) (.s 19)),oo 21 (.bin .and false (.s 20) (.c (.int .i64 1))),oo 22 (.bin .eql false (.s 21) (.c (.int .i64 1)))]) [0,1,4,5,6,7,22] (.cond (.s 22) (
 .region true [oL 23 2 6,om 24 1,om 25 7,oo 26 (.indexAddr 8 (.s 24) (.s 25)),oA 27 0 26,oL 28 5 27,oo 29 (.call 41 [(.s 28)]),oo 30 (.call 97 [(.s 23),(.s 29)]),⟨none,.store 2 (.s 6) (.s 30),none⟩]) (.skip)))) [0,1,4,5,6,7] (.region false [om 15 7,
 oo 16 (.bin .add false (.s 15) (.c (.int .i64 1))),om 7 16])))))) [0,4,6] (.seq (.seq (.region false [om 31 0,oo 32 (.call 42 [(.s 31),(.c (.int .i64 6))])]) [4,6,32] (.block 2 (.seq (.region false [oo 34 (.bin .eql false (.s 32) (.c (.int .i64 0))),om 33 34]) [4,6,32,33] (.cond (.s 33) (.seq (
 .region false [oo 35 (.call 98 []),⟨none,.store 2 (.s 4) (.s 35),none⟩]) [4] (.ret)) (.seq (.region false [oo 37 (.bin .eql false (.s 32) (.c (.int .i64 1))),om 36 37]) [4,6,36] (.cond (.s 36) (.seq (.region false [oL 38 2 6,oo 39 (.call 99 [(.s 38)]),⟨none,.store 2 (.s 4) (.s 39),none⟩]) [4] (
 .ret)) (.skip))))))) [4,6] (.seq (.region false [oL 40 2 6,⟨none,.store 2 (.s 4) (.s 40),none⟩]) [4] (.ret))))))⟩
def tf75 : TFn := ⟨35,[.tmp 6,.tmp 7],.seq (.region false [oo 3 (.box 26 (.s 0)),oo 6 (.mov (.c (.int .i64 0))),oo 7 (.mov (.c (.int .i64 0)))]) [1,2,3] (.seq (.seq (.region false [oo 8 (.mov (.c (.int .i64 0)))]) [1,2,3,8] (.block 0 (.loop (.seq (.seq (.region false [om 10 8,om 11 1,
 oo 12 (.len (.s 11)),oo 13 (.bin .lss false (.s 10) (.s 12))]) [1,2,3,8,13] (.cond (.s 13) (.skip) (.exit 0))) [1,2,3,8] (.seq (.block 1 (.seq (.seq (.region true [oL 16 1 3,om 17 2,om 18 1,om 19 8,oo 20 (.indexAddr 1 (.s 18) (.s 19)),ol 21 1 20,
 oo 22 (.call 30 [(.s 16),(.s 17),(.s 21)])]) [1,2,3,8,22] (.cond (.s 22) (.seq (.region false [om 23 8,om 6 23,oo 7 (.mov (.c (.int .i64 (-1))))]) [6,7] (.ret)) (.skip))) [1,2,3,8] (.seq (.region true [oL 24 1 3,om 25 2,om 26 1,om 27 8,oo 28 (.indexAddr 1 (.s 26) (.s 27)),ol 29 1 28,
 oo 30 (.call 100 [(.s 24),(.s 25),(.s 29)]),om 9 30]) [1,2,3,8,9] (.seq (.region false [om 31 9,oo 32 (.bin .geq false (.s 31) (.c (.int .i64 0)))]) [1,2,3,8,9,32] (.cond (.s 32) (.seq (.region false [om 33 8,om 34 9,om 6 33,om 7 34]) [6,7] (.ret)) (.skip)))))) [1,2,3,8] (.region false [om 14 8,
 oo 15 (.bin .add false (.s 14) (.c (.int .i64 1))),om 8 15])))))) [] (.seq (.region false [oo 6 (.mov (.c (.int .i64 (-1)))),oo 7 (.mov (.c (.int .i64 (-1))))]) [6,7] (.ret)))⟩
def tf76 : TFn := ⟨29,[.tmp 6],.seq (.region false [oo 3 (.box 26 (.s 0)),oo 6 (.mov (.c (.int .i64 0)))]) [1,2,3] (.seq (.seq (.region false [oo 7 (.mov (.c (.int .i64 0)))]) [1,2,3,7] (.block 0 (.loop (.seq (.seq (.region false [om 8 7,om 9 1,oo 10 (.len (.s 9)),
 oo 11 (.bin .lss false (.s 8) (.s 10))]) [1,2,3,7,11] (.cond (.s 11) (.skip) (.exit 0))) [1,2,3,7] (.seq (.block 1 (.seq (.region false [om 14 1,om 15 7,oo 16 (.indexAddr 2 (.s 14) (.s 15)),oA 17 0 16,ol 18 1 17,om 19 2,oo 20 (.bin .eql false (.s 18) (.s 19))]) [1,2,3,7,20] (.cond (.s 20) (.seq (
 .region false [om 21 1,om 22 7,oo 23 (.indexAddr 2 (.s 21) (.s 22)),oA 24 1 23,ol 25 1 24,om 6 25]) [6] (.ret)) (.skip)))) [1,2,3,7] (.region false [om 12 7,oo 13 (.bin .add false (.s 12) (.c (.int .i64 1))),om 7 13])))))) [2,3] (.seq (.region false [oL 26 1 3,om 27 2,
 oo 28 (.call 48 [(.s 26),(.s 27)]),om 6 28]) [6] (.ret)))⟩
def tf77 : TFn := ⟨63,[.tmp 10,.tmp 11],.seq (.region false [oo 5 (.box 26 (.s 0)),oo 10 (.mov (.c (.fsl []))),oo 11 (.mov (.c (.bool false)))]) [1,2,3,4,5] (.seq (.region false [om 15 1,oL 16 1 5,om 17 1,oo 18 (.call 48 [(.s 16),(.s 17)]),om 19 2,oo 20 (.conv .u64 (.s 19)),
 oo 21 (.bin .shl false (.c (.int .i64 2)) (.s 20)),oo 22 (.bin .and false (.s 18) (.s 21)),oo 23 (.build [(.int .i64 0),(.int .i64 0)] [(0,1,(.s 15)),(1,1,(.s 22))]),oo 24 (.buildSlice 2 35 [(.s 23)]),om 12 24]) [3,4,5,12] (.seq (.seq (
 .region false [oo 13 (.mov (.c (.int .i64 0)))]) [3,4,5,12,13] (.block 0 (.loop (.seq (.seq (.region false [om 25 13,om 26 3,oo 27 (.len (.s 26)),oo 28 (.bin .lss false (.s 25) (.s 27))]) [3,4,5,12,13,28] (.cond (.s 28) (.skip) (.exit 0))) [3,4,5,12,13] (.seq (.block 1 (.seq (
 .region true [oL 31 1 5,om 32 3,om 33 13,oo 34 (.indexAddr 3 (.s 32) (.s 33)),oL 35 3 34,oo 36 (.call 101 [(.s 31),(.s 35)]),om 14 36]) [3,4,5,12,13,14] (.seq (.seq (.region false [om 37 4,oo 38 (.un .not (.s 37))]) [3,4,5,12,13,14,38] (.cond (.s 38) (.region true [oL 39 1 5,om 40 3,om 41 13,
 oo 42 (.indexAddr 3 (.s 40) (.s 41)),oA 43 0 42,ol 44 1 43,oo 45 (.call 48 [(.s 39),(.s 44)]),om 46 14,oo 47 (.bin .sub false (.s 45) (.s 46)),om 14 47]) (.skip))) [3,4,5,12,13,14] (.region false [om 48 12,om 49 3,om 50 13,oo 51 (.indexAddr 3 (.s 49) (.s 50)),oA 52 0 51,ol 53 1 52,om 54 14,
 oo 55 (.build [(.int .i64 0),(.int .i64 0)] [(0,1,(.s 53)),(1,1,(.s 54))]),oo 56 (.buildSlice 2 35 [(.s 55)]),oo 57 (.append 2 35 16 (.s 48) (.s 56)),om 12 57])))) [3,4,5,12,13] (.region false [om 29 13,oo 30 (.bin .add false (.s 29) (.c (.int .i64 1))),om 13 30])))))) [5,12] (.seq (
 .region false [oL 58 1 5,om 59 12,oo 60 (.call 47 [(.s 58),(.s 59)]),oe 61 0 60,oe 62 1 60,om 10 61,om 11 62]) [10,11] (.ret))))⟩
def tf78 : TFn := ⟨79,[.tmp 6],.seq (.region false [oo 3 (.box 26 (.s 0)),oo 5 (.box 89 (.s 2)),oo 6 (.mov (.c (.fsl [])))]) [1,3,5] (.seq (.seq (.region false [oo 7 (.mov (.c (.int .i64 0)))]) [1,3,5,7] (.block 0 (.loop (.seq (.seq (.region false [om 10 7,om 11 1,oo 12 (.len (.s 11)),
 oo 13 (.bin .lss false (.s 10) (.s 12))]) [1,3,5,7,13] (.cond (.s 13) (.skip) (.exit 0))) [1,3,5,7] (.seq (.block 1 (.seq (.region false [om 16 1,om 17 7,oo 18 (.indexAddr 5 (.s 16) (.s 17)),oL 19 5 18,oo 8 (.alloc 89 [(.int .i64 0),(.int .i64 0),(.int .i64 0),(.int .i64 0),(.fsl [])]),
 ⟨none,.store 5 (.s 8) (.s 19),none⟩]) [1,3,5,7,8] (.seq (.region true [oA 20 0 8,ol 21 1 20,oA 22 0 5,ol 23 1 22,oo 24 (.bin .eql false (.s 21) (.s 23)),om 25 24,oT 26 25 (.fieldAddr 1 (.s 8)),oT 27 25 (.load false 1 (.s 26)),oT 28 25 (.fieldAddr 1 (.s 5)),oT 29 25 (.load false 1 (.s 28)),
 oT 30 25 (.bin .eql false (.s 27) (.s 29)),oo 31 (.pick (.s 25) (.s 30) (.c (.bool false))),om 32 31,oT 33 32 (.fieldAddr 4 (.s 8)),oT 34 32 (.load false 1 (.s 33)),oT 35 32 (.fieldAddr 1 (.s 5)),oT 36 32 (.load false 1 (.s 35)),oT 37 32 (.call 103 [(.s 34),(.s 36)]),
 oT 38 32 (.fieldAddr 4 (.s 5)),oT 39 32 (.load false 1 (.s 38)),oT 40 32 (.fieldAddr 1 (.s 5)),oT 41 32 (.load false 1 (.s 40)),oT 42 32 (.call 103 [(.s 39),(.s 41)]),oT 43 32 (.call 102 [(.s 37),(.s 42)]),oo 44 (.pick (.s 32) (.s 43) (.c (.bool false)))]) [1,3,5,7,8,44] (.cond (.s 44) (.seq (
 .region true [oA 45 1 5,ol 46 1 45,oL 47 1 3,oA 48 4 8,ol 49 1 48,oA 50 1 5,ol 51 1 50,oo 52 (.call 76 [(.s 47),(.s 49),(.s 51)]),oL 53 1 3,oA 54 4 5,ol 55 1 54,oA 56 1 5,ol 57 1 56,oo 58 (.call 76 [(.s 53),(.s 55),(.s 57)]),oo 59 (.bin .or false (.s 52) (.s 58)),
 oo 60 (.build [(.int .i64 0),(.int .i64 0)] [(0,1,(.s 46)),(1,1,(.s 59))]),oo 61 (.buildSlice 2 35 [(.s 60)]),oA 62 4 8,ol 63 1 62,oA 64 1 5,ol 65 1 64,oo 66 (.call 103 [(.s 63),(.s 65)]),oo 67 (.append 2 35 16 (.s 61) (.s 66)),om 9 67]) [1,7,9] (.seq (.region false [om 68 1,om 69 7,om 70 9,
 oo 71 (.call 104 [(.s 70)]),oo 72 (.indexAddr 5 (.s 68) (.s 69)),oA 73 4 72,⟨none,.store 1 (.s 73) (.s 71),none⟩]) [1] (.seq (.region false [om 74 1,om 6 74]) [6] (.ret)))) (.skip))))) [1,3,5,7] (.region false [om 14 7,oo 15 (.bin .add false (.s 14) (.c (.int .i64 1))),om 7 15])))))) [1,5] (.seq (
 .region false [om 75 1,oL 76 5 5,oo 77 (.buildSlice 5 89 [(.s 76)]),oo 78 (.append 5 89 56 (.s 75) (.s 77)),om 6 78]) [6] (.ret)))⟩
def tf79 : TFn := ⟨19,[.tmp 2],.seq (.region false [oo 1 (.box 26 (.s 0)),oo 2 (.mov (.c (.fsl [])))]) [1] (.seq (.region false [oo 3 (.mov (.c (.fsl [])))]) [1,3] (.seq (.seq (.region false [oo 4 (.mov (.c (.int .i64 0)))]) [1,3,4] (.block 0 (.loop (.seq (.seq (.region false [om 5 4,oA 6 0 1,
 ol 7 1 6,oo 8 (.len (.s 7)),oo 9 (.bin .lss false (.s 5) (.s 8))]) [1,3,4,9] (.cond (.s 9) (.skip) (.exit 0))) [1,3,4] (.seq (.block 1 (.region false [om 12 3,oL 13 1 1,om 14 4,oo 15 (.call 48 [(.s 13),(.s 14)]),oo 16 (.buildSlice 1 3 [(.s 15)]),oo 17 (.append 1 3 8 (.s 12) (.s 16)),
 om 3 17])) [1,3,4] (.region false [om 10 4,oo 11 (.bin .add false (.s 10) (.c (.int .i64 1))),om 4 11])))))) [3] (.seq (.region false [om 18 3,om 2 18]) [2] (.ret))))⟩
def tf80 : TFn := ⟨37,[.tmp 4,.tmp 5],.seq (.region false [oo 2 (.box 26 (.s 0)),oo 4 (.mov (.c (.fsl []))),oo 5 (.mov (.c (.bool false)))]) [1,2] (.seq (.region false [oo 6 (.mov (.c (.fsl [])))]) [1,2,6] (.seq (.seq (.region false [oo 7 (.mov (.c (.int .i64 0)))]) [1,2,6,7] (.block 0 (.loop (
 .seq (.seq (.region false [om 8 7,om 9 1,oo 10 (.len (.s 9)),oo 11 (.bin .lss false (.s 8) (.s 10))]) [1,2,6,7,11] (.cond (.s 11) (.skip) (.exit 0))) [1,2,6,7] (.seq (.block 1 (.seq (.seq (.region false [om 14 1,om 15 7,oo 16 (.indexAddr 1 (.s 14) (.s 15)),ol 17 1 16,
 oo 18 (.bin .eql false (.s 17) (.c (.int .i64 0)))]) [1,2,6,7,18] (.cond (.s 18) (.seq (.region false [oo 4 (.mov (.c (.fsl []))),oo 5 (.mov (.c (.bool false)))]) [4,5] (.ret)) (.skip))) [1,2,6,7] (.seq (.region true [om 19 1,om 20 7,oo 21 (.indexAddr 1 (.s 19) (.s 20)),ol 22 1 21,oL 23 1 2,
 om 24 7,oo 25 (.call 48 [(.s 23),(.s 24)]),oo 26 (.bin .neq false (.s 22) (.s 25))]) [1,2,6,7,26] (.cond (.s 26) (.region false [om 27 6,om 28 7,om 29 1,om 30 7,oo 31 (.indexAddr 1 (.s 29) (.s 30)),ol 32 1 31,oo 33 (.build [(.int .i64 0),(.int .i64 0)] [(0,1,(.s 28)),(1,1,(.s 32))]),
 oo 34 (.buildSlice 2 35 [(.s 33)]),oo 35 (.append 2 35 16 (.s 27) (.s 34)),om 6 35]) (.skip))))) [1,2,6,7] (.region false [om 12 7,oo 13 (.bin .add false (.s 12) (.c (.int .i64 1))),om 7 13])))))) [6] (.seq (.region false [om 36 6,om 4 36,oo 5 (.mov (.c (.bool true)))]) [4,5] (.ret))))⟩
def tf81 : TFn := ⟨14,[.tmp 4],.seq (.region false [oo 2 (.box 26 (.s 0)),oo 4 (.mov (.c (.bool false)))]) [1,2] (.seq (.region false [om 5 1,oo 6 (.bin .geq false (.s 5) (.c (.int .i64 0))),om 7 6,oT 8 7 (.mov (.s 1)),oT 9 7 (.fieldAddr 0 (.s 2)),oT 10 7 (.load false 1 (.s 9)),
 oT 11 7 (.len (.s 10)),oT 12 7 (.bin .lss false (.s 8) (.s 11)),oo 13 (.pick (.s 7) (.s 12) (.c (.bool false))),om 4 13]) [4] (.ret))⟩
def tf82 : TFn := ⟨6,[.tmp 2],.seq (.region false [oo 2 (.mov (.c (.int .i64 0)))]) [0] (.seq (.region false [om 3 0,oo 4 (.bin .add false (.s 3) (.c (.int .i64 1))),oo 5 (.bin .shl false (.c (.int .i64 1)) (.s 4)),om 2 5]) [2] (.ret))⟩
def tf84 : TFn := ⟨19,[],.seq (.region false [oo 3 (.mov (.c (.int .i64 (-1))))]) [0,1,3] (.block 0 (.loop (.seq (.seq (.region false [om 4 3,oo 5 (.bin .lss false (.s 4) (.c (.int .i64 16)))]) [0,1,3,5] (.cond (.s 5) (.skip) (.exit 0))) [0,1,3] (.seq (.block 1 (.seq (.region true [ol 8 1 1,om 9 3,
 oo 10 (.call 82 [(.s 9)]),oo 11 (.bin .and false (.s 8) (.s 10)),oo 12 (.bin .neq false (.s 11) (.c (.int .i64 0))),om 13 12,oT 14 13 (.mov (.s 0)),oT 15 13 (.mov (.s 3)),oT 16 13 (.callV (.s 14) [(.s 15)]),oT 17 13 (.un .not (.s 16)),oo 18 (.pick (.s 13) (.s 17) (.c (.bool false)))]) [0,1,3,18] (
 .cond (.s 18) (.ret) (.skip)))) [0,1,3] (.region false [om 6 3,oo 7 (.bin .add false (.s 6) (.c (.int .i64 1))),om 3 7])))))⟩
def tf85 : TFn := ⟨12,[.tmp 2],.seq (.region false [oo 2 (.mov (.c (.bool false)))]) [0] (.seq (.region false [om 3 0,oo 4 (.bin .gtr false (.s 3) (.c (.int .i64 1))),om 5 4,oT 6 5 (.mov (.s 0)),oT 7 5 (.mov (.s 0)),oT 8 5 (.bin .sub false (.s 7) (.c (.int .i64 1))),
 oT 9 5 (.bin .and false (.s 6) (.s 8)),oT 10 5 (.bin .eql false (.s 9) (.c (.int .i64 0))),oo 11 (.pick (.s 5) (.s 10) (.c (.bool false))),om 2 11]) [2] (.ret))⟩
def tf86 : TFn := ⟨9,[.tmp 4],.seq (.region false [oo 4 (.mov (.c (.bool false)))]) [0,1] (.seq (.region false [om 5 0,om 6 1,oo 7 (.call 63 [(.s 5),(.s 6)]),oo 8 (.bin .geq false (.s 7) (.c (.int .i64 0))),om 4 8]) [4] (.ret))⟩
def tf87 : TFn := ⟨13,[.tmp 3],.seq (.region false [oo 2 (.box 60 (.s 0)),oo 3 (.mov (.c (.bool false)))]) [1,2] (.seq (.region false [oA 4 3 2,ol 5 1 4,oo 6 (.bin .eql false (.s 5) (.c (.int .i64 (-1)))),om 7 6,oT 8 7 (.fieldAddr 0 (.s 2)),oT 9 7 (.load false 1 (.s 8)),
 oT 10 7 (.load false 1 (.s 1)),oT 11 7 (.bin .eql false (.s 9) (.s 10)),oo 12 (.pick (.s 7) (.s 11) (.c (.bool false))),om 3 12]) [3] (.ret))⟩
def tf88 : TFn := ⟨27,[.tmp 4],.seq (.region false [oo 4 (.mov (.c (.bool false)))]) [0,1] (.seq (.seq (.region false [oo 5 (.mov (.c (.int .i64 0)))]) [0,1,5] (.block 0 (.loop (.seq (.seq (.region false [om 6 5,om 7 0,oo 8 (.len (.s 7)),oo 9 (.bin .lss false (.s 6) (.s 8))]) [0,1,5,9] (
 .cond (.s 9) (.skip) (.exit 0))) [0,1,5] (.seq (.block 1 (.seq (.region false [om 12 0,om 13 5,oo 14 (.indexAddr 4 (.s 12) (.s 13)),oA 15 0 14,ol 16 1 15,om 17 1,oo 18 (.bin .eql false (.s 16) (.s 17)),om 19 18,oT 20 19 (.mov (.s 0)),oT 21 19 (.mov (.s 5)),oT 22 19 (.indexAddr 4 (.s 20) (.s 21)),
 oT 23 19 (.fieldAddr 3 (.s 22)),oT 24 19 (.load false 1 (.s 23)),oT 25 19 (.bin .eql false (.s 24) (.c (.int .i64 (-1)))),oo 26 (.pick (.s 19) (.s 25) (.c (.bool false)))]) [0,1,5,26] (.cond (.s 26) (.seq (.region false [oo 4 (.mov (.c (.bool true)))]) [4] (.ret)) (.skip)))) [0,1,5] (
 .region false [om 10 5,oo 11 (.bin .add false (.s 10) (.c (.int .i64 1))),om 5 11])))))) [] (.seq (.region false [oo 4 (.mov (.c (.bool false)))]) [4] (.ret)))⟩
def tf90 : TFn := ⟨9,[.tmp 2],.seq (.region false [oo 2 (.mov (.c (.bool false)))]) [0] (.seq (.region false [om 3 0,oo 4 (.bin .geq false (.s 3) (.c (.int .i64 0))),om 5 4,oT 6 5 (.mov (.s 0)),oT 7 5 (.bin .leq false (.s 6) (.c (.int .i64 9999))),oo 8 (.pick (.s 5) (.s 7) (.c (.bool false))),
 om 2 8]) [2] (.ret))⟩
def tf91 : TFn := ⟨48,[.tmp 4],.seq (.region false [oo 4 (.mov (.c (.bool false)))]) [0,1] (.seq (.seq (.region false [om 9 0,oo 10 (.bin .eql false (.s 9) (.c (.str [])))]) [0,1,10] (.cond (.s 10) (.seq (.region false [oo 4 (.mov (.c (.bool true)))]) [4] (.ret)) (.skip))) [0,1] (.seq (
 .region false [om 11 0,oo 12 (.call 105 [(.s 11),(.c (.int .u8 46))]),om 5 12]) [1,5] (.seq (.seq (.region false [om 13 5,oo 14 (.len (.s 13)),oo 15 (.bin .gtr false (.s 14) (.c (.int .i64 4)))]) [1,5,15] (.cond (.s 15) (.seq (.region false [oo 4 (.mov (.c (.bool false)))]) [4] (.ret)) (
 .skip))) [1,5] (.seq (.seq (.region false [oo 6 (.mov (.c (.int .i64 0)))]) [1,5,6] (.block 0 (.loop (.seq (.seq (.region false [om 16 6,om 17 5,oo 18 (.len (.s 17)),oo 19 (.bin .lss false (.s 16) (.s 18))]) [1,5,6,19] (.cond (.s 19) (.skip) (.exit 0))) [1,5,6] (.seq (.block 1 (.seq (.seq (
 .region false [om 22 5,om 23 6,oo 24 (.indexAddr 1 (.s 22) (.s 23)),ol 25 1 24,oo 26 (.call 106 [(.s 25)]),oo 27 (.un .not (.s 26))]) [1,5,6,27] (.cond (.s 27) (.seq (.region false [oo 4 (.mov (.c (.bool false)))]) [4] (.ret)) (.skip))) [1,5,6] (.seq (.region false [om 29 5,om 30 6,
 oo 31 (.indexAddr 1 (.s 29) (.s 30)),ol 32 1 31,oo 33 (.call 107 [(.s 32)]),om 28 33,oe 34 0 28,oe 35 1 28,om 7 34,om 8 35]) [1,5,6,8] (.seq (.region false [om 36 1,om 37 36,oT 38 37 (.mov (.s 5)),oT 39 37 (.mov (.s 6)),oT 40 37 (.indexAddr 1 (.s 38) (.s 39)),oT 41 37 (.load false 1 (.s 40)),
 oT 42 37 (.call 108 [(.s 41)]),oo 43 (.pick (.s 37) (.s 42) (.c (.bool false))),om 44 43,oT 45 44 (.mov (.s 8)),oT 46 44 (.un .not (.s 45)),oo 47 (.pick (.s 44) (.s 46) (.c (.bool false)))]) [1,5,6,47] (.cond (.s 47) (.seq (.region false [oo 4 (.mov (.c (.bool false)))]) [4] (.ret)) (
 .skip)))))) [1,5,6] (.region false [om 20 6,oo 21 (.bin .add false (.s 20) (.c (.int .i64 1))),om 6 21])))))) [] (.seq (.region false [oo 4 (.mov (.c (.bool true)))]) [4] (.ret))))))⟩
def tf92 : TFn := ⟨5,[.cell 2 true 5],.seq (.region false [oo 1 (.box 68 (.s 0)),oo 2 (.alloc 68 [(.int .i64 0),(.int .i64 0),(.int .i64 0),(.str []),(.str [])])]) [1,2] (.seq (.region false [oA 3 4 1,⟨none,.store 1 (.s 3) (.c (.str [])),none⟩]) [1,2] (.seq (.region false [oL 4 5 1,
 ⟨none,.store 5 (.s 2) (.s 4),none⟩]) [2] (.ret)))⟩
def tf93 : TFn := ⟨16,[.tmp 2],.seq (.region false [oo 1 (.box 68 (.s 0)),oo 2 (.mov (.c (.bool false)))]) [1] (.seq (.region false [oA 3 0 1,ol 4 1 3,oo 5 (.bin .eql false (.s 4) (.c (.int .i64 0))),om 6 5,oT 7 6 (.fieldAddr 1 (.s 1)),oT 8 6 (.load false 1 (.s 7)),
 oT 9 6 (.bin .eql false (.s 8) (.c (.int .i64 0))),oo 10 (.pick (.s 6) (.s 9) (.c (.bool false))),om 11 10,oT 12 11 (.fieldAddr 2 (.s 1)),oT 13 11 (.load false 1 (.s 12)),oT 14 11 (.bin .eql false (.s 13) (.c (.int .i64 0))),oo 15 (.pick (.s 11) (.s 14) (.c (.bool false))),om 2 15]) [2] (.ret))⟩
def tf94 : TFn := ⟨2,[.cell 0 true 7],.seq (.region false [oo 0 (.alloc 112 [(.int .i64 0),(.int .i64 0),(.int .i64 0),(.int .i64 0),(.str []),(.str []),(.bool false)])]) [0] (.seq (
 .region false [oo 1 (.build [(.int .i64 0),(.int .i64 0),(.int .i64 0),(.int .i64 0),(.str []),(.str []),(.bool false)] [(0,1,(.c (.int .i64 (-1))))]),⟨none,.store 7 (.s 0) (.s 1),none⟩]) [0] (.ret))⟩
def tf95 : TFn := ⟨34,[.cell 2 true 5,.tmp 3],.seq (.region false [oo 1 (.box 68 (.s 0)),oo 2 (.alloc 68 [(.int .i64 0),(.int .i64 0),(.int .i64 0),(.str []),(.str [])]),oo 3 (.mov (.c (.bool false)))]) [1,2] (.seq (.seq (.region false [oL 7 5 1,oo 8 (.call 67 [(.s 7)]),
 oo 9 (.un .not (.s 8))]) [1,2,9] (.cond (.s 9) (.seq (.region false [oo 10 (.build [(.int .i64 0),(.int .i64 0),(.int .i64 0),(.str []),(.str [])] []),⟨none,.store 5 (.s 2) (.s 10),none⟩,oo 3 (.mov (.c (.bool false)))]) [2,3] (.ret)) (.skip))) [1,2] (.seq (.seq (.region false [oA 11 3 1,
 ol 12 1 11,oo 13 (.bin .neq false (.s 12) (.c (.str [])))]) [1,2,13] (.cond (.s 13) (.seq (.region false [oA 14 0 1,ol 15 1 14,oA 16 1 1,ol 17 1 16,oA 18 2 1,ol 19 1 18,oo 20 (.build [(.int .i64 0),(.int .i64 0),(.int .i64 0),(.str []),(.str [])] [(0,1,(.s 15)),(1,1,(.s 17)),(2,1,(.s 19))]),
 ⟨none,.store 5 (.s 2) (.s 20),none⟩,oo 3 (.mov (.c (.bool true)))]) [2,3] (.ret)) (.skip))) [1,2] (.seq (.seq (.region false [oo 4 (.mov (.c (.int .i64 2)))]) [1,2,4] (.block 0 (.loop (.seq (.seq (.region false [om 21 4,oo 22 (.bin .geq false (.s 21) (.c (.int .i64 0)))]) [1,2,4,22] (
 .cond (.s 22) (.skip) (.exit 0))) [1,2,4] (.seq (.block 1 (.seq (.region false [oL 26 5 1,om 27 4,oo 28 (.call 109 [(.s 26),(.s 27)]),om 25 28,oe 29 0 25,oe 30 1 25,oo 5 (.alloc 68 [(.int .i64 0),(.int .i64 0),(.int .i64 0),(.str []),(.str [])]),⟨none,.store 5 (.s 5) (.s 29),none⟩,
 om 6 30]) [1,2,4,5,6] (.seq (.region false [om 31 6]) [1,2,4,5,31] (.cond (.s 31) (.seq (.region false [oL 32 5 5,⟨none,.store 5 (.s 2) (.s 32),none⟩,oo 3 (.mov (.c (.bool true)))]) [2,3] (.ret)) (.skip))))) [1,2,4] (.region false [om 23 4,oo 24 (.bin .sub false (.s 23) (.c (.int .i64 1))),
 om 4 24])))))) [2] (.seq (.region false [oo 33 (.build [(.int .i64 0),(.int .i64 0),(.int .i64 0),(.str []),(.str [])] []),⟨none,.store 5 (.s 2) (.s 33),none⟩,oo 3 (.mov (.c (.bool false)))]) [2,3] (.ret)))))⟩
def tf96 : TFn := ⟨2,[.cell 0 true 7],.seq (.region false [oo 0 (.alloc 112 [(.int .i64 0),(.int .i64 0),(.int .i64 0),(.int .i64 0),(.str []),(.str []),(.bool false)])]) [0] (.seq (
 .region false [oo 1 (.build [(.int .i64 0),(.int .i64 0),(.int .i64 0),(.int .i64 0),(.str []),(.str []),(.bool false)] [(0,1,(.c (.int .i64 1)))]),⟨none,.store 7 (.s 0) (.s 1),none⟩]) [0] (.ret))⟩
def tf97 : TFn := ⟨25,[.cell 4 true 2],.seq (.region false [oo 2 (.box 78 (.s 0)),oo 3 (.box 78 (.s 1)),oo 4 (.alloc 78 [(.fsl []),(.fsl [])])]) [2,3,4] (.seq (.seq (.region false [oL 5 2 2,oo 6 (.call 110 [(.s 5)]),oo 7 (.un .not (.s 6)),om 8 7,oF 9 8 (.load true 2 (.s 3)),
 oF 10 8 (.call 110 [(.s 9)]),oF 11 8 (.un .not (.s 10)),oo 12 (.pick (.s 8) (.c (.bool true)) (.s 11))]) [2,3,4,12] (.cond (.s 12) (.seq (.region false [oo 13 (.call 68 []),⟨none,.store 2 (.s 4) (.s 13),none⟩]) [4] (.ret)) (.skip))) [2,3,4] (.seq (.region true [oA 14 0 2,ol 15 1 14,oA 16 0 3,
 ol 17 1 16,oo 18 (.call 111 [(.s 15),(.s 17)]),oA 19 1 2,ol 20 1 19,oA 21 1 3,ol 22 1 21,oo 23 (.call 111 [(.s 20),(.s 22)]),oo 24 (.build [(.fsl []),(.fsl [])] [(0,1,(.s 18)),(1,1,(.s 23))]),⟨none,.store 2 (.s 4) (.s 24),none⟩]) [4] (.ret)))⟩
def tf98 : TFn := ⟨4,[.cell 0 true 2],.seq (.region false [oo 0 (.alloc 78 [(.fsl []),(.fsl [])])]) [0] (.seq (.region false [oo 1 (.call 112 []),oo 2 (.call 112 []),oo 3 (.build [(.fsl []),(.fsl [])] [(0,1,(.s 1)),(1,1,(.s 2))]),⟨none,.store 2 (.s 0) (.s 3),none⟩]) [0] (.ret))⟩
def tf99 : TFn := ⟨14,[.cell 2 true 2],.seq (.region false [oo 1 (.box 78 (.s 0)),oo 2 (.alloc 78 [(.fsl []),(.fsl [])])]) [1,2] (.seq (.seq (.region false [oL 3 2 1,oo 4 (.call 110 [(.s 3)]),oo 5 (.un .not (.s 4))]) [1,2,5] (.cond (.s 5) (.seq (.region false [oo 6 (.call 68 []),
 ⟨none,.store 2 (.s 2) (.s 6),none⟩]) [2] (.ret)) (.skip))) [1,2] (.seq (.region true [oA 7 0 1,ol 8 1 7,oo 9 (.call 113 [(.s 8)]),oA 10 1 1,ol 11 1 10,oo 12 (.call 113 [(.s 11)]),oo 13 (.build [(.fsl []),(.fsl [])] [(0,1,(.s 9)),(1,1,(.s 12))]),⟨none,.store 2 (.s 2) (.s 13),none⟩]) [2] (.ret)))⟩
def tf100 : TFn := ⟨41,[.tmp 6],.seq (.region false [oo 3 (.box 26 (.s 0)),oo 6 (.mov (.c (.int .i64 0)))]) [1,2,3] (.seq (.region false [oo 7 (.mov (.c (.int .i64 (-1))))]) [1,2,3,7] (.seq (.seq (.region false [oo 8 (.mov (.c (.int .i64 0)))]) [1,2,3,7,8] (.block 0 (.loop (.seq (.seq (
 .region false [om 9 8,om 10 2,oo 11 (.len (.s 10)),oo 12 (.bin .lss false (.s 9) (.s 11))]) [1,2,3,7,8,12] (.cond (.s 12) (.skip) (.exit 0))) [1,2,3,7,8] (.seq (.block 1 (.seq (.region true [oL 15 1 3,om 16 1,om 17 2,om 18 8,oo 19 (.indexAddr 2 (.s 17) (.s 18)),oA 20 0 19,ol 21 1 20,
 oo 22 (.call 14 [(.s 15),(.s 16),(.s 21)]),om 23 2,om 24 8,oo 25 (.indexAddr 2 (.s 23) (.s 24)),oA 26 1 25,ol 27 1 26,oo 28 (.call 60 [(.s 22),(.s 27)])]) [1,2,3,7,8,28] (.block 2 (.seq (.region false [oo 30 (.bin .eql false (.s 28) (.c (.int .i64 0))),om 29 30]) [1,2,3,7,8,28,29] (.cond (.s 29) (
 .seq (.region false [oo 6 (.mov (.c (.int .i64 (-1))))]) [6] (.ret)) (.seq (.region false [oo 32 (.bin .eql false (.s 28) (.c (.int .i64 1))),om 31 32]) [1,2,3,7,8,31] (.cond (.s 31) (.seq (.seq (.region false [om 33 7,oo 34 (.bin .geq false (.s 33) (.c (.int .i64 0)))]) [1,2,3,8,34] (
 .cond (.s 34) (.seq (.region false [oo 6 (.mov (.c (.int .i64 (-1))))]) [6] (.ret)) (.skip))) [1,2,3,8] (.region false [om 35 2,om 36 8,oo 37 (.indexAddr 2 (.s 35) (.s 36)),oA 38 0 37,ol 39 1 38,om 7 39])) (.skip)))))))) [1,2,3,7,8] (.region false [om 13 8,
 oo 14 (.bin .add false (.s 13) (.c (.int .i64 1))),om 8 14])))))) [7] (.seq (.region false [om 40 7,om 6 40]) [6] (.ret))))⟩
def tf101 : TFn := ⟨50,[.tmp 4],.seq (.region false [oo 2 (.box 26 (.s 0)),oo 3 (.box 81 (.s 1)),oo 4 (.mov (.c (.int .i64 0)))]) [2,3] (.seq (.seq (.region false [oA 8 0 3,ol 9 1 8,oo 10 (.bin .lss false (.s 9) (.c (.int .i64 0))),om 11 10,oF 12 11 (.fieldAddr 0 (.s 3)),
 oF 13 11 (.load false 1 (.s 12)),oF 14 11 (.fieldAddr 0 (.s 2)),oF 15 11 (.load false 1 (.s 14)),oF 16 11 (.len (.s 15)),oF 17 11 (.bin .geq false (.s 13) (.s 16)),oo 18 (.pick (.s 11) (.c (.bool true)) (.s 17))]) [2,3,18] (.cond (.s 18) (.seq (.region false [oo 4 (.mov (.c (.int .i64 0)))]) [4] (
 .ret)) (.skip))) [2,3] (.seq (.region false [oo 5 (.mov (.c (.int .i64 0)))]) [2,3,5] (.seq (.region false [oA 19 0 2,ol 20 1 19,oA 21 0 3,ol 22 1 21,oo 23 (.indexAddr 3 (.s 20) (.s 22)),oA 24 2 23,ol 25 1 24,om 6 25]) [3,5,6] (.seq (.seq (
 .region false [oo 7 (.mov (.c (.int .i64 0)))]) [3,5,6,7] (.block 0 (.loop (.seq (.seq (.region false [om 26 7,om 27 6,oo 28 (.len (.s 27)),oo 29 (.bin .lss false (.s 26) (.s 28)),om 30 29,oT 31 30 (.mov (.s 7)),oT 32 30 (.bin .lss false (.s 31) (.c (.int .i64 16))),
 oo 33 (.pick (.s 30) (.s 32) (.c (.bool false)))]) [3,5,6,7,33] (.cond (.s 33) (.skip) (.exit 0))) [3,5,6,7] (.seq (.block 1 (.seq (.region true [oA 36 1 3,oL 37 2 36,om 38 6,om 39 7,oo 40 (.indexAddr 8 (.s 38) (.s 39)),oA 41 0 40,oL 42 5 41,oo 43 (.call 114 [(.s 37),(.s 42)])]) [3,5,6,7,43] (
 .cond (.s 43) (.region false [om 44 5,om 45 7,oo 46 (.bin .add false (.s 45) (.c (.int .i64 1))),oo 47 (.call 55 [(.s 46)]),oo 48 (.bin .add false (.s 44) (.s 47)),om 5 48]) (.skip)))) [3,5,6,7] (.region false [om 34 7,oo 35 (.bin .add false (.s 34) (.c (.int .i64 1))),om 7 35])))))) [5] (.seq (
 .region false [om 49 5,om 4 49]) [4] (.ret))))))⟩
def tf102 : TFn := ⟨26,[.tmp 4],.seq (.region false [oo 4 (.mov (.c (.bool false)))]) [0,1] (.seq (.seq (.region false [om 6 0,oo 7 (.len (.s 6)),om 8 1,oo 9 (.len (.s 8)),oo 10 (.bin .neq false (.s 7) (.s 9))]) [0,1,10] (.cond (.s 10) (.seq (.region false [oo 4 (.mov (.c (.bool false)))]) [4] (
 .ret)) (.skip))) [0,1] (.seq (.seq (.region false [oo 5 (.mov (.c (.int .i64 0)))]) [0,1,5] (.block 0 (.loop (.seq (.seq (.region false [om 11 5,om 12 0,oo 13 (.len (.s 12)),oo 14 (.bin .lss false (.s 11) (.s 13))]) [0,1,5,14] (.cond (.s 14) (.skip) (.exit 0))) [0,1,5] (.seq (.block 1 (.seq (
 .region true [om 17 0,om 18 5,oo 19 (.indexAddr 2 (.s 17) (.s 18)),oL 20 2 19,om 21 1,om 22 5,oo 23 (.indexAddr 2 (.s 21) (.s 22)),oL 24 2 23,oo 25 (.eqs true [0,0] (.s 20) (.s 24))]) [0,1,5,25] (.cond (.s 25) (.seq (.region false [oo 4 (.mov (.c (.bool false)))]) [4] (.ret)) (.skip)))) [0,1,5] (
 .region false [om 15 5,oo 16 (.bin .add false (.s 15) (.c (.int .i64 1))),om 5 16])))))) [] (.seq (.region false [oo 4 (.mov (.c (.bool true)))]) [4] (.ret))))⟩
def tf103 : TFn := ⟨28,[.tmp 4],.seq (.region false [oo 4 (.mov (.c (.fsl [])))]) [0,1] (.seq (.region false [oo 5 (.mov (.c (.fsl [])))]) [0,1,5] (.seq (.seq (.region false [oo 6 (.mov (.c (.int .i64 0)))]) [0,1,5,6] (.block 0 (.loop (.seq (.seq (.region false [om 7 6,om 8 0,oo 9 (.len (.s 8)),
 oo 10 (.bin .lss false (.s 7) (.s 9))]) [0,1,5,6,10] (.cond (.s 10) (.skip) (.exit 0))) [0,1,5,6] (.seq (.block 1 (.seq (.region false [om 13 0,om 14 6,oo 15 (.indexAddr 2 (.s 13) (.s 14)),oA 16 0 15,ol 17 1 16,om 18 1,oo 19 (.bin .neq false (.s 17) (.s 18))]) [0,1,5,6,19] (.cond (.s 19) (
 .region false [om 20 5,om 21 0,om 22 6,oo 23 (.indexAddr 2 (.s 21) (.s 22)),oL 24 2 23,oo 25 (.buildSlice 2 35 [(.s 24)]),oo 26 (.append 2 35 16 (.s 20) (.s 25)),om 5 26]) (.skip)))) [0,1,5,6] (.region false [om 11 6,oo 12 (.bin .add false (.s 11) (.c (.int .i64 1))),om 6 12])))))) [5] (.seq (
 .region false [om 27 5,om 4 27]) [4] (.ret))))⟩
def tf104 : TFn := ⟨31,[.tmp 2],.seq (.region false [oo 2 (.mov (.c (.fsl [])))]) [0] (.seq (.region false [oo 3 (.mov (.c (.fsl [])))]) [0,3] (.seq (.seq (.region false [oo 4 (.mov (.c (.int .i64 0)))]) [0,3,4] (.block 0 (.loop (.seq (.seq (.region false [om 6 4,
 oo 7 (.bin .lss false (.s 6) (.c (.int .i64 48)))]) [0,3,4,7] (.cond (.s 7) (.skip) (.exit 0))) [0,3,4] (.seq (.block 1 (.seq (.region false [oo 5 (.mov (.c (.int .i64 0)))]) [0,3,4,5] (.block 2 (.loop (.seq (.seq (.region false [om 10 5,om 11 0,oo 12 (.len (.s 11)),
 oo 13 (.bin .lss false (.s 10) (.s 12))]) [0,3,4,5,13] (.cond (.s 13) (.skip) (.exit 2))) [0,3,4,5] (.seq (.block 3 (.seq (.region false [om 16 0,om 17 5,oo 18 (.indexAddr 2 (.s 16) (.s 17)),oA 19 0 18,ol 20 1 19,om 21 4,oo 22 (.bin .eql false (.s 20) (.s 21))]) [0,3,4,5,22] (.cond (.s 22) (
 .region false [om 23 3,om 24 0,om 25 5,oo 26 (.indexAddr 2 (.s 24) (.s 25)),oL 27 2 26,oo 28 (.buildSlice 2 35 [(.s 27)]),oo 29 (.append 2 35 16 (.s 23) (.s 28)),om 3 29]) (.skip)))) [0,3,4,5] (.region false [om 14 5,oo 15 (.bin .add false (.s 14) (.c (.int .i64 1))),om 5 15]))))))) [0,3,4] (
 .region false [om 8 4,oo 9 (.bin .add false (.s 8) (.c (.int .i64 1))),om 4 9])))))) [3] (.seq (.region false [om 30 3,om 2 30]) [2] (.ret))))⟩
def tf105 : TFn := ⟨34,[.tmp 4],.seq (.region false [oo 4 (.mov (.c (.fsl [])))]) [0,1] (.seq (.region false [oo 5 (.mov (.c (.fsl [])))]) [0,1,5] (.seq (.region false [oo 6 (.mov (.c (.int .i64 0)))]) [0,1,5,6] (.seq (.seq (.region false [oo 7 (.mov (.c (.int .i64 0)))]) [0,1,5,6,7] (.block 0 (
 .loop (.seq (.seq (.region false [om 8 7,om 9 0,oo 10 (.lenStr (.s 9)),oo 11 (.bin .lss false (.s 8) (.s 10))]) [0,1,5,6,7,11] (.cond (.s 11) (.skip) (.exit 0))) [0,1,5,6,7] (.seq (.block 1 (.seq (.region false [om 14 0,om 15 7,oo 16 (.indexStr (.s 14) (.s 15)),om 17 1,
 oo 18 (.bin .eql false (.s 16) (.s 17))]) [0,1,5,6,7,18] (.cond (.s 18) (.seq (.region false [om 19 5,om 20 0,om 21 6,om 22 7,oo 23 (.sliceStr (.s 20) (some (.s 21)) (some (.s 22))),oo 24 (.buildSlice 1 9 [(.s 23)]),oo 25 (.append 1 9 16 (.s 19) (.s 24)),om 5 25]) [0,1,5,7] (
 .region false [om 26 7,oo 27 (.bin .add false (.s 26) (.c (.int .i64 1))),om 6 27])) (.skip)))) [0,1,5,6,7] (.region false [om 12 7,oo 13 (.bin .add false (.s 12) (.c (.int .i64 1))),om 7 13])))))) [0,5,6] (.seq (.region false [om 28 5,om 29 0,om 30 6,oo 31 (.sliceStr (.s 29) (some (.s 30)) none),
 oo 32 (.buildSlice 1 9 [(.s 31)]),oo 33 (.append 1 9 16 (.s 28) (.s 32)),om 4 33]) [4] (.ret)))))⟩
def tf106 : TFn := ⟨40,[.tmp 2],.seq (.region false [oo 2 (.mov (.c (.bool false)))]) [0] (.seq (.seq (.region false [om 5 0,oo 6 (.lenStr (.s 5)),oo 7 (.bin .lss false (.s 6) (.c (.int .i64 1))),om 8 7,oF 9 8 (.mov (.s 0)),oF 10 8 (.lenStr (.s 9)),
 oF 11 8 (.bin .gtr false (.s 10) (.c (.int .i64 8))),oo 12 (.pick (.s 8) (.c (.bool true)) (.s 11))]) [0,12] (.cond (.s 12) (.seq (.region false [oo 2 (.mov (.c (.bool false)))]) [2] (.ret)) (.skip))) [0] (.seq (.seq (.region false [oo 3 (.mov (.c (.int .i64 0)))]) [0,3] (.block 0 (.loop (.seq (
 .seq (.region false [om 13 3,om 14 0,oo 15 (.lenStr (.s 14)),oo 16 (.bin .lss false (.s 13) (.s 15))]) [0,3,16] (.cond (.s 16) (.skip) (.exit 0))) [0,3] (.seq (.block 1 (.seq (.region false [om 19 0,om 20 3,oo 21 (.indexStr (.s 19) (.s 20)),om 4 21]) [0,3,4] (.seq (.region false [om 22 4,
 oo 23 (.bin .lss false (.s 22) (.c (.int .u8 97))),om 24 23,oF 25 24 (.mov (.s 4)),oF 26 24 (.bin .gtr false (.s 25) (.c (.int .u8 122))),oo 27 (.pick (.s 24) (.c (.bool true)) (.s 26)),om 28 27,oT 29 28 (.mov (.s 4)),oT 30 28 (.bin .lss false (.s 29) (.c (.int .u8 48))),oT 31 28 (.mov (.s 30)),
 oF 32 31 (.mov (.s 4)),oF 33 31 (.bin .gtr false (.s 32) (.c (.int .u8 57))),oT 34 28 (.pick (.s 31) (.c (.bool true)) (.s 33)),oo 35 (.pick (.s 28) (.s 34) (.c (.bool false))),om 36 35,oT 37 36 (.mov (.s 4)),oT 38 36 (.bin .neq false (.s 37) (.c (.int .u8 45))),
 oo 39 (.pick (.s 36) (.s 38) (.c (.bool false)))]) [0,3,39] (.cond (.s 39) (.seq (.region false [oo 2 (.mov (.c (.bool false)))]) [2] (.ret)) (.skip))))) [0,3] (.region false [om 17 3,oo 18 (.bin .add false (.s 17) (.c (.int .i64 1))),om 3 18])))))) [] (.seq (
 .region false [oo 2 (.mov (.c (.bool true)))]) [2] (.ret))))⟩
def tf107 : TFn := ⟨46,[.tmp 2,.tmp 3],.seq (.region false [oo 2 (.mov (.c (.int .i64 0))),oo 3 (.mov (.c (.bool false)))]) [0] (.seq (.seq (.region false [om 6 0,oo 7 (.lenStr (.s 6)),oo 8 (.bin .lss false (.s 7) (.c (.int .i64 1))),om 9 8,oF 10 9 (.mov (.s 0)),oF 11 9 (.lenStr (.s 10)),
 oF 12 9 (.bin .gtr false (.s 11) (.c (.int .i64 9))),oo 13 (.pick (.s 9) (.c (.bool true)) (.s 12)),om 14 13,oF 15 14 (.mov (.s 0)),oF 16 14 (.lenStr (.s 15)),oF 17 14 (.bin .gtr false (.s 16) (.c (.int .i64 1))),oF 18 14 (.mov (.s 17)),oT 19 18 (.mov (.s 0)),
 oT 20 18 (.indexStr (.s 19) (.c (.int .i64 0))),oT 21 18 (.bin .eql false (.s 20) (.c (.int .u8 48))),oF 22 14 (.pick (.s 18) (.s 21) (.c (.bool false))),oo 23 (.pick (.s 14) (.c (.bool true)) (.s 22))]) [0,23] (.cond (.s 23) (.seq (.region false [oo 2 (.mov (.c (.int .i64 0))),
 oo 3 (.mov (.c (.bool false)))]) [2,3] (.ret)) (.skip))) [0] (.seq (.region false [oo 4 (.mov (.c (.int .i64 0)))]) [0,4] (.seq (.seq (.region false [oo 5 (.mov (.c (.int .i64 0)))]) [0,4,5] (.block 0 (.loop (.seq (.seq (.region false [om 24 5,om 25 0,oo 26 (.lenStr (.s 25)),
 oo 27 (.bin .lss false (.s 24) (.s 26))]) [0,4,5,27] (.cond (.s 27) (.skip) (.exit 0))) [0,4,5] (.seq (.block 1 (.seq (.seq (.region false [om 30 0,om 31 5,oo 32 (.indexStr (.s 30) (.s 31)),oo 33 (.call 115 [(.s 32)]),oo 34 (.un .not (.s 33))]) [0,4,5,34] (.cond (.s 34) (.seq (
 .region false [oo 2 (.mov (.c (.int .i64 0))),oo 3 (.mov (.c (.bool false)))]) [2,3] (.ret)) (.skip))) [0,4,5] (.region false [om 35 4,oo 36 (.bin .mul false (.s 35) (.c (.int .i64 10))),om 37 0,om 38 5,oo 39 (.indexStr (.s 37) (.s 38)),oo 40 (.bin .sub false (.s 39) (.c (.int .u8 48))),
 oo 41 (.conv .i64 (.s 40)),oo 42 (.bin .add false (.s 36) (.s 41)),om 4 42]))) [0,4,5] (.region false [om 28 5,oo 29 (.bin .add false (.s 28) (.c (.int .i64 1))),om 5 29])))))) [4] (.seq (.seq (.region false [om 43 4,oo 44 (.bin .gtr false (.s 43) (.c (.int .i64 9999)))]) [4,44] (.cond (.s 44) (
 .seq (.region false [oo 2 (.mov (.c (.int .i64 0))),oo 3 (.mov (.c (.bool false)))]) [2,3] (.ret)) (.skip))) [4] (.seq (.region false [om 45 4,om 2 45,oo 3 (.mov (.c (.bool true)))]) [2,3] (.ret))))))⟩
def tf108 : TFn := ⟨23,[.tmp 2],.seq (.region false [oo 2 (.mov (.c (.bool false)))]) [0] (.seq (.seq (.region false [oo 3 (.mov (.c (.int .i64 0)))]) [0,3] (.block 0 (.loop (.seq (.seq (.region false [om 4 3,om 5 0,oo 6 (.lenStr (.s 5)),oo 7 (.bin .lss false (.s 4) (.s 6))]) [0,3,7] (
 .cond (.s 7) (.skip) (.exit 0))) [0,3] (.seq (.block 1 (.seq (.region false [om 10 0,om 11 3,oo 12 (.indexStr (.s 10) (.s 11)),oo 13 (.bin .lss false (.s 12) (.c (.int .u8 48))),om 14 13,oF 15 14 (.mov (.s 0)),oF 16 14 (.mov (.s 3)),oF 17 14 (.indexStr (.s 15) (.s 16)),
 oF 18 14 (.bin .gtr false (.s 17) (.c (.int .u8 57))),oo 19 (.pick (.s 14) (.c (.bool true)) (.s 18))]) [0,3,19] (.cond (.s 19) (.seq (.region false [oo 2 (.mov (.c (.bool false)))]) [2] (.ret)) (.skip)))) [0,3] (.region false [om 8 3,oo 9 (.bin .add false (.s 8) (.c (.int .i64 1))),
 om 3 9])))))) [0] (.seq (.region false [om 20 0,oo 21 (.lenStr (.s 20)),oo 22 (.bin .gtr false (.s 21) (.c (.int .i64 0))),om 2 22]) [2] (.ret)))⟩
def tf109 : TFn := ⟨47,[.cell 4 true 5,.tmp 5],.seq (.region false [oo 2 (.box 68 (.s 0)),oo 4 (.alloc 68 [(.int .i64 0),(.int .i64 0),(.int .i64 0),(.str []),(.str [])]),oo 5 (.mov (.c (.bool false)))]) [1,2,4] (.seq (.seq (.region false [oL 7 5 2,oo 8 (.call 67 [(.s 7)]),oo 9 (.un .not (.s 8)),
 om 10 9,oF 11 10 (.mov (.s 1)),oF 12 10 (.bin .lss false (.s 11) (.c (.int .i64 0))),oo 13 (.pick (.s 10) (.c (.bool true)) (.s 12)),om 14 13,oF 15 14 (.mov (.s 1)),oF 16 14 (.bin .gtr false (.s 15) (.c (.int .i64 2))),oo 17 (.pick (.s 14) (.c (.bool true)) (.s 16))]) [1,2,4,17] (.cond (.s 17) (
 .seq (.region false [oo 18 (.build [(.int .i64 0),(.int .i64 0),(.int .i64 0),(.str []),(.str [])] []),⟨none,.store 5 (.s 4) (.s 18),none⟩,oo 5 (.mov (.c (.bool false)))]) [4,5] (.ret)) (.skip))) [1,2,4] (.seq (
 .region false [oo 6 (.alloc 68 [(.int .i64 0),(.int .i64 0),(.int .i64 0),(.str []),(.str [])])]) [1,2,4,6] (.seq (.seq (.region false [om 19 1]) [2,4,6,19] (.block 0 (.seq (.region false [oo 29 (.bin .eql false (.s 19) (.c (.int .i64 0))),om 28 29]) [2,4,6,19,28] (.cond (.s 28) (
 .region false [oA 30 0 2,ol 31 1 30,oo 32 (.bin .add false (.s 31) (.c (.int .i64 1))),oo 33 (.build [(.int .i64 0),(.int .i64 0),(.int .i64 0),(.str []),(.str [])] [(0,1,(.s 32))]),⟨none,.store 5 (.s 6) (.s 33),none⟩]) (.seq (.region false [oo 35 (.bin .eql false (.s 19) (.c (.int .i64 1))),
 om 34 35]) [2,4,6,34] (.cond (.s 34) (.region false [oA 36 0 2,ol 37 1 36,oA 38 1 2,ol 39 1 38,oo 40 (.bin .add false (.s 39) (.c (.int .i64 1))),oo 41 (.build [(.int .i64 0),(.int .i64 0),(.int .i64 0),(.str []),(.str [])] [(0,1,(.s 37)),(1,1,(.s 40))]),⟨none,.store 5 (.s 6) (.s 41),none⟩]) (
 .region false [oA 20 0 2,ol 21 1 20,oA 22 1 2,ol 23 1 22,oA 24 2 2,ol 25 1 24,oo 26 (.bin .add false (.s 25) (.c (.int .i64 1))),oo 27 (.build [(.int .i64 0),(.int .i64 0),(.int .i64 0),(.str []),(.str [])] [(0,1,(.s 21)),(1,1,(.s 23)),(2,1,(.s 26))]),
 ⟨none,.store 5 (.s 6) (.s 27),none⟩]))))))) [4,6] (.seq (.seq (.region false [oL 42 5 6,oo 43 (.call 67 [(.s 42)]),oo 44 (.un .not (.s 43))]) [4,6,44] (.cond (.s 44) (.seq (.region false [oo 45 (.build [(.int .i64 0),(.int .i64 0),(.int .i64 0),(.str []),(.str [])] []),
 ⟨none,.store 5 (.s 4) (.s 45),none⟩,oo 5 (.mov (.c (.bool false)))]) [4,5] (.ret)) (.skip))) [4,6] (.seq (.region false [oL 46 5 6,⟨none,.store 5 (.s 4) (.s 46),none⟩,oo 5 (.mov (.c (.bool true)))]) [4,5] (.ret))))))⟩
def tf110 : TFn := ⟨39,[.tmp 2],.seq (.region false [oo 1 (.box 78 (.s 0)),oo 2 (.mov (.c (.bool false)))]) [1] (.seq (.seq (.region false [oA 4 0 1,ol 5 1 4,oo 6 (.call 116 [(.s 5)]),oo 7 (.un .not (.s 6)),om 8 7,oF 9 8 (.fieldAddr 1 (.s 1)),oF 10 8 (.load false 1 (.s 9)),
 oF 11 8 (.call 116 [(.s 10)]),oF 12 8 (.un .not (.s 11)),oo 13 (.pick (.s 8) (.c (.bool true)) (.s 12))]) [1,13] (.cond (.s 13) (.seq (.region false [oo 2 (.mov (.c (.bool false)))]) [2] (.ret)) (.skip))) [1] (.seq (.seq (.region false [oo 3 (.mov (.c (.int .i64 0)))]) [1,3] (.block 0 (.loop (
 .seq (.seq (.region false [om 14 3,oA 15 0 1,ol 16 1 15,oo 17 (.len (.s 16)),oo 18 (.bin .lss false (.s 14) (.s 17))]) [1,3,18] (.cond (.s 18) (.skip) (.exit 0))) [1,3] (.seq (.block 1 (.seq (.region false [oA 21 0 1,ol 22 1 21,om 23 3,oo 24 (.indexAddr 14 (.s 22) (.s 23)),oA 25 0 24,oL 26 7 25,
 oo 27 (.call 117 [(.s 26)]),oo 28 (.un .not (.s 27)),om 29 28,oF 30 29 (.fieldAddr 0 (.s 1)),oF 31 29 (.load false 1 (.s 30)),oF 32 29 (.mov (.s 3)),oF 33 29 (.indexAddr 14 (.s 31) (.s 32)),oF 34 29 (.fieldAddr 7 (.s 33)),oF 35 29 (.load true 7 (.s 34)),oF 36 29 (.call 117 [(.s 35)]),
 oF 37 29 (.un .not (.s 36)),oo 38 (.pick (.s 29) (.c (.bool true)) (.s 37))]) [1,3,38] (.cond (.s 38) (.seq (.region false [oo 2 (.mov (.c (.bool false)))]) [2] (.ret)) (.skip)))) [1,3] (.region false [om 19 3,oo 20 (.bin .add false (.s 19) (.c (.int .i64 1))),om 3 20])))))) [] (.seq (
 .region false [oo 2 (.mov (.c (.bool true)))]) [2] (.ret))))⟩
def tf111 : TFn := ⟨24,[.tmp 4],.seq (.region false [oo 4 (.mov (.c (.fsl [])))]) [0,1] (.seq (.seq (.region false [om 7 0,oo 8 (.call 116 [(.s 7)]),oo 9 (.un .not (.s 8)),om 10 9,oF 11 10 (.mov (.s 1)),oF 12 10 (.call 116 [(.s 11)]),oF 13 10 (.un .not (.s 12)),
 oo 14 (.pick (.s 10) (.c (.bool true)) (.s 13))]) [0,1,14] (.cond (.s 14) (.seq (.region false [oo 4 (.mov (.c (.fsl [])))]) [4] (.ret)) (.skip))) [0,1] (.seq (.region false [om 16 0,oo 17 (.append 14 115 144 (.c (.fsl [])) (.s 16)),om 18 1,oo 19 (.append 14 115 144 (.s 17) (.s 18)),
 oo 20 (.call 118 [(.s 19)]),om 15 20,oe 21 0 15,oe 22 1 15,om 5 21,om 6 22]) [5] (.seq (.region false [om 23 5,om 4 23]) [4] (.ret))))⟩
def tf112 : TFn := ⟨5,[.tmp 0],.seq (.region false [oo 0 (.mov (.c (.fsl [])))]) [] (.seq (.region false [oo 1 (.call 94 []),oo 2 (.call 96 []),
 oo 3 (.build [(.int .i64 0),(.int .i64 0),(.int .i64 0),(.int .i64 0),(.str []),(.str []),(.bool false),(.int .i64 0),(.int .i64 0),(.int .i64 0),(.int .i64 0),(.str []),(.str []),(.bool false)] [(0,7,(.s 1)),(7,7,(.s 2))]),oo 4 (.buildSlice 14 115 [(.s 3)]),om 0 4]) [0] (.ret))⟩
def tf113 : TFn := ⟨42,[.tmp 2],.seq (.region false [oo 2 (.mov (.c (.fsl [])))]) [0] (.seq (.seq (.region false [om 6 0,oo 7 (.call 116 [(.s 6)]),oo 8 (.un .not (.s 7))]) [0,8] (.cond (.s 8) (.seq (.region false [oo 2 (.mov (.c (.fsl [])))]) [2] (.ret)) (.skip))) [0] (.seq (
 .region false [oo 3 (.mov (.c (.fsl [])))]) [0,3] (.seq (.region false [om 9 0,oo 10 (.call 119 [(.s 9)]),om 4 10]) [0,3,4] (.seq (.seq (.region false [oo 5 (.mov (.c (.int .i64 0)))]) [0,3,4,5] (.block 0 (.loop (.seq (.seq (.region false [om 11 5,
 oo 12 (.bin .add false (.s 11) (.c (.int .i64 1))),om 13 4,oo 14 (.len (.s 13)),oo 15 (.bin .lss false (.s 12) (.s 14))]) [0,3,4,5,15] (.cond (.s 15) (.skip) (.exit 0))) [0,3,4,5] (.seq (.block 1 (.seq (.region true [om 18 0,om 19 4,om 20 5,oo 21 (.indexAddr 7 (.s 19) (.s 20)),oL 22 7 21,om 23 4,
 om 24 5,oo 25 (.bin .add false (.s 24) (.c (.int .i64 1))),oo 26 (.indexAddr 7 (.s 23) (.s 25)),oL 27 7 26,oo 28 (.call 120 [(.s 18),(.s 22),(.s 27)]),oo 29 (.un .not (.s 28))]) [0,3,4,5,29] (.cond (.s 29) (.region true [om 30 3,om 31 4,om 32 5,oo 33 (.indexAddr 7 (.s 31) (.s 32)),oL 34 7 33,
 om 35 4,om 36 5,oo 37 (.bin .add false (.s 36) (.c (.int .i64 1))),oo 38 (.indexAddr 7 (.s 35) (.s 37)),oL 39 7 38,oo 40 (.call 121 [(.s 30),(.s 34),(.s 39)]),om 3 40]) (.skip)))) [0,3,4,5] (.region false [om 16 5,oo 17 (.bin .add false (.s 16) (.c (.int .i64 1))),om 5 17])))))) [3] (.seq (
 .region false [om 41 3,om 2 41]) [2] (.ret))))))⟩
def tf114 : TFn := ⟨24,[.tmp 4],.seq (.region false [oo 2 (.box 78 (.s 0)),oo 3 (.box 68 (.s 1)),oo 4 (.mov (.c (.bool false)))]) [2,3] (.seq (.seq (.region false [oL 5 2 2,oo 6 (.call 110 [(.s 5)]),oo 7 (.un .not (.s 6)),om 8 7,oF 9 8 (.load true 5 (.s 3)),oF 10 8 (.call 67 [(.s 9)]),
 oF 11 8 (.un .not (.s 10)),oo 12 (.pick (.s 8) (.c (.bool true)) (.s 11))]) [2,3,12] (.cond (.s 12) (.seq (.region false [oo 4 (.mov (.c (.bool false)))]) [4] (.ret)) (.skip))) [2,3] (.seq (.seq (.region false [oA 13 3 3,ol 14 1 13,oo 15 (.bin .eql false (.s 14) (.c (.str [])))]) [2,3,15] (
 .cond (.s 15) (.seq (.region false [oA 16 0 2,ol 17 1 16,oL 18 5 3,oo 19 (.call 122 [(.s 17),(.s 18)]),om 4 19]) [4] (.ret)) (.skip))) [2,3] (.seq (.region false [oA 20 1 2,ol 21 1 20,oL 22 5 3,oo 23 (.call 122 [(.s 21),(.s 22)]),om 4 23]) [4] (.ret))))⟩
def tf115 : TFn := ⟨9,[.tmp 2],.seq (.region false [oo 2 (.mov (.c (.bool false)))]) [0] (.seq (.region false [om 3 0,oo 4 (.bin .geq false (.s 3) (.c (.int .u8 48))),om 5 4,oT 6 5 (.mov (.s 0)),oT 7 5 (.bin .leq false (.s 6) (.c (.int .u8 57))),oo 8 (.pick (.s 5) (.s 7) (.c (.bool false))),
 om 2 8]) [2] (.ret))⟩
def tf116 : TFn := ⟨35,[.tmp 2],.seq (.region false [oo 2 (.mov (.c (.bool false)))]) [0] (.seq (.seq (.region false [oo 3 (.mov (.c (.int .i64 0)))]) [0,3] (.block 0 (.loop (.seq (.seq (.region false [om 4 3,om 5 0,oo 6 (.len (.s 5)),oo 7 (.bin .lss false (.s 4) (.s 6))]) [0,3,7] (.cond (.s 7) (
 .skip) (.exit 0))) [0,3] (.seq (.block 1 (.seq (.region true [om 10 0,om 11 3,oo 12 (.indexAddr 14 (.s 10) (.s 11)),oL 13 14 12,oo 14 (.call 123 [(.s 13)]),oo 15 (.un .not (.s 14)),om 16 15,oF 17 16 (.mov (.s 3)),oF 18 16 (.bin .gtr false (.s 17) (.c (.int .i64 0))),oF 19 16 (.mov (.s 18)),
 oT 20 19 (.mov (.s 0)),oT 21 19 (.mov (.s 3)),oT 22 19 (.bin .sub false (.s 21) (.c (.int .i64 1))),oT 23 19 (.indexAddr 14 (.s 20) (.s 22)),oT 24 19 (.fieldAddr 7 (.s 23)),oT 25 19 (.load true 7 (.s 24)),oT 26 19 (.mov (.s 0)),oT 27 19 (.mov (.s 3)),oT 28 19 (.indexAddr 14 (.s 26) (.s 27)),
 oT 29 19 (.fieldAddr 0 (.s 28)),oT 30 19 (.load true 7 (.s 29)),oT 31 19 (.call 124 [(.s 25),(.s 30)]),oT 32 19 (.bin .geq false (.s 31) (.c (.int .i64 0))),oF 33 16 (.pick (.s 19) (.s 32) (.c (.bool false))),oo 34 (.pick (.s 16) (.c (.bool true)) (.s 33))]) [0,3,34] (.cond (.s 34) (.seq (
 .region false [oo 2 (.mov (.c (.bool false)))]) [2] (.ret)) (.skip)))) [0,3] (.region false [om 8 3,oo 9 (.bin .add false (.s 8) (.c (.int .i64 1))),om 3 9])))))) [] (.seq (.region false [oo 2 (.mov (.c (.bool true)))]) [2] (.ret)))⟩
def tf117 : TFn := ⟨23,[.tmp 2],.seq (.region false [oo 1 (.box 112 (.s 0)),oo 2 (.mov (.c (.bool false)))]) [1] (.seq (.region false [oA 3 0 1,ol 4 1 3,oo 5 (.bin .neq false (.s 4) (.c (.int .i64 0))),om 6 5,oF 7 6 (.fieldAddr 6 (.s 1)),oF 8 6 (.load false 1 (.s 7)),oF 9 6 (.un .not (.s 8)),
 oF 10 6 (.mov (.s 9)),oT 11 10 (.fieldAddr 1 (.s 1)),oT 12 10 (.fieldAddr 3 (.s 11)),oT 13 10 (.load false 1 (.s 12)),oT 14 10 (.bin .eql false (.s 13) (.c (.str []))),oF 15 6 (.pick (.s 10) (.s 14) (.c (.bool false))),oF 16 6 (.mov (.s 15)),oT 17 16 (.fieldAddr 1 (.s 1)),
 oT 18 16 (.load true 5 (.s 17)),oT 19 16 (.call 93 [(.s 18)]),oT 20 16 (.un .not (.s 19)),oF 21 6 (.pick (.s 16) (.s 20) (.c (.bool false))),oo 22 (.pick (.s 6) (.c (.bool true)) (.s 21)),om 2 22]) [2] (.ret))⟩
def tf118 : TFn := ⟨52,[.tmp 2,.tmp 3],.seq (.region false [oo 2 (.mov (.c (.fsl []))),oo 3 (.mov (.c (.bool false)))]) [0] (.seq (.seq (.region false [oo 4 (.mov (.c (.int .i64 0)))]) [0,4] (.block 0 (.loop (.seq (.seq (.region false [om 8 4,om 9 0,oo 10 (.len (.s 9)),
 oo 11 (.bin .lss false (.s 8) (.s 10))]) [0,4,11] (.cond (.s 11) (.skip) (.exit 0))) [0,4] (.seq (.block 1 (.seq (.region false [om 14 0,om 15 4,oo 16 (.indexAddr 14 (.s 14) (.s 15)),oL 17 14 16,oo 18 (.call 123 [(.s 17)]),oo 19 (.un .not (.s 18))]) [0,4,19] (.cond (.s 19) (.seq (
 .region false [oo 2 (.mov (.c (.fsl []))),oo 3 (.mov (.c (.bool false)))]) [2,3] (.ret)) (.skip)))) [0,4] (.region false [om 12 4,oo 13 (.bin .add false (.s 12) (.c (.int .i64 1))),om 4 13])))))) [0] (.seq (.region false [oo 5 (.mov (.c (.fsl [])))]) [0,5] (.seq (.region false [om 20 0,
 oo 21 (.call 119 [(.s 20)]),om 6 21]) [0,5,6] (.seq (.seq (.region false [oo 7 (.mov (.c (.int .i64 0)))]) [0,5,6,7] (.block 2 (.loop (.seq (.seq (.region false [om 22 7,oo 23 (.bin .add false (.s 22) (.c (.int .i64 1))),om 24 6,oo 25 (.len (.s 24)),
 oo 26 (.bin .lss false (.s 23) (.s 25))]) [0,5,6,7,26] (.cond (.s 26) (.skip) (.exit 2))) [0,5,6,7] (.seq (.block 3 (.seq (.region true [om 29 0,om 30 6,om 31 7,oo 32 (.indexAddr 7 (.s 30) (.s 31)),oL 33 7 32,om 34 6,om 35 7,oo 36 (.bin .add false (.s 35) (.c (.int .i64 1))),
 oo 37 (.indexAddr 7 (.s 34) (.s 36)),oL 38 7 37,oo 39 (.call 120 [(.s 29),(.s 33),(.s 38)])]) [0,5,6,7,39] (.cond (.s 39) (.region true [om 40 5,om 41 6,om 42 7,oo 43 (.indexAddr 7 (.s 41) (.s 42)),oL 44 7 43,om 45 6,om 46 7,oo 47 (.bin .add false (.s 46) (.c (.int .i64 1))),
 oo 48 (.indexAddr 7 (.s 45) (.s 47)),oL 49 7 48,oo 50 (.call 121 [(.s 40),(.s 44),(.s 49)]),om 5 50]) (.skip)))) [0,5,6,7] (.region false [om 27 7,oo 28 (.bin .add false (.s 27) (.c (.int .i64 1))),om 7 28])))))) [5] (.seq (.region false [om 51 5,om 2 51,oo 3 (.mov (.c (.bool true)))]) [2,3] (
 .ret))))))⟩
def tf119 : TFn := ⟨28,[.tmp 2],.seq (.region false [oo 2 (.mov (.c (.fsl [])))]) [0] (.seq (.region false [oo 5 (.call 94 []),oo 6 (.call 96 []),oo 7 (.buildSlice 7 112 [(.s 5),(.s 6)]),om 3 7]) [0,3] (.seq (.seq (.region false [oo 4 (.mov (.c (.int .i64 0)))]) [0,3,4] (.block 0 (.loop (.seq (
 .seq (.region false [om 8 4,om 9 0,oo 10 (.len (.s 9)),oo 11 (.bin .lss false (.s 8) (.s 10))]) [0,3,4,11] (.cond (.s 11) (.skip) (.exit 0))) [0,3,4] (.seq (.block 1 (.region true [om 14 3,om 15 0,om 16 4,oo 17 (.indexAddr 14 (.s 15) (.s 16)),oA 18 0 17,oL 19 7 18,
 oo 20 (.call 125 [(.s 14),(.s 19)]),om 21 0,om 22 4,oo 23 (.indexAddr 14 (.s 21) (.s 22)),oA 24 7 23,oL 25 7 24,oo 26 (.call 125 [(.s 20),(.s 25)]),om 3 26])) [0,3,4] (.region false [om 12 4,oo 13 (.bin .add false (.s 12) (.c (.int .i64 1))),om 4 13])))))) [3] (.seq (.region false [om 27 3,
 om 2 27]) [2] (.ret))))⟩
def tf120 : TFn := ⟨32,[.tmp 6],.seq (.region false [oo 4 (.box 112 (.s 1)),oo 5 (.box 112 (.s 2)),oo 6 (.mov (.c (.bool false)))]) [0,4,5] (.seq (.seq (.region false [oo 7 (.mov (.c (.int .i64 0)))]) [0,4,5,7] (.block 0 (.loop (.seq (.seq (.region false [om 8 7,om 9 0,oo 10 (.len (.s 9)),
 oo 11 (.bin .lss false (.s 8) (.s 10))]) [0,4,5,7,11] (.cond (.s 11) (.skip) (.exit 0))) [0,4,5,7] (.seq (.block 1 (.seq (.region true [om 14 0,om 15 7,oo 16 (.indexAddr 14 (.s 14) (.s 15)),oA 17 0 16,oL 18 7 17,oL 19 7 4,oo 20 (.call 124 [(.s 18),(.s 19)]),
 oo 21 (.bin .leq false (.s 20) (.c (.int .i64 0))),om 22 21,oT 23 22 (.load true 7 (.s 5)),oT 24 22 (.mov (.s 0)),oT 25 22 (.mov (.s 7)),oT 26 22 (.indexAddr 14 (.s 24) (.s 25)),oT 27 22 (.fieldAddr 7 (.s 26)),oT 28 22 (.load true 7 (.s 27)),oT 29 22 (.call 124 [(.s 23),(.s 28)]),
 oT 30 22 (.bin .leq false (.s 29) (.c (.int .i64 0))),oo 31 (.pick (.s 22) (.s 30) (.c (.bool false)))]) [0,4,5,7,31] (.cond (.s 31) (.seq (.region false [oo 6 (.mov (.c (.bool true)))]) [6] (.ret)) (.skip)))) [0,4,5,7] (.region false [om 12 7,oo 13 (.bin .add false (.s 12) (.c (.int .i64 1))),
 om 7 13])))))) [] (.seq (.region false [oo 6 (.mov (.c (.bool false)))]) [6] (.ret)))⟩
def tf121 : TFn := ⟨35,[.tmp 6],.seq (.region false [oo 4 (.box 112 (.s 1)),oo 5 (.box 112 (.s 2)),oo 6 (.mov (.c (.fsl [])))]) [0,4,5] (.seq (.seq (.region false [om 8 0,oo 9 (.len (.s 8)),oo 10 (.bin .sub false (.s 9) (.c (.int .i64 1))),om 7 10]) [0,4,5,7] (.seq (.region true [om 11 7,
 oo 12 (.bin .geq false (.s 11) (.c (.int .i64 0))),om 13 12,oT 14 13 (.mov (.s 0)),oT 15 13 (.mov (.s 7)),oT 16 13 (.indexAddr 14 (.s 14) (.s 15)),oT 17 13 (.fieldAddr 7 (.s 16)),oT 18 13 (.load true 7 (.s 17)),oT 19 13 (.load true 7 (.s 4)),oT 20 13 (.call 124 [(.s 18),(.s 19)]),
 oT 21 13 (.bin .eql false (.s 20) (.c (.int .i64 0))),oo 22 (.pick (.s 13) (.s 21) (.c (.bool false)))]) [0,4,5,7,22] (.cond (.s 22) (.seq (.region false [om 23 0,om 24 7,oL 25 7 5,oo 26 (.indexAddr 14 (.s 23) (.s 24)),oA 27 7 26,⟨none,.store 7 (.s 27) (.s 25),none⟩]) [0] (.seq (
 .region false [om 28 0,om 6 28]) [6] (.ret))) (.skip)))) [0,4,5] (.seq (.region false [om 29 0,oL 30 7 4,oL 31 7 5,
 oo 32 (.build [(.int .i64 0),(.int .i64 0),(.int .i64 0),(.int .i64 0),(.str []),(.str []),(.bool false),(.int .i64 0),(.int .i64 0),(.int .i64 0),(.int .i64 0),(.str []),(.str []),(.bool false)] [(0,7,(.s 30)),(7,7,(.s 31))]),oo 33 (.buildSlice 14 115 [(.s 32)]),
 oo 34 (.append 14 115 144 (.s 29) (.s 33)),om 6 34]) [6] (.ret)))⟩
def tf122 : TFn := ⟨22,[.tmp 4],.seq (.region false [oo 3 (.box 68 (.s 1)),oo 4 (.mov (.c (.bool false)))]) [0,3] (.seq (.seq (.region false [oo 5 (.mov (.c (.int .i64 0)))]) [0,3,5] (.block 0 (.loop (.seq (.seq (.region false [om 6 5,om 7 0,oo 8 (.len (.s 7)),oo 9 (.bin .lss false (.s 6) (.s 8)),
 om 10 9,oT 11 10 (.mov (.s 0)),oT 12 10 (.call 116 [(.s 11)]),oo 13 (.pick (.s 10) (.s 12) (.c (.bool false)))]) [0,3,5,13] (.cond (.s 13) (.skip) (.exit 0))) [0,3,5] (.seq (.block 1 (.seq (.region true [om 16 0,om 17 5,oo 18 (.indexAddr 14 (.s 16) (.s 17)),oL 19 14 18,oL 20 5 3,
 oo 21 (.call 126 [(.s 19),(.s 20)])]) [0,3,5,21] (.cond (.s 21) (.seq (.region false [oo 4 (.mov (.c (.bool true)))]) [4] (.ret)) (.skip)))) [0,3,5] (.region false [om 14 5,oo 15 (.bin .add false (.s 14) (.c (.int .i64 1))),om 5 15])))))) [] (.seq (
 .region false [oo 4 (.mov (.c (.bool false)))]) [4] (.ret)))⟩
def tf123 : TFn := ⟨19,[.tmp 2],.seq (.region false [oo 1 (.box 115 (.s 0)),oo 2 (.mov (.c (.bool false)))]) [1] (.seq (.region false [oA 3 0 1,oL 4 7 3,oo 5 (.call 127 [(.s 4)]),om 6 5,oT 7 6 (.fieldAddr 7 (.s 1)),oT 8 6 (.load true 7 (.s 7)),oT 9 6 (.call 127 [(.s 8)]),
 oo 10 (.pick (.s 6) (.s 9) (.c (.bool false))),om 11 10,oT 12 11 (.fieldAddr 0 (.s 1)),oT 13 11 (.load true 7 (.s 12)),oT 14 11 (.fieldAddr 7 (.s 1)),oT 15 11 (.load true 7 (.s 14)),oT 16 11 (.call 124 [(.s 13),(.s 15)]),oT 17 11 (.bin .lss false (.s 16) (.c (.int .i64 0))),
 oo 18 (.pick (.s 11) (.s 17) (.c (.bool false))),om 2 18]) [2] (.ret))⟩
def tf124 : TFn := ⟨46,[.tmp 4],.seq (.region false [oo 2 (.box 112 (.s 0)),oo 3 (.box 112 (.s 1)),oo 4 (.mov (.c (.int .i64 0)))]) [2,3] (.seq (.seq (.region false [oL 6 7 2,oo 7 (.call 127 [(.s 6)]),oo 8 (.un .not (.s 7)),om 9 8,oF 10 9 (.load true 7 (.s 3)),oF 11 9 (.call 127 [(.s 10)]),
 oF 12 9 (.un .not (.s 11)),oo 13 (.pick (.s 9) (.c (.bool true)) (.s 12))]) [2,3,13] (.cond (.s 13) (.seq (.region false [oo 4 (.mov (.c (.int .i64 0)))]) [4] (.ret)) (.skip))) [2,3] (.seq (.seq (.region false [oA 14 0 2,ol 15 1 14,oA 16 0 3,ol 17 1 16,oo 18 (.bin .neq false (.s 15) (.s 17)),
 om 19 18,oF 20 19 (.fieldAddr 0 (.s 2)),oF 21 19 (.load false 1 (.s 20)),oF 22 19 (.bin .neq false (.s 21) (.c (.int .i64 0))),oo 23 (.pick (.s 19) (.c (.bool true)) (.s 22))]) [2,3,23] (.cond (.s 23) (.seq (.region false [oA 24 0 2,ol 25 1 24,oA 26 0 3,ol 27 1 26,
 oo 28 (.call 128 [(.s 25),(.s 27)]),om 4 28]) [4] (.ret)) (.skip))) [2,3] (.seq (.seq (.region false [oA 29 1 2,oL 30 5 29,oA 31 1 3,oL 32 5 31,oo 33 (.call 129 [(.s 30),(.s 32)]),om 5 33]) [2,3,5] (.seq (.region false [om 34 5,oo 35 (.bin .neq false (.s 34) (.c (.int .i64 0)))]) [2,3,5,35] (
 .cond (.s 35) (.seq (.region false [om 36 5,om 4 36]) [4] (.ret)) (.skip)))) [2,3] (.seq (.block 0 (.seq (.region false [oA 38 6 2,ol 39 1 38,oA 40 6 3,ol 41 1 40,oo 42 (.bin .eql true (.s 39) (.s 41)),om 37 42]) [3,37] (.cond (.s 37) (.seq (.region false [oo 4 (.mov (.c (.int .i64 0)))]) [4] (
 .ret)) (.seq (.region false [oA 44 6 3,ol 45 1 44,om 43 45]) [43] (.cond (.s 43) (.seq (.region false [oo 4 (.mov (.c (.int .i64 (-1))))]) [4] (.ret)) (.skip)))))) [] (.seq (.region false [oo 4 (.mov (.c (.int .i64 1)))]) [4] (.ret))))))⟩
def tf125 : TFn := ⟨46,[.tmp 4],.seq (.region false [oo 3 (.box 112 (.s 1)),oo 4 (.mov (.c (.fsl [])))]) [0,3] (.seq (.region false [oo 5 (.mov (.c (.int .i64 0)))]) [0,3,5] (.seq (.block 0 (.loop (.seq (.seq (.region true [om 6 5,om 7 0,oo 8 (.len (.s 7)),oo 9 (.bin .lss false (.s 6) (.s 8)),
 om 10 9,oT 11 10 (.mov (.s 0)),oT 12 10 (.mov (.s 5)),oT 13 10 (.indexAddr 7 (.s 11) (.s 12)),oT 14 10 (.load true 7 (.s 13)),oT 15 10 (.load true 7 (.s 3)),oT 16 10 (.call 124 [(.s 14),(.s 15)]),oT 17 10 (.bin .lss false (.s 16) (.c (.int .i64 0))),
 oo 18 (.pick (.s 10) (.s 17) (.c (.bool false)))]) [0,3,5,18] (.cond (.s 18) (.skip) (.exit 0))) [0,3,5] (.block 1 (.region false [om 19 5,oo 20 (.bin .add false (.s 19) (.c (.int .i64 1))),om 5 20]))))) [0,3,5] (.seq (.seq (.region true [om 21 5,om 22 0,oo 23 (.len (.s 22)),
 oo 24 (.bin .lss false (.s 21) (.s 23)),om 25 24,oT 26 25 (.mov (.s 0)),oT 27 25 (.mov (.s 5)),oT 28 25 (.indexAddr 7 (.s 26) (.s 27)),oT 29 25 (.load true 7 (.s 28)),oT 30 25 (.load true 7 (.s 3)),oT 31 25 (.call 124 [(.s 29),(.s 30)]),oT 32 25 (.bin .eql false (.s 31) (.c (.int .i64 0))),
 oo 33 (.pick (.s 25) (.s 32) (.c (.bool false)))]) [0,3,5,33] (.cond (.s 33) (.seq (.region false [om 34 0,om 4 34]) [4] (.ret)) (.skip))) [0,3,5] (.seq (.region true [om 35 0,om 36 5,oo 37 (.slice 7 (.s 35) none (some (.s 36)) none),oo 38 (.append 7 112 72 (.c (.fsl [])) (.s 37)),oL 39 7 3,
 oo 40 (.buildSlice 7 112 [(.s 39)]),oo 41 (.append 7 112 72 (.s 38) (.s 40)),om 42 0,om 43 5,oo 44 (.slice 7 (.s 42) (some (.s 43)) none none),oo 45 (.append 7 112 72 (.s 41) (.s 44)),om 4 45]) [4] (.ret)))))⟩
def tf126 : TFn := ⟨24,[.tmp 4],.seq (.region false [oo 2 (.box 115 (.s 0)),oo 3 (.box 68 (.s 1)),oo 4 (.mov (.c (.bool false)))]) [2,3] (.seq (.region false [oL 5 14 2,oo 6 (.call 123 [(.s 5)]),om 7 6,oT 8 7 (.load true 5 (.s 3)),oT 9 7 (.call 67 [(.s 8)]),
 oo 10 (.pick (.s 7) (.s 9) (.c (.bool false))),om 11 10,oT 12 11 (.fieldAddr 0 (.s 2)),oT 13 11 (.load true 7 (.s 12)),oT 14 11 (.load true 5 (.s 3)),oT 15 11 (.call 130 [(.s 13),(.s 14)]),oo 16 (.pick (.s 11) (.s 15) (.c (.bool false))),om 17 16,oT 18 17 (.fieldAddr 7 (.s 2)),
 oT 19 17 (.load true 7 (.s 18)),oT 20 17 (.load true 5 (.s 3)),oT 21 17 (.call 130 [(.s 19),(.s 20)]),oT 22 17 (.un .not (.s 21)),oo 23 (.pick (.s 17) (.s 22) (.c (.bool false))),om 4 23]) [4] (.ret))⟩
def tf127 : TFn := ⟨34,[.tmp 2],.seq (.region false [oo 1 (.box 112 (.s 0)),oo 2 (.mov (.c (.bool false)))]) [1] (.seq (.seq (.region false [oA 3 0 1,ol 4 1 3,oo 5 (.bin .eql false (.s 4) (.c (.int .i64 0)))]) [1,5] (.cond (.s 5) (.seq (.region false [oA 6 1 1,oL 7 5 6,oo 8 (.call 67 [(.s 7)]),
 om 9 8,oT 10 9 (.fieldAddr 1 (.s 1)),oT 11 9 (.fieldAddr 4 (.s 10)),oT 12 9 (.load false 1 (.s 11)),oT 13 9 (.bin .eql false (.s 12) (.c (.str []))),oo 14 (.pick (.s 9) (.s 13) (.c (.bool false))),om 2 14]) [2] (.ret)) (.skip))) [1] (.seq (.region false [oA 15 0 1,ol 16 1 15,
 oo 17 (.bin .eql false (.s 16) (.c (.int .i64 (-1)))),om 18 17,oF 19 18 (.fieldAddr 0 (.s 1)),oF 20 18 (.load false 1 (.s 19)),oF 21 18 (.bin .eql false (.s 20) (.c (.int .i64 1))),oo 22 (.pick (.s 18) (.c (.bool true)) (.s 21)),om 23 22,oT 24 23 (.fieldAddr 1 (.s 1)),
 oT 25 23 (.load true 5 (.s 24)),oT 26 23 (.build [(.int .i64 0),(.int .i64 0),(.int .i64 0),(.str []),(.str [])] []),oT 27 23 (.eqs false [0,0,0,2,2] (.s 25) (.s 26)),oo 28 (.pick (.s 23) (.s 27) (.c (.bool false))),om 29 28,oT 30 29 (.fieldAddr 6 (.s 1)),oT 31 29 (.load false 1 (.s 30)),
 oT 32 29 (.un .not (.s 31)),oo 33 (.pick (.s 29) (.s 32) (.c (.bool false))),om 2 33]) [2] (.ret)))⟩
def tf128 : TFn := ⟨13,[.tmp 4],.seq (.region false [oo 4 (.mov (.c (.int .i64 0)))]) [0,1] (.seq (.block 0 (.seq (.region false [om 6 0,om 7 1,oo 8 (.bin .lss false (.s 6) (.s 7)),om 5 8]) [0,1,5] (.cond (.s 5) (.seq (.region false [oo 4 (.mov (.c (.int .i64 (-1))))]) [4] (.ret)) (.seq (
 .region false [om 10 0,om 11 1,oo 12 (.bin .gtr false (.s 10) (.s 11)),om 9 12]) [9] (.cond (.s 9) (.seq (.region false [oo 4 (.mov (.c (.int .i64 1)))]) [4] (.ret)) (.skip)))))) [] (.seq (.region false [oo 4 (.mov (.c (.int .i64 0)))]) [4] (.ret)))⟩
def tf129 : TFn := ⟨45,[.tmp 4],.seq (.region false [oo 2 (.box 68 (.s 0)),oo 3 (.box 68 (.s 1)),oo 4 (.mov (.c (.int .i64 0)))]) [2,3] (.seq (.seq (.region false [oL 8 5 2,oo 9 (.call 67 [(.s 8)]),oo 10 (.un .not (.s 9)),om 11 10,oF 12 11 (.load true 5 (.s 3)),oF 13 11 (.call 67 [(.s 12)]),
 oF 14 11 (.un .not (.s 13)),oo 15 (.pick (.s 11) (.c (.bool true)) (.s 14))]) [2,3,15] (.cond (.s 15) (.seq (.region false [oo 4 (.mov (.c (.int .i64 0)))]) [4] (.ret)) (.skip))) [2,3] (.seq (.seq (.region false [oA 16 0 2,ol 17 1 16,oA 18 0 3,ol 19 1 18,oo 20 (.call 128 [(.s 17),(.s 19)]),
 om 5 20]) [2,3,5] (.seq (.region false [om 21 5,oo 22 (.bin .neq false (.s 21) (.c (.int .i64 0)))]) [2,3,5,22] (.cond (.s 22) (.seq (.region false [om 23 5,om 4 23]) [4] (.ret)) (.skip)))) [2,3] (.seq (.seq (.region false [oA 24 1 2,ol 25 1 24,oA 26 1 3,ol 27 1 26,
 oo 28 (.call 128 [(.s 25),(.s 27)]),om 6 28]) [2,3,6] (.seq (.region false [om 29 6,oo 30 (.bin .neq false (.s 29) (.c (.int .i64 0)))]) [2,3,6,30] (.cond (.s 30) (.seq (.region false [om 31 6,om 4 31]) [4] (.ret)) (.skip)))) [2,3] (.seq (.seq (.region false [oA 32 2 2,ol 33 1 32,oA 34 2 3,
 ol 35 1 34,oo 36 (.call 128 [(.s 33),(.s 35)]),om 7 36]) [2,3,7] (.seq (.region false [om 37 7,oo 38 (.bin .neq false (.s 37) (.c (.int .i64 0)))]) [2,3,7,38] (.cond (.s 38) (.seq (.region false [om 39 7,om 4 39]) [4] (.ret)) (.skip)))) [2,3] (.seq (.region false [oA 40 3 2,ol 41 1 40,oA 42 3 3,
 ol 43 1 42,oo 44 (.call 131 [(.s 41),(.s 43)]),om 4 44]) [4] (.ret))))))⟩
def tf130 : TFn := ⟨35,[.tmp 4],.seq (.region false [oo 2 (.box 112 (.s 0)),oo 3 (.box 68 (.s 1)),oo 4 (.mov (.c (.bool false)))]) [2,3] (.seq (.seq (.region false [oL 6 7 2,oo 7 (.call 127 [(.s 6)]),oo 8 (.un .not (.s 7)),om 9 8,oF 10 9 (.load true 5 (.s 3)),oF 11 9 (.call 67 [(.s 10)]),
 oF 12 9 (.un .not (.s 11)),oo 13 (.pick (.s 9) (.c (.bool true)) (.s 12))]) [2,3,13] (.cond (.s 13) (.seq (.region false [oo 4 (.mov (.c (.bool false)))]) [4] (.ret)) (.skip))) [2,3] (.seq (.seq (.region false [oA 14 0 2,ol 15 1 14,oo 16 (.bin .neq false (.s 15) (.c (.int .i64 0)))]) [2,3,16] (
 .cond (.s 16) (.seq (.region false [oA 17 0 2,ol 18 1 17,oo 19 (.bin .lss false (.s 18) (.c (.int .i64 0))),om 4 19]) [4] (.ret)) (.skip))) [2,3] (.seq (.region false [oA 20 1 2,oL 21 5 20,oL 22 5 3,oo 23 (.call 129 [(.s 21),(.s 22)]),om 5 23]) [2,5] (.seq (.region false [om 24 5,
 oo 25 (.bin .lss false (.s 24) (.c (.int .i64 0))),om 26 25,oF 27 26 (.mov (.s 5)),oF 28 26 (.bin .eql false (.s 27) (.c (.int .i64 0))),oF 29 26 (.mov (.s 28)),oT 30 29 (.fieldAddr 6 (.s 2)),oT 31 29 (.load false 1 (.s 30)),oT 32 29 (.un .not (.s 31)),
 oF 33 26 (.pick (.s 29) (.s 32) (.c (.bool false))),oo 34 (.pick (.s 26) (.c (.bool true)) (.s 33)),om 4 34]) [4] (.ret)))))⟩
def tf131 : TFn := ⟨52,[.tmp 4],.seq (.region false [oo 4 (.mov (.c (.int .i64 0)))]) [0,1] (.seq (.block 0 (.seq (.region false [om 10 0,om 11 1,oo 12 (.bin .eql false (.s 10) (.s 11)),om 9 12]) [0,1,9] (.cond (.s 9) (.seq (.region false [oo 4 (.mov (.c (.int .i64 0)))]) [4] (.ret)) (.seq (
 .region false [om 14 0,oo 15 (.bin .eql false (.s 14) (.c (.str []))),om 13 15]) [0,1,13] (.cond (.s 13) (.seq (.region false [oo 4 (.mov (.c (.int .i64 1)))]) [4] (.ret)) (.seq (.region false [om 17 1,oo 18 (.bin .eql false (.s 17) (.c (.str []))),om 16 18]) [0,1,16] (.cond (.s 16) (.seq (
 .region false [oo 4 (.mov (.c (.int .i64 (-1))))]) [4] (.ret)) (.skip)))))))) [0,1] (.seq (.region false [om 19 0,oo 20 (.call 105 [(.s 19),(.c (.int .u8 46))]),om 21 1,oo 22 (.call 105 [(.s 21),(.c (.int .u8 46))]),om 5 20,om 6 22]) [5,6] (.seq (.seq (
 .region false [oo 7 (.mov (.c (.int .i64 0)))]) [5,6,7] (.block 1 (.loop (.seq (.seq (.region false [om 23 7,om 24 5,oo 25 (.len (.s 24)),oo 26 (.bin .lss false (.s 23) (.s 25)),om 27 26,oT 28 27 (.mov (.s 7)),oT 29 27 (.mov (.s 6)),oT 30 27 (.len (.s 29)),
 oT 31 27 (.bin .lss false (.s 28) (.s 30)),oo 32 (.pick (.s 27) (.s 31) (.c (.bool false)))]) [5,6,7,32] (.cond (.s 32) (.skip) (.exit 1))) [5,6,7] (.seq (.block 2 (.seq (.region true [om 35 5,om 36 7,oo 37 (.indexAddr 1 (.s 35) (.s 36)),ol 38 1 37,om 39 6,om 40 7,
 oo 41 (.indexAddr 1 (.s 39) (.s 40)),ol 42 1 41,oo 43 (.call 132 [(.s 38),(.s 42)]),om 8 43]) [5,6,7,8] (.seq (.region false [om 44 8,oo 45 (.bin .neq false (.s 44) (.c (.int .i64 0)))]) [5,6,7,8,45] (.cond (.s 45) (.seq (.region false [om 46 8,om 4 46]) [4] (.ret)) (.skip))))) [5,6,7] (
 .region false [om 33 7,oo 34 (.bin .add false (.s 33) (.c (.int .i64 1))),om 7 34])))))) [5,6] (.seq (.region false [om 47 5,oo 48 (.len (.s 47)),om 49 6,oo 50 (.len (.s 49)),oo 51 (.call 128 [(.s 48),(.s 50)]),om 4 51]) [4] (.ret)))))⟩
def tf132 : TFn := ⟨40,[.tmp 4],.seq (.region false [oo 4 (.mov (.c (.int .i64 0)))]) [0,1] (.seq (.region false [om 11 0,oo 12 (.call 108 [(.s 11)]),om 13 1,oo 14 (.call 108 [(.s 13)]),om 5 12,om 6 14]) [0,1,5,6] (.seq (.block 0 (.seq (.region false [om 16 5,om 17 16,oT 18 17 (.mov (.s 6)),
 oo 19 (.pick (.s 17) (.s 18) (.c (.bool false))),om 15 19]) [0,1,5,6,15] (.cond (.s 15) (.seq (.region false [om 21 0,oo 22 (.call 107 [(.s 21)]),om 20 22,oe 23 0 20,oe 24 1 20,om 7 23,om 8 24]) [1,7] (.seq (.region false [om 26 1,oo 27 (.call 107 [(.s 26)]),om 25 27,oe 28 0 25,oe 29 1 25,om 9 28,
 om 10 29]) [7,9] (.seq (.region false [om 30 7,om 31 9,oo 32 (.call 128 [(.s 30),(.s 31)]),om 4 32]) [4] (.ret)))) (.seq (.region false [om 34 5,om 33 34]) [0,1,6,33] (.cond (.s 33) (.seq (.region false [oo 4 (.mov (.c (.int .i64 (-1))))]) [4] (.ret)) (.seq (.region false [om 36 6,
 om 35 36]) [0,1,35] (.cond (.s 35) (.seq (.region false [oo 4 (.mov (.c (.int .i64 1)))]) [4] (.ret)) (.skip)))))))) [0,1] (.seq (.region false [om 37 0,om 38 1,oo 39 (.call 133 [(.s 37),(.s 38)]),om 4 39]) [4] (.ret))))⟩
def tf133 : TFn := ⟨13,[.tmp 4],.seq (.region false [oo 4 (.mov (.c (.int .i64 0)))]) [0,1] (.seq (.block 0 (.seq (.region false [om 6 0,om 7 1,oo 8 (.bin .lss false (.s 6) (.s 7)),om 5 8]) [0,1,5] (.cond (.s 5) (.seq (.region false [oo 4 (.mov (.c (.int .i64 (-1))))]) [4] (.ret)) (.seq (
 .region false [om 10 0,om 11 1,oo 12 (.bin .gtr false (.s 10) (.s 11)),om 9 12]) [9] (.cond (.s 9) (.seq (.region false [oo 4 (.mov (.c (.int .i64 1)))]) [4] (.ret)) (.skip)))))) [] (.seq (.region false [oo 4 (.mov (.c (.int .i64 0)))]) [4] (.ret)))⟩
theorem tp5 : QM Tryz.prog Tryz.f5 = some tf5.erase := by kernel_rfl
theorem tp9 : QM Tryz.prog Tryz.f9 = some tf9.erase := by kernel_rfl
theorem QtT : QM Tryz.prog Tryz.f10 = some tf10.erase := by kernel_rfl
theorem QtU : QM Tryz.prog Tryz.f11 = some tf11.erase := by kernel_rfl
theorem QtV : QM Tryz.prog Tryz.f12 = some tf12.erase := by kernel_rfl
theorem QtW : QM Tryz.prog Tryz.f13 = some tf13.erase := by kernel_rfl
theorem QtX : QM Tryz.prog Tryz.f14 = some tf14.erase := by kernel_rfl
theorem QtY : QM Tryz.prog Tryz.f15 = some tf15.erase := by kernel_rfl
theorem QtZ : QM Tryz.prog Tryz.f16 = some tf16.erase := by kernel_rfl
theorem Qt0 : QM Tryz.prog Tryz.f17 = some tf17.erase := by kernel_rfl
theorem Qt1 : QM Tryz.prog Tryz.f19 = some tf19.erase := by kernel_rfl
theorem Qt2 : QM Tryz.prog Tryz.f23 = some tf23.erase := by kernel_rfl
theorem Qt3 : QM Tryz.prog Tryz.f25 = some tf25.erase := by kernel_rfl
theorem Qt4 : QM Tryz.prog Tryz.f26 = some tf26.erase := by kernel_rfl
theorem Qt5 : QM Tryz.prog Tryz.f27 = some tf27.erase := by kernel_rfl
theorem Qt6 : QM Tryz.prog Tryz.f30 = some tf30.erase := by kernel_rfl
theorem Qt7 : QM Tryz.prog Tryz.f33 = some tf33.erase := by kernel_rfl
theorem Qt8 : QM Tryz.prog Tryz.f34 = some tf34.erase := by kernel_rfl
theorem Qt9 : QM Tryz.prog Tryz.f35 = some tf35.erase := by kernel_rfl
theorem Qua : QM Tryz.prog Tryz.f38 = some tf38.erase := by kernel_rfl
theorem Qub : QM Tryz.prog Tryz.f39 = some tf39.erase := by kernel_rfl
theorem Quc : QM Tryz.prog Tryz.f40 = some tf40.erase := by kernel_rfl
theorem Qud : QM Tryz.prog Tryz.f41 = some tf41.erase := by kernel_rfl
theorem Que : QM Tryz.prog Tryz.f42 = some tf42.erase := by kernel_rfl
theorem Quf : QM Tryz.prog Tryz.f43 = some tf43.erase := by kernel_rfl
theorem Qug : QM Tryz.prog Tryz.f44 = some tf44.erase := by kernel_rfl
theorem Quh : QM Tryz.prog Tryz.f45 = some tf45.erase := by kernel_rfl
theorem Qui : QM Tryz.prog Tryz.f46 = some tf46.erase := by kernel_rfl
theorem Quj : QM Tryz.prog Tryz.f47 = some tf47.erase := by kernel_rfl
theorem Quk : QM Tryz.prog Tryz.f48 = some tf48.erase := by kernel_rfl
theorem Qul : QM Tryz.prog Tryz.f49 = some tf49.erase := by kernel_rfl
theorem Qum : QM Tryz.prog Tryz.f50 = some tf50.erase := by kernel_rfl
theorem Qun : QM Tryz.prog Tryz.f51 = some tf51.erase := by kernel_rfl
theorem Quo : QM Tryz.prog Tryz.f52 = some tf52.erase := by kernel_rfl
theorem Qup : QM Tryz.prog Tryz.f55 = some tf55.erase := by kernel_rfl
theorem Quq : QM Tryz.prog Tryz.f57 = some tf57.erase := by kernel_rfl
theorem Qur : QM Tryz.prog Tryz.f58 = some tf58.erase := by kernel_rfl
theorem Qus : QM Tryz.prog Tryz.f59 = some tf59.erase := by kernel_rfl
theorem Qut : QM Tryz.prog Tryz.f60 = some tf60.erase := by kernel_rfl
theorem Quu : QM Tryz.prog Tryz.f61 = some tf61.erase := by kernel_rfl
theorem Quv : QM Tryz.prog Tryz.f62 = some tf62.erase := by kernel_rfl
theorem Quw : QM Tryz.prog Tryz.f63 = some tf63.erase := by kernel_rfl
theorem Qux : QM Tryz.prog Tryz.f66 = some tf66.erase := by kernel_rfl
theorem Quy : QM Tryz.prog Tryz.f67 = some tf67.erase := by kernel_rfl
theorem Quz : QM Tryz.prog Tryz.f68 = some tf68.erase := by kernel_rfl
theorem QuA : QM Tryz.prog Tryz.f69 = some tf69.erase := by kernel_rfl
theorem QuB : QM Tryz.prog Tryz.f70 = some tf70.erase := by kernel_rfl
theorem QuC : QM Tryz.prog Tryz.f71 = some tf71.erase := by kernel_rfl
theorem QuD : QM Tryz.prog Tryz.f72 = some tf72.erase := by kernel_rfl
theorem QuE : QM Tryz.prog Tryz.f73 = some tf73.erase := by kernel_rfl
theorem QuF : QM Tryz.prog Tryz.f74 = some tf74.erase := by kernel_rfl
theorem QuG : QM Tryz.prog Tryz.f75 = some tf75.erase := by kernel_rfl
theorem QuH : QM Tryz.prog Tryz.f76 = some tf76.erase := by kernel_rfl
theorem QuI : QM Tryz.prog Tryz.f77 = some tf77.erase := by kernel_rfl
theorem QuJ : QM Tryz.prog Tryz.f78 = some tf78.erase := by kernel_rfl
theorem QuK : QM Tryz.prog Tryz.f79 = some tf79.erase := by kernel_rfl
theorem QuL : QM Tryz.prog Tryz.f80 = some tf80.erase := by kernel_rfl
theorem QuM : QM Tryz.prog Tryz.f81 = some tf81.erase := by kernel_rfl
theorem QuN : QM Tryz.prog Tryz.f82 = some tf82.erase := by kernel_rfl
theorem QuO : QM Tryz.prog Tryz.f84 = some tf84.erase := by kernel_rfl
theorem QuP : QM Tryz.prog Tryz.f85 = some tf85.erase := by kernel_rfl
theorem QuQ : QM Tryz.prog Tryz.f86 = some tf86.erase := by kernel_rfl
theorem QuR : QM Tryz.prog Tryz.f87 = some tf87.erase := by kernel_rfl
theorem QuS : QM Tryz.prog Tryz.f88 = some tf88.erase := by kernel_rfl
theorem QuT : QM Tryz.prog Tryz.f90 = some tf90.erase := by kernel_rfl
theorem QuU : QM Tryz.prog Tryz.f91 = some tf91.erase := by kernel_rfl
theorem QuV : QM Tryz.prog Tryz.f92 = some tf92.erase := by kernel_rfl
theorem QuW : QM Tryz.prog Tryz.f93 = some tf93.erase := by kernel_rfl
theorem QuX : QM Tryz.prog Tryz.f94 = some tf94.erase := by kernel_rfl
theorem QuY : QM Tryz.prog Tryz.f95 = some tf95.erase := by kernel_rfl
theorem QuZ : QM Tryz.prog Tryz.f96 = some tf96.erase := by kernel_rfl
theorem Qu0 : QM Tryz.prog Tryz.f97 = some tf97.erase := by kernel_rfl
theorem Qu1 : QM Tryz.prog Tryz.f98 = some tf98.erase := by kernel_rfl
theorem Qu2 : QM Tryz.prog Tryz.f99 = some tf99.erase := by kernel_rfl
theorem Qs8 : QM Tryz.prog Tryz.f100 = some tf100.erase := by kernel_rfl
theorem Qs9 : QM Tryz.prog Tryz.f101 = some tf101.erase := by kernel_rfl
theorem Qta : QM Tryz.prog Tryz.f102 = some tf102.erase := by kernel_rfl
theorem Qtb : QM Tryz.prog Tryz.f103 = some tf103.erase := by kernel_rfl
theorem Qtc : QM Tryz.prog Tryz.f104 = some tf104.erase := by kernel_rfl
theorem Qtd : QM Tryz.prog Tryz.f105 = some tf105.erase := by kernel_rfl
theorem Qte : QM Tryz.prog Tryz.f106 = some tf106.erase := by kernel_rfl
theorem Qtf : QM Tryz.prog Tryz.f107 = some tf107.erase := by kernel_rfl
theorem Qtg : QM Tryz.prog Tryz.f108 = some tf108.erase := by kernel_rfl
theorem Qth : QM Tryz.prog Tryz.f109 = some tf109.erase := by kernel_rfl
theorem Qti : QM Tryz.prog Tryz.f110 = some tf110.erase := by kernel_rfl
theorem Qtj : QM Tryz.prog Tryz.f111 = some tf111.erase := by kernel_rfl
theorem Qtk : QM Tryz.prog Tryz.f112 = some tf112.erase := by kernel_rfl
theorem Qtl : QM Tryz.prog Tryz.f113 = some tf113.erase := by kernel_rfl
theorem Qtm : QM Tryz.prog Tryz.f114 = some tf114.erase := by kernel_rfl
theorem Qtn : QM Tryz.prog Tryz.f115 = some tf115.erase := by kernel_rfl
theorem Qto : QM Tryz.prog Tryz.f116 = some tf116.erase := by kernel_rfl
theorem Qtp : QM Tryz.prog Tryz.f117 = some tf117.erase := by kernel_rfl
theorem Qtq : QM Tryz.prog Tryz.f118 = some tf118.erase := by kernel_rfl
theorem Qtr : QM Tryz.prog Tryz.f119 = some tf119.erase := by kernel_rfl
theorem Qts : QM Tryz.prog Tryz.f120 = some tf120.erase := by kernel_rfl
theorem Qtt : QM Tryz.prog Tryz.f121 = some tf121.erase := by kernel_rfl
theorem Qtu : QM Tryz.prog Tryz.f122 = some tf122.erase := by kernel_rfl
theorem Qtv : QM Tryz.prog Tryz.f123 = some tf123.erase := by kernel_rfl
theorem Qtw : QM Tryz.prog Tryz.f124 = some tf124.erase := by kernel_rfl
theorem Qtx : QM Tryz.prog Tryz.f125 = some tf125.erase := by kernel_rfl
theorem Qty : QM Tryz.prog Tryz.f126 = some tf126.erase := by kernel_rfl
theorem Qtz : QM Tryz.prog Tryz.f127 = some tf127.erase := by kernel_rfl
theorem QtA : QM Tryz.prog Tryz.f128 = some tf128.erase := by kernel_rfl
theorem QtB : QM Tryz.prog Tryz.f129 = some tf129.erase := by kernel_rfl
theorem QtC : QM Tryz.prog Tryz.f130 = some tf130.erase := by kernel_rfl
theorem QtD : QM Tryz.prog Tryz.f131 = some tf131.erase := by kernel_rfl
theorem QtE : QM Tryz.prog Tryz.f132 = some tf132.erase := by kernel_rfl
theorem QtF : QM Tryz.prog Tryz.f133 = some tf133.erase := by kernel_rfl
theorem ZY : Tryz.prog.follows .mixedOrders = true := by kernel_rfl
end Go.Proofs
namespace M3
open Go Go.Abs
def mFits (n : Int) : Bool := decide (0 <= n) && decide (n <= 9999)
def Qc7 (m n : Int) : Int := if m < n then -1 else if n < m then 1 else 0
def QaK (c : UInt8) : Bool := decide (48 <= c.toNat) && decide (c.toNat <= 57)
def XU (s : List UInt8) : Bool := s.all QaK && !decide (s = [])
theorem QhC {s : List UInt8} {i : Nat} (h : i < s.length) (hd : QaK s[i] = false) : XU s = false := by
 have : s.all QaK = false := by
  rw [Bool.eq_false_iff]
  intro ha
  rw [List.all_eq_true] at ha
  rw [ha _ (List.getElem_mem h)] at hd
  cases hd
 rw [XU, this]; rfl
theorem QkK {s : List UInt8} {i : Nat} (hi : s.length <= i) (h : (s.take i).all QaK = true) : XU s = !decide (s = []) := by
 rw [List.take_of_length_le hi] at h
 rw [XU, h]; rfl
def Qgt (v n : Int) : Int := if v.tmod n < 0 then v.tmod n + n else v.tmod n
def ZI (l : List Int) : D := .sl (l.map fun x => [.int .i64 x])
theorem QpH {v n : Int} (h : 0 < n) : 0 <= Qgt v n := by
 unfold Qgt
 have h1 := Int.tmod_lt_of_pos v h
 have h2 := Int.lt_tmod_of_pos v h
 split <;> omega
theorem QpG {v n : Int} (h : 0 < n) : Qgt v n < n := by
 unfold Qgt
 have h1 := Int.tmod_lt_of_pos v h
 split <;> omega
end M3
namespace M3
open Go Go.Abs
def Qa7 (c : Int) : List UInt8 -> List UInt8 -> List (List UInt8)
 | [], cur => [cur]
 | x :: xs, cur => if (x.toNat : Int) = c then cur :: Qa7 c xs [] else Qa7 c xs (cur ++ [x])
def Yw (s : List UInt8) (c : Int) : List (List UInt8) := Qa7 c s []
def Qbd (l : List (List UInt8)) : List (List D) := l.map fun x => [.str x]
def SplitI (s : List UInt8) (c : Int) (i k : Nat) (acc : List (List UInt8)) : Prop :=
 i <= s.length /\ k <= i /\ acc.length <= i /\ Yw s c = acc ++ Qa7 c (s.drop i) ((s.take i).drop k)
theorem SplitI.zero {s : List UInt8} {c : Int} : SplitI s c 0 0 [] := ⟨Nat.zero_le _, Nat.le_refl _, Nat.le_refl _, by simp [Yw]⟩
theorem SplitI.hit {s : List UInt8} {c : Int} {i k : Nat} {acc : List (List UInt8)} (h : SplitI s c i k acc) (hi : i < s.length) (he : ((s[i]).toNat : Int) = c) : SplitI s c (i + 1) (i + 1) (acc ++ [(s.take i).drop k]) := by
 obtain ⟨h1, h2, h3, h4⟩ := h
 refine ⟨hi, Nat.le_refl _, by simp; omega, ?_⟩
 rw [List.drop_eq_getElem_cons hi] at h4
 simp only [Qa7, he, if_true] at h4
 rw [h4, List.append_assoc]
 simp
theorem SplitI.miss {s : List UInt8} {c : Int} {i k : Nat} {acc : List (List UInt8)} (h : SplitI s c i k acc) (hi : i < s.length) (he : ¬ ((s[i]).toNat : Int) = c) : SplitI s c (i + 1) k acc := by
 obtain ⟨h1, h2, h3, h4⟩ := h
 refine ⟨hi, by omega, by omega, ?_⟩
 rw [List.drop_eq_getElem_cons hi] at h4
 simp only [Qa7, he, if_false] at h4
 rw [h4, List.take_succ_eq_append_getElem hi, List.drop_append_of_le_length (by simp; omega)]
theorem SplitI.done {s : List UInt8} {c : Int} {i k : Nat} {acc : List (List UInt8)} (h : SplitI s c i k acc) (hi : s.length <= i) : Yw s c = acc ++ [s.drop k] := by
 obtain ⟨h1, h2, h3, h4⟩ := h
 rw [h4, List.drop_eq_nil_of_le hi, List.take_of_length_le hi]
 rfl
end M3
namespace M3
open Go Go.Abs
def QjE (a b : List UInt8) : Int := if Op.bytesLess a b = true then -1 else if a = b then 0 else 1
def X4 (c : Int) : Bool := decide (48 <= c) && decide (c <= 57)
def Xs (c : UInt8) : Bool := (decide (97 <= c.toNat) && decide (c.toNat <= 122)) || (decide (48 <= c.toNat) && decide (c.toNat <= 57)) || decide (c.toNat = 45)
def Qgv (s : List UInt8) : Bool := decide (1 <= s.length) && decide (s.length <= 8) && s.all Xs
def val (s : List UInt8) : Nat := s.foldl (fun n c => 10 * n + (c.toNat - 48)) 0
def Xo (s : List UInt8) : Int × Bool :=
 if s.length < 1 \/ 9 < s.length \/ (1 < s.length /\ s.head? = some 48) \/ s.all QaK = false \/ 9999 < val s then (0, false) else ((val s : Int), true)
def mOne (a b : List UInt8) : Int :=
 if XU a = true /\ XU b = true then Qc7 (Xo a).1 (Xo b).1
 else if XU a = true then -1 else if XU b = true then 1 else QjE a b
def Qm0 : List (List UInt8) -> List (List UInt8) -> Int
 | [], [] => 0
 | [], _ :: _ => -1
 | _ :: _, [] => 1
 | a :: l, b :: m => if mOne a b ≠ 0 then mOne a b else Qm0 l m
def QgY (a b : List UInt8) : Int := if a = b then 0 else if a = [] then 1 else if b = [] then -1 else Qm0 (Yw a 46) (Yw b 46)
def Qfl (pre : Bool) (t : List UInt8) : Bool := Qgv t && !(pre && XU t && !(Xo t).2)
def Qcs (s : List UInt8) (pre : Bool) : Bool := decide (s = []) || (decide ((Yw s 46).length <= 4) && (Yw s 46).all (Qfl pre))
def QiT (a b c : Int) (p q : List UInt8) : Bool := mFits a && mFits b && mFits c && Qcs p true && Qcs q false
def QnZ (a b c : Int) (p q : List UInt8) (a' b' c' : Int) (p' q' : List UInt8) : Int :=
 if QiT a b c p q = false \/ QiT a' b' c' p' q' = false then 0
 else if Qc7 a a' ≠ 0 then Qc7 a a' else if Qc7 b b' ≠ 0 then Qc7 b b' else if Qc7 c c' ≠ 0 then Qc7 c c' else QgY p p'
theorem XZ {α : Type} {s : List α} {p : α -> Bool} {i : Nat} (h : i < s.length) (hd : p s[i] = false) : s.all p = false := by
 rw [Bool.eq_false_iff]
 intro ha
 rw [List.all_eq_true] at ha
 rw [ha _ (List.getElem_mem h)] at hd
 cases hd
theorem XO {α : Type} {s : List α} {p : α -> Bool} {i : Nat} (hi : s.length <= i) (h : (s.take i).all p = true) : s.all p = true := by rwa [List.take_of_length_le hi] at h
theorem Qmg {s : List UInt8} {i : Nat} (h : i < s.length) : val (s.take (i + 1)) = 10 * val (s.take i) + (s[i].toNat - 48) := by
 rw [List.take_succ_eq_append_getElem h]; simp only [val, List.foldl_append, List.foldl_cons, List.foldl_nil]
theorem QsC : ∀ {s : List UInt8}, s.all QaK = true -> val s < 10 ^ s.length := by
 intro s
 rw [<- List.reverse_reverse s]
 generalize s.reverse = r
 induction r with
 | nil => intro _; decide
 | cons c r ih =>
  intro h
  rw [List.reverse_cons, List.all_append, Bool.and_eq_true] at h
  have h1 := ih h.1
  have h2 : QaK c = true := by simpa using h.2
  simp only [QaK, Bool.and_eq_true, decide_eq_true_eq] at h2
  rw [List.reverse_cons]
  simp only [val, List.foldl_append, List.foldl_cons, List.foldl_nil, List.length_append, List.length_cons, List.length_nil] at h1 ⊢
  rw [Nat.pow_succ]
  omega
theorem Qn6 {l m : List (List UInt8)} {i : Nat} (h1 : i < l.length) (h2 : i < m.length) (h : mOne l[i] m[i] = 0) : Qm0 (l.drop i) (m.drop i) = Qm0 (l.drop (i + 1)) (m.drop (i + 1)) := by
 rw [List.drop_eq_getElem_cons h1, List.drop_eq_getElem_cons h2]
 simp [Qm0, h]
theorem QcK {l m : List (List UInt8)} {i : Nat} (h1 : i < l.length) (h2 : i < m.length) (h : mOne l[i] m[i] ≠ 0) : Qm0 (l.drop i) (m.drop i) = mOne l[i] m[i] := by
 rw [List.drop_eq_getElem_cons h1, List.drop_eq_getElem_cons h2]
 simp [Qm0, h]
theorem QcJ {l m : List (List UInt8)} {i : Nat} (hl : i <= l.length) (hm : i <= m.length) (h : l.length <= i \/ m.length <= i) : Qm0 (l.drop i) (m.drop i) = Qc7 l.length m.length := by
 rcases Nat.lt_or_ge i l.length with h1 | h1 <;> rcases Nat.lt_or_ge i m.length with h2 | h2
 ·omega
 ·rw [List.drop_eq_getElem_cons h1, List.drop_eq_nil_of_le h2]
  simp only [Qm0, Qc7]
  rw [if_neg (by omega), if_pos (by omega)]
 ·rw [List.drop_eq_getElem_cons h2, List.drop_eq_nil_of_le h1]
  simp only [Qm0, Qc7]
  rw [if_pos (by omega)]
 ·rw [List.drop_eq_nil_of_le h1, List.drop_eq_nil_of_le h2]
  simp only [Qm0, Qc7]
  rw [if_neg (by omega), if_neg (by omega)]
end M3
namespace M3
end M3
namespace M3
theorem Qsd {s : List UInt8} (h : 0 < s.length) (e : ((s[0]).toNat : Int) = 48) : s.head? = some 48 := by
 cases s with
 | nil => simp at h
 | cons x r =>
  simp only [List.getElem_cons_zero] at e
  have : x = 48 := UInt8.toNat_inj.1 (by simpa using (by omega : x.toNat = 48))
  simp [this]
theorem QnM {s : List UInt8} (h : 0 < s.length) (e : ¬ ((s[0]).toNat : Int) = 48) : s.head? ≠ some 48 := by
 cases s with
 | nil => simp at h
 | cons x r =>
  simp only [List.getElem_cons_zero] at e
  intro hh
  simp at hh
  subst hh
  exact e rfl
theorem QhB {s : List UInt8} {i : Nat} (h : ¬ (s.length < 1 \/ 9 < s.length \/ (1 < s.length /\ s.head? = some 48))) (hi : s.length <= i) (ha : (s.take i).all QaK = true) (hv : val (s.take i) <= 9999) : Xo s = ((val (s.take i) : Int), true) := by
 have h1 := XO hi ha
 rw [List.take_of_length_le hi] at hv ⊢
 rw [Xo, if_neg]
 rintro (q | q | q | q | q)
 ·exact h (.inl q)
 ·exact h (.inr (.inl q))
 ·exact h (.inr (.inr q))
 ·rw [h1] at q; cases q
 ·omega
theorem QeP {s : List UInt8} {i : Nat} (hi : s.length <= i) (hv : 9999 < val (s.take i)) : Xo s = (0, false) := by
 rw [List.take_of_length_le hi] at hv
 rw [Xo, if_pos (.inr (.inr (.inr (.inr hv))))]
theorem QeQ {s : List UInt8} {i : Nat} (h : i < s.length) (hd : QaK s[i] = false) : Xo s = (0, false) := by
 rw [Xo, if_pos (.inr (.inr (.inr (.inl (XZ h hd)))))]
theorem QeR {s : List UInt8} (h : s.length < 1 \/ 9 < s.length) : Xo s = (0, false) := by
 rw [Xo, if_pos (by rcases h with h | h; exact .inl h; exact .inr (.inl h))]
theorem QcM {s : List UInt8} (h : 1 < s.length) (e : ((s[0]).toNat : Int) = 48) : Xo s = (0, false) := by
 rw [Xo, if_pos (.inr (.inr (.inl ⟨h, Qsd (by omega) e⟩)))]
end M3
namespace M3
open Go Go.Abs
theorem Zi (l : List (List UInt8)) : (Qbd l).length = l.length := by simp [Qbd]
theorem QdZ {l : List (List UInt8)} {i : Nat} (h : i < l.length) : (Qbd l)[((i : Nat) : Int).toNat]? = some [.str l[i]] := by simp [Qbd, h]
theorem QbL {c : Int} : ∀ (s cur : List UInt8), (Qa7 c s cur).length <= s.length + 1 /\ ∀ x ∈ Qa7 c s cur, x.length <= s.length + cur.length
 | [], cur => by simp [Qa7]
 | x :: xs, cur => by
  simp only [Qa7]
  split
  ·obtain ⟨h1, h2⟩ := QbL (c := c) xs []
   refine ⟨by simp; omega, fun y hy => ?_⟩
   rcases List.mem_cons.1 hy with rfl | hy
   ·simp <;> omega
   ·have := h2 y hy; simp at this ⊢; omega
  ·obtain ⟨h1, h2⟩ := QbL (c := c) xs (cur ++ [x])
   refine ⟨by simp; omega, fun y hy => ?_⟩
   have := h2 y hy; simp at this ⊢; omega
theorem QoE {s : List UInt8} {c : Int} : (Yw s c).length <= s.length + 1 := (QbL s []).1
theorem Qen {s : List UInt8} {c : Int} {i : Nat} (h : i < (Yw s c).length) (hl : s.length <= 1000000) : ((Yw s c)[i]).length <= 1000000 := by
 have := (QbL (c := c) s []).2 _ (List.getElem_mem h)
 simp only [List.length_nil, Nat.add_zero] at this
 exact Nat.le_trans this hl
end M3
namespace M3
open Go Go.Abs
theorem Qea {s : List UInt8} {pre : Bool} {i : Nat} (hs : s ≠ []) (h : i < (Yw s 46).length) (hd : Qfl pre (Yw s 46)[i] = false) : Qcs s pre = false := by
 rw [Qcs, XZ h hd]; simp [hs]
theorem Qct {s : List UInt8} {pre : Bool} {i : Nat} (h4 : (Yw s 46).length <= 4) (hi : (Yw s 46).length <= i) (h : ((Yw s 46).take i).all (Qfl pre) = true) : Qcs s pre = true := by
 rw [Qcs, XO hi h]; simp [h4]
end M3
namespace M3
open Go Go.Abs
structure Cu where
 e : Int
 a : Int
 b : Int
 c : Int
 p : List UInt8
 q : List UInt8
 f : Bool
def QeM (e a b c : Int) (p q : List UInt8) (f : Bool) : Bool :=
 if e = 0 then QiT a b c p q && decide (q = [])
 else (decide (e = -1) || decide (e = 1)) && (decide (a = 0) && (decide (b = 0) && (decide (c = 0) && (decide (p = []) && (decide (q = []) && true))))) && !f
def QbF (e a b c : Int) (p q : List UInt8) (f : Bool) (e' a' b' c' : Int) (p' q' : List UInt8) (f' : Bool) : Int :=
 if QeM e a b c p q f = false \/ QeM e' a' b' c' p' q' f' = false then 0
 else if e ≠ e' \/ e ≠ 0 then Qc7 e e'
 else if QnZ a b c p q a' b' c' p' q' ≠ 0 then QnZ a b c p q a' b' c' p' q'
 else if f = f' then 0 else if f' = true then -1 else 1
def QaG (e a b c : Int) (p q : List UInt8) (f : Bool) (a' b' c' : Int) (p' q' : List UInt8) : Bool :=
 if QeM e a b c p q f = false \/ QiT a' b' c' p' q' = false then false
 else if e ≠ 0 then decide (e < 0)
 else decide (QnZ a b c p q a' b' c' p' q' < 0) || (decide (QnZ a b c p q a' b' c' p' q' = 0) && !f)
end M3
namespace M3
def Qiv (e a b c : Int) (p q : List UInt8) (f : Bool) (e' a' b' c' : Int) (p' q' : List UInt8) (f' : Bool) : Bool :=
 QeM e a b c p q f && QeM e' a' b' c' p' q' f' && decide (QbF e a b c p q f e' a' b' c' p' q' f' < 0)
def Qdd (e a b c : Int) (p q : List UInt8) (f : Bool) (e' a' b' c' : Int) (p' q' : List UInt8) (f' : Bool) (x y z : Int) (r s : List UInt8) : Bool :=
 Qiv e a b c p q f e' a' b' c' p' q' f' && QiT x y z r s && QaG e a b c p q f x y z r s && !QaG e' a' b' c' p' q' f' x y z r s
end M3
namespace M3
open Go Go.Abs
end M3
namespace M3
open Go Go.Abs
end M3
namespace M3
open Go Go.Abs
end M3
namespace M3
open Go Go.Abs
end M3
namespace Go.Proofs
open Go Go.Abs M3
set_option linter.unusedVariables false
set_option linter.unusedSimpArgs false
theorem Xy {n : Int} : Ok Tryz.prog 90 [.int .i64 n] (.bool (mFits n)) := by
 refine Ok.ofT ZY Tryz.func90 QuT (Nat.le_of_ble_eq_true Z) ?_
 show TW _ _ tf90.body _ _
 refine Qf fun K hK => Qa Z (hK _ _ (Qb (kp1 Z) ?_))
 refine Qf fun K hK => Qa Z (Qet Z Z (Qa Z ?_))
 refine QB (g := 5) Z (fun h1 => ?_) (fun h1 => ?_)
 ·try rw [h1]
  try simp only [qB] at h1
  refine Qh Z (Qa Z (Qh Z (QqL Z Z (Ql Z Z (Qa Z (hK _ _ (Qb (kp1 Z) ?_)))))))
  refine Qv (Qt Z ?_)
  simp_all [mFits] <;> omega
 ·try rw [h1]
  try simp only [qB] at h1
  refine Qp Z (Qp Z (Ql Z Z (Qa Z (hK _ _ (Qb (kp1 Z) ?_)))))
  refine Qv (Qt Z ?_)
  simp_all [mFits] <;> omega
theorem ZB {m n : Int} : Ok Tryz.prog 128 [.int .i64 m, .int .i64 n] (.int .i64 (Qc7 m n)) := by
 refine Ok.ofT ZY Tryz.func128 QtA (Nat.le_of_ble_eq_true Z) ?_
 show TW _ _ tf128.body _ _
 refine Qf fun K hK => Qa Z (hK _ _ (Qb (kp2 Z Z) ?_))
 refine QE ?_ -- 0
 refine QD (Qf fun K hK => Qa Z (Qa Z (Z9 Z Z (Qa Z (hK _ _ (Qb (kp3 Z Z Z) ?_))))))
 refine Qx Z (fun h1 => ?_) (fun h1 => ?_)
 ·try rw [h1]
  try simp only [qB] at h1
  refine Qf fun K hK => Qa Z (hK _ _ (Qb (kp1 Z) ?_))
  refine Qv (Qu (Qk (QA Z ?_)))
  simp_all [Qc7] <;> omega
 ·try rw [h1]
  try simp only [qB] at h1
  refine Qf fun K hK => Qa Z (Qa Z (QiQ Z Z (Qa Z (hK _ _ (Qb (kp1 Z) ?_)))))
  refine Qx Z (fun h2 => ?_) (fun h2 => ?_)
  ·try rw [h2]
   try simp only [qB] at h2
   refine Qf fun K hK => Qa Z (hK _ _ (Qb (kp1 Z) ?_))
   refine Qv (Qu (Qk (QA Z ?_)))
   simp_all [Qc7] <;> omega
  ·try rw [h2]
   try simp only [qB] at h2
   refine Qw (Qi (Qe (Q7) (Qf fun K hK => Qa Z (hK _ _ (Qb (kp1 Z) ?_)))))
   refine Qv (QA Z ?_)
   simp_all [Qc7] <;> omega
theorem Y9 {s : List UInt8} {c : Int} (hl : s.length <= 1000000) : Ok Tryz.prog 105 [.str s, .int .u8 c] (.sl (Qbd (Yw s c))) := by
 refine Ok.ofT ZY Tryz.func105 Qtd (Nat.le_of_ble_eq_true Z) ?_
 show TW _ _ tf105.body _ _
 refine Qf fun K hK => Qa Z (hK _ _ (Qb (kp2 Z Z) ?_))
 refine Qf fun K hK => Qa Z (hK _ _ (Qb (kp3 Z Z Z) ?_))
 refine Qf fun K hK => Qa Z (hK _ _ (Qb (kp4 Z Z Z Z) ?_))
 refine QE ?_ -- 0
 refine Qf fun K hK => Qa Z (hK _ _ (Qb (kp5 Z Z Z Z Z) ?_))
 refine QD ?_
 refine Zs (ι := Nat × Nat × List (List UInt8)) (fun ⟨i, k, acc⟩ => ⟨[(0, .str s), (1, .int .u8 c), (5, .osl 25 acc.length), (6, .int .i64 k), (7, .int .i64 i)], [(25, ⟨Qbd acc, 1, 9, true⟩)]⟩) (fun ⟨i, k, acc⟩ => SplitI s c i k acc) (fun ⟨i, k, acc⟩ => s.length - i) (0, 0, []) ?_ ?_ ?_
 ·exact le_trans (YG 5 25 1 9 rfl rfl) (Q8 (l := [0, 1, 5, 6, 7]) (lH := [25]) (kp5 rfl rfl rfl rfl rfl) (Qg rfl Qr) rfl rfl rfl)
 ·exact SplitI.zero
 intro ⟨i, k, acc⟩ hI
 have hI1 := hI.1
 have hI2 := hI.2.1
 have hI3 := hI.2.2.1
 try dsimp only
 refine QE ?_ -- 1
 refine Qf fun K hK => Qa Z (Qa Z (XR Z (Z9 Z Z (hK _ _ (Qb (kp6 Z Z Z Z Z Z) ?_)))))
 refine Qx Z (fun h1 => ?_) (fun h1 => ?_)
 ·try rw [h1]
  try simp only [qB] at h1
  refine Qw (Qe (kp5 Z Z Z Z Z) ?_)
  refine QE ?_ -- 2
  refine QD (Qf fun K hK => Qa Z (Qa Z (XN Z Z (by omega) (QdY (by omega)) (Qa Z (ZD Z Z (hK _ _ (Qb (kp6 Z Z Z Z Z Z) ?_)))))))
  refine Qx Z (fun h2 => ?_) (fun h2 => ?_)
  ·try rw [h2]
   try simp only [qB] at h2
   refine Qf fun K hK => Qa Z (Qa Z (Qa Z (Qa Z (Qg2 Z Z Z (by omega) (by omega) (by omega) Z (QI Z Z (XW Z Z (fun _ h => XF Z Z Z h) Z (by simp [Qbd]) Z Z Z (by simp; omega) (by simp; omega) (Qa Z (hK _ _ (Qb (kp4 Z Z Z Z) ?_)))))))))
   refine QO fun K hK => Qa Z (Q2 Z Z (by first | exact Qs (by omega) (by omega) | exact Zh (by omega) (by omega) | exact Zr (by omega) (by omega) | rfl) (Qa Z (hK _ ?_)))
   refine Qi (Qe (kp5 Z Z Z Z Z) (QO fun K hK => Qa Z (Q2 Z Z (by first | exact Qs (by omega) (by omega) | exact Zh (by omega) (by omega) | exact Zr (by omega) (by omega) | rfl) (Qa Z (hK _ ?_)))))
   refine Qm (i + 1, i + 1, acc ++ [(s.take i).drop k]) ?_ ?_ ?_
   ·exact Q8 (l := [0, 1, 5, 6, 7]) (lH := [25]) (kp5 rfl rfl rfl rfl rfl) (Qg rfl Qr) (by simp [Qbd, D.scrub]) (by simp [Qbd, Box.scrub]) rfl
   ·exact hI.hit (by omega) (by assumption)
   ·show s.length - (i + 1) < s.length - i; omega
  ·try rw [h2]
   try simp only [qB] at h2
   refine Qw (Qi (Qe (kp5 Z Z Z Z Z) (QO fun K hK => Qa Z (Q2 Z Z (by first | exact Qs (by omega) (by omega) | exact Zh (by omega) (by omega) | exact Zr (by omega) (by omega) | rfl) (Qa Z (hK _ ?_))))))
   refine Qm (i + 1, k, acc) ?_ ?_ ?_
   ·exact Q8 (l := [0, 1, 5, 6, 7]) (lH := [25]) (kp5 rfl rfl rfl rfl rfl) (Qg rfl Qr) (by simp [Qbd, D.scrub]) (by simp [Qbd, Box.scrub]) rfl
   ·exact hI.miss (by omega) (by assumption)
   ·show s.length - (i + 1) < s.length - i; omega
 ·try rw [h1]
  try simp only [qB] at h1
  refine Zl (QN (QC (QJ (Qe (kp3 Z Z Z) (Qf fun K hK => Qa Z (Qa Z (Qa Z (Qg2 Z Z Z (by omega) (by omega) (by omega) Z (QI Z Z (XW Z Z (fun _ h => XF Z Z Z h) Z (by simp [Qbd]) Z Z Z (by simp; omega) (by simp; omega) ?_))))))))))
  refine Qa Z (hK _ _ (Qb (kp1 Z) ?_))
  refine Qv (Yn Z ?_)
  rw [hI.done (by omega)]; simp [Qbp, D.fz, D.fzS, Qer, lk, D.can, D.canS, Qbd]
end Go.Proofs
namespace Go.Proofs
open Go Go.Abs M3
set_option linter.unusedVariables false
set_option linter.unusedSimpArgs false
theorem Qc4 {a b : List UInt8} : Ok Tryz.prog 133 [.str a, .str b] (.int .i64 (QjE a b)) := by
 refine Ok.ofT ZY Tryz.func133 QtF (Nat.le_of_ble_eq_true Z) ?_
 show TW _ _ tf133.body _ _
 refine Qf fun K hK => Qa Z (hK _ _ (Qb (kp2 Z Z) ?_))
 refine QE ?_ -- 0
 refine QD (Qf fun K hK => Qa Z (Qa Z (QsQ Z Z (Qa Z (hK _ _ (Qb (kp3 Z Z Z) ?_))))))
 refine Qx Z (fun h1 => ?_) (fun h1 => ?_)
 ·try rw [h1]
  try simp only [qB] at h1
  refine Qf fun K hK => Qa Z (hK _ _ (Qb (kp1 Z) ?_))
  refine Qv (Qu (Qk (QA Z ?_)))
  simp_all [QjE]
 ·try rw [h1]
  try simp only [qB] at h1
  refine Qf fun K hK => Qa Z (Qa Z (QsP Z Z (Qa Z (hK _ _ (Qb (kp1 Z) ?_)))))
  refine Qx Z (fun h2 => ?_) (fun h2 => ?_)
  ·try rw [h2]
   try simp only [qB] at h2
   refine Qf fun K hK => Qa Z (hK _ _ (Qb (kp1 Z) ?_))
   refine Qv (Qu (Qk (QA Z ?_)))
   simp_all [QjE]
  ·try rw [h2]
   try simp only [qB] at h2
   refine Qw (Qi (Qe (Q7) (Qf fun K hK => Qa Z (hK _ _ (Qb (kp1 Z) ?_)))))
   refine Qv (QA Z ?_)
   simp_all [QjE]
theorem QcW {c : Int} : Ok Tryz.prog 115 [.int .u8 c] (.bool (X4 c)) := by
 refine Ok.ofT ZY Tryz.func115 Qtn (Nat.le_of_ble_eq_true Z) ?_
 show TW _ _ tf115.body _ _
 refine Qf fun K hK => Qa Z (hK _ _ (Qb (kp1 Z) ?_))
 refine Qf fun K hK => Qa Z (Qet Z Z (Qa Z ?_))
 refine QB (g := 5) Z (fun h1 => ?_) (fun h1 => ?_)
 ·try rw [h1]
  try simp only [qB] at h1
  refine Qh Z (Qa Z (Qh Z (QqL Z Z (Ql Z Z (Qa Z (hK _ _ (Qb (kp1 Z) ?_)))))))
  refine Qv (Qt Z ?_)
  simp_all [X4] <;> omega
 ·try rw [h1]
  try simp only [qB] at h1
  refine Qp Z (Qp Z (Ql Z Z (Qa Z (hK _ _ (Qb (kp1 Z) ?_)))))
  refine Qv (Qt Z ?_)
  simp_all [X4] <;> omega
theorem YM {s : List UInt8} (hl : s.length <= 1000000) : Ok Tryz.prog 108 [.str s] (.bool (XU s)) := by
 refine Ok.ofT ZY Tryz.func108 Qtg (Nat.le_of_ble_eq_true Z) ?_
 show TW _ _ tf108.body _ _
 refine Qf fun K hK => Qa Z (hK _ _ (Qb (kp1 Z) ?_))
 refine QE ?_ -- 0
 refine Qf fun K hK => Qa Z (hK _ _ (Qb (kp2 Z Z) ?_))
 refine QD ?_
 refine Zs (ι := Nat) (fun i => ⟨[(0, .str s), (3, .int .i64 i)], []⟩) (fun i => i <= s.length /\ (s.take i).all QaK = true) (fun i => s.length - i) 0 ?_ ?_ ?_
 ·exact Zk (kp2 rfl rfl)
 ·exact ⟨Nat.zero_le _, rfl⟩
 intro i hI
 try dsimp only
 refine QE ?_ -- 1
 refine Qf fun K hK => Qa Z (Qa Z (XR Z (Z9 Z Z (hK _ _ (Qb (kp3 Z Z Z) ?_)))))
 refine Qx Z (fun h1 => ?_) (fun h1 => ?_)
 ·try rw [h1]
  try simp only [qB] at h1
  refine Qw (Qe (kp2 Z Z) ?_)
  refine QE ?_ -- 2
  refine QD (Qf fun K hK => Qa Z (Qa Z (XN Z Z (by omega) (QdY (by omega)) (Z9 Z Z (Qa Z ?_)))))
  refine QB (g := 14) Z (fun h2 => ?_) (fun h2 => ?_)
  ·try rw [h2]
   try simp only [qB] at h2
   refine Qp Z (Qp Z (Qp Z (Qp Z (Ql Z Z (hK _ _ (Qb (kp3 Z Z Z) ?_))))))
   refine Zm Z (Qf fun K hK => Qa Z (hK _ _ (Qb (kp1 Z) ?_)))
   refine Qv (Qu (Qk (Q9 (Qu (Qk (Qt Z ?_))))))
   exact (QhC (i := i) (by omega) (by simp [QaK]; omega)).symm
  ·try rw [h2]
   try simp only [qB] at h2
   refine Qh Z (Qa Z (Qh Z (Qa Z (Qh Z (XN Z Z (by omega) (QdY (by omega)) (Qh Z (QiQ Z Z (Ql Z Z (hK _ _ (Qb (kp3 Z Z Z) ?_))))))))))
   refine Qx Z (fun h3 => ?_) (fun h3 => ?_)
   ·try rw [h3]
    try simp only [qB] at h3
    refine Qf fun K hK => Qa Z (hK _ _ (Qb (kp1 Z) ?_))
    refine Qv (Qu (Qk (Q9 (Qu (Qk (Qt Z ?_))))))
    exact (QhC (i := i) (by omega) (by simp [QaK]; omega)).symm
   ·try rw [h3]
    try simp only [qB] at h3
    refine Qw (Qi (Qe (kp2 Z Z) (QO fun K hK => Qa Z (Q2 Z Z (by first | exact Qs (by omega) (by omega) | exact Zh (by omega) (by omega) | exact Zr (by omega) (by omega) | rfl) (Qa Z (hK _ ?_))))))
    refine Qm (i + 1) ?_ ?_ ?_
    ·exact Zk (kp2 rfl rfl)
    ·exact ⟨by omega, Yf (by omega) hI.2 (by simp [QaK]; omega)⟩
    ·first | omega | (simp only; omega) | (dsimp only; omega)
 ·try rw [h1]
  try simp only [qB] at h1
  refine Zl (QN (QC (QJ (Qe (kp1 Z) (Qf fun K hK => Qa Z (XR Z (QiQ Z Z (Qa Z (hK _ _ (Qb (kp1 Z) ?_))))))))))
  refine Qv (Qt Z ?_)
  rw [QkK (i := i) (by omega) hI.2]; cases s <;> simp
theorem QdK {s : List UInt8} (hl : s.length <= 1000000) : Ok Tryz.prog 106 [.str s] (.bool (Qgv s)) := by
 refine Ok.ofT ZY Tryz.func106 Qte (Nat.le_of_ble_eq_true Z) ?_
 show TW _ _ tf106.body _ _
 refine Qf fun K hK => Qa Z (hK _ _ (Qb (kp1 Z) ?_))
 refine QE ?_ -- 0
 refine Qf fun K hK => Qa Z (XR Z (Z9 Z Z (Qa Z ?_)))
 refine QB (g := 8) Z (fun h1 => ?_) (fun h1 => ?_)
 ·try rw [h1]
  try simp only [qB] at h1
  refine Qp Z (Qp Z (Qp Z (Ql Z Z (hK _ _ (Qb (kp2 Z Z) ?_)))))
  refine Zm Z (Qf fun K hK => Qa Z (hK _ _ (Qb (kp1 Z) ?_)))
  refine Qv (Qk (Qt Z ?_))
  first | (have hz := XO (p := Xs) (s := s) (i := i) (by omega) hI.2; simp [Qgv, hz]; omega) | (have hz := XZ (p := Xs) (s := s) (i := i) (by omega) (by simp [Xs]; omega); simp [Qgv, hz]; done) | (simp [Qgv]; omega)
 ·try rw [h1]
  try simp only [qB] at h1
  refine Qh Z (Qa Z (Qh Z (XR Z (Qh Z (QiQ Z Z (Ql Z Z (hK _ _ (Qb (kp2 Z Z) ?_))))))))
  refine Qx Z (fun h2 => ?_) (fun h2 => ?_)
  ·try rw [h2]
   try simp only [qB] at h2
   refine Qf fun K hK => Qa Z (hK _ _ (Qb (kp1 Z) ?_))
   refine Qv (Qk (Qt Z ?_))
   first | (have hz := XO (p := Xs) (s := s) (i := i) (by omega) hI.2; simp [Qgv, hz]; omega) | (have hz := XZ (p := Xs) (s := s) (i := i) (by omega) (by simp [Xs]; omega); simp [Qgv, hz]; done) | (simp [Qgv]; omega)
  ·try rw [h2]
   try simp only [qB] at h2
   refine Qw (Qe (kp1 Z) ?_)
   refine QE ?_ -- 1
   refine Qf fun K hK => Qa Z (hK _ _ (Qb (kp2 Z Z) ?_))
   refine QD ?_
   refine Zs (ι := Nat) (fun i => ⟨[(0, .str s), (3, .int .i64 i)], []⟩) (fun i => i <= s.length /\ (s.take i).all Xs = true) (fun i => s.length - i) 0 ?_ ?_ ?_
   ·exact Zk (kp2 rfl rfl)
   ·exact ⟨Nat.zero_le _, rfl⟩
   intro i hI
   try dsimp only
   refine QE ?_ -- 2
   refine Qf fun K hK => Qa Z (Qa Z (XR Z (Z9 Z Z (hK _ _ (Qb (kp3 Z Z Z) ?_)))))
   refine Qx Z (fun h3 => ?_) (fun h3 => ?_)
   ·try rw [h3]
    try simp only [qB] at h3
    refine Qw (Qe (kp2 Z Z) ?_)
    refine QE ?_ -- 3
    refine QD (Qf fun K hK => Qa Z (Qa Z (XN Z Z (by omega) (QdY (by omega)) (Qa Z (hK _ _ (Qb (kp3 Z Z Z) ?_))))))
    refine Qf fun K hK => Qa Z (Z9 Z Z (Qa Z ?_))
    refine QB (g := 24) Z (fun h4 => ?_) (fun h4 => ?_)
    ·try rw [h4]
     try simp only [qB] at h4
     refine Qp Z (Qp Z (Ql Z Z (Qa Z (Qh Z (Qa Z (Qh Z (Z9 Z Z (Qh Z (Qa Z ?_)))))))))
     refine QB (g := 31) Z (fun h5 => ?_) (fun h5 => ?_)
     ·try rw [h5]
      try simp only [qB] at h5
      refine Qp Z (Qp Z (Qh Z (Ql Z Z (Ql Z Z (Qa Z (Qh Z (Qa Z (Qh Z (XY Z Z (Ql Z Z (hK _ _ (Qb (kp3 Z Z Z) ?_))))))))))))
      refine Qx Z (fun h6 => ?_) (fun h6 => ?_)
      ·try rw [h6]
       try simp only [qB] at h6
       refine Qf fun K hK => Qa Z (hK _ _ (Qb (kp1 Z) ?_))
       refine Qv (Qu (Qk (Q9 (Qu (Qk (Qt Z ?_))))))
       first | (have hz := XO (p := Xs) (s := s) (i := i) (by omega) hI.2; simp [Qgv, hz]; omega) | (have hz := XZ (p := Xs) (s := s) (i := i) (by omega) (by simp [Xs]; omega); simp [Qgv, hz]; done) | (simp [Qgv]; omega)
      ·try rw [h6]
       try simp only [qB] at h6
       refine Qw (Qi (Qe (kp2 Z Z) (QO fun K hK => Qa Z (Q2 Z Z (by first | exact Qs (by omega) (by omega) | exact Zh (by omega) (by omega) | exact Zr (by omega) (by omega) | rfl) (Qa Z (hK _ ?_))))))
       refine Qm (i + 1) ?_ ?_ ?_
       ·exact Zk (kp2 rfl rfl)
       ·exact ⟨by omega, Yf (by omega) hI.2 (by simp [Xs]; omega)⟩
       ·first | omega | (simp only; omega) | (dsimp only; omega)
     ·try rw [h5]
      try simp only [qB] at h5
      refine Qh Z (Qa Z (Qh Z (QiQ Z Z (Qh Z (Ql Z Z (Ql Z Z (Qa Z ?_)))))))
      refine QB (g := 36) Z (fun h7 => ?_) (fun h7 => ?_)
      ·try rw [h7]
       try simp only [qB] at h7
       refine Qh Z (Qa Z (Qh Z (XY Z Z (Ql Z Z (hK _ _ (Qb (kp3 Z Z Z) ?_))))))
       refine Qx Z (fun h8 => ?_) (fun h8 => ?_)
       ·try rw [h8]
        try simp only [qB] at h8
        refine Qf fun K hK => Qa Z (hK _ _ (Qb (kp1 Z) ?_))
        refine Qv (Qu (Qk (Q9 (Qu (Qk (Qt Z ?_))))))
        first | (have hz := XO (p := Xs) (s := s) (i := i) (by omega) hI.2; simp [Qgv, hz]; omega) | (have hz := XZ (p := Xs) (s := s) (i := i) (by omega) (by simp [Xs]; omega); simp [Qgv, hz]; done) | (simp [Qgv]; omega)
       ·try rw [h8]
        try simp only [qB] at h8
        refine Qw (Qi (Qe (kp2 Z Z) (QO fun K hK => Qa Z (Q2 Z Z (by first | exact Qs (by omega) (by omega) | exact Zh (by omega) (by omega) | exact Zr (by omega) (by omega) | rfl) (Qa Z (hK _ ?_))))))
        refine Qm (i + 1) ?_ ?_ ?_
        ·exact Zk (kp2 rfl rfl)
        ·exact ⟨by omega, Yf (by omega) hI.2 (by simp [Xs]; omega)⟩
        ·first | omega | (simp only; omega) | (dsimp only; omega)
      ·try rw [h7]
       try simp only [qB] at h7
       refine Qp Z (Qp Z (Ql Z Z (hK _ _ (Qb (kp3 Z Z Z) ?_))))
       refine ZS Z (Qw (Qi (Qe (kp2 Z Z) (QO fun K hK => Qa Z (Q2 Z Z (by first | exact Qs (by omega) (by omega) | exact Zh (by omega) (by omega) | exact Zr (by omega) (by omega) | rfl) (Qa Z (hK _ ?_)))))))
       refine Qm (i + 1) ?_ ?_ ?_
       ·exact Zk (kp2 rfl rfl)
       ·exact ⟨by omega, Yf (by omega) hI.2 (by simp [Xs]; omega)⟩
       ·first | omega | (simp only; omega) | (dsimp only; omega)
    ·try rw [h4]
     try simp only [qB] at h4
     refine Qh Z (Qa Z (Qh Z (QiQ Z Z (Ql Z Z (Qa Z ?_)))))
     refine QB (g := 28) Z (fun h9 => ?_) (fun h9 => ?_)
     ·try rw [h9]
      try simp only [qB] at h9
      refine Qh Z (Qa Z (Qh Z (Z9 Z Z (Qh Z (Qa Z ?_)))))
      refine QB (g := 31) Z (fun h10 => ?_) (fun h10 => ?_)
      ·try rw [h10]
       try simp only [qB] at h10
       refine Qp Z (Qp Z (Qh Z (Ql Z Z (Ql Z Z (Qa Z (Qh Z (Qa Z (Qh Z (XY Z Z (Ql Z Z (hK _ _ (Qb (kp3 Z Z Z) ?_))))))))))))
       refine Qx Z (fun h11 => ?_) (fun h11 => ?_)
       ·try rw [h11]
        try simp only [qB] at h11
        refine Qf fun K hK => Qa Z (hK _ _ (Qb (kp1 Z) ?_))
        refine Qv (Qu (Qk (Q9 (Qu (Qk (Qt Z ?_))))))
        first | (have hz := XO (p := Xs) (s := s) (i := i) (by omega) hI.2; simp [Qgv, hz]; omega) | (have hz := XZ (p := Xs) (s := s) (i := i) (by omega) (by simp [Xs]; omega); simp [Qgv, hz]; done) | (simp [Qgv]; omega)
       ·try rw [h11]
        try simp only [qB] at h11
        refine Qw (Qi (Qe (kp2 Z Z) (QO fun K hK => Qa Z (Q2 Z Z (by first | exact Qs (by omega) (by omega) | exact Zh (by omega) (by omega) | exact Zr (by omega) (by omega) | rfl) (Qa Z (hK _ ?_))))))
        refine Qm (i + 1) ?_ ?_ ?_
        ·exact Zk (kp2 rfl rfl)
        ·exact ⟨by omega, Yf (by omega) hI.2 (by simp [Xs]; omega)⟩
        ·first | omega | (simp only; omega) | (dsimp only; omega)
      ·try rw [h10]
       try simp only [qB] at h10
       refine Qh Z (Qa Z (Qh Z (QiQ Z Z (Qh Z (Ql Z Z (Ql Z Z (Qa Z ?_)))))))
       refine QB (g := 36) Z (fun h12 => ?_) (fun h12 => ?_)
       ·try rw [h12]
        try simp only [qB] at h12
        refine Qh Z (Qa Z (Qh Z (XY Z Z (Ql Z Z (hK _ _ (Qb (kp3 Z Z Z) ?_))))))
        refine Qx Z (fun h13 => ?_) (fun h13 => ?_)
        ·try rw [h13]
         try simp only [qB] at h13
         refine Qf fun K hK => Qa Z (hK _ _ (Qb (kp1 Z) ?_))
         refine Qv (Qu (Qk (Q9 (Qu (Qk (Qt Z ?_))))))
         first | (have hz := XO (p := Xs) (s := s) (i := i) (by omega) hI.2; simp [Qgv, hz]; omega) | (have hz := XZ (p := Xs) (s := s) (i := i) (by omega) (by simp [Xs]; omega); simp [Qgv, hz]; done) | (simp [Qgv]; omega)
        ·try rw [h13]
         try simp only [qB] at h13
         refine Qw (Qi (Qe (kp2 Z Z) (QO fun K hK => Qa Z (Q2 Z Z (by first | exact Qs (by omega) (by omega) | exact Zh (by omega) (by omega) | exact Zr (by omega) (by omega) | rfl) (Qa Z (hK _ ?_))))))
         refine Qm (i + 1) ?_ ?_ ?_
         ·exact Zk (kp2 rfl rfl)
         ·exact ⟨by omega, Yf (by omega) hI.2 (by simp [Xs]; omega)⟩
         ·first | omega | (simp only; omega) | (dsimp only; omega)
       ·try rw [h12]
        try simp only [qB] at h12
        refine Qp Z (Qp Z (Ql Z Z (hK _ _ (Qb (kp3 Z Z Z) ?_))))
        refine ZS Z (Qw (Qi (Qe (kp2 Z Z) (QO fun K hK => Qa Z (Q2 Z Z (by first | exact Qs (by omega) (by omega) | exact Zh (by omega) (by omega) | exact Zr (by omega) (by omega) | rfl) (Qa Z (hK _ ?_)))))))
        refine Qm (i + 1) ?_ ?_ ?_
        ·exact Zk (kp2 rfl rfl)
        ·exact ⟨by omega, Yf (by omega) hI.2 (by simp [Xs]; omega)⟩
        ·first | omega | (simp only; omega) | (dsimp only; omega)
     ·try rw [h9]
      try simp only [qB] at h9
      refine Qp Z (Qp Z (Qp Z (ZH Z (ZH Z (Qp Z (Ql Z Z (Qa Z (Qp Z (Qp Z (Ql Z Z (hK _ _ (Qb (kp3 Z Z Z) ?_))))))))))))
      refine ZS Z (Qw (Qi (Qe (kp2 Z Z) (QO fun K hK => Qa Z (Q2 Z Z (by first | exact Qs (by omega) (by omega) | exact Zh (by omega) (by omega) | exact Zr (by omega) (by omega) | rfl) (Qa Z (hK _ ?_)))))))
      refine Qm (i + 1) ?_ ?_ ?_
      ·exact Zk (kp2 rfl rfl)
      ·exact ⟨by omega, Yf (by omega) hI.2 (by simp [Xs]; omega)⟩
      ·first | omega | (simp only; omega) | (dsimp only; omega)
   ·try rw [h3]
    try simp only [qB] at h3
    refine Zl (QN (QC (QJ (Qe (Q7) (Qf fun K hK => Qa Z (hK _ _ (Qb (kp1 Z) ?_)))))))
    refine Qv (Qt Z ?_)
    first | (have hz := XO (p := Xs) (s := s) (i := i) (by omega) hI.2; simp [Qgv, hz]; omega) | (have hz := XZ (p := Xs) (s := s) (i := i) (by omega) (by simp [Xs]; omega); simp [Qgv, hz]; done) | (simp [Qgv]; omega)
theorem YV {s : List UInt8} (hl : s.length <= 1000000) : Ok Tryz.prog 107 [.str s] (.tup [.int .i64 (Xo s).1, .bool (Xo s).2]) := by
 refine Ok.ofT ZY Tryz.func107 Qtf (Nat.le_of_ble_eq_true Z) ?_
 show TW _ _ tf107.body _ _
 refine Qf fun K hK => Qa Z (Qa Z (hK _ _ (Qb (kp1 Z) ?_)))
 refine Qi1 (ι := Unit) (fun _u => ⟨[(0, .str s)], []⟩) (fun _u => ¬ (s.length < 1 \/ 9 < s.length \/ (1 < s.length /\ s.head? = some 48))) ?_ ?_
 ·skip
  refine Qf fun K hK => Qa Z (XR Z (Z9 Z Z (Qa Z ?_)))
  refine QB (g := 9) Z (fun h1 => ?_) (fun h1 => ?_)
  ·try rw [h1]
   try simp only [qB, X4, Bool.and_eq_true, Bool.and_eq_false_iff] at h1
   refine Qp Z (Qp Z (Qp Z (Ql Z Z (Qa Z (Qp Z (Qp Z (Qp Z (Qp Z (ZH Z (ZH Z (ZH Z ?_)))))))))))
   refine Qp Z (Ql Z Z (hK _ _ (Qb (kp2 Z Z) ?_)))
   refine Zm Z (Qf fun K hK => Qa Z (Qa Z (hK _ _ (Qb (kp2 Z Z) ?_))))
   refine Qv (Qd1 (QV Z Z ?_))
   first | (rw [QeR (s := s) (by omega)]; exact ⟨rfl, rfl⟩) | (rw [QcM (s := s) (by omega) (by assumption)]; exact ⟨rfl, rfl⟩) | (rw [QeQ (s := s) (i := i) (by omega) (by simp [QaK]; omega)]; exact ⟨rfl, rfl⟩) | (rw [QeP (s := s) (i := i) (by omega) (by omega)]; exact ⟨rfl, rfl⟩) | (rw [QhB (s := s) (i := i) hJ (by omega) hI.2.1 (by omega)]; exact ⟨rfl, rfl⟩)
  ·try rw [h1]
   try simp only [qB, X4, Bool.and_eq_true, Bool.and_eq_false_iff] at h1
   refine Qh Z (Qa Z (Qh Z (XR Z (Qh Z (QiQ Z Z (Ql Z Z (Qa Z ?_)))))))
   refine QB (g := 14) Z (fun h2 => ?_) (fun h2 => ?_)
   ·try rw [h2]
    try simp only [qB, X4, Bool.and_eq_true, Bool.and_eq_false_iff] at h2
    refine Qp Z (Qp Z (Qp Z (Qp Z (ZH Z (ZH Z (ZH Z (Qp Z (Ql Z Z (hK _ _ (Qb (kp2 Z Z) ?_))))))))))
    refine Zm Z (Qf fun K hK => Qa Z (Qa Z (hK _ _ (Qb (kp2 Z Z) ?_))))
    refine Qv (Qd1 (QV Z Z ?_))
    first | (rw [QeR (s := s) (by omega)]; exact ⟨rfl, rfl⟩) | (rw [QcM (s := s) (by omega) (by assumption)]; exact ⟨rfl, rfl⟩) | (rw [QeQ (s := s) (i := i) (by omega) (by simp [QaK]; omega)]; exact ⟨rfl, rfl⟩) | (rw [QeP (s := s) (i := i) (by omega) (by omega)]; exact ⟨rfl, rfl⟩) | (rw [QhB (s := s) (i := i) hJ (by omega) hI.2.1 (by omega)]; exact ⟨rfl, rfl⟩)
   ·try rw [h2]
    try simp only [qB, X4, Bool.and_eq_true, Bool.and_eq_false_iff] at h2
    refine Qh Z (Qa Z (Qh Z (XR Z (Qh Z (QiQ Z Z (Qh Z (Qa Z ?_)))))))
    refine QB (g := 18) Z (fun h3 => ?_) (fun h3 => ?_)
    ·try rw [h3]
     try simp only [qB, X4, Bool.and_eq_true, Bool.and_eq_false_iff] at h3
     refine Qh Z (Qa Z (Qh Z (XN Z Z (by omega) (QdY (i := 0) (by omega)) (Qh Z (ZD Z Z (Qh Z (Ql Z Z (Ql Z Z (hK _ _ (Qb (kp2 Z Z) ?_))))))))))
     refine Qx Z (fun h4 => ?_) (fun h4 => ?_)
     ·try rw [h4]
      try simp only [qB, X4, Bool.and_eq_true, Bool.and_eq_false_iff] at h4
      refine Qf fun K hK => Qa Z (Qa Z (hK _ _ (Qb (kp2 Z Z) ?_)))
      refine Qv (Qd1 (QV Z Z ?_))
      first | (rw [QeR (s := s) (by omega)]; exact ⟨rfl, rfl⟩) | (rw [QcM (s := s) (by omega) (by assumption)]; exact ⟨rfl, rfl⟩) | (rw [QeQ (s := s) (i := i) (by omega) (by simp [QaK]; omega)]; exact ⟨rfl, rfl⟩) | (rw [QeP (s := s) (i := i) (by omega) (by omega)]; exact ⟨rfl, rfl⟩) | (rw [QhB (s := s) (i := i) hJ (by omega) hI.2.1 (by omega)]; exact ⟨rfl, rfl⟩)
     ·try rw [h4]
      try simp only [qB, X4, Bool.and_eq_true, Bool.and_eq_false_iff] at h4
      refine Qw ?_
      refine Yo () ?_ ?_
      ·exact Zk (kp1 rfl)
      ·rintro (q | q | q) <;> first | omega | exact QnM (s := s) (by omega) (by assumption) q.2
    ·try rw [h3]
     try simp only [qB, X4, Bool.and_eq_true, Bool.and_eq_false_iff] at h3
     refine Qp Z (Qp Z (Qp Z (Qh Z (Ql Z Z (Ql Z Z (hK _ _ (Qb (kp2 Z Z) ?_)))))))
     refine ZS Z (Qw ?_)
     refine Yo () ?_ ?_
     ·exact Zk (kp1 rfl)
     ·rintro (q | q | q) <;> first | omega | exact QnM (s := s) (by omega) (by assumption) q.2
 intro _u hJ
 try dsimp only
 refine Qf fun K hK => Qa Z (hK _ _ (Qb (kp2 Z Z) ?_))
 refine QE ?_ -- 1
 refine Qf fun K hK => Qa Z (hK _ _ (Qb (kp3 Z Z Z) ?_))
 refine QD ?_
 refine Zs (ι := Nat) (fun i => ⟨[(0, .str s), (4, .int .i64 (val (s.take i))), (5, .int .i64 i)], []⟩) (fun i => i <= s.length /\ (s.take i).all QaK = true /\ s.length <= 9) (fun i => s.length - i) 0 ?_ ?_ ?_
 ·first | exact Zk (kp3 rfl rfl rfl) | exact Q8 (l := [0, 4, 5]) (kp3 rfl rfl rfl) Qr (by rw [Qmg (by omega)]; simp; omega) rfl rfl
 ·exact ⟨Nat.zero_le _, rfl, by omega⟩
 intro i hI
 have hv := QsC (s := s.take i) hI.2.1
 have hp : 10 ^ (s.take i).length <= 10 ^ 9 := Nat.pow_le_pow_right (by omega) (by simp; omega)
 try dsimp only
 refine QE ?_ -- 2
 refine Qf fun K hK => Qa Z (Qa Z (XR Z (Z9 Z Z (hK _ _ (Qb (kp4 Z Z Z Z) ?_)))))
 refine Qx Z (fun h5 => ?_) (fun h5 => ?_)
 ·try rw [h5]
  try simp only [qB, X4, Bool.and_eq_true, Bool.and_eq_false_iff] at h5
  refine Qw (Qe (kp3 Z Z Z) ?_)
  refine QE ?_ -- 3
  refine QD ?_
  refine QE ?_ -- 4
  refine Qf fun K hK => Qa Z (Qa Z (XN Z Z (by omega) (QdY (by omega)) (QF (QcW) Z Z (.inr Z) (Yh Z (hK _ _ (Qb (kp4 Z Z Z Z) ?_))))))
  refine Qx Z (fun h6 => ?_) (fun h6 => ?_)
  ·try rw [h6]
   try simp only [qB, X4, Bool.and_eq_true, Bool.and_eq_false_iff] at h6
   refine Qf fun K hK => Qa Z (Qa Z (hK _ _ (Qb (kp2 Z Z) ?_)))
   refine Qv (Qk (Qu (Qk (Q9 (Qu (Qk (QV Z Z ?_)))))))
   first | (rw [QeR (s := s) (by omega)]; exact ⟨rfl, rfl⟩) | (rw [QcM (s := s) (by omega) (by assumption)]; exact ⟨rfl, rfl⟩) | (rw [QeQ (s := s) (i := i) (by omega) (by simp [QaK]; omega)]; exact ⟨rfl, rfl⟩) | (rw [QeP (s := s) (i := i) (by omega) (by omega)]; exact ⟨rfl, rfl⟩) | (rw [QhB (s := s) (i := i) hJ (by omega) hI.2.1 (by omega)]; exact ⟨rfl, rfl⟩)
  ·try rw [h6]
   try simp only [qB, X4, Bool.and_eq_true, Bool.and_eq_false_iff] at h6
   refine Qw (Qe (kp3 Z Z Z) (QO fun K hK => Qa Z (QqM Z Z (by first | exact Qs (by omega) (by omega) | exact Zh (by omega) (by omega) | exact Zr (by omega) (by omega) | rfl) (Qa Z (Qa Z (XN Z Z (by omega) (QdY (by omega)) (Qag Z Z (by first | exact Qs (by omega) (by omega) | exact Zh (by omega) (by omega) | exact Zr (by omega) (by omega) | rfl) (QiZ Z (by first | exact Qs (by omega) (by omega) | exact Zh (by omega) (by omega) | exact Zr (by omega) (by omega) | rfl) (Q2 Z Z (by first | exact Qs (by omega) (by omega) | exact Zh (by omega) (by omega) | exact Zr (by omega) (by omega) | rfl) (Qa Z ?_))))))))))
   refine hK _ ?_
   refine Qi (Qe (kp3 Z Z Z) (QO fun K hK => Qa Z (Q2 Z Z (by first | exact Qs (by omega) (by omega) | exact Zh (by omega) (by omega) | exact Zr (by omega) (by omega) | rfl) (Qa Z (hK _ ?_)))))
   refine Qm (i + 1) ?_ ?_ ?_
   ·first | exact Zk (kp3 rfl rfl rfl) | exact Q8 (l := [0, 4, 5]) (kp3 rfl rfl rfl) Qr (by rw [Qmg (by omega)]; simp; omega) rfl rfl
   ·exact ⟨by omega, Yf (by omega) hI.2.1 (by simp [QaK]; omega), hI.2.2⟩
   ·first | omega | (simp only; omega) | (dsimp only; omega)
 ·try rw [h5]
  try simp only [qB, X4, Bool.and_eq_true, Bool.and_eq_false_iff] at h5
  refine Zl (QN (QC (QJ (Qe (kp1 Z) ?_))))
  refine QE ?_ -- 5
  refine Qf fun K hK => Qa Z (QiQ Z Z (hK _ _ (Qb (kp2 Z Z) ?_)))
  refine Qx Z (fun h7 => ?_) (fun h7 => ?_)
  ·try rw [h7]
   try simp only [qB, X4, Bool.and_eq_true, Bool.and_eq_false_iff] at h7
   refine Qf fun K hK => Qa Z (Qa Z (hK _ _ (Qb (kp2 Z Z) ?_)))
   refine Qv (Qk (QV Z Z ?_))
   first | (rw [QeR (s := s) (by omega)]; exact ⟨rfl, rfl⟩) | (rw [QcM (s := s) (by omega) (by assumption)]; exact ⟨rfl, rfl⟩) | (rw [QeQ (s := s) (i := i) (by omega) (by simp [QaK]; omega)]; exact ⟨rfl, rfl⟩) | (rw [QeP (s := s) (i := i) (by omega) (by omega)]; exact ⟨rfl, rfl⟩) | (rw [QhB (s := s) (i := i) hJ (by omega) hI.2.1 (by omega)]; exact ⟨rfl, rfl⟩)
  ·try rw [h7]
   try simp only [qB, X4, Bool.and_eq_true, Bool.and_eq_false_iff] at h7
   refine Qw (Qe (kp1 Z) (Qf fun K hK => Qa Z (Qa Z (Qa Z (hK _ _ (Qb (kp2 Z Z) ?_))))))
   refine Qv (QV Z Z ?_)
   first | (rw [QeR (s := s) (by omega)]; exact ⟨rfl, rfl⟩) | (rw [QcM (s := s) (by omega) (by assumption)]; exact ⟨rfl, rfl⟩) | (rw [QeQ (s := s) (i := i) (by omega) (by simp [QaK]; omega)]; exact ⟨rfl, rfl⟩) | (rw [QeP (s := s) (i := i) (by omega) (by omega)]; exact ⟨rfl, rfl⟩) | (rw [QhB (s := s) (i := i) hJ (by omega) hI.2.1 (by omega)]; exact ⟨rfl, rfl⟩)
end Go.Proofs
namespace Go.Proofs
open Go Go.Abs M3
set_option linter.unusedVariables false
set_option linter.unusedSimpArgs false
theorem QdJ {a b : List UInt8} (ha : a.length <= 1000000) (hb : b.length <= 1000000) : Ok Tryz.prog 132 [.str a, .str b] (.int .i64 (mOne a b)) := by
 refine Ok.ofT ZY Tryz.func132 QtE (Nat.le_of_ble_eq_true Z) ?_
 show TW _ _ tf132.body _ _
 refine Qf fun K hK => Qa Z (hK _ _ (Qb (kp2 Z Z) ?_))
 refine Qf fun K hK => Qa Z (QF (YM (by omega)) Z Z (.inr Z) (Qa Z (QF (YM (by omega)) Z Z (.inr Z) (Qa Z (Qa Z (hK _ _ (Qb (kp4 Z Z Z Z) ?_)))))))
 refine QE ?_ -- 0
 refine QD (Qf fun K hK => Qa Z (Qa Z ?_))
 refine QB (g := 17) Z (fun h1 => ?_) (fun h1 => ?_)
 ·try rw [h1]
  try simp only [qB] at h1
  refine Qh Z (Qa Z (Ql Z Z (Qa Z (hK _ _ (Qb (kp5 Z Z Z Z Z) ?_)))))
  refine Qx Z (fun h2 => ?_) (fun h2 => ?_)
  ·try rw [h2]
   try simp only [qB] at h2
   refine Qf fun K hK => Qa Z (QF (YV (by omega)) Z Z (.inr Z) (Qa Z (Zd Z Z (Zd Z Z (Qa Z (Qa Z (hK _ _ (Qb (kp2 Z Z) ?_))))))))
   refine Qf fun K hK => Qa Z (QF (YV (by omega)) Z Z (.inr Z) (Qa Z (Zd Z Z (Zd Z Z (Qa Z (Qa Z (hK _ _ (Qb (kp2 Z Z) ?_))))))))
   refine Qf fun K hK => Qa Z (Qa Z (QF (ZB) Z Z (.inr Z) (Qa Z (hK _ _ (Qb (kp1 Z) ?_)))))
   refine Qv (Qu (Qk (QA Z ?_)))
   simp [mOne, h1, h2]
  ·try rw [h2]
   try simp only [qB] at h2
   refine Qf fun K hK => Qa Z (Qa Z (hK _ _ (Qb (kp4 Z Z Z Z) ?_)))
   refine Zm Z (Qf fun K hK => Qa Z (hK _ _ (Qb (kp1 Z) ?_)))
   refine Qv (Qu (Qk (QA Z ?_)))
   simp [mOne, h1, h2]
 ·try rw [h1]
  try simp only [qB] at h1
  refine Qp Z (Ql Z Z (Qa Z (hK _ _ (Qb (kp5 Z Z Z Z Z) ?_))))
  refine ZS Z (Qf fun K hK => Qa Z (Qa Z (hK _ _ (Qb (kp4 Z Z Z Z) ?_))))
  refine ZS Z (Qf fun K hK => Qa Z (Qa Z (hK _ _ (Qb (kp3 Z Z Z) ?_))))
  refine Qx Z (fun h3 => ?_) (fun h3 => ?_)
  ·try rw [h3]
   try simp only [qB] at h3
   refine Qf fun K hK => Qa Z (hK _ _ (Qb (kp1 Z) ?_))
   refine Qv (Qu (Qk (QA Z ?_)))
   simp [mOne, h1, h3]
  ·try rw [h3]
   try simp only [qB] at h3
   refine Qw (Qi (Qe (kp2 Z Z) (Qf fun K hK => Qa Z (Qa Z (QF (Qc4) Z Z (.inr Z) (Qa Z (hK _ _ (Qb (kp1 Z) ?_))))))))
   refine Qv (QA Z ?_)
   simp [mOne, h1, h3]
theorem Qdm {a b : List UInt8} (ha : a.length <= 1000000) (hb : b.length <= 1000000) : Ok Tryz.prog 131 [.str a, .str b] (.int .i64 (QgY a b)) := by
 refine Ok.ofT ZY Tryz.func131 QtD (Nat.le_of_ble_eq_true Z) ?_
 show TW _ _ tf131.body _ _
 refine Qf fun K hK => Qa Z (hK _ _ (Qb (kp2 Z Z) ?_))
 refine QE ?_ -- 0
 refine QD (Qf fun K hK => Qa Z (Qa Z (QfM Z Z (Qa Z (hK _ _ (Qb (kp3 Z Z Z) ?_))))))
 refine Qx Z (fun h1 => ?_) (fun h1 => ?_)
 ·try rw [h1]
  try simp only [qB, Zi] at h1
  refine Qf fun K hK => Qa Z (hK _ _ (Qb (kp1 Z) ?_))
  refine Qv (Qu (Qk (QA Z ?_)))
  first | (simp_all [QgY]; done) | (rw [hI.2.2, QcK (by omega) (by omega) (by assumption)]) | (rw [hI.2.2, QcJ (by omega) (by omega) (by omega)]; simp [Zi])
 ·try rw [h1]
  try simp only [qB, Zi] at h1
  refine Qf fun K hK => Qa Z (QfM Z Z (Qa Z (hK _ _ (Qb (kp3 Z Z Z) ?_))))
  refine Qx Z (fun h2 => ?_) (fun h2 => ?_)
  ·try rw [h2]
   try simp only [qB, Zi] at h2
   refine Qf fun K hK => Qa Z (hK _ _ (Qb (kp1 Z) ?_))
   refine Qv (Qu (Qk (QA Z ?_)))
   first | (simp_all [QgY]; done) | (rw [hI.2.2, QcK (by omega) (by omega) (by assumption)]) | (rw [hI.2.2, QcJ (by omega) (by omega) (by omega)]; simp [Zi])
  ·try rw [h2]
   try simp only [qB, Zi] at h2
   refine Qf fun K hK => Qa Z (QfM Z Z (Qa Z (hK _ _ (Qb (kp3 Z Z Z) ?_))))
   refine Qx Z (fun h3 => ?_) (fun h3 => ?_)
   ·try rw [h3]
    try simp only [qB, Zi] at h3
    refine Qf fun K hK => Qa Z (hK _ _ (Qb (kp1 Z) ?_))
    refine Qv (Qu (Qk (QA Z ?_)))
    first | (simp_all [QgY]; done) | (rw [hI.2.2, QcK (by omega) (by omega) (by assumption)]) | (rw [hI.2.2, QcJ (by omega) (by omega) (by omega)]; simp [Zi])
   ·try rw [h3]
    try simp only [qB, Zi] at h3
    refine Qw (Qi (Qe (kp2 Z Z) (Qf fun K hK => Qa Z (QF (Y9 (by omega)) Z Z (.inl Z) (Qa Z (QF (Y9 (by omega)) Z Z (.inl Z) (Qa Z (Qa Z (hK _ _ (Qb (kp2 Z Z) ?_))))))))))
    refine QE ?_ -- 1
    refine Qf fun K hK => Qa Z (hK _ _ (Qb (kp3 Z Z Z) ?_))
    refine QD ?_
    refine Zs (ι := Nat) (fun i => ⟨[(5, .sl (Qbd (Yw a 46))), (6, .sl (Qbd (Yw b 46))), (7, .int .i64 i)], []⟩) (fun i => i <= (Yw a 46).length /\ i <= (Yw b 46).length /\ QgY a b = Qm0 ((Yw a 46).drop i) ((Yw b 46).drop i)) (fun i => (Yw a 46).length - i) 0 ?_ ?_ ?_
    ·exact Zk (kp3 rfl rfl rfl)
    ·exact ⟨Nat.zero_le _, Nat.zero_le _, by simp_all [QgY]⟩
    intro i hI
    have sl := QoE (s := a) (c := 46)
    try dsimp only
    refine QE ?_ -- 2
    refine Qf fun K hK => Qa Z (Qa Z (QS Z Z (Z9 Z Z (Qa Z ?_))))
    refine QB (g := 27) Z (fun h4 => ?_) (fun h4 => ?_)
    ·try rw [h4]
     try simp only [qB, Zi] at h4
     refine Qh Z (Qa Z (Qh Z (Qa Z (Qh Z (QS Z Z (Qh Z (Z9 Z Z (Ql Z Z (hK _ _ (Qb (kp4 Z Z Z Z) ?_))))))))))
     refine Qx Z (fun h5 => ?_) (fun h5 => ?_)
     ·try rw [h5]
      try simp only [qB, Zi] at h5
      refine Qw (Qe (kp3 Z Z Z) ?_)
      refine QE ?_ -- 3
      refine QD (Qf fun K hK => Qa Z (Qa Z (QL Z Z Z (by omega) (QdZ (by omega)) Z (QR (ds0 := [1, 0]) Z Z Z Z Z (Qa Z (Qa Z (QL Z Z Z (by omega) (QdZ (by omega)) Z (QR (ds0 := [1, 0]) Z Z Z Z Z (QX (ds0 := [0]) (QdJ (Qen (by omega) ha) (Qen (by omega) hb)) Z Z (.inr Z) Z Z (Qa Z ?_))))))))))
      refine hK _ _ (Qb (kp4 Z Z Z Z) ?_)
      refine Qf fun K hK => Qa Z (XY Z Z (hK _ _ (Qb (kp5 Z Z Z Z Z) ?_)))
      refine Qx Z (fun h6 => ?_) (fun h6 => ?_)
      ·try rw [h6]
       try simp only [qB, Zi] at h6
       refine Qf fun K hK => Qa Z (Qa Z (hK _ _ (Qb (kp1 Z) ?_)))
       refine Qv (Qu (Qk (Q9 (Qu (Qk (QA Z ?_))))))
       first | (simp_all [QgY]; done) | (rw [hI.2.2, QcK (by omega) (by omega) (by assumption)]) | (rw [hI.2.2, QcJ (by omega) (by omega) (by omega)]; simp [Zi])
      ·try rw [h6]
       try simp only [qB, Zi] at h6
       refine Qw (Qi (Qe (kp3 Z Z Z) (QO fun K hK => Qa Z (Q2 Z Z (by first | exact Qs (by omega) (by omega) | exact Zh (by omega) (by omega) | exact Zr (by omega) (by omega) | rfl) (Qa Z (hK _ ?_))))))
       refine Qm (i + 1) ?_ ?_ ?_
       ·exact Zk (kp3 rfl rfl rfl)
       ·exact ⟨by omega, by omega, by rw [hI.2.2, Qn6 (by omega) (by omega) (by assumption)]⟩
       ·first | omega | (simp only; omega) | (dsimp only; omega)
     ·try rw [h5]
      try simp only [qB, Zi] at h5
      refine Zl (QN (QC (QJ (Qe (kp2 Z Z) (Qf fun K hK => Qa Z (QS Z Z (Qa Z (QS Z Z (QF (ZB) Z Z (.inr Z) (Qa Z ?_))))))))))
      refine hK _ _ (Qb (kp1 Z) ?_)
      refine Qv (QA Z ?_)
      first | (simp_all [QgY]; done) | (rw [hI.2.2, QcK (by omega) (by omega) (by assumption)]) | (rw [hI.2.2, QcJ (by omega) (by omega) (by omega)]; simp [Zi])
    ·try rw [h4]
     try simp only [qB, Zi] at h4
     refine Qp Z (Qp Z (Qp Z (Qp Z (Ql Z Z (hK _ _ (Qb (kp4 Z Z Z Z) ?_))))))
     refine ZS Z (Zl (QN (QC (QJ (Qe (kp2 Z Z) (Qf fun K hK => Qa Z (QS Z Z (Qa Z (QS Z Z (QF (ZB) Z Z (.inr Z) ?_))))))))))
     refine Qa Z (hK _ _ (Qb (kp1 Z) ?_))
     refine Qv (QA Z ?_)
     first | (simp_all [QgY]; done) | (rw [hI.2.2, QcK (by omega) (by omega) (by assumption)]) | (rw [hI.2.2, QcJ (by omega) (by omega) (by omega)]; simp [Zi])
theorem Qaz {s : List UInt8} {pre : Bool} (hl : s.length <= 1000000) : Ok Tryz.prog 91 [.str s, .bool pre] (.bool (Qcs s pre)) := by
 refine Ok.ofT ZY Tryz.func91 QuU (Nat.le_of_ble_eq_true Z) ?_
 show TW _ _ tf91.body _ _
 refine Qf fun K hK => Qa Z (hK _ _ (Qb (kp2 Z Z) ?_))
 refine QE ?_ -- 0
 refine Qf fun K hK => Qa Z (QfM Z Z (hK _ _ (Qb (kp3 Z Z Z) ?_)))
 refine Qx Z (fun h1 => ?_) (fun h1 => ?_)
 ·try rw [h1]
  try simp only [qB, Zi] at h1
  refine Qf fun K hK => Qa Z (hK _ _ (Qb (kp1 Z) ?_))
  refine Qv (Qk (Qt Z ?_))
  first | (simp_all [Qcs]; done) | (simp [Qcs, h1]; omega) | exact (Qea (i := i) (by assumption) (by omega) (by simp [Qfl, h1])).symm | exact (Qct (i := i) (by omega) (by omega) hI.2).symm
 ·try rw [h1]
  try simp only [qB, Zi] at h1
  refine Qw (Qe (kp2 Z Z) (Qf fun K hK => Qa Z (QF (Y9 (by omega)) Z Z (.inl Z) (Qa Z (hK _ _ (Qb (kp2 Z Z) ?_))))))
  refine QE ?_ -- 1
  refine Qf fun K hK => Qa Z (QS Z Z (QiQ Z Z (hK _ _ (Qb (kp3 Z Z Z) ?_))))
  refine Qx Z (fun h2 => ?_) (fun h2 => ?_)
  ·try rw [h2]
   try simp only [qB, Zi] at h2
   refine Qf fun K hK => Qa Z (hK _ _ (Qb (kp1 Z) ?_))
   refine Qv (Qk (Qt Z ?_))
   first | (simp_all [Qcs]; done) | (simp [Qcs, h1, h2]; omega) | exact (Qea (i := i) (by assumption) (by omega) (by simp [Qfl, h1, h2])).symm | exact (Qct (i := i) (by omega) (by omega) hI.2).symm
  ·try rw [h2]
   try simp only [qB, Zi] at h2
   refine Qw (Qe (kp2 Z Z) ?_)
   refine QE ?_ -- 2
   refine Qf fun K hK => Qa Z (hK _ _ (Qb (kp3 Z Z Z) ?_))
   refine QD ?_
   refine Zs (ι := Nat) (fun i => ⟨[(1, .bool pre), (5, .sl (Qbd (Yw s 46))), (6, .int .i64 i)], []⟩) (fun i => i <= (Yw s 46).length /\ ((Yw s 46).take i).all (Qfl pre) = true) (fun i => (Yw s 46).length - i) 0 ?_ ?_ ?_
   ·first | exact Zk (kp3 rfl rfl rfl) | exact Q8 (l := [1, 5, 6]) (kp3 rfl rfl rfl) Qr (by simp [h1, h2]) rfl rfl
   ·exact ⟨Nat.zero_le _, rfl⟩
   intro i hI
   try dsimp only
   refine QE ?_ -- 3
   refine Qf fun K hK => Qa Z (Qa Z (QS Z Z (Z9 Z Z (hK _ _ (Qb (kp4 Z Z Z Z) ?_)))))
   refine Qx Z (fun h3 => ?_) (fun h3 => ?_)
   ·try rw [h3]
    try simp only [qB, Zi] at h3
    refine Qw (Qe (kp3 Z Z Z) ?_)
    refine QE ?_ -- 4
    refine QD ?_
    refine QE ?_ -- 5
    refine Qf fun K hK => Qa Z (Qa Z (QL Z Z Z (by omega) (QdZ (by omega)) Z (Qy Z Z Z (QF (QdK (Qen (by omega) hl)) Z Z (.inr Z) (Yh Z (hK _ _ (Qb (kp4 Z Z Z Z) ?_)))))))
    refine Qx Z (fun h4 => ?_) (fun h4 => ?_)
    ·try rw [h4]
     try simp only [qB, Zi] at h4
     refine Qf fun K hK => Qa Z (hK _ _ (Qb (kp1 Z) ?_))
     refine Qv (Qk (Qu (Qk (Q9 (Qu (Qk (Qt Z ?_)))))))
     first | (simp_all [Qcs]; done) | (simp [Qcs, h1, h2, h3, h4]; omega) | exact (Qea (i := i) (by assumption) (by omega) (by simp [Qfl, h1, h2, h3, h4])).symm | exact (Qct (i := i) (by omega) (by omega) hI.2).symm
    ·try rw [h4]
     try simp only [qB, Zi] at h4
     refine Qw (Qe (kp3 Z Z Z) (Qf fun K hK => Qa Z (Qa Z (QL Z Z Z (by omega) (QdZ (by omega)) Z (Qy Z Z Z (QF (YV (Qen (by omega) hl)) Z Z (.inr Z) (Qa Z (Zd Z Z (Zd Z Z (Qa Z ?_))))))))))
     refine Qa Z (hK _ _ (Qb (kp4 Z Z Z Z) ?_))
     refine Qf fun K hK => Qa Z (Qa Z ?_)
     refine QB (g := 37) Z (fun h5 => ?_) (fun h5 => ?_)
     ·try rw [h5]
      try simp only [qB, Zi] at h5
      refine Qh Z (Qa Z (Qh Z (Qa Z (Qh Z (QL Z Z Z (by omega) (QdZ (by omega)) Z (Qh Z (Qy Z Z Z (Qh Z (QF (YM (Qen (by omega) hl)) Z Z (.inr Z) (Ql Z Z (Qa Z ?_)))))))))))
      refine QB (g := 44) Z (fun h6 => ?_) (fun h6 => ?_)
      ·try rw [h6]
       try simp only [qB, Zi] at h6
       refine Qh Z (Qa Z (Qh Z (Yh Z (Ql Z Z (hK _ _ (Qb (kp4 Z Z Z Z) ?_))))))
       refine Qx Z (fun h7 => ?_) (fun h7 => ?_)
       ·try rw [h7]
        try simp only [qB, Zi] at h7
        refine Qf fun K hK => Qa Z (hK _ _ (Qb (kp1 Z) ?_))
        refine Qv (Qu (Qk (Q9 (Qu (Qk (Qt Z ?_))))))
        first | (simp_all [Qcs]; done) | (simp [Qcs, h1, h2, h3, h4, h5, h6, h7]; omega) | exact (Qea (i := i) (by assumption) (by omega) (by simp [Qfl, h1, h2, h3, h4, h5, h6, h7])).symm | exact (Qct (i := i) (by omega) (by omega) hI.2).symm
       ·try rw [h7]
        try simp only [qB, Zi] at h7
        refine Qw (Qi (Qe (kp3 Z Z Z) (QO fun K hK => Qa Z (Q2 Z Z (by first | exact Qs (by omega) (by omega) | exact Zh (by omega) (by omega) | exact Zr (by omega) (by omega) | rfl) (Qa Z (hK _ ?_))))))
        refine Qm (i + 1) ?_ ?_ ?_
        ·first | exact Zk (kp3 rfl rfl rfl) | exact Q8 (l := [1, 5, 6]) (kp3 rfl rfl rfl) Qr (by simp [h1, h2, h3, h4, h5, h6, h7]) rfl rfl
        ·exact ⟨by omega, Yf (by omega) hI.2 (by simp [Qfl, h1, h2, h3, h4, h5, h6, h7])⟩
        ·first | omega | (simp only; omega) | (dsimp only; omega)
      ·try rw [h6]
       try simp only [qB, Zi] at h6
       refine Qp Z (Qp Z (Ql Z Z (hK _ _ (Qb (kp4 Z Z Z Z) ?_))))
       refine ZS Z (Qw (Qi (Qe (kp3 Z Z Z) (QO fun K hK => Qa Z (Q2 Z Z (by first | exact Qs (by omega) (by omega) | exact Zh (by omega) (by omega) | exact Zr (by omega) (by omega) | rfl) (Qa Z (hK _ ?_)))))))
       refine Qm (i + 1) ?_ ?_ ?_
       ·first | exact Zk (kp3 rfl rfl rfl) | exact Q8 (l := [1, 5, 6]) (kp3 rfl rfl rfl) Qr (by simp [h1, h2, h3, h4, h5, h6]) rfl rfl
       ·exact ⟨by omega, Yf (by omega) hI.2 (by simp [Qfl, h1, h2, h3, h4, h5, h6])⟩
       ·first | omega | (simp only; omega) | (dsimp only; omega)
     ·try rw [h5]
      try simp only [qB, Zi] at h5
      refine Qp Z (Qp Z (Qp Z (Qp Z (Qp Z (Ql Z Z (Qa Z (Qp Z (Qp Z (Ql Z Z (hK _ _ (Qb (kp4 Z Z Z Z) ?_)))))))))))
      refine ZS Z (Qw (Qi (Qe (kp3 Z Z Z) (QO fun K hK => Qa Z (Q2 Z Z (by first | exact Qs (by omega) (by omega) | exact Zh (by omega) (by omega) | exact Zr (by omega) (by omega) | rfl) (Qa Z (hK _ ?_)))))))
      refine Qm (i + 1) ?_ ?_ ?_
      ·first | exact Zk (kp3 rfl rfl rfl) | exact Q8 (l := [1, 5, 6]) (kp3 rfl rfl rfl) Qr (by simp [h1, h2, h3, h4, h5]) rfl rfl
      ·exact ⟨by omega, Yf (by omega) hI.2 (by simp [Qfl, h1, h2, h3, h4, h5])⟩
      ·first | omega | (simp only; omega) | (dsimp only; omega)
   ·try rw [h3]
    try simp only [qB, Zi] at h3
    refine Zl (QN (QC (QJ (Qe (Q7) (Qf fun K hK => Qa Z (hK _ _ (Qb (kp1 Z) ?_)))))))
    refine Qv (Qt Z ?_)
    first | (simp_all [Qcs]; done) | (simp [Qcs, h1, h2, h3]; omega) | exact (Qea (i := i) (by assumption) (by omega) (by simp [Qfl, h1, h2, h3])).symm | exact (Qct (i := i) (by omega) (by omega) hI.2).symm
theorem Zj {a b c : Int} {p q : List UInt8} (hp : p.length <= 1000000) (hq : q.length <= 1000000) : Ok Tryz.prog 67 [.agg [.int .i64 a, .int .i64 b, .int .i64 c, .str p, .str q]] (.bool (QiT a b c p q)) := by
 refine Ok.ofT ZY Tryz.func67 Quy (Nat.le_of_ble_eq_true Z) ?_
 show TW _ _ tf67.body _ _
 refine Qf fun K hK => Zz Z Z Z (Qa Z (hK _ _ (Qb (kp1 Z) ?_)))
 refine Qf fun K hK => Qj Z Z (Qy Z Z Z (QF (Xy) Z Z (.inr Z) (Qa Z ?_)))
 refine QB (g := 6) Z (fun h1 => ?_) (fun h1 => ?_)
 ·try rw [h1]
  try simp only [qB] at h1
  refine Qh Z (Qj Z Z (Qh Z (Qy Z Z Z (Qh Z (QF (Xy) Z Z (.inr Z) (Ql Z Z (Qa Z ?_)))))))
  refine QB (g := 11) Z (fun h2 => ?_) (fun h2 => ?_)
  ·try rw [h2]
   try simp only [qB] at h2
   refine Qh Z (Qj Z Z (Qh Z (Qy Z Z Z (Qh Z (QF (Xy) Z Z (.inr Z) (Ql Z Z (Qa Z ?_)))))))
   refine QB (g := 16) Z (fun h3 => ?_) (fun h3 => ?_)
   ·try rw [h3]
    try simp only [qB] at h3
    refine Qh Z (Qj Z Z (Qh Z (Qy Z Z Z (Qh Z (QF (Qaz (by omega)) Z Z (.inr Z) (Ql Z Z (Qa Z ?_)))))))
    refine QB (g := 21) Z (fun h4 => ?_) (fun h4 => ?_)
    ·try rw [h4]
     try simp only [qB] at h4
     refine Qh Z (Qj Z Z (Qh Z (Qy Z Z Z (Qh Z (QF (Qaz (by omega)) Z Z (.inr Z) (Ql Z Z (Qa Z (hK _ _ (Qb (kp1 Z) ?_)))))))))
     refine Qv (Qt Z ?_)
     simp [QiT, h1, h2, h3, h4]
    ·try rw [h4]
     try simp only [qB] at h4
     refine Qp Z (Qp Z (Qp Z (Ql Z Z (Qa Z (hK _ _ (Qb (kp1 Z) ?_))))))
     refine Qv (Qt Z ?_)
     simp [QiT, h1, h2, h3, h4]
   ·try rw [h3]
    try simp only [qB] at h3
    refine Qp Z (Qp Z (Qp Z (Ql Z Z (Qa Z (Qp Z (Qp Z (Qp Z (Ql Z Z (Qa Z (hK _ _ (Qb (kp1 Z) ?_)))))))))))
    refine Qv (Qt Z ?_)
    simp [QiT, h1, h2, h3]
  ·try rw [h2]
   try simp only [qB] at h2
   refine Qp Z (Qp Z (Qp Z (Ql Z Z (Qa Z (Qp Z (Qp Z (Qp Z (Ql Z Z (Qa Z (Qp Z (Qp Z ?_)))))))))))
   refine Qp Z (Ql Z Z (Qa Z (hK _ _ (Qb (kp1 Z) ?_))))
   refine Qv (Qt Z ?_)
   simp [QiT, h1, h2]
 ·try rw [h1]
  try simp only [qB] at h1
  refine Qp Z (Qp Z (Qp Z (Ql Z Z (Qa Z (Qp Z (Qp Z (Qp Z (Ql Z Z (Qa Z (Qp Z (Qp Z ?_)))))))))))
  refine Qp Z (Ql Z Z (Qa Z (Qp Z (Qp Z (Qp Z (Ql Z Z (Qa Z (hK _ _ (Qb (kp1 Z) ?_)))))))))
  refine Qv (Qt Z ?_)
  simp [QiT, h1]
end Go.Proofs
namespace Go.Proofs
open Go Go.Abs M3
set_option linter.unusedVariables false
set_option linter.unusedSimpArgs false
theorem XJ {a b c : Int} {p q : List UInt8} (hp : p.length <= 1000000) (hq : q.length <= 1000000) {a' b' c' : Int} {p' q' : List UInt8} (hp' : p'.length <= 1000000) (hq' : q'.length <= 1000000) : Ok Tryz.prog 129 [.agg [.int .i64 a, .int .i64 b, .int .i64 c, .str p, .str q], .agg [.int .i64 a', .int .i64 b', .int .i64 c', .str p', .str q']] (.int .i64 (QnZ a b c p q a' b' c' p' q')) := by
 refine Ok.ofT ZY Tryz.func129 QtB (Nat.le_of_ble_eq_true Z) ?_
 show TW _ _ tf129.body _ _
 refine Qf fun K hK => Zz Z Z Z (Zz Z Z Z (Qa Z (hK _ _ (Qb (kp2 Z Z) ?_))))
 refine QE ?_ -- 0
 refine Qf fun K hK => QH (cs := [_, _, _, _, _]) Z Z Z Z (QF (Zj (by omega) (by omega)) Z Z (.inr Z) (Yh Z (Qa Z ?_)))
 refine QB (g := 11) Z (fun h1 => ?_) (fun h1 => ?_)
 ·try rw [h1]
  try simp only [qB] at h1
  refine Qp Z (Qp Z (Qp Z (Ql Z Z (hK _ _ (Qb (kp3 Z Z Z) ?_)))))
  refine Zm Z (Qf fun K hK => Qa Z (hK _ _ (Qb (kp1 Z) ?_)))
  refine Qv (Qk (QA Z ?_))
  simp [QnZ, h1]
 ·try rw [h1]
  try simp only [qB] at h1
  refine Qh Z (QH (cs := [_, _, _, _, _]) Z Z Z Z (Qh Z (QF (Zj (by omega) (by omega)) Z Z (.inr Z) (Qh Z (Yh Z (Ql Z Z (hK _ _ (Qb (kp3 Z Z Z) ?_))))))))
  refine Qx Z (fun h2 => ?_) (fun h2 => ?_)
  ·try rw [h2]
   try simp only [qB] at h2
   refine Qf fun K hK => Qa Z (hK _ _ (Qb (kp1 Z) ?_))
   refine Qv (Qk (QA Z ?_))
   simp [QnZ, h1, h2]
  ·try rw [h2]
   try simp only [qB] at h2
   refine Qw (Qe (kp2 Z Z) ?_)
   refine QE ?_ -- 1
   refine Qf fun K hK => Qj Z Z (Qy Z Z Z (Qj Z Z (Qy Z Z Z (QF (ZB) Z Z (.inr Z) (Qa Z (hK _ _ (Qb (kp3 Z Z Z) ?_)))))))
   refine Qf fun K hK => Qa Z (XY Z Z (hK _ _ (Qb (kp4 Z Z Z Z) ?_)))
   refine Qx Z (fun h3 => ?_) (fun h3 => ?_)
   ·try rw [h3]
    try simp only [qB] at h3
    refine Qf fun K hK => Qa Z (Qa Z (hK _ _ (Qb (kp1 Z) ?_)))
    refine Qv (Qk (QA Z ?_))
    simp [QnZ, h1, h2, h3]
   ·try rw [h3]
    try simp only [qB] at h3
    refine Qw (Qe (kp2 Z Z) ?_)
    refine QE ?_ -- 2
    refine Qf fun K hK => Qj Z Z (Qy Z Z Z (Qj Z Z (Qy Z Z Z (QF (ZB) Z Z (.inr Z) (Qa Z (hK _ _ (Qb (kp3 Z Z Z) ?_)))))))
    refine Qf fun K hK => Qa Z (XY Z Z (hK _ _ (Qb (kp4 Z Z Z Z) ?_)))
    refine Qx Z (fun h4 => ?_) (fun h4 => ?_)
    ·try rw [h4]
     try simp only [qB] at h4
     refine Qf fun K hK => Qa Z (Qa Z (hK _ _ (Qb (kp1 Z) ?_)))
     refine Qv (Qk (QA Z ?_))
     simp [QnZ, h1, h2, h3, h4]
    ·try rw [h4]
     try simp only [qB] at h4
     refine Qw (Qe (kp2 Z Z) ?_)
     refine QE ?_ -- 3
     refine Qf fun K hK => Qj Z Z (Qy Z Z Z (Qj Z Z (Qy Z Z Z (QF (ZB) Z Z (.inr Z) (Qa Z (hK _ _ (Qb (kp3 Z Z Z) ?_)))))))
     refine Qf fun K hK => Qa Z (XY Z Z (hK _ _ (Qb (kp4 Z Z Z Z) ?_)))
     refine Qx Z (fun h5 => ?_) (fun h5 => ?_)
     ·try rw [h5]
      try simp only [qB] at h5
      refine Qf fun K hK => Qa Z (Qa Z (hK _ _ (Qb (kp1 Z) ?_)))
      refine Qv (Qk (QA Z ?_))
      simp [QnZ, h1, h2, h3, h4, h5]
     ·try rw [h5]
      try simp only [qB] at h5
      refine Qw (Qe (kp2 Z Z) (Qf fun K hK => Qj Z Z (Qy Z Z Z (Qj Z Z (Qy Z Z Z (QF (Qdm (by omega) (by omega)) Z Z (.inr Z) (Qa Z (hK _ _ (Qb (kp1 Z) ?_)))))))))
      refine Qv (QA Z ?_)
      simp [QnZ, h1, h2, h3, h4, h5]
theorem Yl {e a b c : Int} {p q : List UInt8} {f : Bool} (hp : p.length <= 1000000) (hq : q.length <= 1000000) : Ok Tryz.prog 127 [.agg [.int .i64 e, .int .i64 a, .int .i64 b, .int .i64 c, .str p, .str q, .bool f]] (.bool (QeM e a b c p q f)) := by
 refine Ok.ofT ZY Tryz.func127 Qtz (Nat.le_of_ble_eq_true Z) ?_
 show TW _ _ tf127.body _ _
 refine Qf fun K hK => Zz Z Z Z (Qa Z (hK _ _ (Qb (kp1 Z) ?_)))
 refine QE ?_ -- 0
 refine Qf fun K hK => Qj Z Z (Qy Z Z Z (ZD Z Z (hK _ _ (Qb (kp2 Z Z) ?_))))
 refine Qx Z (fun h1 => ?_) (fun h1 => ?_)
 ·try rw [h1]
  try simp only [qB] at h1
  refine Qf fun K hK => Qj Z Z (QH (cs := [_, _, _, _, _]) Z Z Z Z (QF (Zj (by omega) (by omega)) Z Z (.inr Z) (Qa Z ?_)))
  refine QB (g := 9) Z (fun h2 => ?_) (fun h2 => ?_)
  ·try rw [h2]
   try simp only [qB] at h2
   refine Qh Z (Qj Z Z (Qh Z (Qj Z Z (Qh Z (Qy Z Z Z (Qh Z (QfM Z Z (Ql Z Z (Qa Z (hK _ _ (Qb (kp1 Z) ?_)))))))))))
   refine Qv (Qk (Qt Z ?_))
   simp_all [QeM]
  ·try rw [h2]
   try simp only [qB] at h2
   refine Qp Z (Qp Z (Qp Z (Qp Z (Ql Z Z (Qa Z (hK _ _ (Qb (kp1 Z) ?_)))))))
   refine Qv (Qk (Qt Z ?_))
   simp_all [QeM]
 ·try rw [h1]
  try simp only [qB] at h1
  refine Qw (Qe (kp1 Z) (Qf fun K hK => Qj Z Z (Qy Z Z Z (ZD Z Z (Qa Z ?_)))))
  refine QB (g := 18) Z (fun h3 => ?_) (fun h3 => ?_)
  ·try rw [h3]
   try simp only [qB] at h3
   refine Qp Z (Qp Z (Qp Z (Ql Z Z (Qa Z (Qh Z (Qj Z Z (Qh Z (QH (cs := [_, _, _, _, _]) Z Z Z Z (Qh Z (QU Z Z (Qh Z ?_)))))))))))
   refine Qle Z Z Z (Ql Z Z (Qa Z ?_))
   refine QB (g := 29) Z (fun h4 => ?_) (fun h4 => ?_)
   ·try rw [h4]
    try simp only [qB] at h4
    refine Qh Z (Qj Z Z (Qh Z (Qy Z Z Z (Qh Z (Yh Z (Ql Z Z (Qa Z (hK _ _ (Qb (kp1 Z) ?_)))))))))
    refine Qv (Qt Z ?_)
    simp_all [QeM]
   ·try rw [h4]
    try simp only [qB] at h4
    refine Qp Z (Qp Z (Qp Z (Ql Z Z (Qa Z (hK _ _ (Qb (kp1 Z) ?_))))))
    refine Qv (Qt Z ?_)
    simp_all [QeM]
  ·try rw [h3]
   try simp only [qB] at h3
   refine Qh Z (Qj Z Z (Qh Z (Qy Z Z Z (Qh Z (ZD Z Z (Ql Z Z (Qa Z ?_)))))))
   refine QB (g := 23) Z (fun h5 => ?_) (fun h5 => ?_)
   ·try rw [h5]
    try simp only [qB] at h5
    refine Qh Z (Qj Z Z (Qh Z (QH (cs := [_, _, _, _, _]) Z Z Z Z (Qh Z (QU Z Z (Qh Z (Qle Z Z Z (Ql Z Z (Qa Z ?_)))))))))
    refine QB (g := 29) Z (fun h6 => ?_) (fun h6 => ?_)
    ·try rw [h6]
     try simp only [qB] at h6
     refine Qh Z (Qj Z Z (Qh Z (Qy Z Z Z (Qh Z (Yh Z (Ql Z Z (Qa Z (hK _ _ (Qb (kp1 Z) ?_)))))))))
     refine Qv (Qt Z ?_)
     simp_all [QeM]
    ·try rw [h6]
     try simp only [qB] at h6
     refine Qp Z (Qp Z (Qp Z (Ql Z Z (Qa Z (hK _ _ (Qb (kp1 Z) ?_))))))
     refine Qv (Qt Z ?_)
     simp_all [QeM]
   ·try rw [h5]
    try simp only [qB] at h5
    refine Qp Z (Qp Z (Qp Z (Qp Z (Ql Z Z (Qa Z (Qp Z (Qp Z (Qp Z (Ql Z Z (Qa Z (hK _ _ (Qb (kp1 Z) ?_))))))))))))
    refine Qv (Qt Z ?_)
    simp_all [QeM]
theorem Zy {e a b c : Int} {p q : List UInt8} {f : Bool} (hp : p.length <= 1000000) (hq : q.length <= 1000000) {e' a' b' c' : Int} {p' q' : List UInt8} {f' : Bool} (hp' : p'.length <= 1000000) (hq' : q'.length <= 1000000) : Ok Tryz.prog 124 [.agg [.int .i64 e, .int .i64 a, .int .i64 b, .int .i64 c, .str p, .str q, .bool f], .agg [.int .i64 e', .int .i64 a', .int .i64 b', .int .i64 c', .str p', .str q', .bool f']] (.int .i64 (QbF e a b c p q f e' a' b' c' p' q' f')) := by
 refine Ok.ofT ZY Tryz.func124 Qtw (Nat.le_of_ble_eq_true Z) ?_
 show TW _ _ tf124.body _ _
 refine Qf fun K hK => Zz Z Z Z (Zz Z Z Z (Qa Z (hK _ _ (Qb (kp2 Z Z) ?_))))
 refine QE ?_ -- 0
 refine Qf fun K hK => QH (cs := [_, _, _, _, _, _, _]) Z Z Z Z (QF (Yl (by omega) (by omega)) Z Z (.inr Z) (Yh Z (Qa Z ?_)))
 refine QB (g := 9) Z (fun h1 => ?_) (fun h1 => ?_)
 ·try rw [h1]
  try simp only [qB] at h1
  refine Qp Z (Qp Z (Qp Z (Ql Z Z (hK _ _ (Qb (kp3 Z Z Z) ?_)))))
  refine Zm Z (Qf fun K hK => Qa Z (hK _ _ (Qb (kp1 Z) ?_)))
  refine Qv (Qk (QA Z ?_))
  first | (simp [QbF, h1]; done) | (simp_all [QbF]; done)
 ·try rw [h1]
  try simp only [qB] at h1
  refine Qh Z (QH (cs := [_, _, _, _, _, _, _]) Z Z Z Z (Qh Z (QF (Yl (by omega) (by omega)) Z Z (.inr Z) (Qh Z (Yh Z (Ql Z Z (hK _ _ (Qb (kp3 Z Z Z) ?_))))))))
  refine Qx Z (fun h2 => ?_) (fun h2 => ?_)
  ·try rw [h2]
   try simp only [qB] at h2
   refine Qf fun K hK => Qa Z (hK _ _ (Qb (kp1 Z) ?_))
   refine Qv (Qk (QA Z ?_))
   first | (simp [QbF, h1, h2]; done) | (simp_all [QbF]; done)
  ·try rw [h2]
   try simp only [qB] at h2
   refine Qw (Qe (kp2 Z Z) ?_)
   refine QE ?_ -- 1
   refine Qf fun K hK => Qj Z Z (Qy Z Z Z (Qj Z Z (Qy Z Z Z ?_)))
   first | refine XY rfl rfl ?_ | refine QoS rfl rfl ?_
   refine Qa Z ?_
   refine QB (g := 19) Z (fun h3 => ?_) (fun h3 => ?_)
   ·try rw [h3]
    try simp only [qB] at h3
    refine Qp Z (Qp Z (Qp Z (Ql Z Z (hK _ _ (Qb (kp3 Z Z Z) ?_)))))
    refine Zm Z (Qf fun K hK => Qj Z Z (Qy Z Z Z (Qj Z Z (Qy Z Z Z (QF (ZB) Z Z (.inr Z) (Qa Z (hK _ _ (Qb (kp1 Z) ?_))))))))
    refine Qv (Qk (QA Z ?_))
    first | (simp [QbF, h1, h2, h3]; done) | (simp_all [QbF]; done)
   ·try rw [h3]
    try simp only [qB] at h3
    refine Qh Z (Qj Z Z (Qh Z (Qy Z Z Z (Qh Z (XY Z Z (Ql Z Z (hK _ _ (Qb (kp3 Z Z Z) ?_))))))))
    refine Qx Z (fun h4 => ?_) (fun h4 => ?_)
    ·try rw [h4]
     try simp only [qB] at h4
     refine Qf fun K hK => Qj Z Z (Qy Z Z Z (Qj Z Z (Qy Z Z Z (QF (ZB) Z Z (.inr Z) (Qa Z (hK _ _ (Qb (kp1 Z) ?_)))))))
     refine Qv (Qk (QA Z ?_))
     first | (simp [QbF, h1, h2, h3, h4]; done) | (simp_all [QbF]; done)
    ·try rw [h4]
     try simp only [qB] at h4
     refine Qw (Qe (kp2 Z Z) ?_)
     refine QE ?_ -- 2
     refine Qf fun K hK => Qj Z Z (QH (cs := [_, _, _, _, _]) Z Z Z Z (Qj Z Z (QH (cs := [_, _, _, _, _]) Z Z Z Z (QF (XJ (by omega) (by omega) (by omega) (by omega)) Z Z (.inr Z) (Qa Z (hK _ _ (Qb (kp3 Z Z Z) ?_)))))))
     refine Qf fun K hK => Qa Z (XY Z Z (hK _ _ (Qb (kp4 Z Z Z Z) ?_)))
     refine Qx Z (fun h5 => ?_) (fun h5 => ?_)
     ·try rw [h5]
      try simp only [qB] at h5
      refine Qf fun K hK => Qa Z (Qa Z (hK _ _ (Qb (kp1 Z) ?_)))
      refine Qv (Qk (QA Z ?_))
      first | (simp [QbF, h1, h2, h3, h4, h5]; done) | (simp_all [QbF]; done)
     ·try rw [h5]
      try simp only [qB] at h5
      refine Qw (Qe (kp2 Z Z) ?_)
      refine QE ?_ -- 3
      refine QD (Qf fun K hK => Qj Z Z (Qy Z Z Z (Qj Z Z (Qy Z Z Z (QsO Z Z (Qa Z (hK _ _ (Qb (kp2 Z Z) ?_))))))))
      refine Qx Z (fun h6 => ?_) (fun h6 => ?_)
      ·try rw [h6]
       try simp only [qB] at h6
       refine Qf fun K hK => Qa Z (hK _ _ (Qb (kp1 Z) ?_))
       refine Qv (Qu (Qk (QA Z ?_)))
       first | (simp [QbF, h1, h2, h3, h4, h5, h6]; done) | (simp_all [QbF]; done)
      ·try rw [h6]
       try simp only [qB] at h6
       refine Qf fun K hK => Qj Z Z (Qy Z Z Z (Qa Z (hK _ _ (Qb (kp1 Z) ?_))))
       refine Qx Z (fun h7 => ?_) (fun h7 => ?_)
       ·try rw [h7]
        try simp only [qB] at h7
        refine Qf fun K hK => Qa Z (hK _ _ (Qb (kp1 Z) ?_))
        refine Qv (Qu (Qk (QA Z ?_)))
        first | (simp [QbF, h1, h2, h3, h4, h5, h6, h7]; done) | (simp_all [QbF]; done)
       ·try rw [h7]
        try simp only [qB] at h7
        refine Qw (Qi (Qe (Q7) (Qf fun K hK => Qa Z (hK _ _ (Qb (kp1 Z) ?_)))))
        refine Qv (QA Z ?_)
        first | (simp [QbF, h1, h2, h3, h4, h5, h6, h7]; done) | (simp_all [QbF]; done)
theorem Qab {e a b c : Int} {p q : List UInt8} {f : Bool} (hp : p.length <= 1000000) (hq : q.length <= 1000000) {a' b' c' : Int} {p' q' : List UInt8} (hp' : p'.length <= 1000000) (hq' : q'.length <= 1000000) : Ok Tryz.prog 130 [.agg [.int .i64 e, .int .i64 a, .int .i64 b, .int .i64 c, .str p, .str q, .bool f], .agg [.int .i64 a', .int .i64 b', .int .i64 c', .str p', .str q']] (.bool (QaG e a b c p q f a' b' c' p' q')) := by
 refine Ok.ofT ZY Tryz.func130 QtC (Nat.le_of_ble_eq_true Z) ?_
 show TW _ _ tf130.body _ _
 refine Qf fun K hK => Zz Z Z Z (Zz Z Z Z (Qa Z (hK _ _ (Qb (kp2 Z Z) ?_))))
 refine QE ?_ -- 0
 refine Qf fun K hK => QH (cs := [_, _, _, _, _, _, _]) Z Z Z Z (QF (Yl (by omega) (by omega)) Z Z (.inr Z) (Yh Z (Qa Z ?_)))
 refine QB (g := 9) Z (fun h1 => ?_) (fun h1 => ?_)
 ·try rw [h1]
  try simp only [qB] at h1
  refine Qp Z (Qp Z (Qp Z (Ql Z Z (hK _ _ (Qb (kp3 Z Z Z) ?_)))))
  refine Zm Z (Qf fun K hK => Qa Z (hK _ _ (Qb (kp1 Z) ?_)))
  refine Qv (Qk (Qt Z ?_))
  first | (simp [QaG, h1]; done) | (simp_all [QaG]; done)
 ·try rw [h1]
  try simp only [qB] at h1
  refine Qh Z (QH (cs := [_, _, _, _, _]) Z Z Z Z (Qh Z (QF (Zj (by omega) (by omega)) Z Z (.inr Z) (Qh Z (Yh Z (Ql Z Z (hK _ _ (Qb (kp3 Z Z Z) ?_))))))))
  refine Qx Z (fun h2 => ?_) (fun h2 => ?_)
  ·try rw [h2]
   try simp only [qB] at h2
   refine Qf fun K hK => Qa Z (hK _ _ (Qb (kp1 Z) ?_))
   refine Qv (Qk (Qt Z ?_))
   first | (simp [QaG, h1, h2]; done) | (simp_all [QaG]; done)
  ·try rw [h2]
   try simp only [qB] at h2
   refine Qw (Qe (kp2 Z Z) ?_)
   refine QE ?_ -- 1
   refine Qf fun K hK => Qj Z Z (Qy Z Z Z (XY Z Z (hK _ _ (Qb (kp3 Z Z Z) ?_))))
   refine Qx Z (fun h3 => ?_) (fun h3 => ?_)
   ·try rw [h3]
    try simp only [qB] at h3
    refine Qf fun K hK => Qj Z Z (Qy Z Z Z (Z9 Z Z (Qa Z (hK _ _ (Qb (kp1 Z) ?_)))))
    refine Qv (Qk (Qt Z ?_))
    first | (simp [QaG, h1, h2, h3]; done) | (simp_all [QaG]; done)
   ·try rw [h3]
    try simp only [qB] at h3
    refine Qw (Qe (kp2 Z Z) (Qf fun K hK => Qj Z Z (QH (cs := [_, _, _, _, _]) Z Z Z Z (QH (cs := [_, _, _, _, _]) Z Z Z Z (QF (XJ (by omega) (by omega) (by omega) (by omega)) Z Z (.inr Z) (Qa Z (hK _ _ (Qb (kp2 Z Z) ?_))))))))
    refine Qf fun K hK => Qa Z (Z9 Z Z (Qa Z ?_))
    refine QB (g := 26) Z (fun h4 => ?_) (fun h4 => ?_)
    ·try rw [h4]
     try simp only [qB] at h4
     refine Qp Z (Qp Z (Qp Z (ZH Z (ZH Z (ZH Z (Qp Z (Ql Z Z (Qa Z (hK _ _ (Qb (kp1 Z) ?_))))))))))
     refine Qv (Qt Z ?_)
     first | (simp [QaG, h1, h2, h3, h4]; done) | (simp_all [QaG]; done)
    ·try rw [h4]
     try simp only [qB] at h4
     refine Qh Z (Qa Z (Qh Z (ZD Z Z (Qh Z (Qa Z ?_)))))
     refine QB (g := 29) Z (fun h5 => ?_) (fun h5 => ?_)
     ·try rw [h5]
      try simp only [qB] at h5
      refine Qh Z (Qj Z Z (Qh Z (Qy Z Z Z (Qh Z (Yh Z (Qh Z (Ql Z Z (Ql Z Z (Qa Z (hK _ _ (Qb (kp1 Z) ?_)))))))))))
      refine Qv (Qt Z ?_)
      first | (simp [QaG, h1, h2, h3, h4, h5]; done) | (simp_all [QaG]; done)
     ·try rw [h5]
      try simp only [qB] at h5
      refine Qp Z (Qp Z (Qp Z (Qh Z (Ql Z Z (Ql Z Z (Qa Z (hK _ _ (Qb (kp1 Z) ?_))))))))
      refine Qv (Qt Z ?_)
      first | (simp [QaG, h1, h2, h3, h4, h5]; done) | (simp_all [QaG]; done)
theorem YN {e a b c : Int} {p q : List UInt8} {f : Bool} (hp : p.length <= 1000000) (hq : q.length <= 1000000) {e' a' b' c' : Int} {p' q' : List UInt8} {f' : Bool} (hp' : p'.length <= 1000000) (hq' : q'.length <= 1000000) : Ok Tryz.prog 123 [.agg [.int .i64 e, .int .i64 a, .int .i64 b, .int .i64 c, .str p, .str q, .bool f, .int .i64 e', .int .i64 a', .int .i64 b', .int .i64 c', .str p', .str q', .bool f']] (.bool (Qiv e a b c p q f e' a' b' c' p' q' f')) := by
 refine Ok.ofT ZY Tryz.func123 Qtv (Nat.le_of_ble_eq_true Z) ?_
 show TW _ _ tf123.body _ _
 refine Qf fun K hK => Zz Z Z Z (Qa Z (hK _ _ (Qb (kp1 Z) ?_)))
 refine Qf fun K hK => Qj Z Z (QH (cs := [_, _, _, _, _, _, _]) Z Z Z Z (QF (Yl (by omega) (by omega)) Z Z (.inr Z) (Qa Z ?_)))
 refine QB (g := 6) Z (fun h1 => ?_) (fun h1 => ?_)
 ·try rw [h1]
  try simp only [qB] at h1
  refine Qh Z (Qj Z Z (Qh Z (QH (cs := [_, _, _, _, _, _, _]) Z Z Z Z (Qh Z (QF (Yl (by omega) (by omega)) Z Z (.inr Z) (Ql Z Z (Qa Z ?_)))))))
  refine QB (g := 11) Z (fun h2 => ?_) (fun h2 => ?_)
  ·try rw [h2]
   try simp only [qB] at h2
   refine Qh Z (Qj Z Z (Qh Z (QH (cs := [_, _, _, _, _, _, _]) Z Z Z Z (Qh Z (Qj Z Z (Qh Z (QH (cs := [_, _, _, _, _, _, _]) Z Z Z Z (Qh Z (QF (Zy (by omega) (by omega) (by omega) (by omega)) Z Z (.inr Z) (Qh Z (Z9 Z Z ?_)))))))))))
   refine Ql Z Z (Qa Z (hK _ _ (Qb (kp1 Z) ?_)))
   refine Qv (Qt Z ?_)
   first | (simp [Qiv, h1, h2]; done) | (simp_all [Qiv]; done)
  ·try rw [h2]
   try simp only [qB] at h2
   refine Qp Z (Qp Z (Qp Z (Qp Z (Qp Z (Qp Z (Ql Z Z (Qa Z (hK _ _ (Qb (kp1 Z) ?_)))))))))
   refine Qv (Qt Z ?_)
   first | (simp [Qiv, h1, h2]; done) | (simp_all [Qiv]; done)
 ·try rw [h1]
  try simp only [qB] at h1
  refine Qp Z (Qp Z (Qp Z (Ql Z Z (Qa Z (Qp Z (Qp Z (Qp Z (Qp Z (Qp Z (Qp Z (Ql Z Z ?_)))))))))))
  refine Qa Z (hK _ _ (Qb (kp1 Z) ?_))
  refine Qv (Qt Z ?_)
  first | (simp [Qiv, h1]; done) | (simp_all [Qiv]; done)
theorem Qc5 {e a b c : Int} {p q : List UInt8} {f : Bool} (hp : p.length <= 1000000) (hq : q.length <= 1000000) {e' a' b' c' : Int} {p' q' : List UInt8} {f' : Bool} (hp' : p'.length <= 1000000) (hq' : q'.length <= 1000000) {x y z : Int} {r s : List UInt8} (hr : r.length <= 1000000) (hs : s.length <= 1000000) : Ok Tryz.prog 126 [.agg [.int .i64 e, .int .i64 a, .int .i64 b, .int .i64 c, .str p, .str q, .bool f, .int .i64 e', .int .i64 a', .int .i64 b', .int .i64 c', .str p', .str q', .bool f'], .agg [.int .i64 x, .int .i64 y, .int .i64 z, .str r, .str s]] (.bool (Qdd e a b c p q f e' a' b' c' p' q' f' x y z r s)) := by
 refine Ok.ofT ZY Tryz.func126 Qty (Nat.le_of_ble_eq_true Z) ?_
 show TW _ _ tf126.body _ _
 refine Qf fun K hK => Zz Z Z Z (Zz Z Z Z (Qa Z (hK _ _ (Qb (kp2 Z Z) ?_))))
 refine Qf fun K hK => QH (cs := [_, _, _, _, _, _, _, _, _, _, _, _, _, _]) Z Z Z Z (QF (YN (by omega) (by omega) (by omega) (by omega)) Z Z (.inr Z) (Qa Z ?_))
 refine QB (g := 7) Z (fun h1 => ?_) (fun h1 => ?_)
 ·try rw [h1]
  try simp only [qB] at h1
  refine Qh Z (QH (cs := [_, _, _, _, _]) Z Z Z Z (Qh Z (QF (Zj (by omega) (by omega)) Z Z (.inr Z) (Ql Z Z (Qa Z ?_)))))
  refine QB (g := 11) Z (fun h2 => ?_) (fun h2 => ?_)
  ·try rw [h2]
   try simp only [qB] at h2
   refine Qh Z (Qj Z Z (Qh Z (QH (cs := [_, _, _, _, _, _, _]) Z Z Z Z (Qh Z (QH (cs := [_, _, _, _, _]) Z Z Z Z (Qh Z (QF (Qab (by omega) (by omega) (by omega) (by omega)) Z Z (.inr Z) (Ql Z Z (Qa Z ?_)))))))))
   refine QB (g := 17) Z (fun h3 => ?_) (fun h3 => ?_)
   ·try rw [h3]
    try simp only [qB] at h3
    refine Qh Z (Qj Z Z (Qh Z (QH (cs := [_, _, _, _, _, _, _]) Z Z Z Z (Qh Z (QH (cs := [_, _, _, _, _]) Z Z Z Z (Qh Z (QF (Qab (by omega) (by omega) (by omega) (by omega)) Z Z (.inr Z) (Qh Z (Yh Z (Ql Z Z (Qa Z ?_)))))))))))
    refine hK _ _ (Qb (kp1 Z) ?_)
    refine Qv (Qt Z ?_)
    first | (simp [Qdd, h1, h2, h3]; done) | (simp_all [Qdd]; done)
   ·try rw [h3]
    try simp only [qB] at h3
    refine Qp Z (Qp Z (Qp Z (Qp Z (Qp Z (Ql Z Z (Qa Z (hK _ _ (Qb (kp1 Z) ?_))))))))
    refine Qv (Qt Z ?_)
    first | (simp [Qdd, h1, h2, h3]; done) | (simp_all [Qdd]; done)
  ·try rw [h2]
   try simp only [qB] at h2
   refine Qp Z (Qp Z (Qp Z (Qp Z (Ql Z Z (Qa Z (Qp Z (Qp Z (Qp Z (Qp Z (Qp Z (Ql Z Z ?_)))))))))))
   refine Qa Z (hK _ _ (Qb (kp1 Z) ?_))
   refine Qv (Qt Z ?_)
   first | (simp [Qdd, h1, h2]; done) | (simp_all [Qdd]; done)
 ·try rw [h1]
  try simp only [qB] at h1
  refine Qp Z (Qp Z (Ql Z Z (Qa Z (Qp Z (Qp Z (Qp Z (Qp Z (Ql Z Z (Qa Z (Qp Z (Qp Z ?_)))))))))))
  refine Qp Z (Qp Z (Qp Z (Ql Z Z (Qa Z (hK _ _ (Qb (kp1 Z) ?_))))))
  refine Qv (Qt Z ?_)
  first | (simp [Qdd, h1]; done) | (simp_all [Qdd]; done)
end Go.Proofs
namespace M3
open Go Go.Abs
end M3
namespace M3
open Go Go.Abs
end M3
namespace M3
open Go Go.Abs
end M3
namespace M25
open Go Go.Abs M3
def Qhv (a b c : Int) : Bool := decide (a = 0) && decide (b = 0) && decide (c = 0)
def Qaj (a b c : Int) (p q : List UInt8) (part : Int) : Option (Int × Int × Int) :=
 if QiT a b c p q = false \/ part < 0 \/ 2 < part then none
 else
  let o := if part = 0 then (a + 1, 0, 0) else if part = 1 then (a, b + 1, 0) else (a, b, c + 1)
  if QiT o.1 o.2.1 o.2.2 [] [] = true then some o else none
def dOV (o : Option (Int × Int × Int)) : D := .tup [.agg [.int .i64 (o.getD (0, 0, 0)).1, .int .i64 (o.getD (0, 0, 0)).2.1, .int .i64 (o.getD (0, 0, 0)).2.2, .str [], .str []], .bool o.isSome]
def XS (a b c : Int) (p q : List UInt8) : Nat -> Option (Int × Int × Int)
 | 0 => none
 | n + 1 => if (Qaj a b c p q n).isSome = true then Qaj a b c p q n else XS a b c p q n
def QjD (a b c : Int) (p q : List UInt8) : Option (Int × Int × Int) :=
 if QiT a b c p q = false then none else if p ≠ [] then some (a, b, c) else XS a b c p q 3
theorem QcL {a b c : Int} {p q : List UInt8} (h : QiT a b c p q = true) : (0 <= a /\ a <= 9999) /\ (0 <= b /\ b <= 9999) /\ (0 <= c /\ c <= 9999) := by
 simp only [QiT, mFits, Bool.and_eq_true, decide_eq_true_eq] at h
 omega
theorem Qkm {a b c : Int} {p q : List UInt8} {m : Nat} (hm : 0 < m) (h : (Qaj a b c p q ((m : Int) - 1)).isSome = false) : XS a b c p q m = XS a b c p q (m - 1) := by
 obtain ⟨n, rfl⟩ : ∃ n, m = n + 1 := ⟨m - 1, by omega⟩
 rw [show ((n + 1 : Nat) : Int) - 1 = (n : Int) by omega] at h
 rw [XS, if_neg (by rw [h]; simp)]; rfl
theorem Qi7 {a b c : Int} {p q : List UInt8} {m : Nat} (hm : 0 < m) (h : (Qaj a b c p q ((m : Int) - 1)).isSome = true) : XS a b c p q m = Qaj a b c p q ((m : Int) - 1) := by
 obtain ⟨n, rfl⟩ : ∃ n, m = n + 1 := ⟨m - 1, by omega⟩
 rw [show ((n + 1 : Nat) : Int) - 1 = (n : Int) by omega] at h ⊢
 rw [XS, if_pos h]
def dCu (x : Cu) : List D := [.int .i64 x.e, .int .i64 x.a, .int .i64 x.b, .int .i64 x.c, .str x.p, .str x.q, .bool x.f]
def Qfe (s : Cu × Cu) : List D := dCu s.1 ++ dCu s.2
def ZL (l : List (Cu × Cu)) : D := .sl (l.map Qfe)
def QhY (s : List (Cu × Cu) × List (Cu × Cu)) : D := .agg [ZL s.1, ZL s.2]
def Qc9 : Cu := ⟨-1, 0, 0, 0, [], [], false⟩
def QgX : Cu := ⟨1, 0, 0, 0, [], [], false⟩
def Qgp (a b c : Int) : Cu := if Qhv a b c = true then Qc9 else ⟨0, a, b, c, [], [], false⟩
def Qd4 (a b c : Int) : Cu := match QjD a b c [] [] with
 | none => QgX
 | some o => ⟨0, o.1, o.2.1, o.2.2, [], [], false⟩
def Xr (a b c : Int) (p q : List UInt8) : List (Cu × Cu) × List (Cu × Cu) :=
 if QiT a b c p q = false then ([], []) else if p ≠ [] then ([], [(⟨0, a, b, c, p, [], false⟩, ⟨0, a, b, c, p, [], true⟩)]) else ([(Qgp a b c, Qd4 a b c)], [])
def Qhx (e a b c : Int) (p q : List UInt8) (f : Bool) : Bool := !decide (e = 0) || (!f && decide (p = []) && !Qhv a b c)
def Cu.sm (x : Cu) : Prop := x.p.length <= 1000000 /\ x.q.length <= 1000000
def Sm (l : List (Cu × Cu)) : Prop := l.length <= 1000000 /\ ∀ s ∈ l, Cu.sm s.1 /\ Cu.sm s.2
theorem Sm.at {l : List (Cu × Cu)} (h : Sm l) {i : Nat} (hi : i < l.length) : (l[i].1.p.length <= 1000000 /\ l[i].1.q.length <= 1000000) /\ (l[i].2.p.length <= 1000000 /\ l[i].2.q.length <= 1000000) := h.2 _ (List.getElem_mem hi)
def Qd9 (s : Cu × Cu) : Bool := Qiv s.1.e s.1.a s.1.b s.1.c s.1.p s.1.q s.1.f s.2.e s.2.a s.2.b s.2.c s.2.p s.2.q s.2.f
def QbG (x y : Cu) : Int := QbF x.e x.a x.b x.c x.p x.q x.f y.e y.a y.b y.c y.p y.q y.f
def QrM (l : List (Cu × Cu)) (i : Nat) : Bool := match l[i]? with
 | none => true
 | some s => Qd9 s && (decide (i = 0) || match l[i - 1]? with | none => true | some r => decide (QbG r.2 s.1 < 0))
theorem Qoe {l : List (Cu × Cu)} {i : Nat} (h : i < l.length) : QrM l i = (Qd9 l[i] && (decide (i = 0) || decide (QbG (l[i - 1]'(by omega)).2 l[i].1 < 0))) := by
 unfold QrM
 rw [List.getElem?_eq_getElem h, List.getElem?_eq_getElem (show i - 1 < l.length by omega)]
theorem Qqs {l : List (Cu × Cu)} {i : Nat} (h : i < l.length) (h1 : Qd9 l[i] = true) (h2 : i = 0 \/ QbG (l[i - 1]'(by omega)).2 l[i].1 < 0) : QrM l i = true := by
 rw [Qoe h, h1]; simpa using h2
theorem QhD {l : List (Cu × Cu)} {i : Nat} (h : i < l.length) (h1 : Qd9 l[i] = false \/ (i ≠ 0 /\ 0 <= QbG (l[i - 1]'(by omega)).2 l[i].1)) : QrM l i = false := by
 rw [Qoe h]
 rcases h1 with h1 | ⟨h1, h2⟩
 ·rw [h1]; rfl
 ·simp only [Bool.and_eq_false_iff, Bool.or_eq_false_iff, decide_eq_false_iff_not]
  exact .inr ⟨h1, by omega⟩
def QeN (l : List (Cu × Cu)) : Bool := (List.range l.length).all (QrM l)
theorem QbK {n i : Nat} {p : Nat -> Bool} (h : i < n) (hp : p i = false) : (List.range n).all p = false := by
 rw [Bool.eq_false_iff]; intro ha
 rw [List.all_eq_true] at ha
 rw [ha i (List.mem_range.2 h)] at hp; cases hp
theorem QiD {i : Nat} {p : Nat -> Bool} (h : (List.range i).all p = true) (hp : p i = true) : (List.range (i + 1)).all p = true := by
 rw [List.range_succ, List.all_append, h]; simp [hp]
theorem QfE {i : Nat} {p : Nat -> Bool} {n : Nat} (h : (List.range i).all p = true) (hn : n <= i) : (List.range n).all p = true := by
 rw [List.all_eq_true] at h ⊢
 exact fun x hx => h x (List.mem_range.2 (Nat.lt_of_lt_of_le (List.mem_range.1 hx) hn))
def Qir (s : Cu × Cu) (a b c : Int) (p q : List UInt8) : Bool := Qdd s.1.e s.1.a s.1.b s.1.c s.1.p s.1.q s.1.f s.2.e s.2.a s.2.b s.2.c s.2.p s.2.q s.2.f a b c p q
def Qiq (l : List (Cu × Cu)) (a b c : Int) (p q : List UInt8) : Bool := QeN l && l.any fun s => Qir s a b c p q
theorem Qia {l : List (Cu × Cu)} {a b c : Int} {p q : List UInt8} {i : Nat} (hi : l.length <= i) (h : (l.take i).any (fun s => Qir s a b c p q) = false) : Qiq l a b c p q = false := by
 rw [List.take_of_length_le hi] at h; rw [Qiq, h, Bool.and_false]
theorem Qib {l : List (Cu × Cu)} {a b c : Int} {p q : List UInt8} (h : QeN l = false) : Qiq l a b c p q = false := by rw [Qiq, h]; rfl
theorem Qic {l : List (Cu × Cu)} {a b c : Int} {p q : List UInt8} {i : Nat} (h : QeN l = true) (hi : i < l.length) (hp : Qir l[i] a b c p q = true) : Qiq l a b c p q = true := by
 rw [Qiq, h, Bool.true_and]; exact List.any_eq_true.2 ⟨_, List.getElem_mem hi, hp⟩
def inC (x y : Cu) (s : Cu × Cu) : Bool := decide (QbG s.1 x <= 0) && decide (QbG y s.2 <= 0)
theorem Qsh {x y : Cu} {s : Cu × Cu} (h1 : QbG s.1 x <= 0) (h2 : QbG y s.2 <= 0) : inC x y s = true := by simp [inC, h1, h2]
theorem Qsg {x y : Cu} {s : Cu × Cu} (h : ¬ QbG s.1 x <= 0 \/ ¬ QbG y s.2 <= 0) : inC x y s = false := by
 simp only [inC, Bool.and_eq_false_iff, decide_eq_false_iff_not]; exact h
def mIn (l : List (Cu × Cu)) (x y : Cu) : Bool := l.any (inC x y)
theorem QhP {α : Type} {s : List α} {p : α -> Bool} {i : Nat} (h : i < s.length) (hp : p s[i] = true) : s.any p = true := List.any_eq_true.2 ⟨_, List.getElem_mem h, hp⟩
theorem Qna {α : Type} {s : List α} {p : α -> Bool} {i : Nat} (hi : s.length <= i) (h : (s.take i).any p = false) : s.any p = false := by rwa [List.take_of_length_le hi] at h
theorem Qg5 {α : Type} {s : List α} {p : α -> Bool} {i : Nat} (h : i < s.length) (ha : (s.take i).any p = false) (hp : p s[i] = false) : (s.take (i + 1)).any p = false := by
 rw [List.take_succ_eq_append_getElem h, List.any_append, ha]; simp [hp]
def QbT (x : Cu) : Bool := Qhx x.e x.a x.b x.c x.p x.q x.f
def Qgr (s : List (Cu × Cu) × List (Cu × Cu)) : Bool := QeN s.1 && QeN s.2 && s.1.all fun x => QbT x.1 && QbT x.2
def QmG (s : List (Cu × Cu) × List (Cu × Cu)) (a b c : Int) (p q : List UInt8) : Bool :=
 Qgr s && QiT a b c p q && (if p = [] then Qiq s.1 a b c p q else Qiq s.2 a b c p q)
theorem Qa5 {s : List (Cu × Cu) × List (Cu × Cu)} (h : QeN s.1 = false \/ QeN s.2 = false) : Qgr s = false := by
 rw [Qgr]; rcases h with h | h <;> simp [h]
theorem Qa4 {s : List (Cu × Cu) × List (Cu × Cu)} {i : Nat} (hi : i < s.1.length) (h : QbT s.1[i].1 = false \/ QbT s.1[i].2 = false) : Qgr s = false := by
 have : (s.1.all fun x => QbT x.1 && QbT x.2) = false := XZ hi (by rcases h with h | h <;> simp [h])
 rw [Qgr, this, Bool.and_false]
theorem Qec {s : List (Cu × Cu) × List (Cu × Cu)} {i : Nat} (h1 : QeN s.1 = true) (h2 : QeN s.2 = true) (hi : s.1.length <= i) (h : (s.1.take i).all (fun x => QbT x.1 && QbT x.2) = true) : Qgr s = true := by
 rw [List.take_of_length_le hi] at h
 rw [Qgr, h1, h2, h]; rfl
def QhX (l : List Cu) : D := .sl (l.map dCu)
theorem QjU {l : List Cu} : ∀ r ∈ l.map dCu, r.length = 7 := fun r hr => by obtain ⟨x, _, rfl⟩ := List.mem_map.1 hr; rfl
theorem QpM {l : List Cu} {a b : Nat} : ∀ r ∈ ((l.map dCu).take a).drop b, r.length = 7 := fun r hr => QjU r (List.mem_of_mem_take (List.mem_of_mem_drop hr))
def Qcr : List Cu -> Cu -> List Cu
 | [], c => [c]
 | x :: r, c => if QbG x c < 0 then x :: Qcr r c else if QbG x c = 0 then x :: r else c :: x :: r
theorem Qn5 {l : List Cu} {c : Cu} {k : Nat} (hk : k < l.length) (h : QbG l[k] c < 0) (hi : Qcr l c = l.take k ++ Qcr (l.drop k) c) : Qcr l c = l.take (k + 1) ++ Qcr (l.drop (k + 1)) c := by
 rw [hi, List.drop_eq_getElem_cons hk, Qcr, if_pos h, List.take_succ_eq_append_getElem hk, List.append_assoc]; rfl
theorem Qn4 {l : List Cu} {c : Cu} {k : Nat} (hk : k < l.length) (h : QbG l[k] c = 0) (hi : Qcr l c = l.take k ++ Qcr (l.drop k) c) : Qcr l c = l := by
 rw [hi, List.drop_eq_getElem_cons hk, Qcr, if_neg (by omega), if_pos h, <- List.drop_eq_getElem_cons hk, List.take_append_drop]
theorem QlS {l : List Cu} {c : Cu} {k : Nat} (h : l.length <= k \/ ∃ hk : k < l.length, ¬ QbG l[k] c < 0 /\ QbG l[k] c ≠ 0) (hi : Qcr l c = l.take k ++ Qcr (l.drop k) c) : Qcr l c = l.take k ++ c :: l.drop k := by
 rw [hi]
 rcases h with h | ⟨hk, h1, h2⟩
 ·rw [List.drop_eq_nil_of_le h, Qcr]
 ·rw [List.drop_eq_getElem_cons hk, Qcr, if_neg h1, if_neg h2]
theorem Qfy : ∀ (l : List Cu) (c : Cu), (Qcr l c).length <= l.length + 1
 | [], c => by simp [Qcr]
 | x :: r, c => by
  have := Qfy r c
  simp only [Qcr]
  (repeat' split) <;> simp <;> omega
theorem Qit : ∀ {l : List Cu} {c : Cu}, (∀ x ∈ l, Cu.sm x) -> Cu.sm c -> ∀ x ∈ Qcr l c, Cu.sm x
 | [], c, _, hc, x, hx => by simp [Qcr] at hx; exact hx ▸ hc
 | y :: r, c, hl, hc, x, hx => by
  simp only [Qcr] at hx
  split at hx
  ·rcases List.mem_cons.1 hx with rfl | hx
   ·exact hl _ (by simp)
   ·exact Qit (fun z hz => hl z (by simp [hz])) hc x hx
  ·split at hx
   ·exact hl x hx
   ·rcases List.mem_cons.1 hx with rfl | hx
    ·exact hc
    ·exact hl x hx
def Y5 (l : List (Cu × Cu)) : List Cu := l.foldl (fun out s => Qcr (Qcr out s.1) s.2) [Qc9, QgX]
theorem Qpx {l : List (Cu × Cu)} {i : Nat} (h : i < l.length) : Y5 (l.take (i + 1)) = Qcr (Qcr (Y5 (l.take i)) l[i].1) l[i].2 := by
 rw [List.take_succ_eq_append_getElem h, Y5, List.foldl_append]; rfl
theorem Qht : ∀ (l : List (Cu × Cu)) (out : List Cu), (l.foldl (fun out s => Qcr (Qcr out s.1) s.2) out).length <= out.length + 2 * l.length
 | [], out => by simp
 | s :: l, out => by
  have h1 := Qfy out s.1
  have h2 := Qfy (Qcr out s.1) s.2
  have := Qht l (Qcr (Qcr out s.1) s.2)
  simp only [List.foldl_cons, List.length_cons]; omega
theorem Qco (l : List (Cu × Cu)) : (Y5 l).length <= 2 + 2 * l.length := Qht l _
theorem Qjz : ∀ {l : List (Cu × Cu)} {out : List Cu}, (∀ s ∈ l, Cu.sm s.1 /\ Cu.sm s.2) -> (∀ x ∈ out, Cu.sm x) -> ∀ x ∈ l.foldl (fun out s => Qcr (Qcr out s.1) s.2) out, Cu.sm x
 | [], _, _, h => h
 | s :: l, out, hl, h => by
  rw [List.foldl_cons]
  exact Qjz (fun t ht => hl t (by simp [ht])) (Qit (Qit h (hl s (by simp)).1) (hl s (by simp)).2)
theorem QlM {l : List (Cu × Cu)} (hl : ∀ s ∈ l, Cu.sm s.1 /\ Cu.sm s.2) : ∀ x ∈ Y5 l, Cu.sm x := Qjz hl (by
 intro x hx
 simp only [List.mem_cons, List.not_mem_nil, or_false] at hx
 rcases hx with rfl | rfl <;> exact ⟨Nat.zero_le _, Nat.zero_le _⟩)
theorem Qfw {l : List (Cu × Cu)} (hl : Sm l) (i : Nat) : (Y5 (l.take i)).length <= 2000002 /\ ∀ x ∈ Y5 (l.take i), Cu.sm x := by
 refine ⟨?_, QlM fun s hs => hl.2 s (List.mem_of_mem_take hs)⟩
 have := Qco (l.take i)
 have h2 : (l.take i).length <= l.length := List.length_take_le' ..
 have := hl.1
 omega
def Qcq (l : List (Cu × Cu)) (x y : Cu) : List (Cu × Cu) := match l.getLast? with
 | some s => if QbG s.2 x = 0 then l.dropLast ++ [(s.1, y)] else l ++ [(x, y)]
 | none => l ++ [(x, y)]
theorem QjA {l : List (Cu × Cu)} {x y : Cu} {i : Nat} (hi : i + 1 = l.length) (h : QbG (l[i]'(by omega)).2 x = 0) : Qcq l x y = l.set i ((l[i]'(by omega)).1, y) := by
 have hg : l.getLast? = some (l[i]'(by omega)) := by
  rw [List.getLast?_eq_getElem?, show l.length - 1 = i by omega, List.getElem?_eq_getElem]
 rw [Qcq, hg]
 simp only [h, if_true]
 rw [List.dropLast_eq_take, show l.length - 1 = i by omega, List.set_eq_take_append_cons_drop, if_pos (by omega), List.drop_eq_nil_of_le (by omega)]
theorem Qd6 {l : List (Cu × Cu)} {x y : Cu} (h : l = [] \/ ∃ i, ∃ hi : i + 1 = l.length, QbG (l[i]'(by omega)).2 x ≠ 0) : Qcq l x y = l ++ [(x, y)] := by
 rcases h with rfl | ⟨i, hi, h⟩
 ·rfl
 ·have hg : l.getLast? = some (l[i]'(by omega)) := by
   rw [List.getLast?_eq_getElem?, show l.length - 1 = i by omega, List.getElem?_eq_getElem]
  rw [Qcq, hg]
  simp only [if_neg h]
theorem QjB (l : List (Cu × Cu)) (x y : Cu) : (Qcq l x y).length <= l.length + 1 := by
 unfold Qcq
 split
 ·split
  ·simp
  ·simp
 ·simp
theorem QlN {l : List (Cu × Cu)} {x y : Cu} (hl : ∀ s ∈ l, Cu.sm s.1 /\ Cu.sm s.2) (hx : Cu.sm x) (hy : Cu.sm y) : ∀ s ∈ Qcq l x y, Cu.sm s.1 /\ Cu.sm s.2 := by
 intro s hs
 unfold Qcq at hs
 split at hs
 ·rename_i t ht
  have ht' := List.mem_of_getLast? ht
  split at hs
  ·rcases List.mem_append.1 hs with hs | hs
   ·exact hl s (List.dropLast_subset _ hs)
   ·simp at hs; subst hs; exact ⟨(hl t ht').1, hy⟩
  ·rcases List.mem_append.1 hs with hs | hs
   ·exact hl s hs
   ·simp at hs; subst hs; exact ⟨hx, hy⟩
 ·rcases List.mem_append.1 hs with hs | hs
  ·exact hl s hs
  ·simp at hs; subst hs; exact ⟨hx, hy⟩
theorem QlA {α β : Type} {l : List α} {f : α -> β} {i : Nat} (h : i + 1 < l.length) : (l.map f)[((i : Int) + 1).toNat]? = some (f l[i + 1]) := by
 rw [show ((i : Int) + 1).toNat = i + 1 by omega, List.getElem?_map, List.getElem?_eq_getElem h]; rfl
def Qcp (f : Cu -> Cu -> Bool) : List Cu -> List (Cu × Cu) -> List (Cu × Cu)
 | x :: y :: r, out => Qcp f (y :: r) (if f x y = true then Qcq out x y else out)
 | _, out => out
def QkG (l : List (Cu × Cu)) : List (Cu × Cu) := if l.all Qd9 = true then Qcp (mIn l) (Y5 l) [] else []
theorem Qhu {f : Cu -> Cu -> Bool} {c : List Cu} {out : List (Cu × Cu)} {i : Nat} (h : i + 1 < c.length) : Qcp f (c.drop i) out = Qcp f (c.drop (i + 1)) (if f c[i] c[i + 1] = true then Qcq out c[i] c[i + 1] else out) := by
 rw [List.drop_eq_getElem_cons (show i < c.length by omega), List.drop_eq_getElem_cons h, Qcp]
theorem Qn0 {f : Cu -> Cu -> Bool} {c : List Cu} {out : List (Cu × Cu)} {i : Nat} (h : c.length <= i + 1) : Qcp f (c.drop i) out = out := by
 have : (c.drop i).length <= 1 := by simp; omega
 match hd : c.drop i with
 | [] => rfl
 | [x] => rfl
 | x :: y :: r => rw [hd] at this; simp at this
def FillI (f : Cu -> Cu -> Bool) (c : List Cu) (i : Nat) (out : List (Cu × Cu)) : Prop :=
 out.length <= i /\ (∀ s ∈ out, Cu.sm s.1 /\ Cu.sm s.2) /\ Qcp f c [] = Qcp f (c.drop i) out
theorem FillI.zero {f : Cu -> Cu -> Bool} {c : List Cu} : FillI f c 0 [] := ⟨Nat.zero_le _, by simp, by simp⟩
theorem FillI.take {f : Cu -> Cu -> Bool} {c : List Cu} {i : Nat} {out : List (Cu × Cu)} (h : FillI f c i out) (hc : ∀ x ∈ c, Cu.sm x) (hi : i + 1 < c.length) (ht : f c[i] c[i + 1] = true) : FillI f c (i + 1) (Qcq out c[i] c[i + 1]) := by
 obtain ⟨h1, h2, h3⟩ := h
 refine ⟨Nat.le_trans (QjB ..) (by omega), QlN h2 (hc _ (List.getElem_mem _)) (hc _ (List.getElem_mem _)), ?_⟩
 rw [h3, Qhu hi, if_pos ht]
theorem FillI.skip {f : Cu -> Cu -> Bool} {c : List Cu} {i : Nat} {out : List (Cu × Cu)} (h : FillI f c i out) (hi : i + 1 < c.length) (ht : f c[i] c[i + 1] = false) : FillI f c (i + 1) out := by
 obtain ⟨h1, h2, h3⟩ := h
 exact ⟨by omega, h2, by rw [h3, Qhu hi, if_neg (by rw [ht]; simp)]⟩
theorem FillI.done {f : Cu -> Cu -> Bool} {c : List Cu} {i : Nat} {out : List (Cu × Cu)} (h : FillI f c i out) (hi : c.length <= i + 1) : Qcp f c [] = out := by rw [h.2.2, Qn0 hi]
theorem QoL {i : Nat} : ((i : Int) + 1).toNat = i + 1 := by omega
theorem YH {l : List (Cu × Cu)} (hl : Sm l) : ∀ x ∈ Y5 l, Cu.sm x := QlM hl.2
def Qqq (a b : List (Cu × Cu)) : List (Cu × Cu) := if QeN a = true /\ QeN b = true then QkG (a ++ b) else []
def QkH (a : List (Cu × Cu)) : List (Cu × Cu) := if QeN a = true then Qcp (fun x y => !mIn a x y) (Y5 a) [] else []
theorem Qqv {l : List (Cu × Cu)} : ∀ r ∈ l.map Qfe, r.length = 14 := fun r hr => by obtain ⟨x, _, rfl⟩ := List.mem_map.1 hr; rfl
theorem Sm.app {a b : List (Cu × Cu)} (ha : Sm a) (hb : Sm b) (h : a.length + b.length <= 1000000) : Sm (a ++ b) := by
 refine ⟨by simp; omega, fun s hs => ?_⟩
 rcases List.mem_append.1 hs with hs | hs
 ·exact ha.2 s hs
 ·exact hb.2 s hs
theorem QsY {H : List (Nat × Box)} {S : Nat -> Bool} {k n : Nat} {b : Box} (hS : S k = true) (hb : lk H k = some b) (hp : b.pr = true) (hn : n = b.rows.length) : (D.osl k n).fz H S = .sl b.rows := by
 simp only [D.fz, D.fzS, hS, hb, if_true, hp, hn, and_self]
abbrev QfO := List (Cu × Cu) × List (Cu × Cu)
def Qqr (a b : QfO) : QfO := if Qgr a = true /\ Qgr b = true then (Qqq a.1 b.1, Qqq a.2 b.2) else ([], [])
def Qis (a : QfO) : QfO := if Qgr a = true then (QkH a.1, QkH a.2) else ([], [])
def mPl (v n : Int) : Int := if n < 1 then 0 else Qgt v n
theorem QlR {v n : Int} : 0 <= mPl v n := by
 unfold mPl; split
 ·omega
 ·exact QpH (by omega)
theorem QlQ {v n : Int} (h : 1 <= n) : mPl v n < n := by
 rw [mPl, if_neg (by omega)]; exact QpG (by omega)
def QoP (l : List Int) (i : Int) : Int := if i < 0 \/ (l.length : Int) <= i then i.tmod 3 else l.getD i.toNat 0
theorem QnY {l : List Int} {i : Int} (h0 : 0 <= i) (h : i < l.length) : QoP l i = l[i.toNat]'(by omega) := by
 rw [QoP, if_neg (by omega), List.getD_eq_getElem?_getD, List.getElem?_eq_getElem (by omega)]; rfl
def I64 (x : Int) : Prop := -9223372036854775808 <= x /\ x <= 9223372036854775807
theorem Qpw {l : List Int} {i : Int} (hl : ∀ x ∈ l, I64 x) (hi : I64 i) : I64 (QoP l i) := by
 by_cases h : i < 0 \/ (l.length : Int) <= i
 ·rw [QoP, if_pos h]
  have h1 := Int.tmod_lt_of_pos i (show (0 : Int) < 3 by omega)
  have h2 := Int.lt_tmod_of_pos i (show (0 : Int) < 3 by omega)
  exact ⟨by omega, by omega⟩
 ·rw [QnY (by omega) (by omega)]
  exact hl _ (List.getElem_mem _)
theorem QgO (x : Int) : I64 (IntKind.i64.wrap x) := by
 unfold IntKind.wrap I64
 simp only [IntKind.bits, IntKind.signed, Bool.true_and]
 split
 ·rename_i h
  have := of_decide_eq_true h
  omega
 ·rename_i h
  have : ¬ (x % 2 ^ 64 >= 2 ^ (64 - 1)) := fun hh => h (decide_eq_true hh)
  omega
theorem QeK {α : Type} {k : Nat} {v : α} {l : List (Nat × α)} : lk ((k, v) :: l) k = some v := by rw [Qn, if_pos rfl]
theorem Qfv {α : Type} {k : Nat} {v : α} {l : List (Nat × α)} : (lk ((k, v) :: l) k).isSome = true := by rw [QeK]; rfl
def gB (L : List Int) (I : Int) (et : Nat) : Box := ⟨[[ZI L, .int .i64 I]], 2, et, true⟩
def nxI (I : Int) : Int := IntKind.i64.wrap (I + 1)
def nx (L : List Int) (I n : Int) : Int := mPl (QoP L (IntKind.i64.wrap (nxI I - 1))) n
def QaX (h m : Int) : Int := if QaJ .and .i64 h m = h then 2 else if QaJ .and .i64 h m = 0 then 0 else 1
def Qdv (h m : Int) : Int := if QaJ .andNot .i64 h m = 0 then 2 else if QaJ .and .i64 h m = 0 then 0 else 1
theorem QiB {i : Nat} (h : i <= 62) : 1 <= (2 : Int) ^ i /\ (2 : Int) ^ i <= 4611686018427387904 := by
 have h1 : (2 : Nat) ^ i <= 2 ^ 62 := Nat.pow_le_pow_right (by omega) h
 have h2 : 1 <= (2 : Nat) ^ i := Nat.one_le_two_pow
 have h3 : ((2 ^ i : Nat) : Int) = (2 : Int) ^ i := by simp
 rw [<- h3]
 have h4 : (2 : Nat) ^ 62 = 4611686018427387904 := by decide
 omega
structure Vr where
 a : Int
 b : Int
 c : Int
 p : List UInt8
 q : List UInt8
def dVr (v : Vr) : List D := [.int .i64 v.a, .int .i64 v.b, .int .i64 v.c, .str v.p, .str v.q]
def Vr.sm (v : Vr) : Prop := v.p.length <= 100 /\ v.q.length <= 100
def versions : List Vr := [⟨1, 0, 0, [], []⟩, ⟨1, 2, 0, [], []⟩, ⟨2, 0, 0, [97, 46, 49], []⟩, ⟨2, 0, 0, [], []⟩]
theorem Qk9 : ∀ v ∈ versions, v.sm := by
 intro v hv
 simp only [versions, List.mem_cons, List.not_mem_nil, or_false] at hv
 rcases hv with rfl | rfl | rfl | rfl <;> exact ⟨by decide, by decide⟩
theorem Qeg {i : Nat} : ((i : Int) - 1).toNat = i - 1 := by omega
end M25
namespace Go.Proofs
open Go Go.Abs M3 M25
set_option linter.unusedVariables false
set_option linter.unusedSimpArgs false
theorem Qay {a b c : Int} {p q : List UInt8} : Ok Tryz.prog 92 [.agg [.int .i64 a, .int .i64 b, .int .i64 c, .str p, .str q]] (.agg [.int .i64 a, .int .i64 b, .int .i64 c, .str p, .str []]) := by
 refine Ok.ofT ZY Tryz.func92 QuV (Nat.le_of_ble_eq_true Z) ?_
 show TW _ _ tf92.body _ _
 refine Qf fun K hK => Zz Z Z Z (ZF Z (hK _ _ (Qb (kp2 Z Z) ?_)))
 refine Qf fun K hK => Qj Z Z (Q5 Z Z Z Z Z Z Z Z (hK _ _ (Qb (kp2 Z Z) ?_)))
 refine Qf fun K hK => QH (cs := [_, _, _, _, _]) Z Z Z Z (Q5 Z Z Z Z Z Z Z Z (hK _ _ (Qb (kp1 Z) ?_)))
 refine Qv (ZJ (cs := [_, _, _, _, _]) Z Z Z Z ?_)
 exact rfl
theorem Xb  : Ok Tryz.prog 94 [] (.agg [.int .i64 (-1), .int .i64 0, .int .i64 0, .int .i64 0, .str [], .str [], .bool false]) := by
 refine Ok.ofT ZY Tryz.func94 QuX (Nat.le_of_ble_eq_true Z) ?_
 show TW _ _ tf94.body _ _
 refine Qf fun K hK => ZF Z (hK _ _ (Qb (kp1 Z) ?_))
 refine Qf fun K hK => QU Z Z (Q5 Z Z Z Z Z Z Z Z (hK _ _ (Qb (kp1 Z) ?_)))
 refine Qv (ZJ (cs := [_, _, _, _, _, _, _]) Z Z Z Z ?_)
 exact rfl
theorem Xn  : Ok Tryz.prog 96 [] (.agg [.int .i64 1, .int .i64 0, .int .i64 0, .int .i64 0, .str [], .str [], .bool false]) := by
 refine Ok.ofT ZY Tryz.func96 QuZ (Nat.le_of_ble_eq_true Z) ?_
 show TW _ _ tf96.body _ _
 refine Qf fun K hK => ZF Z (hK _ _ (Qb (kp1 Z) ?_))
 refine Qf fun K hK => QU Z Z (Q5 Z Z Z Z Z Z Z Z (hK _ _ (Qb (kp1 Z) ?_)))
 refine Qv (ZJ (cs := [_, _, _, _, _, _, _]) Z Z Z Z ?_)
 exact rfl
theorem YW {a b c : Int} {p q : List UInt8} : Ok Tryz.prog 69 [.agg [.int .i64 a, .int .i64 b, .int .i64 c, .str p, .str q]] (.agg [.int .i64 0, .int .i64 a, .int .i64 b, .int .i64 c, .str p, .str [], .bool false]) := by
 refine Ok.ofT ZY Tryz.func69 QuA (Nat.le_of_ble_eq_true Z) ?_
 show TW _ _ tf69.body _ _
 refine Qf fun K hK => Zz Z Z Z (ZF Z (hK _ _ (Qb (kp2 Z Z) ?_)))
 refine Qf fun K hK => QH (cs := [_, _, _, _, _]) Z Z Z Z (QF (Qay) Z Z (.inl Z) (QU Z Z (Q5 Z Z Z Z Z Z Z Z (hK _ _ (Qb (kp1 Z) ?_)))))
 refine Qv (ZJ (cs := [_, _, _, _, _, _, _]) Z Z Z Z ?_)
 exact rfl
theorem Qca {a b c : Int} {p q : List UInt8} : Ok Tryz.prog 70 [.agg [.int .i64 a, .int .i64 b, .int .i64 c, .str p, .str q]] (.agg [.int .i64 0, .int .i64 a, .int .i64 b, .int .i64 c, .str p, .str [], .bool true]) := by
 refine Ok.ofT ZY Tryz.func70 QuB (Nat.le_of_ble_eq_true Z) ?_
 show TW _ _ tf70.body _ _
 refine Qf fun K hK => Zz Z Z Z (ZF Z (hK _ _ (Qb (kp2 Z Z) ?_)))
 refine Qf fun K hK => QH (cs := [_, _, _, _, _]) Z Z Z Z (QF (Qay) Z Z (.inl Z) (QU Z Z (Q5 Z Z Z Z Z Z Z Z (hK _ _ (Qb (kp1 Z) ?_)))))
 refine Qv (ZJ (cs := [_, _, _, _, _, _, _]) Z Z Z Z ?_)
 exact rfl
theorem Qad {a b c : Int} {p q : List UInt8} : Ok Tryz.prog 93 [.agg [.int .i64 a, .int .i64 b, .int .i64 c, .str p, .str q]] (.bool (Qhv a b c)) := by
 refine Ok.ofT ZY Tryz.func93 QuW (Nat.le_of_ble_eq_true Z) ?_
 show TW _ _ tf93.body _ _
 refine Qf fun K hK => Zz Z Z Z (Qa Z (hK _ _ (Qb (kp1 Z) ?_)))
 refine Qf fun K hK => Qj Z Z (Qy Z Z Z (ZD Z Z (Qa Z ?_)))
 refine QB (g := 6) Z (fun h1 => ?_) (fun h1 => ?_)
 ·try rw [h1]
  try simp only [qB] at h1
  refine Qh Z (Qj Z Z (Qh Z (Qy Z Z Z (Qh Z (ZD Z Z (Ql Z Z (Qa Z ?_)))))))
  refine QB (g := 11) Z (fun h2 => ?_) (fun h2 => ?_)
  ·try rw [h2]
   try simp only [qB] at h2
   refine Qh Z (Qj Z Z (Qh Z (Qy Z Z Z (Qh Z (ZD Z Z (Ql Z Z (Qa Z (hK _ _ (Qb (kp1 Z) ?_)))))))))
   refine Qv (Qt Z ?_)
   simp_all [Qhv]
  ·try rw [h2]
   try simp only [qB] at h2
   refine Qp Z (Qp Z (Qp Z (Ql Z Z (Qa Z (hK _ _ (Qb (kp1 Z) ?_))))))
   refine Qv (Qt Z ?_)
   simp_all [Qhv]
 ·try rw [h1]
  try simp only [qB] at h1
  refine Qp Z (Qp Z (Qp Z (Ql Z Z (Qa Z (Qp Z (Qp Z (Qp Z (Ql Z Z (Qa Z (hK _ _ (Qb (kp1 Z) ?_)))))))))))
  refine Qv (Qt Z ?_)
  simp_all [Qhv]
end Go.Proofs
