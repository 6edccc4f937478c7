/- Part 3 of the means of the proof: a verified abstract evaluator, the prepared functions, and contracts of functions. It states nothing of the claim by itself. -/
import Derived.Test.YtmlclkgmdndcdaaB2
import Derived.KernelRfl
import Derived.Test.YtmlclkgmdndcdaaProg
set_option linter.unusedSimpArgs false
set_option linter.unusedVariables false
namespace Go.Abs
open Go
/-! ### Walks over boxes that are lent, of which little is known -/
def Big (H : List (Nat × Box)) : Prop := ∀ k b, lk H k = some b -> 1000000 <= k
def Closed (H : List (Nat × Box)) : Prop := ∀ k b, lk H k = some b -> ∀ j ∈ b.ids, (lk H j).isSome = true
theorem Big.none {H : List (Nat × Box)} (h : Big H) {k : Nat} (hk : k < 1000000) : lk H k = none := by
 cases hh : lk H k with
 | none => rfl
 | some b => have := h k b hh; omega
theorem Qg {α : Type} {H : List (Nat × α)} {k k' : Nat} {x b : α} (h : k' ≠ k) (e : lk H k = some b) : lk ((k', x) :: H) k = some b := by rw [Qh, if_neg h]; exact e
theorem Zi {α : Type} {H : List (Nat × α)} {k k' : Nat} {x : α} (h : k' ≠ k) (e : lk H k = none) : lk ((k', x) :: H) k = none := by rw [Qh, if_neg h]; exact e
theorem Qr {α : Type} {k : Nat} {v : α} {l : List (Nat × α)} : lk ((k, v) :: l) k = some v := by rw [Qh, if_pos rfl]
theorem Big.cons {H : List (Nat × Box)} (h : Big H) {k : Nat} {b : Box} (hk : 1000000 <= k) : Big ((k, b) :: H) := fun j x hj => by
 rw [Qh] at hj
 split at hj
 ·rename_i e; subst e; exact hk
 ·exact h j x hj
theorem QL {H : List (Nat × Box)} {k j : Nat} {b : Box} (h : (lk H j).isSome = true) : (lk ((k, b) :: H) j).isSome = true := by
 rw [Qh]; split
 ·rfl
 ·exact h
theorem QN {k : Nat} {b : Box} {l : List (Nat × Box)} : (lk ((k, b) :: l) k).isSome = true := by rw [Qr]; rfl
theorem Zh {l : List (Nat × Box)} {k : Nat} {b : Box} (h : lk l k = some b) : (lk l k).isSome = true := by rw [h]; rfl
def QcV (b : Box) : Prop := b.ids = []
theorem XD {b : Box} (h : b.pr = true) : b.ids = [] := by simp [Box.ids, h]
theorem Closed.cons {H : List (Nat × Box)} (h : Closed H) {k : Nat} {b : Box} (hb : ∀ j ∈ b.ids, (lk H j).isSome = true) : Closed ((k, b) :: H) := fun j x hj i hi => by
 rw [Qh] at hj
 split at hj
 ·cases hj; exact QL (hb i hi)
 ·exact QL (h j x hj i hi)
theorem Closed.pr {H : List (Nat × Box)} (h : Closed H) {k : Nat} {b : Box} (hb : b.pr = true) : Closed ((k, b) :: H) := h.cons fun j hj => by rw [XD hb] at hj; cases hj
theorem Qmz {l : List Nat} {fr fr1 fr' : List (Nat × D)} {H H' : List (Nat × Box)} (hf : Q0 l fr = fr1) (ef : fr1 = fr') (hH : ∀ k b, lk H' k = some b -> lk H k = some b) (hfr : ∀ p ∈ fr', ∀ k ∈ p.2.ids, (lk H' k).isSome = true) (hcl : Closed H') (hbig : ∀ k, 1000000 <= k -> (lk H k).isSome = true -> (lk H' k).isSome = true) : St.le ⟨fr, H⟩ ⟨fr', H'⟩ := by
 subst hf ef
 intro E g a w r
 exact ⟨g, r.less (fun t d h => YZ l fr t d h) hH (fun t d h k hk => hfr (t, d) (Z8 h) k hk) hcl hbig⟩
theorem QaI {fr fr' : List (Nat × D)} {H H' : List (Nat × Box)} (ef : fr = fr') (hH : ∀ k, lk H k = lk H' k) : St.le ⟨fr, H⟩ ⟨fr', H'⟩ := by
 subst ef; exact Qga ⟨fun _ => rfl, hH⟩
theorem Qeu {A H0 : List (Nat × Box)} {k : Nat} {b : Box} (h : lk (A ++ H0) k = some b) : (k, b) ∈ A \/ (lk A k = none /\ lk H0 k = some b) := by
 rw [ZN] at h
 split at h
 ·rename_i v hv; cases h; exact .inl (Z8 hv)
 ·rename_i hv; exact .inr ⟨hv, h⟩
theorem Qoc {l : List Nat} {fr fr1 fr' : List (Nat × D)} {H A H0 : List (Nat × Box)} (hf : Q0 l fr = fr1) (ef : fr1 = fr') (hA : ∀ p ∈ A, lk H p.1 = some p.2 /\ p.2.pr = true) (h0 : ∀ k b, lk A k = none -> lk H0 k = some b -> lk H k = some b) (hfr : ∀ p ∈ fr', ∀ k ∈ p.2.ids, (lk (A ++ H0) k).isSome = true) (hcl : Closed H0)
  (hbig : ∀ k, 1000000 <= k -> (lk H k).isSome = true -> (lk (A ++ H0) k).isSome = true) : St.le ⟨fr, H⟩ ⟨fr', A ++ H0⟩ := by
 have up : ∀ j, (lk H0 j).isSome = true -> (lk (A ++ H0) j).isSome = true := fun j hj => by
  rw [ZN]; split
  ·rfl
  ·exact hj
 refine Qmz hf ef (fun k b hk => ?_) hfr (fun k b hk j hj => ?_) hbig
 ·rcases Qeu hk with h | ⟨h1, h2⟩
  ·exact (hA _ h).1
  ·exact h0 k b h1 h2
 ·rcases Qeu hk with h | ⟨h1, h2⟩
  ·rw [XD (hA _ h).2] at hj; cases hj
  ·exact up j (hcl k b h2 j hj)
theorem QiE {H : List (Nat × Box)} : Big (upH H) := fun k b hk => by
 obtain ⟨j, b0, rfl, _, _⟩ := Yu hk
 unfold upN; omega
theorem Qdm {H : List (Nat × Box)} (h : Closed H) : Closed (upH H) := fun k b hk j hj => by
 obtain ⟨i, b0, rfl, h1, rfl⟩ := Yu hk
 rw [Box.ren_ids] at hj
 obtain ⟨j0, hj0, rfl⟩ := List.mem_map.1 hj
 rw [X4, Option.isSome_map]
 exact h i b0 h1 j0 hj0
theorem QiQ {P : Program} {f : Nat} {args : List Opd} {s : St} {ds ds' : List D} {HF : List (Nat × Box)} {k : Nat} {b b' : Box} {d : D} (ha : Zm s args = some ds) (hF : ∀ j x, lk HF j = some x -> lk s.H j = some x) (hcl : Closed HF) (hds : ∀ x ∈ ds, ∀ j ∈ x.ids, (lk HF j).isSome = true)
  (hk : (lk HF k).isSome = true) (hb : b.pr = true) (hd : d.ids = []) (hu : ds.map QoS = ds') (hr : b.ren upN = b') (hok : OkH P f ds' (upH HF) d ((upN k, b') :: upH HF)) : QaX P f args s HF [] [(k, b)] d := by
 subst hu hr
 refine ⟨ds, ha, hF, hcl, hds, fun j x hj => ?_, (fun j x hj => by cases hj), (fun j hj => by rw [hd] at hj; cases hj), hok⟩
 rw [Qh] at hj
 split at hj
 ·rename_i e; cases hj; subst e; exact ⟨hk, fun i hi => by rw [XD hb] at hi; cases hi⟩
 ·cases hj
theorem Xd {H : List (Nat × Box)} {k : Nat} {b : Box} (hB : Big H) (hC : Closed H) (hk : 1000000 <= k) (hb : b.pr = true) : (∀ j, 1000000 <= j -> (lk H j).isSome = true -> (lk ((k, b) :: H) j).isSome = true) /\ (∀ j x, lk ((k, b) :: H) j = some x -> 500000 <= j /\ ∀ i ∈ x.ids, (lk ((k, b) :: H) i).isSome = true) :=
 ⟨fun _ _ h => QL h, fun j x hj => ⟨by have := hB.cons (b := b) hk j x hj; omega, hC.pr hb j x hj⟩⟩
theorem Qeo {l : List Nat} {fr fr1 fr' : List (Nat × D)} {B A A' H0 : List (Nat × Box)} (hf : Q0 l fr = fr1) (ef : fr1 = fr') (hA : ∀ p ∈ A, lk B p.1 = some p.2 /\ p.2.pr = true) (eA : A = A') (hBA : ∀ p ∈ B, 1000000 <= p.1 -> (lk A p.1).isSome = true) (hb : Big H0) (hcl : Closed H0) (hfr : ∀ p ∈ fr', ∀ k ∈ p.2.ids, (lk (A' ++ H0) k).isSome = true) : St.le ⟨fr, B ++ H0⟩ ⟨fr', A' ++ H0⟩ := by
 subst eA
 have noB : ∀ k b, lk H0 k = some b -> lk A k = none -> lk B k = none := fun k b h1 h2 => by
  cases h : lk B k with
  | none => rfl
  | some x =>
   have := hBA (k, x) (Z8 h) (hb k b h1)
   simp only at this
   rw [h2] at this; cases this
 refine Qoc hf ef (fun p hp => ?_) (fun k b h1 h2 => ?_) hfr hcl fun k hk hs => ?_
 ·obtain ⟨q1, q2⟩ := hA p hp
  exact ⟨Yc q1, q2⟩
 ·rw [Yw (noB k b h2 h1)]; exact h2
 ·rw [ZN] at hs ⊢
  cases h : lk B k with
  | some x =>
   have := hBA (k, x) (Z8 h) hk
   obtain ⟨y, hy⟩ := Option.isSome_iff_exists.1 this
   simp only at hy
   rw [hy]; rfl
  | none =>
   rw [h] at hs
   cases h2 : lk A k with
   | some x => rfl
   | none => exact hs
theorem X3 {B H : List (Nat × Box)} {kg : Nat} {g : Box} (hb : Big H) (h1 : lk B kg = some g) (h2 : ∀ p ∈ B, 1000000 <= p.1 -> p.1 = kg) : ∀ k b, lk ((kg, g) :: H) k = some b -> lk (B ++ H) k = some b := fun k b hk => by
 rw [Qh] at hk
 split at hk
 ·rename_i e; cases hk; subst e; exact Yc h1
 ·rename_i e
  rw [ZN]
  cases h : lk B k with
  | none => exact hk
  | some x => exact absurd (h2 (k, x) (Z8 h) (hb k b hk)).symm e
def scr (k : Nat) (H : List (Nat × Box)) : List (Nat × Box) := H.map fun p => (p.1, p.2.scrub k)
theorem QhF {k : Nat} {b : Box} (h : k ∉ b.ids) : b.scrub k = b := by
 unfold Box.scrub
 split
 ·rfl
 ·rename_i hp
  have hids : b.ids = b.rows.flatMap fun r => r.flatMap D.sid := by unfold Box.ids; rw [if_neg hp]
  rw [hids] at h
  have key : ∀ rows : List (List D), (k ∉ rows.flatMap fun r => r.flatMap D.sid) -> (rows.map fun r => r.map (D.scrubC k)) = rows := by
   intro rows
   induction rows with
   | nil => intro _; rfl
   | cons r rs ih =>
    intro h'
    rw [List.flatMap_cons, List.mem_append] at h'
    rw [List.map_cons, ih (fun hh => h' (.inr hh)), YC fun x hx => ?_]
    have hx' : k ∉ x.sid := fun hk => h' (.inl (List.mem_flatMap.2 ⟨x, hx, hk⟩))
    cases x <;> try rfl
    ·rename_i j n
     simp only [D.sid, List.mem_singleton] at hx'
     simp only [D.scrubC]
     first | rfl | rw [if_neg (fun e => hx' e.symm)] | rw [if_neg (fun e => hx' e)]
    ·rename_i j i o
     simp only [D.sid, List.mem_singleton] at hx'
     simp only [D.scrubC]
     first | rfl | rw [if_neg (fun e => hx' e.symm)] | rw [if_neg (fun e => hx' e)]
  rw [key b.rows h]
theorem QmA {k : Nat} : ∀ {H : List (Nat × Box)} {j : Nat}, lk (scr k H) j = (lk H j).map (Box.scrub k)
 | [], _ => rfl
 | (i, b) :: H, j => by
  show (if i = j then some (b.scrub k) else lk (scr k H) j) = _
  rw [Qh, QmA]
  split <;> rfl
theorem Qgf {H : List (Nat × Box)} {k j : Nat} (hB : Big H) (hC : Closed H) (hk : k < 1000000) : lk (scr k H) j = lk H j := by
 rw [QmA]
 cases h : lk H j with
 | none => rfl
 | some b =>
  rw [Option.map_some, QhF fun hi => ?_]
  obtain ⟨x, hx⟩ := Option.isSome_iff_exists.1 (hC j b h k hi)
  have := hB k x hx
  omega
theorem Qoe {fr : List (Nat × D)} {B H0 : List (Nat × Box)} (k : Nat) (hB : Big H0) (hC : Closed H0) (hk : k < 1000000 := by decide) : St.le ⟨fr, B ++ scr k H0⟩ ⟨fr, B ++ H0⟩ :=
 Qga ⟨fun _ => rfl, fun j => by
  show lk (B ++ scr k H0) j = lk (B ++ H0) j
  rw [ZN, ZN, Qgf hB hC hk]⟩
theorem Qid {l : List Nat} {fr fr1 : List (Nat × D)} {B A H0 : List (Nat × Box)} (k t : Nat) {n : Nat} {b : Box} (hf : Q0 l fr = fr1) (ht : lk fr t = some (.osl k n)) (hb : lk B k = some b) (hp : b.pr = true) (hn : n = b.rows.length) (c1 : ∀ p ∈ fr1, k ∉ p.2.ids)
  (hA : ∀ p ∈ A, p.1 ≠ k /\ lk B p.1 = some p.2 /\ p.2.pr = true) (hBA : ∀ p ∈ B, 1000000 <= p.1 -> (lk A p.1).isSome = true) (hB : Big H0) (hC : Closed H0) (hfr : ∀ p ∈ fr1, ∀ j ∈ p.2.ids, (lk (A ++ H0) j).isSome = true) (hk : k < 1000000 := by decide) : St.le ⟨fr, B ++ H0⟩ ⟨(t, .sl b.rows) :: fr1, A ++ H0⟩ := by
 intro E g a w r
 obtain ⟨g', _, r'⟩ := r.freeze k hk
 subst hf
 have hbB : lk (B ++ H0) k = some b := Yc hb
 have hS : ∀ (x : D), k ∉ x.ids -> x.fz (B ++ H0) (· == k) = x := fun x hx => Qg6 fun j hj => by
  simp only [beq_eq_false_iff_ne, ne_eq]; rintro rfl; exact hx hj
 have hH0k : ∀ j x, lk H0 j = some x -> k ∉ x.ids := fun j x h hi => by
  obtain ⟨y, hy⟩ := Option.isSome_iff_exists.1 (hC j x h k hi)
  have := hB k y hy
  omega
 have noB : ∀ j x, lk H0 j = some x -> lk A j = none -> lk B j = none := fun j x h1 h2 => by
  cases h : lk B j with
  | none => rfl
  | some y =>
   have := hBA (j, y) (Z8 h) (hB j x h1)
   simp only at this
   rw [h2] at this; cases this
 have boxOf : ∀ j x, lk (A ++ H0) j = some x -> j ≠ k /\ lk (B ++ H0) j = some x /\ (x.pr = true \/ k ∉ x.ids) := fun j x h => by
  rcases Qeu h with h | ⟨h1, h2⟩
  ·obtain ⟨q1, q2, q3⟩ := hA _ h
   exact ⟨q1, Yc q2, .inl q3⟩
  ·refine ⟨fun e => ?_, ?_, .inr (hH0k j x h2)⟩
   ·subst e; have := hB _ x h2; omega
   ·rw [Yw (noB j x h2 h1)]; exact h2
 refine ⟨g', r'.less (fun u d h => ?_) (fun j x h => ?_) (fun u d h j hj => ?_) (fun j x h i hi => ?_) fun j hj hs => ?_⟩
 ·simp only [St.freeze, Z3]
  rw [Qh] at h
  split at h
  ·rename_i e; cases h; subst e
   rw [ht]; simp only [Option.map_some]
   congr 1
   simp only [D.fz, D.fzS, beq_self_eq_true, if_true, hbB, hp, hn, and_self]
  ·have h1 := YZ l fr u d h
   rw [h1, Option.map_some, hS d (c1 (u, d) (Z8 h))]
 ·obtain ⟨q1, q2, q3⟩ := boxOf j x h
  simp only [St.freeze, QcA]
  rw [if_neg q1, Z3 (Box.fz (B ++ H0) (· == k)), q2, Option.map_some]
  congr 1
  refine Xg (q3.imp id fun h3 i hi => ?_)
  simp only [beq_eq_false_iff_ne, ne_eq]; rintro rfl; exact h3 hi
 ·rw [Qh] at h
  split at h
  ·cases h; simp [D.ids, D.sid] at hj
  ·exact hfr (u, d) (Z8 h) j hj
 ·rcases Qeu h with h | ⟨h1, h2⟩
  ·rw [XD (hA _ h).2.2] at hi; cases hi
  ·have := hC j x h2 i hi
   rw [ZN]; split
   ·rfl
   ·exact this
 ·have hs' : (lk (B ++ H0) j).isSome = true := by
   simp only [St.freeze, QcA] at hs
   rw [if_neg (by omega), Z3 (Box.fz (B ++ H0) (· == k)), Option.isSome_map] at hs
   exact hs
  rw [ZN] at hs' ⊢
  cases h : lk B j with
  | some x =>
   have := hBA (j, x) (Z8 h) hj
   obtain ⟨y, hy⟩ := Option.isSome_iff_exists.1 this
   simp only at hy
   rw [hy]; rfl
  | none =>
   rw [h] at hs'
   cases h2 : lk A j with
   | some x => rfl
   | none => exact hs'
section
variable {P : Program} {r : List AOper} {K : St -> Prop} {fr : List (Nat × D)} {H : List (Nat × Box)} {t : Nat}
theorem QmS {esz et bytes kk n : Nat} {x y : Opd} {b : Box} {ys : List (List D)} {q : D} {pr : Bool} (hx : St.ev ⟨fr, H⟩ x = some (.osl kk n)) (hy : St.ev ⟨fr, H⟩ y = some q) (hq : kk ∉ q.ids) (hs : St.src ⟨fr, H⟩ esz q ys pr) (hn : lk H t = none)
  (hb : lk H kk = some b) (hl : n = b.rows.length) (he : b.esz = esz) (het : b.et = et) (hbb : (n + ys.length) * bytes <= 140737488355328) (hc : n + ys.length <= 4611686018427387904)
  (k : run P .fixed r K ⟨(t, .osl t (n + ys.length)) :: fr, (t, ⟨b.rows ++ ys, esz, et, b.pr && pr⟩) :: (kk, ZS) :: H⟩) (hk0 : kk < 1000000 := by decide) (ht0 : t < 1000000 := by decide) : run P .fixed (⟨some t, .append esz et bytes x y, none⟩ :: r) K ⟨fr, H⟩ :=
 .inr (.inl ⟨_, _, _, _, ⟨t, kk, n, b, q, ys, pr, rfl, hx, hk0, hn, ht0, hb, hl, he, het, hy, hq, hs, hbb, hc, rfl, rfl, rfl, rfl⟩, rfl, k⟩)
end
/-! ### The same over boxes whose names are greater than N -/
def Qpe (N : Nat) (H : List (Nat × Box)) : Prop := ∀ k b, lk H k = some b -> N <= k
def Qln (H : List (Nat × Box)) : Prop := ∀ p ∈ H, p.2.pr = true
theorem QmL {k : Nat} : ∀ {H : List (Nat × Box)}, Qln H -> scr k H = H
 | [], _ => rfl
 | (j, b) :: H, h => by
  show (j, b.scrub k) :: scr k H = _
  have hb : b.scrub k = b := by unfold Box.scrub; rw [if_pos (h (j, b) (by simp))]
  rw [hb, QmL fun p hp => h p (by simp [hp])]
theorem Qgb {fr : List (Nat × D)} {B H0 : List (Nat × Box)} (k : Nat) (h : Qln H0) : St.le ⟨fr, B ++ scr k H0⟩ ⟨fr, B ++ H0⟩ := by rw [QmL h]; exact le_refl _
theorem Qif {l : List Nat} {fr fr1 fr' : List (Nat × D)} {B A A' H0 : List (Nat × Box)} {N : Nat} (hf : Q0 l fr = fr1) (ef : fr1 = fr') (hA : ∀ p ∈ A, lk B p.1 = some p.2) (eA : A = A') (hcA : ∀ p ∈ A', ∀ j ∈ p.2.ids, (lk (A' ++ H0) j).isSome = true) (hBA : ∀ p ∈ B, N <= p.1 -> (lk A p.1).isSome = true) (hb : Qpe N H0) (hpr : Qln H0) (hfr : ∀ p ∈ fr', ∀ k ∈ p.2.ids, (lk (A' ++ H0) k).isSome = true) (hN : N <= 1000000 := by decide) : St.le ⟨fr, B ++ H0⟩ ⟨fr', A' ++ H0⟩ := by
 subst eA
 have noB : ∀ k b, lk H0 k = some b -> lk A k = none -> lk B k = none := fun k b h1 h2 => by
  cases h : lk B k with
  | none => rfl
  | some x =>
   have := hBA (k, x) (Z8 h) (hb k b h1)
   simp only at this
   rw [h2] at this; cases this
 refine Qmz hf ef (fun k b hk => ?_) hfr (fun k b hk j hj => ?_) fun k hk hs => ?_
 ·rcases Qeu hk with h | ⟨h1, h2⟩
  ·exact Yc (hA _ h)
  ·rw [Yw (noB k b h2 h1)]; exact h2
 ·rcases Qeu hk with h | ⟨h1, h2⟩
  ·exact hcA _ h j hj
  ·rw [XD (hpr _ (Z8 h2))] at hj; cases hj
 ·rw [ZN] at hs ⊢
  cases h : lk B k with
  | some x =>
   have := hBA (k, x) (Z8 h) (Nat.le_trans hN hk)
   obtain ⟨y, hy⟩ := Option.isSome_iff_exists.1 this
   simp only at hy
   rw [hy]; rfl
  | none =>
   rw [h] at hs
   cases h2 : lk A k with
   | some x => rfl
   | none => exact hs
/-! ### Cells told as plain slices -/
theorem canS_cell {d : D} : d.canS.isCell = d.isCell := by cases d <;> rfl
theorem Qbr {d : D} : d.canS.sid = d.sid := by cases d <;> rfl
theorem RepS.canS {g : Gh} {d : D} {v : Value} (h : RepS g d v) : RepS g d.canS v := by
 cases d <;> simp only [D.canS] <;> try exact h
 simp only [RepS, RepP] at h ⊢
 obtain ⟨a0, q1, q2⟩ := h
 exact ⟨a0, _, q1, Nat.le_refl _, q2⟩
theorem CellsC.canS {g : Gh} {c : Array Value} : ∀ {off : Nat} {ds : List D}, CellsC g c off ds -> CellsC g c off (ds.map D.canS)
 | _, [], _ => by simp only [List.map_nil, CellsC]
 | off, d :: ds, h => by
  simp only [CellsC, List.map_cons] at h ⊢
  obtain ⟨⟨h1, x, h2, h3⟩, h4⟩ := h
  exact ⟨⟨canS_cell.trans h1, x, h2, h3.canS⟩, h4.canS⟩
theorem RowsC.canAt {g : Gh} {c : Array Value} : ∀ {off : Nat} {rs : List (List D)} (i : Nat), RowsC g c off rs -> RowsC g c off (rs.modify i fun r => r.map D.canS)
 | _, [], i, h => by cases i <;> exact h
 | off, r :: rs, 0, h => by
  simp only [RowsC, List.modify_zero_cons] at h ⊢
  exact ⟨h.1.canS, by rw [List.length_map]; exact h.2⟩
 | off, r :: rs, i + 1, h => by
  simp only [RowsC, List.modify_succ_cons] at h ⊢
  exact ⟨h.1, RowsC.canAt i h.2⟩
theorem Qar {α : Type} {f : α -> α} : ∀ {l : List α} {i : Nat} {x : α}, x ∈ l.modify i f -> x ∈ l \/ ∃ y ∈ l, x = f y
 | [], i, x, h => by cases i <;> exact absurd h (by simp)
 | a :: l, 0, x, h => by
  simp only [List.modify_zero_cons, List.mem_cons] at h
  rcases h with rfl | h
  ·exact .inr ⟨a, by simp, rfl⟩
  ·exact .inl (by simp [h])
 | a :: l, i + 1, x, h => by
  simp only [List.modify_succ_cons, List.mem_cons] at h
  rcases h with rfl | h
  ·exact .inl (by simp)
  ·rcases Qar h with h | ⟨y, hy, e⟩
   ·exact .inl (by simp [h])
   ·exact .inr ⟨y, by simp [hy], e⟩
theorem QdI {fr : List (Nat × D)} {H : List (Nat × Box)} {k : Nat} {b : Box} (i : Nat) (hb : lk H k = some b) : St.le ⟨fr, H⟩ ⟨fr, (k, { b with rows := b.rows.modify i fun r => r.map D.canS }) :: H⟩ := fun E g a w r => by
 have hsid : ∀ (r : List D), (r.map D.canS).flatMap D.sid = r.flatMap D.sid := fun r => by
  induction r with
  | nil => rfl
  | cons d r ih => rw [List.map_cons, List.flatMap_cons, List.flatMap_cons, Qbr, ih]
 have hids : ∀ j, j ∈ Box.ids { b with rows := b.rows.modify i fun r => r.map D.canS } -> j ∈ b.ids := fun j hj => by
  unfold Box.ids at hj ⊢
  simp only at hj
  split at hj
  ·cases hj
  ·rename_i hp
   rw [if_neg hp]
   obtain ⟨row, hrow, hk⟩ := List.mem_flatMap.1 hj
   rcases Qar hrow with h | ⟨y, hy, rfl⟩
   ·exact List.mem_flatMap.2 ⟨row, h, hk⟩
   ·rw [hsid] at hk; exact List.mem_flatMap.2 ⟨y, hy, hk⟩
 have hsome : ∀ j, (lk ((k, ({ b with rows := b.rows.modify i fun r => r.map D.canS } : Box)) :: H) j).isSome = (lk H j).isSome := fun j => by
  rw [Qh]; split
  ·rename_i e; subst e; rw [hb]; rfl
  ·rfl
 have hget : ∀ j b', lk ((k, ({ b with rows := b.rows.modify i fun r => r.map D.canS } : Box)) :: H) j = some b' -> (j = k /\ b' = { b with rows := b.rows.modify i fun r => r.map D.canS }) \/ (j ≠ k /\ lk H j = some b') := fun j b' h => by
  rw [Qh] at h
  split at h
  ·rename_i e; cases h; exact .inl ⟨e.symm, rfl⟩
  ·rename_i e; exact .inr ⟨Ne.symm e, h⟩
 refine ⟨g, r.nt, r.df, r.fr, fun t d h j hj => (hsome j).trans (r.wfF t d h j hj), fun j b' h i' hi => ?_, fun j b' h => ?_, fun j j' b1 b2 B e e' h1 h2 h3 h4 => ?_, r.kr, r.ext, r.kx, fun j hj => let ⟨h1, h2, h3, h4⟩ := r.kp j hj; ⟨h1, h2, h3, (hsome j).trans h4⟩⟩
 ·rcases hget j b' h with ⟨rfl, rfl⟩ | ⟨_, h⟩
  ·rw [hsome]; exact r.wfH _ b hb i' (hids i' hi)
  ·rw [hsome]; exact r.wfH j b' h i' hi
 ·rcases hget j b' h with ⟨rfl, rfl⟩ | ⟨_, h⟩
  ·obtain ⟨h1, h2, h3⟩ := r.bx _ b hb
   by_cases hr : b.rows = []
   ·have e : ({ b with rows := b.rows.modify i fun r => r.map D.canS } : Box) = b := by
     obtain ⟨rows, e1, e2, e3⟩ := b
     simp only at hr
     subst hr
     cases i <;> rfl
    rw [e]; exact ⟨h1, h2, h3⟩
   ·refine ⟨fun row hrow => ?_, fun hp row hrow d hd => ?_, .inr ?_⟩
    ·rcases Qar hrow with h | ⟨y, hy, rfl⟩
     ·exact h1 row h
     ·rw [List.length_map]; exact h1 y hy
    ·rcases Qar hrow with h | ⟨y, hy, rfl⟩
     ·exact h2 hp row h d hd
     ·obtain ⟨d0, hd0, rfl⟩ := List.mem_map.1 hd
      rw [Qbr]; exact h2 hp y hy d0 hd0
    ·obtain ⟨_, B, c, q1, q2, q3, q4, q5⟩ := h3.resolve_left fun h => hr h.1
     refine ⟨fun e => hr ?_, B, c, q1, q2, q3, q4.canAt i, q5⟩
     have := congrArg List.length e
     simp only [List.length_modify, List.length_nil] at this
     exact List.eq_nil_of_length_eq_zero this
  ·exact r.bx j b' h
 ·have : ∀ j b', lk ((k, ({ b with rows := b.rows.modify i fun r => r.map D.canS } : Box)) :: H) j = some b' -> ∃ b'', lk H j = some b'' := fun j b' h => by
   rcases hget j b' h with ⟨rfl, _⟩ | ⟨_, h⟩
   ·exact ⟨b, hb⟩
   ·exact ⟨b', h⟩
  obtain ⟨c1, q1⟩ := this j b1 h1
  obtain ⟨c2, q2⟩ := this j' b2 h2
  exact r.inj j j' c1 c2 B e e' q1 q2 h3 h4
theorem QkC {fr fr' : List (Nat × D)} {H H' : List (Nat × Box)} (k : Nat) (hk : k < 1000000) (hF : ∀ t d, lk fr' t = some d -> ∃ d0, lk fr t = some d0 /\ d0.fz H (· == k) = d) (hH : ∀ j b, lk H' j = some b -> j ≠ k /\ ∃ b0, lk H j = some b0 /\ b0.fz H (· == k) = b)
  (wfF : ∀ t d, lk fr' t = some d -> ∀ j ∈ d.ids, (lk H' j).isSome = true) (wfH : Closed H') (hbig : ∀ j, 1000000 <= j -> (lk H j).isSome = true -> (lk H' j).isSome = true) : St.le ⟨fr, H⟩ ⟨fr', H'⟩ := by
 intro E g a w r
 obtain ⟨g', _, r'⟩ := r.freeze k hk
 refine ⟨g', r'.less (fun u d h => ?_) (fun j x h => ?_) wfF wfH fun j hj hs => hbig j hj ?_⟩
 ·obtain ⟨d0, q1, q2⟩ := hF u d h
  simp only [St.freeze, Z3, q1, Option.map_some, q2]
 ·obtain ⟨q1, b0, q2, q3⟩ := hH j x h
  simp only [St.freeze, QcA]
  rw [if_neg q1, Z3 (Box.fz H (· == k)), q2, Option.map_some, q3]
 ·simp only [St.freeze, QcA] at hs
  rw [if_neg (by omega), Z3 (Box.fz H (· == k)), Option.isSome_map] at hs
  exact hs
theorem Qni {fr fr' : List (Nat × D)} {H H' : List (Nat × Box)} (S : Nat -> Bool) (hS : ∀ k, S k = true -> k < 1000000) (hF : ∀ t d, lk fr' t = some d -> ∃ d0, lk fr t = some d0 /\ d0.fz H S = d) (hH : ∀ j b, lk H' j = some b -> S j = false /\ ∃ b0, lk H j = some b0 /\ b0.fz H S = b)
  (wfF : ∀ t d, lk fr' t = some d -> ∀ j ∈ d.ids, (lk H' j).isSome = true) (wfH : Closed H') (hbig : ∀ j, 1000000 <= j -> (lk H j).isSome = true -> (lk H' j).isSome = true) : St.le ⟨fr, H⟩ ⟨fr', H'⟩ := by
 intro E g a w r
 obtain ⟨g', _, r'⟩ := r.freezeS S hS
 refine ⟨g', r'.less (fun u d h => ?_) (fun j x h => ?_) wfF wfH fun j hj hs => hbig j hj ?_⟩
 ·obtain ⟨d0, q1, q2⟩ := hF u d h
  simp only [St.freezeS, Z3, q1, Option.map_some, q2]
 ·obtain ⟨q1, b0, q2, q3⟩ := hH j x h
  simp only [St.freezeS, Qew]
  rw [if_neg (by rw [q1]; simp), Z3 (Box.fz H S), q2, Option.map_some, q3]
 ·simp only [St.freezeS, Qew] at hs
  split at hs
  ·cases hs
  ·rw [Z3 (Box.fz H S), Option.isSome_map] at hs
   exact hs
theorem Ze (n : Nat) (p : List Nat) : Qa9 n p [] = true := by simp [Qa9]
theorem Zf {n k : Nat} {R : List (Nat × List Nat)} : Qa9 n [k] R = R.all fun e => e.1 != k || e.2.contains n := by simp [Qa9]
theorem Zg {n k j : Nat} {R : List (Nat × List Nat)} : Qa9 n [k, j] R = ((R.all fun e => e.1 != k || e.2.contains n) && R.all fun e => e.1 != j || e.2.contains n) := by simp [Qa9]
theorem Zr {P ds : List Nat} {n k : Nat} (h : ds.contains n = true) : ((P.map fun x => (x, ds)).all fun e => e.1 != k || e.2.contains n) = true := by
 rw [List.all_eq_true]
 intro e he
 obtain ⟨x, _, rfl⟩ := List.mem_map.1 he
 rw [h, Bool.or_true]
end Go.Abs
namespace Go.Abs
open Go
theorem Qod {fr fr1 : List (Nat × D)} {H H1 : List (Nat × Box)} {l lH : List Nat} (kA kR : Nat) (pr' : Bool) {bA bR : Box} {rows' : List (List D)} (hf : Q0 l fr = fr1) (hH : QbP lH H = H1) (hA : lk H kA = some bA) (hR : lk H kR = some bR) (hpA : bA.pr = false) (hp : bR.pr = true)
  (hfz : (bA.rows.map fun r => r.map (D.fzS H (· == kR))) = rows') (hpr : pr' = true -> rows' ≠ [] /\ ∀ r ∈ rows', ∀ d ∈ r, d.sid = []) (hne : kA ≠ kR) (c1 : (fr1.all fun p => !p.2.ids.contains kR) = true) (c2 : (H1.all fun p => p.1 != kR && (p.2.pr || !p.2.ids.contains kR)) = true)
  (hw : wfB ((kA, ⟨rows', bA.esz, bA.et, pr'⟩) :: H1) fr1 = true) (hbk : Qn0 H ((kA, ⟨rows', bA.esz, bA.et, pr'⟩) :: H1) = true) (hk : kR < 1000000 := by decide) : St.le ⟨fr, H⟩ ⟨fr1, (kA, ⟨rows', bA.esz, bA.et, pr'⟩) :: H1⟩ := by
 subst hf hH
 simp only [wfB, Bool.and_eq_true, List.all_eq_true] at hw
 simp only [List.all_eq_true, Bool.not_eq_true', List.contains_eq_mem, decide_eq_false_iff_not] at c1
 simp only [List.all_eq_true, Bool.and_eq_true, Bool.or_eq_true, Bool.not_eq_true', List.contains_eq_mem, decide_eq_false_iff_not, bne_iff_ne, ne_eq] at c2
 have hsome : ∀ j, (lk ((kA, (⟨rows', bA.esz, bA.et, false⟩ : Box)) :: QbP lH H) j).isSome = (lk ((kA, (⟨rows', bA.esz, bA.et, pr'⟩ : Box)) :: QbP lH H) j).isSome := fun j => by
  rw [Qh, Qh]; split <;> rfl
 have hids : ∀ j, j ∈ Box.ids ⟨rows', bA.esz, bA.et, false⟩ -> (lk ((kA, (⟨rows', bA.esz, bA.et, pr'⟩ : Box)) :: QbP lH H) j).isSome = true := fun j hj => by
  cases hc : pr'
  ·rw [hc] at hw; exact hw.2 (kA, ⟨rows', bA.esz, bA.et, false⟩) (by simp) j hj
  ·exfalso
   unfold Box.ids at hj
   simp only [Bool.false_eq_true, if_false] at hj
   obtain ⟨r, hr, hj⟩ := List.mem_flatMap.1 hj
   obtain ⟨d, hd, hj⟩ := List.mem_flatMap.1 hj
   rw [(hpr hc).2 r hr d hd] at hj; cases hj
 have h1 : St.le ⟨fr, H⟩ ⟨Q0 l fr, (kA, ⟨rows', bA.esz, bA.et, false⟩) :: QbP lH H⟩ := by
  refine QkC kR hk (fun t d h => ⟨d, YZ l fr t d h, Qg6 fun j hj => ?_⟩) (fun j b h => ?_) (fun t d h j hj => ?_) (fun j b h i hi => ?_) fun j hj hs => ?_
  ·simp only [beq_eq_false_iff_ne, ne_eq]; rintro rfl; exact c1 (t, d) (Z8 h) hj
  ·rw [Qh] at h
   split at h
   ·rename_i e; cases h; subst e
    refine ⟨hne, bA, hA, ?_⟩
    unfold Box.fz; rw [if_neg (by rw [hpA]; simp)]
    rw [hfz, hpA]
   ·have := c2 (j, b) (Z8 h)
    refine ⟨this.1, b, QdK lH H j b h, Xg (this.2.imp id fun h3 i hi => ?_)⟩
    simp only [beq_eq_false_iff_ne, ne_eq]; rintro rfl; exact h3 hi
  ·rw [hsome]; exact hw.1 (t, d) (Z8 h) j hj
  ·rw [hsome]
   rw [Qh] at h
   split at h
   ·cases h; exact hids i hi
   ·exact hw.2 (j, b) (List.mem_cons_of_mem _ (Z8 h)) i hi
  ·rw [hsome]; exact Qh3 hbk j hj hs
 cases hc : pr'
 ·exact h1
 ·refine le_trans h1 (le_trans (Qf9 (k := kA) (by rw [Qh, if_pos rfl]) (hpr hc).1 (hpr hc).2) (Qga ⟨fun _ => rfl, fun j => ?_⟩))
  show lk ((kA, _) :: (kA, _) :: QbP lH H) j = lk ((kA, _) :: QbP lH H) j
  rw [Qh, Qh, Qh]
  split <;> rfl
end Go.Abs
namespace Go.Abs
open Go
theorem qa {p : Prop} [Decidable p] : (decide p = true) = p := decide_eq_true_eq
theorem qb {p : Prop} [Decidable p] : (decide p = false) ↔ ¬ p := decide_eq_false_iff_not
theorem qc {a b : Bool} : ((!a) = b) = (a = !b) := by simp
theorem qd : (!true) = false := rfl
theorem qe : (!false) = true := rfl
section
variable {fr : List (Nat × D)}
theorem kp1 {t0 : Nat} {d0 : D} (h0 : lk fr t0 = some d0) : Q0 [t0] fr = [(t0, d0)] := Qc h0 QX
theorem kp2 {t0 t1 : Nat} {d0 d1 : D} (h0 : lk fr t0 = some d0) (h1 : lk fr t1 = some d1) : Q0 [t0, t1] fr = [(t0, d0), (t1, d1)] := Qc h0 (Qc h1 QX)
theorem kp3 {t0 t1 t2 : Nat} {d0 d1 d2 : D} (h0 : lk fr t0 = some d0) (h1 : lk fr t1 = some d1) (h2 : lk fr t2 = some d2) : Q0 [t0, t1, t2] fr = [(t0, d0), (t1, d1), (t2, d2)] := Qc h0 (Qc h1 (Qc h2 QX))
theorem kp4 {t0 t1 t2 t3 : Nat} {d0 d1 d2 d3 : D} (h0 : lk fr t0 = some d0) (h1 : lk fr t1 = some d1) (h2 : lk fr t2 = some d2) (h3 : lk fr t3 = some d3) : Q0 [t0, t1, t2, t3] fr = [(t0, d0), (t1, d1), (t2, d2), (t3, d3)] := Qc h0 (Qc h1 (Qc h2 (Qc h3 QX)))
theorem kp5 {t0 t1 t2 t3 t4 : Nat} {d0 d1 d2 d3 d4 : D} (h0 : lk fr t0 = some d0) (h1 : lk fr t1 = some d1) (h2 : lk fr t2 = some d2) (h3 : lk fr t3 = some d3) (h4 : lk fr t4 = some d4) : Q0 [t0, t1, t2, t3, t4] fr = [(t0, d0), (t1, d1), (t2, d2), (t3, d3), (t4, d4)] := Qc h0 (Qc h1 (Qc h2 (Qc h3 (Qc h4 QX))))
theorem kp6 {t0 t1 t2 t3 t4 t5 : Nat} {d0 d1 d2 d3 d4 d5 : D} (h0 : lk fr t0 = some d0) (h1 : lk fr t1 = some d1) (h2 : lk fr t2 = some d2) (h3 : lk fr t3 = some d3) (h4 : lk fr t4 = some d4) (h5 : lk fr t5 = some d5) : Q0 [t0, t1, t2, t3, t4, t5] fr = [(t0, d0), (t1, d1), (t2, d2), (t3, d3), (t4, d4), (t5, d5)] := Qc h0 (Qc h1 (Qc h2 (Qc h3 (Qc h4 (Qc h5 QX)))))
theorem kp7 {t0 t1 t2 t3 t4 t5 t6 : Nat} {d0 d1 d2 d3 d4 d5 d6 : D} (h0 : lk fr t0 = some d0) (h1 : lk fr t1 = some d1) (h2 : lk fr t2 = some d2) (h3 : lk fr t3 = some d3) (h4 : lk fr t4 = some d4) (h5 : lk fr t5 = some d5) (h6 : lk fr t6 = some d6) : Q0 [t0, t1, t2, t3, t4, t5, t6] fr = [(t0, d0), (t1, d1), (t2, d2), (t3, d3), (t4, d4), (t5, d5), (t6, d6)] := Qc h0 (Qc h1 (Qc h2 (Qc h3 (Qc h4 (Qc h5 (Qc h6 QX))))))
theorem kp8 {t0 t1 t2 t3 t4 t5 t6 t7 : Nat} {d0 d1 d2 d3 d4 d5 d6 d7 : D} (h0 : lk fr t0 = some d0) (h1 : lk fr t1 = some d1) (h2 : lk fr t2 = some d2) (h3 : lk fr t3 = some d3) (h4 : lk fr t4 = some d4) (h5 : lk fr t5 = some d5) (h6 : lk fr t6 = some d6) (h7 : lk fr t7 = some d7) : Q0 [t0, t1, t2, t3, t4, t5, t6, t7] fr = [(t0, d0), (t1, d1), (t2, d2), (t3, d3), (t4, d4), (t5, d5), (t6, d6), (t7, d7)] := Qc h0 (Qc h1 (Qc h2 (Qc h3 (Qc h4 (Qc h5 (Qc h6 (Qc h7 QX)))))))
theorem kp9 {t0 t1 t2 t3 t4 t5 t6 t7 t8 : Nat} {d0 d1 d2 d3 d4 d5 d6 d7 d8 : D} (h0 : lk fr t0 = some d0) (h1 : lk fr t1 = some d1) (h2 : lk fr t2 = some d2) (h3 : lk fr t3 = some d3) (h4 : lk fr t4 = some d4) (h5 : lk fr t5 = some d5) (h6 : lk fr t6 = some d6) (h7 : lk fr t7 = some d7) (h8 : lk fr t8 = some d8) : Q0 [t0, t1, t2, t3, t4, t5, t6, t7, t8] fr = [(t0, d0), (t1, d1), (t2, d2), (t3, d3), (t4, d4), (t5, d5), (t6, d6), (t7, d7), (t8, d8)] := Qc h0 (Qc h1 (Qc h2 (Qc h3 (Qc h4 (Qc h5 (Qc h6 (Qc h7 (Qc h8 QX))))))))
theorem Qky {t0 t1 t2 t3 t4 t5 t6 t7 t8 t9 : Nat} {d0 d1 d2 d3 d4 d5 d6 d7 d8 d9 : D} (h0 : lk fr t0 = some d0) (h1 : lk fr t1 = some d1) (h2 : lk fr t2 = some d2) (h3 : lk fr t3 = some d3) (h4 : lk fr t4 = some d4) (h5 : lk fr t5 = some d5) (h6 : lk fr t6 = some d6) (h7 : lk fr t7 = some d7) (h8 : lk fr t8 = some d8) (h9 : lk fr t9 = some d9) : Q0 [t0, t1, t2, t3, t4, t5, t6, t7, t8, t9] fr = [(t0, d0), (t1, d1), (t2, d2), (t3, d3), (t4, d4), (t5, d5), (t6, d6), (t7, d7), (t8, d8), (t9, d9)] := Qc h0 (Qc h1 (Qc h2 (Qc h3 (Qc h4 (Qc h5 (Qc h6 (Qc h7 (Qc h8 (Qc h9 QX)))))))))
theorem Qpn {t0 t1 t2 t3 t4 t5 t6 t7 t8 t9 t10 : Nat} {d0 d1 d2 d3 d4 d5 d6 d7 d8 d9 d10 : D} (h0 : lk fr t0 = some d0) (h1 : lk fr t1 = some d1) (h2 : lk fr t2 = some d2) (h3 : lk fr t3 = some d3) (h4 : lk fr t4 = some d4) (h5 : lk fr t5 = some d5) (h6 : lk fr t6 = some d6) (h7 : lk fr t7 = some d7) (h8 : lk fr t8 = some d8) (h9 : lk fr t9 = some d9) (h10 : lk fr t10 = some d10) : Q0 [t0, t1, t2, t3, t4, t5, t6, t7, t8, t9, t10] fr = [(t0, d0), (t1, d1), (t2, d2), (t3, d3), (t4, d4), (t5, d5), (t6, d6), (t7, d7), (t8, d8), (t9, d9), (t10, d10)] := Qc h0 (Qc h1 (Qc h2 (Qc h3 (Qc h4 (Qc h5 (Qc h6 (Qc h7 (Qc h8 (Qc h9 (Qc h10 QX))))))))))
theorem Qob {t0 t1 t2 t3 t4 t5 t6 t7 t8 t9 t10 t11 : Nat} {d0 d1 d2 d3 d4 d5 d6 d7 d8 d9 d10 d11 : D} (h0 : lk fr t0 = some d0) (h1 : lk fr t1 = some d1) (h2 : lk fr t2 = some d2) (h3 : lk fr t3 = some d3) (h4 : lk fr t4 = some d4) (h5 : lk fr t5 = some d5) (h6 : lk fr t6 = some d6) (h7 : lk fr t7 = some d7) (h8 : lk fr t8 = some d8) (h9 : lk fr t9 = some d9) (h10 : lk fr t10 = some d10) (h11 : lk fr t11 = some d11) : Q0 [t0, t1, t2, t3, t4, t5, t6, t7, t8, t9, t10, t11] fr = [(t0, d0), (t1, d1), (t2, d2), (t3, d3), (t4, d4), (t5, d5), (t6, d6), (t7, d7), (t8, d8), (t9, d9), (t10, d10), (t11, d11)] := Qc h0 (Qc h1 (Qc h2 (Qc h3 (Qc h4 (Qc h5 (Qc h6 (Qc h7 (Qc h8 (Qc h9 (Qc h10 (Qc h11 QX)))))))))))
theorem Qo2 {t0 t1 t2 t3 t4 t5 t6 t7 t8 t9 t10 t11 t12 : Nat} {d0 d1 d2 d3 d4 d5 d6 d7 d8 d9 d10 d11 d12 : D} (h0 : lk fr t0 = some d0) (h1 : lk fr t1 = some d1) (h2 : lk fr t2 = some d2) (h3 : lk fr t3 = some d3) (h4 : lk fr t4 = some d4) (h5 : lk fr t5 = some d5) (h6 : lk fr t6 = some d6) (h7 : lk fr t7 = some d7) (h8 : lk fr t8 = some d8) (h9 : lk fr t9 = some d9) (h10 : lk fr t10 = some d10) (h11 : lk fr t11 = some d11) (h12 : lk fr t12 = some d12) : Q0 [t0, t1, t2, t3, t4, t5, t6, t7, t8, t9, t10, t11, t12] fr = [(t0, d0), (t1, d1), (t2, d2), (t3, d3), (t4, d4), (t5, d5), (t6, d6), (t7, d7), (t8, d8), (t9, d9), (t10, d10), (t11, d11), (t12, d12)] := Qc h0 (Qc h1 (Qc h2 (Qc h3 (Qc h4 (Qc h5 (Qc h6 (Qc h7 (Qc h8 (Qc h9 (Qc h10 (Qc h11 (Qc h12 QX))))))))))))
theorem kp14 {t0 t1 t2 t3 t4 t5 t6 t7 t8 t9 t10 t11 t12 t13 : Nat} {d0 d1 d2 d3 d4 d5 d6 d7 d8 d9 d10 d11 d12 d13 : D} (h0 : lk fr t0 = some d0) (h1 : lk fr t1 = some d1) (h2 : lk fr t2 = some d2) (h3 : lk fr t3 = some d3) (h4 : lk fr t4 = some d4) (h5 : lk fr t5 = some d5) (h6 : lk fr t6 = some d6) (h7 : lk fr t7 = some d7) (h8 : lk fr t8 = some d8) (h9 : lk fr t9 = some d9) (h10 : lk fr t10 = some d10) (h11 : lk fr t11 = some d11) (h12 : lk fr t12 = some d12) (h13 : lk fr t13 = some d13) : Q0 [t0, t1, t2, t3, t4, t5, t6, t7, t8, t9, t10, t11, t12, t13] fr = [(t0, d0), (t1, d1), (t2, d2), (t3, d3), (t4, d4), (t5, d5), (t6, d6), (t7, d7), (t8, d8), (t9, d9), (t10, d10), (t11, d11), (t12, d12), (t13, d13)] := Qc h0 (Qc h1 (Qc h2 (Qc h3 (Qc h4 (Qc h5 (Qc h6 (Qc h7 (Qc h8 (Qc h9 (Qc h10 (Qc h11 (Qc h12 (Qc h13 QX)))))))))))))
theorem kp15 {t0 t1 t2 t3 t4 t5 t6 t7 t8 t9 t10 t11 t12 t13 t14 : Nat} {d0 d1 d2 d3 d4 d5 d6 d7 d8 d9 d10 d11 d12 d13 d14 : D} (h0 : lk fr t0 = some d0) (h1 : lk fr t1 = some d1) (h2 : lk fr t2 = some d2) (h3 : lk fr t3 = some d3) (h4 : lk fr t4 = some d4) (h5 : lk fr t5 = some d5) (h6 : lk fr t6 = some d6) (h7 : lk fr t7 = some d7) (h8 : lk fr t8 = some d8) (h9 : lk fr t9 = some d9) (h10 : lk fr t10 = some d10) (h11 : lk fr t11 = some d11) (h12 : lk fr t12 = some d12) (h13 : lk fr t13 = some d13) (h14 : lk fr t14 = some d14) : Q0 [t0, t1, t2, t3, t4, t5, t6, t7, t8, t9, t10, t11, t12, t13, t14] fr = [(t0, d0), (t1, d1), (t2, d2), (t3, d3), (t4, d4), (t5, d5), (t6, d6), (t7, d7), (t8, d8), (t9, d9), (t10, d10), (t11, d11), (t12, d12), (t13, d13), (t14, d14)] := Qc h0 (Qc h1 (Qc h2 (Qc h3 (Qc h4 (Qc h5 (Qc h6 (Qc h7 (Qc h8 (Qc h9 (Qc h10 (Qc h11 (Qc h12 (Qc h13 (Qc h14 QX))))))))))))))
theorem kp16 {t0 t1 t2 t3 t4 t5 t6 t7 t8 t9 t10 t11 t12 t13 t14 t15 : Nat} {d0 d1 d2 d3 d4 d5 d6 d7 d8 d9 d10 d11 d12 d13 d14 d15 : D} (h0 : lk fr t0 = some d0) (h1 : lk fr t1 = some d1) (h2 : lk fr t2 = some d2) (h3 : lk fr t3 = some d3) (h4 : lk fr t4 = some d4) (h5 : lk fr t5 = some d5) (h6 : lk fr t6 = some d6) (h7 : lk fr t7 = some d7) (h8 : lk fr t8 = some d8) (h9 : lk fr t9 = some d9) (h10 : lk fr t10 = some d10) (h11 : lk fr t11 = some d11) (h12 : lk fr t12 = some d12) (h13 : lk fr t13 = some d13) (h14 : lk fr t14 = some d14) (h15 : lk fr t15 = some d15) : Q0 [t0, t1, t2, t3, t4, t5, t6, t7, t8, t9, t10, t11, t12, t13, t14, t15] fr = [(t0, d0), (t1, d1), (t2, d2), (t3, d3), (t4, d4), (t5, d5), (t6, d6), (t7, d7), (t8, d8), (t9, d9), (t10, d10), (t11, d11), (t12, d12), (t13, d13), (t14, d14), (t15, d15)] := Qc h0 (Qc h1 (Qc h2 (Qc h3 (Qc h4 (Qc h5 (Qc h6 (Qc h7 (Qc h8 (Qc h9 (Qc h10 (Qc h11 (Qc h12 (Qc h13 (Qc h14 (Qc h15 QX)))))))))))))))
theorem kp17 {t0 t1 t2 t3 t4 t5 t6 t7 t8 t9 t10 t11 t12 t13 t14 t15 t16 : Nat} {d0 d1 d2 d3 d4 d5 d6 d7 d8 d9 d10 d11 d12 d13 d14 d15 d16 : D} (h0 : lk fr t0 = some d0) (h1 : lk fr t1 = some d1) (h2 : lk fr t2 = some d2) (h3 : lk fr t3 = some d3) (h4 : lk fr t4 = some d4) (h5 : lk fr t5 = some d5) (h6 : lk fr t6 = some d6) (h7 : lk fr t7 = some d7) (h8 : lk fr t8 = some d8) (h9 : lk fr t9 = some d9) (h10 : lk fr t10 = some d10) (h11 : lk fr t11 = some d11) (h12 : lk fr t12 = some d12) (h13 : lk fr t13 = some d13) (h14 : lk fr t14 = some d14) (h15 : lk fr t15 = some d15) (h16 : lk fr t16 = some d16) : Q0 [t0, t1, t2, t3, t4, t5, t6, t7, t8, t9, t10, t11, t12, t13, t14, t15, t16] fr = [(t0, d0), (t1, d1), (t2, d2), (t3, d3), (t4, d4), (t5, d5), (t6, d6), (t7, d7), (t8, d8), (t9, d9), (t10, d10), (t11, d11), (t12, d12), (t13, d13), (t14, d14), (t15, d15), (t16, d16)] := Qc h0 (Qc h1 (Qc h2 (Qc h3 (Qc h4 (Qc h5 (Qc h6 (Qc h7 (Qc h8 (Qc h9 (Qc h10 (Qc h11 (Qc h12 (Qc h13 (Qc h14 (Qc h15 (Qc h16 QX))))))))))))))))
theorem kp18 {t0 t1 t2 t3 t4 t5 t6 t7 t8 t9 t10 t11 t12 t13 t14 t15 t16 t17 : Nat} {d0 d1 d2 d3 d4 d5 d6 d7 d8 d9 d10 d11 d12 d13 d14 d15 d16 d17 : D} (h0 : lk fr t0 = some d0) (h1 : lk fr t1 = some d1) (h2 : lk fr t2 = some d2) (h3 : lk fr t3 = some d3) (h4 : lk fr t4 = some d4) (h5 : lk fr t5 = some d5) (h6 : lk fr t6 = some d6) (h7 : lk fr t7 = some d7) (h8 : lk fr t8 = some d8) (h9 : lk fr t9 = some d9) (h10 : lk fr t10 = some d10) (h11 : lk fr t11 = some d11) (h12 : lk fr t12 = some d12) (h13 : lk fr t13 = some d13) (h14 : lk fr t14 = some d14) (h15 : lk fr t15 = some d15) (h16 : lk fr t16 = some d16) (h17 : lk fr t17 = some d17) : Q0 [t0, t1, t2, t3, t4, t5, t6, t7, t8, t9, t10, t11, t12, t13, t14, t15, t16, t17] fr = [(t0, d0), (t1, d1), (t2, d2), (t3, d3), (t4, d4), (t5, d5), (t6, d6), (t7, d7), (t8, d8), (t9, d9), (t10, d10), (t11, d11), (t12, d12), (t13, d13), (t14, d14), (t15, d15), (t16, d16), (t17, d17)] := Qc h0 (Qc h1 (Qc h2 (Qc h3 (Qc h4 (Qc h5 (Qc h6 (Qc h7 (Qc h8 (Qc h9 (Qc h10 (Qc h11 (Qc h12 (Qc h13 (Qc h14 (Qc h15 (Qc h16 (Qc h17 QX)))))))))))))))))
theorem kp19 {t0 t1 t2 t3 t4 t5 t6 t7 t8 t9 t10 t11 t12 t13 t14 t15 t16 t17 t18 : Nat} {d0 d1 d2 d3 d4 d5 d6 d7 d8 d9 d10 d11 d12 d13 d14 d15 d16 d17 d18 : D} (h0 : lk fr t0 = some d0) (h1 : lk fr t1 = some d1) (h2 : lk fr t2 = some d2) (h3 : lk fr t3 = some d3) (h4 : lk fr t4 = some d4) (h5 : lk fr t5 = some d5) (h6 : lk fr t6 = some d6) (h7 : lk fr t7 = some d7) (h8 : lk fr t8 = some d8) (h9 : lk fr t9 = some d9) (h10 : lk fr t10 = some d10) (h11 : lk fr t11 = some d11) (h12 : lk fr t12 = some d12) (h13 : lk fr t13 = some d13) (h14 : lk fr t14 = some d14) (h15 : lk fr t15 = some d15) (h16 : lk fr t16 = some d16) (h17 : lk fr t17 = some d17) (h18 : lk fr t18 = some d18) : Q0 [t0, t1, t2, t3, t4, t5, t6, t7, t8, t9, t10, t11, t12, t13, t14, t15, t16, t17, t18] fr = [(t0, d0), (t1, d1), (t2, d2), (t3, d3), (t4, d4), (t5, d5), (t6, d6), (t7, d7), (t8, d8), (t9, d9), (t10, d10), (t11, d11), (t12, d12), (t13, d13), (t14, d14), (t15, d15), (t16, d16), (t17, d17), (t18, d18)] := Qc h0 (Qc h1 (Qc h2 (Qc h3 (Qc h4 (Qc h5 (Qc h6 (Qc h7 (Qc h8 (Qc h9 (Qc h10 (Qc h11 (Qc h12 (Qc h13 (Qc h14 (Qc h15 (Qc h16 (Qc h17 (Qc h18 QX))))))))))))))))))
theorem kp20 {t0 t1 t2 t3 t4 t5 t6 t7 t8 t9 t10 t11 t12 t13 t14 t15 t16 t17 t18 t19 : Nat} {d0 d1 d2 d3 d4 d5 d6 d7 d8 d9 d10 d11 d12 d13 d14 d15 d16 d17 d18 d19 : D} (h0 : lk fr t0 = some d0) (h1 : lk fr t1 = some d1) (h2 : lk fr t2 = some d2) (h3 : lk fr t3 = some d3) (h4 : lk fr t4 = some d4) (h5 : lk fr t5 = some d5) (h6 : lk fr t6 = some d6) (h7 : lk fr t7 = some d7) (h8 : lk fr t8 = some d8) (h9 : lk fr t9 = some d9) (h10 : lk fr t10 = some d10) (h11 : lk fr t11 = some d11) (h12 : lk fr t12 = some d12) (h13 : lk fr t13 = some d13) (h14 : lk fr t14 = some d14) (h15 : lk fr t15 = some d15) (h16 : lk fr t16 = some d16) (h17 : lk fr t17 = some d17) (h18 : lk fr t18 = some d18) (h19 : lk fr t19 = some d19) : Q0 [t0, t1, t2, t3, t4, t5, t6, t7, t8, t9, t10, t11, t12, t13, t14, t15, t16, t17, t18, t19] fr = [(t0, d0), (t1, d1), (t2, d2), (t3, d3), (t4, d4), (t5, d5), (t6, d6), (t7, d7), (t8, d8), (t9, d9), (t10, d10), (t11, d11), (t12, d12), (t13, d13), (t14, d14), (t15, d15), (t16, d16), (t17, d17), (t18, d18), (t19, d19)] := Qc h0 (Qc h1 (Qc h2 (Qc h3 (Qc h4 (Qc h5 (Qc h6 (Qc h7 (Qc h8 (Qc h9 (Qc h10 (Qc h11 (Qc h12 (Qc h13 (Qc h14 (Qc h15 (Qc h16 (Qc h17 (Qc h18 (Qc h19 QX)))))))))))))))))))
theorem kp21 {t0 t1 t2 t3 t4 t5 t6 t7 t8 t9 t10 t11 t12 t13 t14 t15 t16 t17 t18 t19 t20 : Nat} {d0 d1 d2 d3 d4 d5 d6 d7 d8 d9 d10 d11 d12 d13 d14 d15 d16 d17 d18 d19 d20 : D} (h0 : lk fr t0 = some d0) (h1 : lk fr t1 = some d1) (h2 : lk fr t2 = some d2) (h3 : lk fr t3 = some d3) (h4 : lk fr t4 = some d4) (h5 : lk fr t5 = some d5) (h6 : lk fr t6 = some d6) (h7 : lk fr t7 = some d7) (h8 : lk fr t8 = some d8) (h9 : lk fr t9 = some d9) (h10 : lk fr t10 = some d10) (h11 : lk fr t11 = some d11) (h12 : lk fr t12 = some d12) (h13 : lk fr t13 = some d13) (h14 : lk fr t14 = some d14) (h15 : lk fr t15 = some d15) (h16 : lk fr t16 = some d16) (h17 : lk fr t17 = some d17) (h18 : lk fr t18 = some d18) (h19 : lk fr t19 = some d19) (h20 : lk fr t20 = some d20) : Q0 [t0, t1, t2, t3, t4, t5, t6, t7, t8, t9, t10, t11, t12, t13, t14, t15, t16, t17, t18, t19, t20] fr = [(t0, d0), (t1, d1), (t2, d2), (t3, d3), (t4, d4), (t5, d5), (t6, d6), (t7, d7), (t8, d8), (t9, d9), (t10, d10), (t11, d11), (t12, d12), (t13, d13), (t14, d14), (t15, d15), (t16, d16), (t17, d17), (t18, d18), (t19, d19), (t20, d20)] := Qc h0 (Qc h1 (Qc h2 (Qc h3 (Qc h4 (Qc h5 (Qc h6 (Qc h7 (Qc h8 (Qc h9 (Qc h10 (Qc h11 (Qc h12 (Qc h13 (Qc h14 (Qc h15 (Qc h16 (Qc h17 (Qc h18 (Qc h19 (Qc h20 QX))))))))))))))))))))
theorem kp22 {t0 t1 t2 t3 t4 t5 t6 t7 t8 t9 t10 t11 t12 t13 t14 t15 t16 t17 t18 t19 t20 t21 : Nat} {d0 d1 d2 d3 d4 d5 d6 d7 d8 d9 d10 d11 d12 d13 d14 d15 d16 d17 d18 d19 d20 d21 : D} (h0 : lk fr t0 = some d0) (h1 : lk fr t1 = some d1) (h2 : lk fr t2 = some d2) (h3 : lk fr t3 = some d3) (h4 : lk fr t4 = some d4) (h5 : lk fr t5 = some d5) (h6 : lk fr t6 = some d6) (h7 : lk fr t7 = some d7) (h8 : lk fr t8 = some d8) (h9 : lk fr t9 = some d9) (h10 : lk fr t10 = some d10) (h11 : lk fr t11 = some d11) (h12 : lk fr t12 = some d12) (h13 : lk fr t13 = some d13) (h14 : lk fr t14 = some d14) (h15 : lk fr t15 = some d15) (h16 : lk fr t16 = some d16) (h17 : lk fr t17 = some d17) (h18 : lk fr t18 = some d18) (h19 : lk fr t19 = some d19) (h20 : lk fr t20 = some d20) (h21 : lk fr t21 = some d21) : Q0 [t0, t1, t2, t3, t4, t5, t6, t7, t8, t9, t10, t11, t12, t13, t14, t15, t16, t17, t18, t19, t20, t21] fr = [(t0, d0), (t1, d1), (t2, d2), (t3, d3), (t4, d4), (t5, d5), (t6, d6), (t7, d7), (t8, d8), (t9, d9), (t10, d10), (t11, d11), (t12, d12), (t13, d13), (t14, d14), (t15, d15), (t16, d16), (t17, d17), (t18, d18), (t19, d19), (t20, d20), (t21, d21)] := Qc h0 (Qc h1 (Qc h2 (Qc h3 (Qc h4 (Qc h5 (Qc h6 (Qc h7 (Qc h8 (Qc h9 (Qc h10 (Qc h11 (Qc h12 (Qc h13 (Qc h14 (Qc h15 (Qc h16 (Qc h17 (Qc h18 (Qc h19 (Qc h20 (Qc h21 QX)))))))))))))))))))))
theorem kp23 {t0 t1 t2 t3 t4 t5 t6 t7 t8 t9 t10 t11 t12 t13 t14 t15 t16 t17 t18 t19 t20 t21 t22 : Nat} {d0 d1 d2 d3 d4 d5 d6 d7 d8 d9 d10 d11 d12 d13 d14 d15 d16 d17 d18 d19 d20 d21 d22 : D} (h0 : lk fr t0 = some d0) (h1 : lk fr t1 = some d1) (h2 : lk fr t2 = some d2) (h3 : lk fr t3 = some d3) (h4 : lk fr t4 = some d4) (h5 : lk fr t5 = some d5) (h6 : lk fr t6 = some d6) (h7 : lk fr t7 = some d7) (h8 : lk fr t8 = some d8) (h9 : lk fr t9 = some d9) (h10 : lk fr t10 = some d10) (h11 : lk fr t11 = some d11) (h12 : lk fr t12 = some d12) (h13 : lk fr t13 = some d13) (h14 : lk fr t14 = some d14) (h15 : lk fr t15 = some d15) (h16 : lk fr t16 = some d16) (h17 : lk fr t17 = some d17) (h18 : lk fr t18 = some d18) (h19 : lk fr t19 = some d19) (h20 : lk fr t20 = some d20) (h21 : lk fr t21 = some d21) (h22 : lk fr t22 = some d22) : Q0 [t0, t1, t2, t3, t4, t5, t6, t7, t8, t9, t10, t11, t12, t13, t14, t15, t16, t17, t18, t19, t20, t21, t22] fr = [(t0, d0), (t1, d1), (t2, d2), (t3, d3), (t4, d4), (t5, d5), (t6, d6), (t7, d7), (t8, d8), (t9, d9), (t10, d10), (t11, d11), (t12, d12), (t13, d13), (t14, d14), (t15, d15), (t16, d16), (t17, d17), (t18, d18), (t19, d19), (t20, d20), (t21, d21), (t22, d22)] := Qc h0 (Qc h1 (Qc h2 (Qc h3 (Qc h4 (Qc h5 (Qc h6 (Qc h7 (Qc h8 (Qc h9 (Qc h10 (Qc h11 (Qc h12 (Qc h13 (Qc h14 (Qc h15 (Qc h16 (Qc h17 (Qc h18 (Qc h19 (Qc h20 (Qc h21 (Qc h22 QX))))))))))))))))))))))
theorem kp24 {t0 t1 t2 t3 t4 t5 t6 t7 t8 t9 t10 t11 t12 t13 t14 t15 t16 t17 t18 t19 t20 t21 t22 t23 : Nat} {d0 d1 d2 d3 d4 d5 d6 d7 d8 d9 d10 d11 d12 d13 d14 d15 d16 d17 d18 d19 d20 d21 d22 d23 : D} (h0 : lk fr t0 = some d0) (h1 : lk fr t1 = some d1) (h2 : lk fr t2 = some d2) (h3 : lk fr t3 = some d3) (h4 : lk fr t4 = some d4) (h5 : lk fr t5 = some d5) (h6 : lk fr t6 = some d6) (h7 : lk fr t7 = some d7) (h8 : lk fr t8 = some d8) (h9 : lk fr t9 = some d9) (h10 : lk fr t10 = some d10) (h11 : lk fr t11 = some d11) (h12 : lk fr t12 = some d12) (h13 : lk fr t13 = some d13) (h14 : lk fr t14 = some d14) (h15 : lk fr t15 = some d15) (h16 : lk fr t16 = some d16) (h17 : lk fr t17 = some d17) (h18 : lk fr t18 = some d18) (h19 : lk fr t19 = some d19) (h20 : lk fr t20 = some d20) (h21 : lk fr t21 = some d21) (h22 : lk fr t22 = some d22) (h23 : lk fr t23 = some d23) : Q0 [t0, t1, t2, t3, t4, t5, t6, t7, t8, t9, t10, t11, t12, t13, t14, t15, t16, t17, t18, t19, t20, t21, t22, t23] fr = [(t0, d0), (t1, d1), (t2, d2), (t3, d3), (t4, d4), (t5, d5), (t6, d6), (t7, d7), (t8, d8), (t9, d9), (t10, d10), (t11, d11), (t12, d12), (t13, d13), (t14, d14), (t15, d15), (t16, d16), (t17, d17), (t18, d18), (t19, d19), (t20, d20), (t21, d21), (t22, d22), (t23, d23)] := Qc h0 (Qc h1 (Qc h2 (Qc h3 (Qc h4 (Qc h5 (Qc h6 (Qc h7 (Qc h8 (Qc h9 (Qc h10 (Qc h11 (Qc h12 (Qc h13 (Qc h14 (Qc h15 (Qc h16 (Qc h17 (Qc h18 (Qc h19 (Qc h20 (Qc h21 (Qc h22 (Qc h23 QX)))))))))))))))))))))))
end
end Go.Abs
namespace Go.Proofs
open Go Go.Abs
set_option maxRecDepth 100000
abbrev oo (t : Nat) (op : AOp) : AOper := ⟨some t,op,none⟩
abbrev oT (t g : Nat) (op : AOp) : AOper := ⟨some t,op,some (g,true)⟩
abbrev oF (t g : Nat) (op : AOp) : AOper := ⟨some t,op,some (g,false)⟩
def tf3 : TFn := ⟨49,[.tmp 6],.seq (.region false [oo 6 (.mov (.c (.bool false)))]) [0,1,2] (.seq (.seq (.region false [oo 9 (.mov (.s 1)),oo 10 (.len (.s 9)),oo 11 (.bin .gtr false (.s 10) (.c (.int .i64 40))),oo 12 (.mov (.s 11)),oF 13 12 (.mov (.s 2)),oF 14 12 (.len (.s 13)),
 oF 15 12 (.bin .gtr false (.s 14) (.c (.int .i64 80))),oo 16 (.pick (.s 12) (.c (.bool true)) (.s 15))]) [0,1,2,16] (.cond (.s 16) (.seq (.region false [oo 17 (.call 5 []),oo 6 (.mov (.s 17))]) [6] (.ret)) (.skip))) [0,1,2] (.seq (.region false [oo 18 (.mov (.s 0)),
 oo 19 (.call 6 [(.s 18),(.c (.int .i64 4))]),oo 7 (.alloc 27 [(.fsl [])]),⟨none,.store 1 (.s 7) (.s 19),none⟩]) [1,2,7] (.seq (.region false [oo 20 (.load true 1 (.s 7)),oo 21 (.mov (.s 2)),oo 22 (.call 7 [(.s 20),(.s 21)]),oo 8 (.mov (.s 22))]) [1,7,8] (.seq (
 .region true [oo 23 (.load true 1 (.s 7)),oo 24 (.mov (.s 1)),oo 25 (.call 8 [(.s 23),(.s 24)]),oo 26 (.load true 1 (.s 7)),oo 27 (.mov (.s 1)),oo 28 (.call 9 [(.s 26),(.s 27)]),oo 29 (.bin .eql true (.s 25) (.s 28)),oo 30 (.mov (.s 29)),oT 31 30 (.load true 1 (.s 7)),oT 32 30 (.mov (.s 8)),
 oT 33 30 (.call 8 [(.s 31),(.s 32)]),oT 34 30 (.load true 1 (.s 7)),oT 35 30 (.mov (.s 8)),oT 36 30 (.call 9 [(.s 34),(.s 35)]),oT 37 30 (.bin .eql true (.s 33) (.s 36)),oo 38 (.pick (.s 30) (.s 37) (.c (.bool false))),oo 39 (.mov (.s 38)),oT 40 39 (.mov (.s 1)),oT 41 39 (.call 10 [(.s 40)]),
 oT 42 39 (.mov (.s 1)),oT 43 39 (.call 11 [(.s 42)]),oT 44 39 (.bin .eql false (.s 41) (.s 43)),oo 45 (.pick (.s 39) (.s 44) (.c (.bool false))),oo 46 (.mov (.s 45)),oT 47 46 (.call 5 []),oo 48 (.pick (.s 46) (.s 47) (.c (.bool false))),oo 6 (.mov (.s 48))]) [6] (.ret)))))⟩
def tf5 : TFn := ⟨61,[.tmp 0],.seq (.region false [oo 0 (.mov (.c (.bool false)))]) [] (.seq (.region false [oo 6 (.call 19 []),oo 1 (.alloc 27 [(.fsl [])]),⟨none,.store 1 (.s 1) (.s 6),none⟩]) [1] (.seq (.region false [oo 8 (.load true 1 (.s 1)),
 oo 9 (.build [(.int .i64 0),(.int .i64 0)] [(0,1,(.c (.int .i64 1))),(1,1,(.c (.int .i64 1)))]),oo 10 (.call 20 [(.s 8),(.c (.fsl [])),(.s 9),(.c (.int .i64 4))]),oo 7 (.mov (.s 10)),oo 11 (.extract 0 (.s 7)),oo 12 (.extract 1 (.s 7)),oo 2 (.mov (.s 11)),oo 3 (.mov (.s 12))]) [1,2,3] (.seq (
 .region false [oo 14 (.load true 1 (.s 1)),oo 15 (.mov (.s 2)),oo 16 (.call 14 [(.s 14),(.s 15),(.c (.int .i64 1)),(.c (.int .i64 1))]),oo 13 (.mov (.s 16)),oo 17 (.extract 0 (.s 13)),oo 18 (.extract 1 (.s 13)),oo 4 (.mov (.s 17)),oo 5 (.mov (.s 18))]) [1,3,4,5] (.seq (
 .region false [oo 19 (.mov (.s 3)),oo 20 (.mov (.s 19)),oT 21 20 (.mov (.s 5)),oo 22 (.pick (.s 20) (.s 21) (.c (.bool false))),oo 23 (.mov (.s 22)),oT 24 23 (.mov (.s 4)),oT 25 23 (.len (.s 24)),oT 26 23 (.bin .eql false (.s 25) (.c (.int .i64 2))),
 oo 27 (.pick (.s 23) (.s 26) (.c (.bool false))),oo 28 (.mov (.s 27)),oT 29 28 (.mov (.s 4)),oT 30 28 (.indexAddr 4 (.s 29) (.c (.int .i64 0))),oT 31 28 (.load true 4 (.s 30)),
 oT 32 28 (.build [(.int .i64 0),(.int .i64 0),(.int .i64 0),(.int .i64 0)] [(0,1,(.c (.int .i64 1))),(1,1,(.c (.int .i64 6))),(2,1,(.c (.int .i64 0))),(3,1,(.c (.int .i64 4)))]),oT 33 28 (.eqs false [0,0,0,0] (.s 31) (.s 32)),oo 34 (.pick (.s 28) (.s 33) (.c (.bool false))),oo 35 (.mov (.s 34)),
 oT 36 35 (.mov (.s 4)),oT 37 35 (.indexAddr 4 (.s 36) (.c (.int .i64 1))),oT 38 35 (.load true 4 (.s 37)),oT 39 35 (.build [(.int .i64 0),(.int .i64 0),(.int .i64 0),(.int .i64 0)] [(0,1,(.c (.int .i64 1))),(1,1,(.c (.int .i64 4))),(2,1,(.c (.int .i64 1))),(3,1,(.c (.int .i64 (-1))))]),
 oT 40 35 (.eqs false [0,0,0,0] (.s 38) (.s 39)),oo 41 (.pick (.s 35) (.s 40) (.c (.bool false))),oo 42 (.mov (.s 41)),oT 43 42 (.load true 1 (.s 1)),oT 44 42 (.mov (.s 4)),oT 45 42 (.call 8 [(.s 43),(.s 44)]),oo 46 (.pick (.s 42) (.s 45) (.c (.bool false))),oo 47 (.mov (.s 46)),
 oT 48 47 (.load true 1 (.s 1)),oT 49 47 (.mov (.s 4)),oT 50 47 (.call 16 [(.s 48),(.s 49),(.c (.int .i64 1))]),oT 51 47 (.bin .eql false (.s 50) (.c (.int .i64 4))),oo 52 (.pick (.s 47) (.s 51) (.c (.bool false))),oo 53 (.mov (.s 52)),oT 54 53 (.load true 1 (.s 1)),oT 55 53 (.mov (.s 4)),
 oT 56 53 (.build [(.int .i64 0),(.int .i64 0)] [(0,1,(.c (.int .i64 1))),(1,1,(.c (.int .i64 4)))]),oT 57 53 (.buildSlice 2 48 [(.s 56)]),oT 58 53 (.call 21 [(.s 54),(.s 55),(.s 57)]),oT 59 53 (.bin .eql false (.s 58) (.c (.int .i64 2))),oo 60 (.pick (.s 53) (.s 59) (.c (.bool false))),
 oo 0 (.mov (.s 60))]) [0] (.ret)))))⟩
def tf6 : TFn := ⟨90,[.cell 4 true 1],.seq (.region false [oo 4 (.alloc 27 [(.fsl [])])]) [0,1,4] (.seq (.region false [oo 10 (.mov (.s 0)),oo 11 (.build [(.fsl []),(.int .i64 0)] [(0,1,(.s 10))]),oo 12 (.box 55 (.s 11)),oo 5 (.mov (.s 12))]) [1,4,5] (.seq (.region false [oo 13 (.mov (.s 5)),
 oo 14 (.mov (.s 1)),oo 15 (.call 22 [(.s 13),(.s 14)]),oo 6 (.mov (.s 15))]) [4,5,6] (.seq (.region true [oo 16 (.mov (.s 6)),oo 17 (.indexAddr 3 (.s 16) (.c (.int .i64 0))),oo 18 (.fieldAddr 2 (.s 17)),oo 19 (.load false 1 (.s 18)),oo 20 (.mov (.s 5)),oo 21 (.mov (.s 6)),
 oo 22 (.call 23 [(.s 20),(.s 21),(.c (.int .i64 3))]),oo 23 (.indexAddr 8 (.s 19) (.c (.int .i64 0))),oo 24 (.fieldAddr 6 (.s 23)),⟨none,.store 1 (.s 24) (.s 22),none⟩]) [4,5,6] (.seq (.seq (.region false [oo 7 (.mov (.c (.int .i64 1)))]) [4,5,6,7] (.block 0 (.loop (.seq (.seq (
 .region false [oo 25 (.mov (.s 7)),oo 26 (.mov (.s 6)),oo 27 (.len (.s 26)),oo 28 (.bin .lss false (.s 25) (.s 27))]) [4,5,6,7,28] (.cond (.s 28) (.skip) (.exit 0))) [4,5,6,7] (.seq (.block 1 (.seq (.region false [oo 8 (.mov (.c (.int .i64 0)))]) [4,5,6,7,8] (.block 2 (.loop (.seq (.seq (
 .region false [oo 31 (.mov (.s 8)),oo 32 (.mov (.s 6)),oo 33 (.mov (.s 7)),oo 34 (.indexAddr 3 (.s 32) (.s 33)),oo 35 (.fieldAddr 2 (.s 34)),oo 36 (.load false 1 (.s 35)),oo 37 (.len (.s 36)),oo 38 (.bin .lss false (.s 31) (.s 37))]) [4,5,6,7,8,38] (.cond (.s 38) (.skip) (.exit 2))) [4,5,6,7,8] (
 .seq (.block 3 (.seq (.region false [oo 41 (.mov (.s 6)),oo 42 (.mov (.s 7)),oo 43 (.indexAddr 3 (.s 41) (.s 42)),oo 44 (.fieldAddr 2 (.s 43)),oo 45 (.load false 1 (.s 44)),oo 46 (.mov (.s 8)),oo 47 (.indexAddr 8 (.s 45) (.s 46)),oo 9 (.mov (.s 47))]) [4,5,6,7,8,9] (.seq (.seq (
 .region false [oo 48 (.mov (.s 6)),oo 49 (.mov (.s 7)),oo 50 (.indexAddr 3 (.s 48) (.s 49)),oo 51 (.fieldAddr 1 (.s 50)),oo 52 (.load false 1 (.s 51)),oo 53 (.bin .neq false (.s 52) (.c (.str [])))]) [4,5,6,7,8,9,53] (.cond (.s 53) (.region false [oo 54 (.mov (.s 9)),oo 55 (.mov (.s 7)),
 oo 56 (.bin .sub false (.s 55) (.c (.int .i64 1))),oo 57 (.mov (.s 9)),oo 58 (.nilCheck (.s 57)),oo 59 (.fieldAddr 0 (.s 58)),oo 60 (.load true 5 (.s 59)),oo 61 (.call 24 [(.s 60)]),oo 62 (.build [(.int .i64 0),(.fsl []),(.fsl [])] [(0,1,(.s 56)),(1,2,(.s 61))]),oo 63 (.buildSlice 3 70 [(.s 62)]),
 oo 64 (.buildSlice 1 61 [(.s 63)]),oo 65 (.nilCheck (.s 54)),oo 66 (.fieldAddr 6 (.s 65)),⟨none,.store 1 (.s 66) (.s 64),none⟩]) (.skip))) [4,5,6,7,8,9] (.seq (.region true [oo 67 (.mov (.s 9)),oo 68 (.mov (.s 9)),oo 69 (.nilCheck (.s 68)),oo 70 (.fieldAddr 6 (.s 69)),
 oo 71 (.load false 1 (.s 70)),oo 72 (.mov (.s 5)),oo 73 (.mov (.s 6)),oo 74 (.call 23 [(.s 72),(.s 73),(.c (.int .i64 2))]),oo 75 (.append 1 61 24 (.s 71) (.s 74)),oo 76 (.nilCheck (.s 67)),oo 77 (.fieldAddr 6 (.s 76)),⟨none,.store 1 (.s 77) (.s 75),none⟩]) [4,5,6,7,8,9] (.seq (
 .region false [oo 78 (.mov (.s 5)),oo 79 (.call 25 [(.s 78),(.c (.int .i64 4))]),oo 80 (.bin .eql false (.s 79) (.c (.int .i64 0)))]) [4,5,6,7,8,9,80] (.cond (.s 80) (.region false [oo 81 (.mov (.s 9)),oo 82 (.mov (.s 5)),oo 83 (.mov (.s 6)),oo 84 (.call 26 [(.s 82),(.s 83)]),
 oo 85 (.buildSlice 3 70 [(.s 84)]),oo 86 (.nilCheck (.s 81)),oo 87 (.fieldAddr 7 (.s 86)),⟨none,.store 1 (.s 87) (.s 85),none⟩]) (.skip))))))) [4,5,6,7,8] (.region false [oo 39 (.mov (.s 8)),oo 40 (.bin .add false (.s 39) (.c (.int .i64 1))),oo 8 (.mov (.s 40))]))))))) [4,5,6,7] (
 .region false [oo 29 (.mov (.s 7)),oo 30 (.bin .add false (.s 29) (.c (.int .i64 1))),oo 7 (.mov (.s 30))])))))) [4,6] (.seq (.region false [oo 88 (.mov (.s 6)),oo 89 (.build [(.fsl [])] [(0,1,(.s 88))]),⟨none,.store 1 (.s 4) (.s 89),none⟩]) [4] (.ret))))))⟩
def tf7 : TFn := ⟨104,[.tmp 4],.seq (.region false [oo 2 (.box 27 (.s 0)),oo 4 (.mov (.c (.fsl [])))]) [1,2] (.seq (.region false [oo 5 (.mov (.c (.fsl [])))]) [1,2,5] (.seq (.seq (.region false [oo 6 (.mov (.c (.int .i64 0)))]) [1,2,5,6] (.block 0 (.loop (.seq (.seq (
 .region false [oo 11 (.mov (.s 6)),oo 12 (.bin .add false (.s 11) (.c (.int .i64 3))),oo 13 (.mov (.s 1)),oo 14 (.len (.s 13)),oo 15 (.bin .lss false (.s 12) (.s 14)),oo 16 (.mov (.s 15)),oT 17 16 (.mov (.s 6)),oT 18 16 (.bin .lss false (.s 17) (.c (.int .i64 40))),
 oo 19 (.pick (.s 16) (.s 18) (.c (.bool false)))]) [1,2,5,6,19] (.cond (.s 19) (.skip) (.exit 0))) [1,2,5,6] (.seq (.block 1 (.seq (.region true [oo 22 (.mov (.s 1)),oo 23 (.mov (.s 6)),oo 24 (.indexAddr 1 (.s 22) (.s 23)),oo 25 (.load false 1 (.s 24)),oo 26 (.fieldAddr 0 (.s 2)),
 oo 27 (.load false 1 (.s 26)),oo 28 (.len (.s 27)),oo 29 (.bin .add false (.s 28) (.c (.int .i64 1))),oo 30 (.call 12 [(.s 25),(.s 29)]),oo 7 (.mov (.s 30))]) [1,2,5,6,7] (.seq (.region false [oo 31 (.load true 1 (.s 2)),oo 32 (.mov (.s 5)),oo 33 (.mov (.s 7)),
 oo 34 (.call 27 [(.s 31),(.s 32),(.s 33)]),oo 8 (.mov (.s 34))]) [1,2,5,6,7,8] (.seq (.region true [oo 35 (.mov (.s 7)),oo 36 (.mov (.s 8)),oo 37 (.mov (.s 1)),oo 38 (.mov (.s 6)),oo 39 (.bin .add false (.s 38) (.c (.int .i64 1))),oo 40 (.indexAddr 1 (.s 37) (.s 39)),oo 41 (.load false 1 (.s 40)),
 oo 42 (.call 12 [(.s 41),(.c (.int .i64 64))]),oo 43 (.bin .and false (.s 36) (.s 42)),oo 44 (.mov (.s 5)),oo 45 (.call 11 [(.s 44)]),oo 46 (.mov (.s 1)),oo 47 (.mov (.s 6)),oo 48 (.bin .add false (.s 47) (.c (.int .i64 2))),oo 49 (.indexAddr 1 (.s 46) (.s 48)),oo 50 (.load false 1 (.s 49)),
 oo 51 (.call 12 [(.s 50),(.c (.int .i64 5))]),oo 52 (.bin .sub false (.s 51) (.c (.int .i64 1))),oo 53 (.build [(.int .i64 0),(.int .i64 0),(.int .i64 0),(.int .i64 0)] [(0,1,(.s 35)),(1,1,(.s 43)),(2,1,(.s 45)),(3,1,(.s 52))]),
 oo 9 (.alloc 50 [(.int .i64 0),(.int .i64 0),(.int .i64 0),(.int .i64 0)]),⟨none,.store 4 (.s 9) (.s 53),none⟩]) [1,2,5,6,8,9] (.seq (.seq (.region false [oo 54 (.fieldAddr 3 (.s 9)),oo 55 (.load false 1 (.s 54)),oo 56 (.bin .eql false (.s 55) (.c (.int .i64 (-1))))]) [1,2,5,6,8,9,56] (
 .cond (.s 56) (.seq (.region false [oo 57 (.fieldAddr 2 (.s 9)),oo 58 (.load false 1 (.s 57)),oo 59 (.bin .add false (.s 58) (.c (.int .i64 1))),oo 60 (.fieldAddr 2 (.s 9)),⟨none,.store 1 (.s 60) (.s 59),none⟩]) [1,2,5,6,8,9] (.seq (.region false [oo 61 (.mov (.s 8)),oo 62 (.call 28 [(.s 61)]),
 oo 10 (.mov (.s 62))]) [1,2,5,6,9,10] (.seq (.region false [oo 63 (.mov (.s 10)),oo 64 (.len (.s 63)),oo 65 (.bin .gtr false (.s 64) (.c (.int .i64 0)))]) [1,2,5,6,9,10,65] (.cond (.s 65) (.region false [oo 66 (.mov (.s 10)),oo 67 (.mov (.s 1)),oo 68 (.mov (.s 6)),
 oo 69 (.bin .add false (.s 68) (.c (.int .i64 1))),oo 70 (.indexAddr 1 (.s 67) (.s 69)),oo 71 (.load false 1 (.s 70)),oo 72 (.mov (.s 10)),oo 73 (.len (.s 72)),oo 74 (.call 12 [(.s 71),(.s 73)]),oo 75 (.indexAddr 1 (.s 66) (.s 74)),oo 76 (.load false 1 (.s 75)),
 oo 77 (.bin .add false (.s 76) (.c (.int .i64 1))),oo 78 (.conv .u64 (.s 77)),oo 79 (.bin .shl false (.c (.int .i64 1)) (.s 78)),oo 80 (.fieldAddr 1 (.s 9)),⟨none,.store 1 (.s 80) (.s 79),none⟩]) (.skip))))) (.skip))) [1,2,5,6,9] (.seq (.seq (.region false [oo 81 (.mov (.s 1)),oo 82 (.mov (.s 6)),
 oo 83 (.bin .add false (.s 82) (.c (.int .i64 3))),oo 84 (.indexAddr 1 (.s 81) (.s 83)),oo 85 (.load false 1 (.s 84)),oo 86 (.call 12 [(.s 85),(.c (.int .i64 20))]),oo 87 (.bin .eql false (.s 86) (.c (.int .i64 0)))]) [1,2,5,6,9,87] (.cond (.s 87) (.region true [oo 88 (.fieldAddr 2 (.s 9)),
 oo 89 (.load false 1 (.s 88)),oo 90 (.mov (.s 1)),oo 91 (.mov (.s 6)),oo 92 (.bin .add false (.s 91) (.c (.int .i64 3))),oo 93 (.indexAddr 1 (.s 90) (.s 92)),oo 94 (.load false 1 (.s 93)),oo 95 (.call 12 [(.s 94),(.c (.int .i64 3))]),oo 96 (.bin .add false (.s 89) (.s 95)),
 oo 97 (.bin .sub false (.s 96) (.c (.int .i64 1))),oo 98 (.fieldAddr 2 (.s 9)),⟨none,.store 1 (.s 98) (.s 97),none⟩]) (.skip))) [1,2,5,6,9] (.region false [oo 99 (.mov (.s 5)),oo 100 (.load true 4 (.s 9)),oo 101 (.buildSlice 4 50 [(.s 100)]),oo 102 (.append 4 50 32 (.s 99) (.s 101)),
 oo 5 (.mov (.s 102))]))))))) [1,2,5,6] (.region false [oo 20 (.mov (.s 6)),oo 21 (.bin .add false (.s 20) (.c (.int .i64 4))),oo 6 (.mov (.s 21))])))))) [5] (.seq (.region false [oo 103 (.mov (.s 5)),oo 4 (.mov (.s 103))]) [4] (.ret))))⟩
def tf8 : TFn := ⟨23,[.tmp 4],.seq (.region false [oo 2 (.box 27 (.s 0)),oo 4 (.mov (.c (.bool false)))]) [1,2] (.seq (.seq (.region false [oo 7 (.mov (.s 1)),oo 8 (.len (.s 7)),oo 9 (.mov (.c (.int .i64 0)))]) [1,2,7,8,9] (.block 0 (.loop (.seq (
 .region false [oo 10 (.bin .lss false (.s 9) (.s 8))]) [1,2,7,8,9,10] (.seq (.cond (.s 10) (.skip) (.exit 0)) [1,2,7,8,9] (.seq (.block 1 (.seq (.region false [oo 11 (.mov (.s 9)),oo 12 (.indexAddr 4 (.s 7) (.s 9)),oo 13 (.load true 4 (.s 12)),
 oo 6 (.alloc 50 [(.int .i64 0),(.int .i64 0),(.int .i64 0),(.int .i64 0)]),oo 5 (.mov (.s 11)),⟨none,.store 4 (.s 6) (.s 13),none⟩]) [1,2,5,6,7,8,9] (.seq (.region true [oo 14 (.load true 1 (.s 2)),oo 15 (.mov (.s 1)),oo 16 (.mov (.s 5)),oo 17 (.mov (.s 5)),
 oo 18 (.slice 4 (.s 15) none (some (.s 16)) (some (.s 17))),oo 19 (.load true 4 (.s 6)),oo 20 (.call 29 [(.s 14),(.s 18),(.s 19)]),oo 21 (.un .not (.s 20))]) [1,2,7,8,9,21] (.cond (.s 21) (.seq (.region false [oo 4 (.mov (.c (.bool false)))]) [4] (.ret)) (.skip))))) [1,2,7,8,9] (
 .region false [oo 22 (.bin .add false (.s 9) (.c (.int .i64 1))),oo 9 (.mov (.s 22))]))))))) [] (.seq (.region false [oo 4 (.mov (.c (.bool true)))]) [4] (.ret)))⟩
def tf9 : TFn := ⟨22,[.tmp 4],.seq (.region false [oo 2 (.box 27 (.s 0)),oo 4 (.mov (.c (.bool false)))]) [1,2] (.seq (.seq (.region false [oo 5 (.mov (.c (.int .i64 0)))]) [1,2,5] (.block 0 (.loop (.seq (.seq (.region false [oo 6 (.mov (.s 5)),oo 7 (.mov (.s 1)),oo 8 (.len (.s 7)),
 oo 9 (.bin .lss false (.s 6) (.s 8))]) [1,2,5,9] (.cond (.s 9) (.skip) (.exit 0))) [1,2,5] (.seq (.block 1 (.seq (.region true [oo 12 (.load true 1 (.s 2)),oo 13 (.mov (.s 1)),oo 14 (.mov (.s 5)),oo 15 (.slice 4 (.s 13) none (some (.s 14)) none),oo 16 (.mov (.s 1)),oo 17 (.mov (.s 5)),
 oo 18 (.indexAddr 4 (.s 16) (.s 17)),oo 19 (.load true 4 (.s 18)),oo 20 (.call 30 [(.s 12),(.s 15),(.s 19)]),oo 21 (.un .not (.s 20))]) [1,2,5,21] (.cond (.s 21) (.seq (.region false [oo 4 (.mov (.c (.bool false)))]) [4] (.ret)) (.skip)))) [1,2,5] (.region false [oo 10 (.mov (.s 5)),
 oo 11 (.bin .add false (.s 10) (.c (.int .i64 1))),oo 5 (.mov (.s 11))])))))) [] (.seq (.region false [oo 4 (.mov (.c (.bool true)))]) [4] (.ret)))⟩
def tf10 : TFn := ⟨13,[.tmp 2],.seq (.region false [oo 2 (.mov (.c (.int .i64 0)))]) [0] (.seq (.seq (.region false [oo 3 (.mov (.s 0)),oo 4 (.len (.s 3)),oo 5 (.bin .eql false (.s 4) (.c (.int .i64 0)))]) [0,5] (.cond (.s 5) (.seq (.region false [oo 2 (.mov (.c (.int .i64 0)))]) [2] (.ret)) (
 .skip))) [0] (.seq (.region false [oo 6 (.mov (.s 0)),oo 7 (.mov (.s 0)),oo 8 (.len (.s 7)),oo 9 (.bin .sub false (.s 8) (.c (.int .i64 1))),oo 10 (.indexAddr 4 (.s 6) (.s 9)),oo 11 (.fieldAddr 2 (.s 10)),oo 12 (.load false 1 (.s 11)),oo 2 (.mov (.s 12))]) [2] (.ret)))⟩
def tf11 : TFn := ⟨13,[.tmp 2],.seq (.region false [oo 2 (.mov (.c (.int .i64 0)))]) [0] (.seq (.seq (.region false [oo 3 (.mov (.s 0)),oo 4 (.len (.s 3)),oo 5 (.bin .eql false (.s 4) (.c (.int .i64 0)))]) [0,5] (.cond (.s 5) (.seq (.region false [oo 2 (.mov (.c (.int .i64 0)))]) [2] (.ret)) (
 .skip))) [0] (.seq (.region false [oo 6 (.mov (.s 0)),oo 7 (.mov (.s 0)),oo 8 (.len (.s 7)),oo 9 (.bin .sub false (.s 8) (.c (.int .i64 1))),oo 10 (.indexAddr 4 (.s 6) (.s 9)),oo 11 (.fieldAddr 2 (.s 10)),oo 12 (.load false 1 (.s 11)),oo 2 (.mov (.s 12))]) [2] (.ret)))⟩
def tf12 : TFn := ⟨17,[.tmp 4],.seq (.region false [oo 4 (.mov (.c (.int .i64 0)))]) [0,1] (.seq (.seq (.region false [oo 6 (.mov (.s 1)),oo 7 (.bin .lss false (.s 6) (.c (.int .i64 1)))]) [0,1,7] (.cond (.s 7) (.seq (.region false [oo 4 (.mov (.c (.int .i64 0)))]) [4] (.ret)) (.skip))) [0,1] (
 .seq (.region false [oo 8 (.mov (.s 0)),oo 9 (.mov (.s 1)),oo 10 (.bin .rem false (.s 8) (.s 9)),oo 5 (.mov (.s 10))]) [1,5] (.seq (.seq (.region false [oo 11 (.mov (.s 5)),oo 12 (.bin .lss false (.s 11) (.c (.int .i64 0)))]) [1,5,12] (.cond (.s 12) (.seq (.region false [oo 13 (.mov (.s 5)),
 oo 14 (.mov (.s 1)),oo 15 (.bin .add false (.s 13) (.s 14)),oo 4 (.mov (.s 15))]) [4] (.ret)) (.skip))) [5] (.seq (.region false [oo 16 (.mov (.s 5)),oo 4 (.mov (.s 16))]) [4] (.ret)))))⟩
def tf13 : TFn := ⟨19,[.tmp 4],.seq (.region false [oo 4 (.mov (.c (.int .i64 0)))]) [0,1] (.seq (.seq (.region false [oo 5 (.mov (.s 1)),oo 6 (.bin .lss false (.s 5) (.c (.int .i64 0))),oo 7 (.mov (.s 6)),oF 8 7 (.mov (.s 1)),oF 9 7 (.mov (.s 0)),oF 10 7 (.len (.s 9)),
 oF 11 7 (.bin .geq false (.s 8) (.s 10)),oo 12 (.pick (.s 7) (.c (.bool true)) (.s 11))]) [0,1,12] (.cond (.s 12) (.seq (.region false [oo 13 (.mov (.s 1)),oo 14 (.bin .rem false (.s 13) (.c (.int .i64 3))),oo 4 (.mov (.s 14))]) [4] (.ret)) (.skip))) [0,1] (.seq (
 .region false [oo 15 (.mov (.s 0)),oo 16 (.mov (.s 1)),oo 17 (.indexAddr 1 (.s 15) (.s 16)),oo 18 (.load false 1 (.s 17)),oo 4 (.mov (.s 18))]) [4] (.ret)))⟩
def tf14 : TFn := ⟨53,[.tmp 8,.tmp 9],.seq (.region false [oo 4 (.box 27 (.s 0)),oo 8 (.mov (.c (.fsl []))),oo 9 (.mov (.c (.bool false)))]) [1,2,3,4] (.seq (.seq (.region false [oo 11 (.load true 1 (.s 4)),oo 12 (.mov (.s 2)),oo 13 (.call 31 [(.s 11),(.s 12)]),
 oo 14 (.bin .eql false (.s 13) (.c (.int .i64 0))),oo 15 (.mov (.s 14)),oF 16 15 (.mov (.s 3)),oF 17 15 (.bin .lss false (.s 16) (.c (.int .i64 0))),oo 18 (.pick (.s 15) (.c (.bool true)) (.s 17)),oo 19 (.mov (.s 18)),oF 20 19 (.mov (.s 3)),oF 21 19 (.fieldAddr 0 (.s 4)),
 oF 22 19 (.load false 1 (.s 21)),oF 23 19 (.mov (.s 2)),oF 24 19 (.indexAddr 3 (.s 22) (.s 23)),oF 25 19 (.fieldAddr 2 (.s 24)),oF 26 19 (.load false 1 (.s 25)),oF 27 19 (.len (.s 26)),oF 28 19 (.bin .geq false (.s 20) (.s 27)),oo 29 (.pick (.s 19) (.c (.bool true)) (.s 28))]) [1,2,3,4,29] (
 .cond (.s 29) (.seq (.region false [oo 8 (.mov (.c (.fsl []))),oo 9 (.mov (.c (.bool false)))]) [8,9] (.ret)) (.skip))) [1,2,3,4] (.seq (.region false [oo 30 (.mov (.s 3)),oo 31 (.bin .add false (.s 30) (.c (.int .i64 1))),oo 32 (.bin .shl false (.c (.int .i64 1)) (.s 31)),
 oo 10 (.mov (.s 32))]) [1,2,4,10] (.seq (.seq (.region false [oo 33 (.load true 1 (.s 4)),oo 34 (.mov (.s 1)),oo 35 (.mov (.s 2)),oo 36 (.call 32 [(.s 33),(.s 34),(.s 35)]),oo 37 (.mov (.s 10)),oo 38 (.bin .and false (.s 36) (.s 37)),oo 39 (.bin .eql false (.s 38) (.c (.int .i64 0))),
 oo 40 (.mov (.s 39)),oF 41 40 (.mov (.s 1)),oF 42 40 (.mov (.s 2)),oF 43 40 (.call 33 [(.s 41),(.s 42)]),oo 44 (.pick (.s 40) (.c (.bool true)) (.s 43))]) [1,2,10,44] (.cond (.s 44) (.seq (.region false [oo 8 (.mov (.c (.fsl []))),oo 9 (.mov (.c (.bool false)))]) [8,9] (.ret)) (.skip))) [1,2,10] (
 .seq (.region false [oo 45 (.mov (.s 1)),oo 46 (.mov (.s 2)),oo 47 (.mov (.s 10)),oo 48 (.mov (.s 1)),oo 49 (.call 10 [(.s 48)]),oo 50 (.bin .add false (.s 49) (.c (.int .i64 1))),
 oo 51 (.build [(.int .i64 0),(.int .i64 0),(.int .i64 0),(.int .i64 0)] [(0,1,(.s 46)),(1,1,(.s 47)),(2,1,(.s 50)),(3,1,(.c (.int .i64 (-1))))]),oo 52 (.call 34 [(.s 45),(.s 51)]),oo 8 (.mov (.s 52)),oo 9 (.mov (.c (.bool true)))]) [8,9] (.ret)))))⟩
def tf16 : TFn := ⟨15,[.tmp 6],.seq (.region false [oo 3 (.box 27 (.s 0)),oo 6 (.mov (.c (.int .i64 0)))]) [1,2,3] (.seq (.seq (.region false [oo 7 (.load true 1 (.s 3)),oo 8 (.mov (.s 2)),oo 9 (.call 31 [(.s 7),(.s 8)]),oo 10 (.bin .eql false (.s 9) (.c (.int .i64 0)))]) [1,2,3,10] (
 .cond (.s 10) (.seq (.region false [oo 6 (.mov (.c (.int .i64 0)))]) [6] (.ret)) (.skip))) [1,2,3] (.seq (.region false [oo 11 (.load true 1 (.s 3)),oo 12 (.mov (.s 1)),oo 13 (.mov (.s 2)),oo 14 (.call 32 [(.s 11),(.s 12),(.s 13)]),oo 6 (.mov (.s 14))]) [6] (.ret)))⟩
def tf18 : TFn := ⟨25,[.tmp 4],.seq (.region false [oo 2 (.box 27 (.s 0)),oo 4 (.mov (.c (.int .i64 0)))]) [1,2] (.seq (.seq (.region false [oo 5 (.mov (.s 1)),oo 6 (.bin .lss false (.s 5) (.c (.int .i64 0))),oo 7 (.mov (.s 6)),oF 8 7 (.mov (.s 1)),oF 9 7 (.fieldAddr 0 (.s 2)),
 oF 10 7 (.load false 1 (.s 9)),oF 11 7 (.len (.s 10)),oF 12 7 (.bin .geq false (.s 8) (.s 11)),oo 13 (.pick (.s 7) (.c (.bool true)) (.s 12))]) [1,2,13] (.cond (.s 13) (.seq (.region false [oo 4 (.mov (.c (.int .i64 0)))]) [4] (.ret)) (.skip))) [1,2] (.seq (
 .region false [oo 14 (.fieldAddr 0 (.s 2)),oo 15 (.load false 1 (.s 14)),oo 16 (.mov (.s 1)),oo 17 (.indexAddr 3 (.s 15) (.s 16)),oo 18 (.fieldAddr 2 (.s 17)),oo 19 (.load false 1 (.s 18)),oo 20 (.len (.s 19)),oo 21 (.min (.s 20) (.c (.int .i64 16))),
 oo 22 (.bin .add false (.s 21) (.c (.int .i64 1))),oo 23 (.call 36 [(.s 22)]),oo 24 (.bin .sub false (.s 23) (.c (.int .i64 1))),oo 4 (.mov (.s 24))]) [4] (.ret)))⟩
def tf19 : TFn := ⟨18,[.cell 0 true 1],.seq (.region false [oo 0 (.alloc 27 [(.fsl [])])]) [0] (.seq (.region false [oo 2 (.call 37 []),oo 1 (.mov (.s 2))]) [0,1] (.seq (
 .region true [oo 3 (.build [(.int .i64 0),(.int .i64 0),(.int .i64 0),(.str []),(.str []),(.int .i64 0),(.fsl []),(.fsl [])] [(5,1,(.c (.int .i64 (-1))))]),oo 4 (.buildSlice 8 63 [(.s 3)]),oo 5 (.build [(.str []),(.str []),(.fsl [])] [(2,1,(.s 4))]),oo 6 (.mov (.s 1)),
 oo 7 (.indexAddr 5 (.s 6) (.c (.int .i64 0))),oo 8 (.load true 5 (.s 7)),oo 9 (.build [(.int .i64 0),(.int .i64 0),(.int .i64 0),(.str []),(.str []),(.int .i64 0),(.fsl []),(.fsl [])] [(0,5,(.s 8))]),oo 10 (.mov (.s 1)),oo 11 (.indexAddr 5 (.s 10) (.c (.int .i64 1))),oo 12 (.load true 5 (.s 11)),
 oo 13 (.build [(.int .i64 0),(.int .i64 0),(.int .i64 0),(.str []),(.str []),(.int .i64 0),(.fsl []),(.fsl [])] [(0,5,(.s 12))]),oo 14 (.buildSlice 8 63 [(.s 9),(.s 13)]),oo 15 (.build [(.str []),(.str []),(.fsl [])] [(0,1,(.c (.str [97,110,116]))),(2,1,(.s 14))]),
 oo 16 (.buildSlice 3 37 [(.s 5),(.s 15)]),oo 17 (.build [(.fsl [])] [(0,1,(.s 16))]),⟨none,.store 1 (.s 0) (.s 17),none⟩]) [0] (.ret)))⟩
def tf20 : TFn := ⟨44,[.tmp 8,.tmp 9],.seq (.region false [oo 4 (.box 27 (.s 0)),oo 6 (.box 48 (.s 2)),oo 8 (.mov (.c (.fsl []))),oo 9 (.mov (.c (.bool false)))]) [1,3,4,6] (.seq (.region false [oo 11 (.load true 1 (.s 4)),oo 12 (.mov (.s 1)),oo 13 (.fieldAddr 0 (.s 6)),
 oo 14 (.load false 1 (.s 13)),oo 15 (.call 16 [(.s 11),(.s 12),(.s 14)]),oo 10 (.mov (.s 15))]) [1,3,6,10] (.seq (.seq (.region false [oo 16 (.mov (.s 3)),oo 17 (.bin .lss false (.s 16) (.c (.int .i64 0))),oo 18 (.mov (.s 17)),oF 19 18 (.mov (.s 10)),oF 20 18 (.fieldAddr 1 (.s 6)),
 oF 21 18 (.load false 1 (.s 20)),oF 22 18 (.bin .and false (.s 19) (.s 21)),oF 23 18 (.bin .eql false (.s 22) (.c (.int .i64 0))),oo 24 (.pick (.s 18) (.c (.bool true)) (.s 23)),oo 25 (.mov (.s 24)),oF 26 25 (.mov (.s 10)),oF 27 25 (.fieldAddr 1 (.s 6)),oF 28 25 (.load false 1 (.s 27)),
 oF 29 25 (.bin .andNot false (.s 26) (.s 28)),oF 30 25 (.bin .eql false (.s 29) (.c (.int .i64 0))),oo 31 (.pick (.s 25) (.c (.bool true)) (.s 30))]) [1,3,6,10,31] (.cond (.s 31) (.seq (.region false [oo 8 (.mov (.c (.fsl []))),oo 9 (.mov (.c (.bool false)))]) [8,9] (.ret)) (.skip))) [1,3,6,10] (
 .seq (.region true [oo 32 (.mov (.s 1)),oo 33 (.fieldAddr 0 (.s 6)),oo 34 (.load false 1 (.s 33)),oo 35 (.mov (.s 10)),oo 36 (.fieldAddr 1 (.s 6)),oo 37 (.load false 1 (.s 36)),oo 38 (.bin .andNot false (.s 35) (.s 37)),oo 39 (.mov (.s 1)),oo 40 (.call 10 [(.s 39)]),oo 41 (.mov (.s 3)),
 oo 42 (.build [(.int .i64 0),(.int .i64 0),(.int .i64 0),(.int .i64 0)] [(0,1,(.s 34)),(1,1,(.s 38)),(2,1,(.s 40)),(3,1,(.s 41))]),oo 43 (.call 34 [(.s 32),(.s 42)]),oo 8 (.mov (.s 43)),oo 9 (.mov (.c (.bool true)))]) [8,9] (.ret))))⟩
def tf21 : TFn := ⟨89,[.tmp 6],.seq (.region false [oo 3 (.box 27 (.s 0)),oo 6 (.mov (.c (.int .i64 0)))]) [1,2,3] (.seq (.region false [oo 14 (.mov (.s 2)),oo 15 (.len (.s 14)),oo 16 (.makeSlice 1 3 8 [(.int .i64 0)] (.s 15) (.s 15)),oo 7 (.mov (.s 16))]) [1,2,3,7] (.seq (.seq (
 .region false [oo 17 (.mov (.s 2)),oo 18 (.len (.s 17)),oo 19 (.mov (.c (.int .i64 0)))]) [1,2,3,7,17,18,19] (.block 0 (.loop (.seq (.region false [oo 20 (.bin .lss false (.s 19) (.s 18))]) [1,2,3,7,17,18,19,20] (.seq (.cond (.s 20) (.skip) (.exit 0)) [1,2,3,7,17,18,19] (.seq (.block 1 (.seq (
 .region false [oo 21 (.mov (.s 19)),oo 22 (.indexAddr 2 (.s 17) (.s 19)),oo 23 (.load true 2 (.s 22)),oo 9 (.alloc 48 [(.int .i64 0),(.int .i64 0)]),oo 8 (.mov (.s 21)),⟨none,.store 2 (.s 9) (.s 23),none⟩]) [1,2,3,7,8,9,17,18,19] (.region false [oo 24 (.mov (.s 7)),oo 25 (.mov (.s 8)),
 oo 26 (.load true 1 (.s 3)),oo 27 (.fieldAddr 0 (.s 9)),oo 28 (.load false 1 (.s 27)),oo 29 (.call 31 [(.s 26),(.s 28)]),oo 30 (.indexAddr 1 (.s 24) (.s 25)),⟨none,.store 1 (.s 30) (.s 29),none⟩]))) [1,2,3,7,17,18,19] (.region false [oo 31 (.bin .add false (.s 19) (.c (.int .i64 1))),
 oo 19 (.mov (.s 31))]))))))) [1,2,7] (.seq (.seq (.region false [oo 32 (.mov (.s 1)),oo 33 (.len (.s 32)),oo 34 (.bin .add false (.s 33) (.c (.int .i64 1))),oo 35 (.mov (.c (.int .i64 0)))]) [1,2,7,34,35] (.block 2 (.loop (.seq (
 .region false [oo 36 (.bin .lss false (.s 35) (.s 34))]) [1,2,7,34,35,36] (.seq (.cond (.s 36) (.skip) (.exit 2)) [1,2,7,34,35] (.seq (.block 3 (.seq (.region false [oo 37 (.mov (.s 35)),oo 10 (.mov (.s 37))]) [1,2,7,10,34,35] (.seq (
 .region false [oo 11 (.mov (.c (.bool true)))]) [1,2,7,10,11,34,35] (.seq (.seq (.region false [oo 38 (.mov (.s 2)),oo 39 (.len (.s 38)),oo 40 (.mov (.c (.int .i64 0)))]) [1,2,7,10,11,34,35,38,39,40] (.block 4 (.loop (.seq (
 .region false [oo 41 (.bin .lss false (.s 40) (.s 39))]) [1,2,7,10,11,34,35,38,39,40,41] (.seq (.cond (.s 41) (.skip) (.exit 4)) [1,2,7,10,11,34,35,38,39,40] (.seq (.block 5 (.seq (.region false [oo 42 (.mov (.s 40)),oo 43 (.indexAddr 2 (.s 38) (.s 40)),oo 44 (.load true 2 (.s 43)),
 oo 13 (.alloc 48 [(.int .i64 0),(.int .i64 0)]),oo 12 (.mov (.s 42)),⟨none,.store 2 (.s 13) (.s 44),none⟩]) [1,2,7,10,11,12,13,34,35,38,39,40] (.seq (.seq (.region true [oo 45 (.mov (.s 10)),oo 46 (.bin .gtr false (.s 45) (.c (.int .i64 0))),oo 47 (.mov (.s 46)),oT 48 47 (.mov (.s 1)),
 oT 49 47 (.mov (.s 10)),oT 50 47 (.bin .sub false (.s 49) (.c (.int .i64 1))),oT 51 47 (.indexAddr 4 (.s 48) (.s 50)),oT 52 47 (.fieldAddr 0 (.s 51)),oT 53 47 (.load false 1 (.s 52)),oT 54 47 (.fieldAddr 0 (.s 13)),oT 55 47 (.load false 1 (.s 54)),oT 56 47 (.bin .eql false (.s 53) (.s 55)),
 oo 57 (.pick (.s 47) (.s 56) (.c (.bool false))),oo 58 (.mov (.s 57)),oT 59 58 (.mov (.s 7)),oT 60 58 (.mov (.s 12)),oT 61 58 (.indexAddr 1 (.s 59) (.s 60)),oT 62 58 (.load false 1 (.s 61)),oT 63 58 (.bin .neq false (.s 62) (.c (.int .i64 0))),
 oo 64 (.pick (.s 58) (.s 63) (.c (.bool false)))]) [1,2,7,10,11,12,13,34,35,38,39,40,64] (.cond (.s 64) (.region false [oo 65 (.mov (.s 7)),oo 66 (.mov (.s 12)),oo 67 (.mov (.s 1)),oo 68 (.mov (.s 10)),oo 69 (.bin .sub false (.s 68) (.c (.int .i64 1))),oo 70 (.indexAddr 4 (.s 67) (.s 69)),
 oo 71 (.fieldAddr 1 (.s 70)),oo 72 (.load false 1 (.s 71)),oo 73 (.indexAddr 1 (.s 65) (.s 66)),⟨none,.store 1 (.s 73) (.s 72),none⟩]) (.skip))) [1,2,7,10,11,12,13,34,35,38,39,40] (.region true [oo 74 (.mov (.s 11)),oo 75 (.mov (.s 74)),oT 76 75 (.mov (.s 7)),oT 77 75 (.mov (.s 12)),
 oT 78 75 (.indexAddr 1 (.s 76) (.s 77)),oT 79 75 (.load false 1 (.s 78)),oT 80 75 (.fieldAddr 1 (.s 13)),oT 81 75 (.load false 1 (.s 80)),oT 82 75 (.call 38 [(.s 79),(.s 81)]),oT 83 75 (.bin .eql false (.s 82) (.c (.int .i64 2))),oo 84 (.pick (.s 75) (.s 83) (.c (.bool false))),
 oo 11 (.mov (.s 84))])))) [1,2,7,10,11,34,35,38,39,40] (.region false [oo 85 (.bin .add false (.s 40) (.c (.int .i64 1))),oo 40 (.mov (.s 85))]))))))) [1,2,7,10,11,34,35] (.seq (.region false [oo 86 (.mov (.s 11))]) [1,2,7,10,34,35,86] (.cond (.s 86) (.seq (.region false [oo 87 (.mov (.s 10)),
 oo 6 (.mov (.s 87))]) [6] (.ret)) (.skip))))))) [1,2,7,34,35] (.region false [oo 88 (.bin .add false (.s 35) (.c (.int .i64 1))),oo 35 (.mov (.s 88))]))))))) [] (.seq (.region false [oo 6 (.mov (.c (.int .i64 (-1))))]) [6] (.ret)))))⟩
def tf22 : TFn := ⟨100,[.tmp 4],.seq (.region false [oo 4 (.mov (.c (.fsl [])))]) [0,1] (.seq (.region false [oo 14 (.buildSlice 1 9 [(.c (.str [97,110,116])),(.c (.str [98,101,101])),(.c (.str [99,111,119])),(.c (.str [100,111,103])),(.c (.str [101,108,107]))]),oo 5 (.mov (.s 14))]) [0,1,5] (
 .seq (.region false [oo 15 (.build [(.int .i64 0),(.int .i64 0),(.int .i64 0),(.str []),(.str []),(.int .i64 0),(.fsl []),(.fsl [])] [(5,1,(.c (.int .i64 (-1))))]),oo 16 (.buildSlice 8 63 [(.s 15)]),oo 17 (.build [(.str []),(.str []),(.fsl [])] [(2,1,(.s 16))]),oo 18 (.buildSlice 3 37 [(.s 17)]),
 oo 6 (.mov (.s 18))]) [0,1,5,6] (.seq (.region false [oo 19 (.call 37 []),oo 7 (.mov (.s 19))]) [0,1,5,6,7] (.seq (.seq (.region false [oo 8 (.mov (.c (.int .i64 0)))]) [0,1,5,6,7,8] (.block 0 (.loop (.seq (.seq (.region false [oo 20 (.mov (.s 8)),oo 21 (.mov (.s 0)),oo 22 (.mov (.s 1)),
 oo 23 (.call 25 [(.s 21),(.s 22)]),oo 24 (.bin .add false (.c (.int .i64 1)) (.s 23)),oo 25 (.bin .lss false (.s 20) (.s 24)),oo 26 (.mov (.s 25)),oT 27 26 (.mov (.s 8)),oT 28 26 (.mov (.s 5)),oT 29 26 (.len (.s 28)),oT 30 26 (.bin .lss false (.s 27) (.s 29)),
 oo 31 (.pick (.s 26) (.s 30) (.c (.bool false)))]) [0,1,5,6,7,8,31] (.cond (.s 31) (.skip) (.exit 0))) [0,1,5,6,7,8] (.seq (.block 1 (.seq (.region false [oo 9 (.mov (.c (.fsl [])))]) [0,1,5,6,7,8,9] (.seq (.region false [oo 34 (.mov (.s 0)),oo 35 (.call 25 [(.s 34),(.c (.int .i64 16))]),
 oo 10 (.mov (.s 35))]) [0,1,5,6,7,8,9,10] (.seq (.seq (.region false [oo 11 (.mov (.c (.int .i64 0)))]) [0,1,5,6,7,8,9,10,11] (.block 2 (.loop (.seq (.seq (.region false [oo 36 (.mov (.s 11)),oo 37 (.mov (.s 7)),oo 38 (.len (.s 37)),
 oo 39 (.bin .lss false (.s 36) (.s 38))]) [0,1,5,6,7,8,9,10,11,39] (.cond (.s 39) (.skip) (.exit 2))) [0,1,5,6,7,8,9,10,11] (.seq (.block 3 (.seq (.region false [oo 42 (.mov (.s 10)),oo 43 (.mov (.s 11)),oo 44 (.conv .u64 (.s 43)),oo 45 (.bin .shr false (.s 42) (.s 44)),
 oo 46 (.bin .and false (.s 45) (.c (.int .i64 1))),oo 47 (.bin .eql false (.s 46) (.c (.int .i64 1)))]) [0,1,5,6,7,8,9,10,11,47] (.cond (.s 47) (.region false [oo 48 (.mov (.s 9)),oo 49 (.mov (.s 7)),oo 50 (.mov (.s 11)),oo 51 (.indexAddr 5 (.s 49) (.s 50)),oo 52 (.load true 5 (.s 51)),
 oo 53 (.build [(.int .i64 0),(.int .i64 0),(.int .i64 0),(.str []),(.str []),(.int .i64 0),(.fsl []),(.fsl [])] [(0,5,(.s 52))]),oo 54 (.buildSlice 8 63 [(.s 53)]),oo 55 (.append 8 63 112 (.s 48) (.s 54)),oo 9 (.mov (.s 55))]) (.skip)))) [0,1,5,6,7,8,9,10,11] (.region false [oo 40 (.mov (.s 11)),
 oo 41 (.bin .add false (.s 40) (.c (.int .i64 1))),oo 11 (.mov (.s 41))])))))) [0,1,5,6,7,8,9] (.seq (.region false [oo 56 (.mov (.s 6)),oo 57 (.mov (.s 5)),oo 58 (.mov (.s 8)),oo 59 (.indexAddr 1 (.s 57) (.s 58)),oo 60 (.load false 1 (.s 59)),oo 61 (.mov (.s 9)),
 oo 62 (.build [(.str []),(.str []),(.fsl [])] [(0,1,(.s 60)),(2,1,(.s 61))]),oo 63 (.buildSlice 3 37 [(.s 62)]),oo 64 (.append 3 37 56 (.s 56) (.s 63)),oo 6 (.mov (.s 64))]) [0,1,5,6,7,8,9] (.seq (.region false [oo 65 (.mov (.s 8)),oo 66 (.bin .lss false (.s 65) (.c (.int .i64 2))),
 oo 67 (.mov (.s 66)),oT 68 67 (.mov (.s 0)),oT 69 67 (.call 25 [(.s 68),(.c (.int .i64 3))]),oT 70 67 (.bin .eql false (.s 69) (.c (.int .i64 0))),oo 71 (.pick (.s 67) (.s 70) (.c (.bool false)))]) [0,1,5,6,7,8,9,71] (.cond (.s 71) (.seq (
 .region false [oo 12 (.mov (.c (.fsl [])))]) [0,1,5,6,7,8,9,12] (.seq (.seq (.region false [oo 13 (.mov (.c (.int .i64 0)))]) [0,1,5,6,7,8,9,12,13] (.block 4 (.loop (.seq (.seq (.region false [oo 72 (.mov (.s 13)),oo 73 (.mov (.s 9)),oo 74 (.len (.s 73)),
 oo 75 (.bin .lss false (.s 72) (.s 74))]) [0,1,5,6,7,8,9,12,13,75] (.cond (.s 75) (.skip) (.exit 4))) [0,1,5,6,7,8,9,12,13] (.seq (.block 5 (.seq (.region false [oo 78 (.mov (.s 0)),oo 79 (.call 25 [(.s 78),(.c (.int .i64 3))]),
 oo 80 (.bin .gtr false (.s 79) (.c (.int .i64 0)))]) [0,1,5,6,7,8,9,12,13,80] (.cond (.s 80) (.region false [oo 81 (.mov (.s 12)),oo 82 (.mov (.s 9)),oo 83 (.mov (.s 13)),oo 84 (.indexAddr 8 (.s 82) (.s 83)),oo 85 (.fieldAddr 0 (.s 84)),oo 86 (.load true 5 (.s 85)),
 oo 87 (.build [(.int .i64 0),(.int .i64 0),(.int .i64 0),(.str []),(.str []),(.int .i64 0),(.fsl []),(.fsl [])] [(0,5,(.s 86))]),oo 88 (.buildSlice 8 63 [(.s 87)]),oo 89 (.append 8 63 112 (.s 81) (.s 88)),oo 12 (.mov (.s 89))]) (.skip)))) [0,1,5,6,7,8,9,12,13] (.region false [oo 76 (.mov (.s 13)),
 oo 77 (.bin .add false (.s 76) (.c (.int .i64 1))),oo 13 (.mov (.s 77))])))))) [0,1,5,6,7,8,12] (.region false [oo 90 (.mov (.s 6)),oo 91 (.mov (.s 5)),oo 92 (.mov (.s 8)),oo 93 (.indexAddr 1 (.s 91) (.s 92)),oo 94 (.load false 1 (.s 93)),oo 95 (.mov (.s 12)),
 oo 96 (.build [(.str []),(.str []),(.fsl [])] [(0,1,(.s 94)),(1,1,(.c (.str [102]))),(2,1,(.s 95))]),oo 97 (.buildSlice 3 37 [(.s 96)]),oo 98 (.append 3 37 56 (.s 90) (.s 97)),oo 6 (.mov (.s 98))]))) (.skip)))))))) [0,1,5,6,7,8] (.region false [oo 32 (.mov (.s 8)),
 oo 33 (.bin .add false (.s 32) (.c (.int .i64 1))),oo 8 (.mov (.s 33))])))))) [6] (.seq (.region false [oo 99 (.mov (.s 6)),oo 4 (.mov (.s 99))]) [4] (.ret))))))⟩
def tf23 : TFn := ⟨36,[.tmp 6],.seq (.region false [oo 6 (.mov (.c (.fsl [])))]) [0,1,2] (.seq (.region false [oo 7 (.mov (.c (.fsl [])))]) [0,1,2,7] (.seq (.seq (.region false [oo 10 (.mov (.s 0)),oo 11 (.mov (.s 2)),oo 12 (.bin .add false (.s 11) (.c (.int .i64 1))),
 oo 13 (.call 25 [(.s 10),(.s 12)]),oo 8 (.mov (.s 13))]) [0,1,7,8] (.block 0 (.loop (.seq (.seq (.region false [oo 14 (.mov (.s 8)),oo 15 (.bin .gtr false (.s 14) (.c (.int .i64 0)))]) [0,1,7,8,15] (.cond (.s 15) (.skip) (.exit 0))) [0,1,7,8] (.seq (.block 1 (.seq (
 .region false [oo 18 (.mov (.s 0)),oo 19 (.mov (.s 1)),oo 20 (.call 26 [(.s 18),(.s 19)]),oo 21 (.buildSlice 3 70 [(.s 20)]),oo 9 (.mov (.s 21))]) [0,1,7,8,9] (.seq (.seq (.region false [oo 22 (.mov (.s 0)),oo 23 (.call 25 [(.s 22),(.c (.int .i64 3))]),
 oo 24 (.bin .eql false (.s 23) (.c (.int .i64 0)))]) [0,1,7,8,9,24] (.cond (.s 24) (.region false [oo 25 (.mov (.s 9)),oo 26 (.mov (.s 0)),oo 27 (.mov (.s 1)),oo 28 (.call 26 [(.s 26),(.s 27)]),oo 29 (.buildSlice 3 70 [(.s 28)]),oo 30 (.append 3 70 56 (.s 25) (.s 29)),oo 9 (.mov (.s 30))]) (
 .skip))) [0,1,7,8,9] (.region false [oo 31 (.mov (.s 7)),oo 32 (.mov (.s 9)),oo 33 (.buildSlice 1 61 [(.s 32)]),oo 34 (.append 1 61 24 (.s 31) (.s 33)),oo 7 (.mov (.s 34))])))) [0,1,7,8] (.region false [oo 16 (.mov (.s 8)),oo 17 (.bin .sub false (.s 16) (.c (.int .i64 1))),
 oo 8 (.mov (.s 17))])))))) [7] (.seq (.region false [oo 35 (.mov (.s 7)),oo 6 (.mov (.s 35))]) [6] (.ret))))⟩
def tf24 : TFn := ⟨24,[.cell 2 true 2],.seq (.region false [oo 1 (.box 60 (.s 0)),oo 2 (.alloc 67 [(.fsl []),(.fsl [])])]) [1,2] (.seq (.seq (.region false [oo 3 (.load true 5 (.s 1)),oo 4 (.call 39 [(.s 3)]),oo 5 (.un .not (.s 4))]) [1,2,5] (.cond (.s 5) (.seq (.region false [oo 6 (.call 40 []),
 ⟨none,.store 2 (.s 2) (.s 6),none⟩]) [2] (.ret)) (.skip))) [1,2] (.seq (.seq (.region false [oo 7 (.fieldAddr 3 (.s 1)),oo 8 (.load false 1 (.s 7)),oo 9 (.bin .neq false (.s 8) (.c (.str [])))]) [1,2,9] (.cond (.s 9) (.seq (.region true [oo 10 (.load true 5 (.s 1)),oo 11 (.call 41 [(.s 10)]),
 oo 12 (.load true 5 (.s 1)),oo 13 (.call 42 [(.s 12)]),oo 14 (.build [(.int .i64 0),(.int .i64 0),(.int .i64 0),(.int .i64 0),(.str []),(.str []),(.bool false),(.int .i64 0),(.int .i64 0),(.int .i64 0),(.int .i64 0),(.str []),(.str []),(.bool false)] [(0,7,(.s 11)),(7,7,(.s 13))]),
 oo 15 (.buildSlice 14 90 [(.s 14)]),oo 16 (.build [(.fsl []),(.fsl [])] [(1,1,(.s 15))]),⟨none,.store 2 (.s 2) (.s 16),none⟩]) [2] (.ret)) (.skip))) [1,2] (.seq (.region true [oo 17 (.load true 5 (.s 1)),oo 18 (.call 43 [(.s 17)]),oo 19 (.load true 5 (.s 1)),oo 20 (.call 44 [(.s 19)]),
 oo 21 (.build [(.int .i64 0),(.int .i64 0),(.int .i64 0),(.int .i64 0),(.str []),(.str []),(.bool false),(.int .i64 0),(.int .i64 0),(.int .i64 0),(.int .i64 0),(.str []),(.str []),(.bool false)] [(0,7,(.s 18)),(7,7,(.s 20))]),oo 22 (.buildSlice 14 90 [(.s 21)]),
 oo 23 (.build [(.fsl []),(.fsl [])] [(0,1,(.s 22))]),⟨none,.store 2 (.s 2) (.s 23),none⟩]) [2] (.ret))))⟩
def tf25 : TFn := ⟨24,[.tmp 4],.seq (.region false [oo 4 (.mov (.c (.int .i64 0)))]) [0,1] (.seq (.region false [oo 5 (.mov (.s 0)),oo 6 (.nilCheck (.s 5)),oo 7 (.fieldAddr 1 (.s 6)),oo 8 (.load false 1 (.s 7)),oo 9 (.bin .add false (.s 8) (.c (.int .i64 1))),oo 10 (.nilCheck (.s 5)),
 oo 11 (.fieldAddr 1 (.s 10)),⟨none,.store 1 (.s 11) (.s 9),none⟩]) [0,1] (.seq (.region true [oo 12 (.mov (.s 0)),oo 13 (.nilCheck (.s 12)),oo 14 (.fieldAddr 0 (.s 13)),oo 15 (.load false 1 (.s 14)),oo 16 (.mov (.s 0)),oo 17 (.nilCheck (.s 16)),oo 18 (.fieldAddr 1 (.s 17)),
 oo 19 (.load false 1 (.s 18)),oo 20 (.bin .sub false (.s 19) (.c (.int .i64 1))),oo 21 (.call 13 [(.s 15),(.s 20)]),oo 22 (.mov (.s 1)),oo 23 (.call 12 [(.s 21),(.s 22)]),oo 4 (.mov (.s 23))]) [4] (.ret)))⟩
def tf26 : TFn := ⟨21,[.cell 4 true 3],.seq (.region false [oo 4 (.alloc 70 [(.int .i64 0),(.fsl []),(.fsl [])])]) [0,1,4] (.seq (.region false [oo 6 (.mov (.s 0)),oo 7 (.mov (.s 1)),oo 8 (.len (.s 7)),oo 9 (.bin .sub false (.s 8) (.c (.int .i64 1))),oo 10 (.call 25 [(.s 6),(.s 9)]),
 oo 11 (.bin .add false (.c (.int .i64 1)) (.s 10)),oo 5 (.mov (.s 11))]) [0,1,4,5] (.seq (.region false [oo 12 (.mov (.s 5)),oo 13 (.mov (.s 0)),oo 14 (.mov (.s 1)),oo 15 (.mov (.s 5)),oo 16 (.indexAddr 3 (.s 14) (.s 15)),oo 17 (.fieldAddr 2 (.s 16)),oo 18 (.load false 1 (.s 17)),
 oo 19 (.call 45 [(.s 13),(.s 18)]),oo 20 (.build [(.int .i64 0),(.fsl []),(.fsl [])] [(0,1,(.s 12)),(1,2,(.s 19))]),⟨none,.store 3 (.s 4) (.s 20),none⟩]) [4] (.ret)))⟩
def tf27 : TFn := ⟨41,[.tmp 6],.seq (.region false [oo 3 (.box 27 (.s 0)),oo 6 (.mov (.c (.int .i64 0)))]) [1,2,3] (.seq (.seq (.region false [oo 8 (.mov (.s 1)),oo 9 (.len (.s 8)),oo 10 (.bin .sub false (.s 9) (.c (.int .i64 1))),oo 7 (.mov (.s 10))]) [1,2,3,7] (.block 0 (.loop (.seq (.seq (
 .region false [oo 11 (.mov (.s 7)),oo 12 (.bin .geq false (.s 11) (.c (.int .i64 0)))]) [1,2,3,7,12] (.cond (.s 12) (.skip) (.exit 0))) [1,2,3,7] (.seq (.block 1 (.seq (.region false [oo 15 (.mov (.s 1)),oo 16 (.mov (.s 7)),oo 17 (.indexAddr 4 (.s 15) (.s 16)),oo 18 (.fieldAddr 0 (.s 17)),
 oo 19 (.load false 1 (.s 18)),oo 20 (.mov (.s 2)),oo 21 (.bin .eql false (.s 19) (.s 20)),oo 22 (.mov (.s 21)),oT 23 22 (.mov (.s 2)),oT 24 22 (.bin .geq false (.s 23) (.c (.int .i64 0))),oo 25 (.pick (.s 22) (.s 24) (.c (.bool false))),oo 26 (.mov (.s 25)),oT 27 26 (.mov (.s 2)),
 oT 28 26 (.fieldAddr 0 (.s 3)),oT 29 26 (.load false 1 (.s 28)),oT 30 26 (.len (.s 29)),oT 31 26 (.bin .lss false (.s 27) (.s 30)),oo 32 (.pick (.s 26) (.s 31) (.c (.bool false)))]) [1,2,3,7,32] (.cond (.s 32) (.seq (.region false [oo 33 (.mov (.s 1)),oo 34 (.mov (.s 7)),
 oo 35 (.indexAddr 4 (.s 33) (.s 34)),oo 36 (.fieldAddr 1 (.s 35)),oo 37 (.load false 1 (.s 36)),oo 6 (.mov (.s 37))]) [6] (.ret)) (.skip)))) [1,2,3,7] (.region false [oo 13 (.mov (.s 7)),oo 14 (.bin .sub false (.s 13) (.c (.int .i64 1))),oo 7 (.mov (.s 14))])))))) [2,3] (.seq (
 .region false [oo 38 (.load true 1 (.s 3)),oo 39 (.mov (.s 2)),oo 40 (.call 18 [(.s 38),(.s 39)]),oo 6 (.mov (.s 40))]) [6] (.ret)))⟩
def tf28 : TFn := ⟨20,[.tmp 2],.seq (.region false [oo 2 (.mov (.c (.fsl [])))]) [0] (.seq (.region false [oo 3 (.mov (.c (.fsl [])))]) [0,3] (.seq (.seq (.region false [oo 4 (.mov (.c (.int .i64 0)))]) [0,3,4] (.block 0 (.loop (.seq (.seq (.region false [oo 5 (.mov (.s 4)),
 oo 6 (.bin .leq false (.s 5) (.c (.int .i64 16)))]) [0,3,4,6] (.cond (.s 6) (.skip) (.exit 0))) [0,3,4] (.seq (.block 1 (.seq (.region false [oo 9 (.mov (.s 0)),oo 10 (.mov (.s 4)),oo 11 (.call 36 [(.s 10)]),oo 12 (.bin .and false (.s 9) (.s 11)),
 oo 13 (.bin .neq false (.s 12) (.c (.int .i64 0)))]) [0,3,4,13] (.cond (.s 13) (.region false [oo 14 (.mov (.s 3)),oo 15 (.mov (.s 4)),oo 16 (.bin .sub false (.s 15) (.c (.int .i64 1))),oo 17 (.buildSlice 1 3 [(.s 16)]),oo 18 (.append 1 3 8 (.s 14) (.s 17)),oo 3 (.mov (.s 18))]) (
 .skip)))) [0,3,4] (.region false [oo 7 (.mov (.s 4)),oo 8 (.bin .add false (.s 7) (.c (.int .i64 1))),oo 4 (.mov (.s 8))])))))) [3] (.seq (.region false [oo 19 (.mov (.s 3)),oo 2 (.mov (.s 19))]) [2] (.ret))))⟩
def tf29 : TFn := ⟨69,[.tmp 6],.seq (.region false [oo 3 (.box 27 (.s 0)),oo 5 (.box 50 (.s 2)),oo 6 (.mov (.c (.bool false)))]) [1,3,5] (.seq (.region false [oo 8 (.load true 1 (.s 3)),oo 9 (.mov (.s 1)),oo 10 (.fieldAddr 0 (.s 5)),oo 11 (.load false 1 (.s 10)),
 oo 12 (.call 32 [(.s 8),(.s 9),(.s 11)]),oo 7 (.mov (.s 12))]) [1,3,5,7] (.seq (.block 0 (.seq (.region false [oo 14 (.load true 1 (.s 3)),oo 15 (.fieldAddr 0 (.s 5)),oo 16 (.load false 1 (.s 15)),oo 17 (.call 31 [(.s 14),(.s 16)]),oo 18 (.bin .eql false (.s 17) (.c (.int .i64 0))),
 oo 19 (.mov (.s 18)),oF 20 19 (.fieldAddr 3 (.s 5)),oF 21 19 (.load false 1 (.s 20)),oF 22 19 (.bin .lss false (.s 21) (.c (.int .i64 (-1)))),oo 23 (.pick (.s 19) (.c (.bool true)) (.s 22)),oo 24 (.mov (.s 23)),oF 25 24 (.fieldAddr 1 (.s 5)),oF 26 24 (.load false 1 (.s 25)),
 oF 27 24 (.bin .eql false (.s 26) (.c (.int .i64 0))),oo 28 (.pick (.s 24) (.c (.bool true)) (.s 27)),oo 29 (.mov (.s 28)),oF 30 29 (.fieldAddr 1 (.s 5)),oF 31 29 (.load false 1 (.s 30)),oF 32 29 (.mov (.s 7)),oF 33 29 (.bin .andNot false (.s 31) (.s 32)),
 oF 34 29 (.bin .neq false (.s 33) (.c (.int .i64 0))),oo 35 (.pick (.s 29) (.c (.bool true)) (.s 34)),oo 13 (.mov (.s 35))]) [1,5,7,13] (.cond (.s 13) (.seq (.region false [oo 6 (.mov (.c (.bool false)))]) [6] (.ret)) (.seq (.region false [oo 37 (.fieldAddr 3 (.s 5)),oo 38 (.load false 1 (.s 37)),
 oo 39 (.bin .eql false (.s 38) (.c (.int .i64 (-1)))),oo 36 (.mov (.s 39))]) [1,5,7,36] (.cond (.s 36) (.seq (.region true [oo 40 (.fieldAddr 1 (.s 5)),oo 41 (.load false 1 (.s 40)),oo 42 (.call 46 [(.s 41)]),oo 43 (.mov (.s 42)),oT 44 43 (.mov (.s 1)),oT 45 43 (.fieldAddr 0 (.s 5)),
 oT 46 43 (.load false 1 (.s 45)),oT 47 43 (.call 33 [(.s 44),(.s 46)]),oT 48 43 (.un .not (.s 47)),oo 49 (.pick (.s 43) (.s 48) (.c (.bool false))),oo 50 (.mov (.s 49)),oT 51 50 (.fieldAddr 2 (.s 5)),oT 52 50 (.load false 1 (.s 51)),oT 53 50 (.mov (.s 1)),oT 54 50 (.call 10 [(.s 53)]),
 oT 55 50 (.bin .add false (.s 54) (.c (.int .i64 1))),oT 56 50 (.bin .eql false (.s 52) (.s 55)),oo 57 (.pick (.s 50) (.s 56) (.c (.bool false))),oo 6 (.mov (.s 57))]) [6] (.ret)) (.skip)))))) [1,5,7] (.seq (.region true [oo 58 (.fieldAddr 1 (.s 5)),oo 59 (.load false 1 (.s 58)),
 oo 60 (.mov (.s 7)),oo 61 (.bin .neq false (.s 59) (.s 60)),oo 62 (.mov (.s 61)),oT 63 62 (.fieldAddr 2 (.s 5)),oT 64 62 (.load false 1 (.s 63)),oT 65 62 (.mov (.s 1)),oT 66 62 (.call 10 [(.s 65)]),oT 67 62 (.bin .eql false (.s 64) (.s 66)),oo 68 (.pick (.s 62) (.s 67) (.c (.bool false))),
 oo 6 (.mov (.s 68))]) [6] (.ret))))⟩
def tf30 : TFn := ⟨85,[.tmp 6],.seq (.region false [oo 3 (.box 27 (.s 0)),oo 5 (.box 50 (.s 2)),oo 6 (.mov (.c (.bool false)))]) [1,3,5] (.seq (.seq (.region false [oo 8 (.fieldAddr 0 (.s 5)),oo 9 (.load false 1 (.s 8)),oo 10 (.bin .lss false (.s 9) (.c (.int .i64 0))),oo 11 (.mov (.s 10)),
 oF 12 11 (.fieldAddr 0 (.s 5)),oF 13 11 (.load false 1 (.s 12)),oF 14 11 (.fieldAddr 0 (.s 3)),oF 15 11 (.load false 1 (.s 14)),oF 16 11 (.len (.s 15)),oF 17 11 (.bin .geq false (.s 13) (.s 16)),oo 18 (.pick (.s 11) (.c (.bool true)) (.s 17)),oo 19 (.mov (.s 18)),oF 20 19 (.fieldAddr 3 (.s 5)),
 oF 21 19 (.load false 1 (.s 20)),oF 22 19 (.bin .lss false (.s 21) (.c (.int .i64 (-1)))),oo 23 (.pick (.s 19) (.c (.bool true)) (.s 22))]) [1,3,5,23] (.cond (.s 23) (.seq (.region false [oo 6 (.mov (.c (.bool false)))]) [6] (.ret)) (.skip))) [1,3,5] (.seq (
 .region false [oo 24 (.load true 1 (.s 3)),oo 25 (.mov (.s 1)),oo 26 (.fieldAddr 0 (.s 5)),oo 27 (.load false 1 (.s 26)),oo 28 (.call 27 [(.s 24),(.s 25),(.s 27)]),oo 7 (.mov (.s 28))]) [1,5,7] (.seq (.seq (.region false [oo 29 (.fieldAddr 3 (.s 5)),oo 30 (.load false 1 (.s 29)),
 oo 31 (.bin .eql false (.s 30) (.c (.int .i64 (-1))))]) [1,5,7,31] (.cond (.s 31) (.seq (.region true [oo 32 (.fieldAddr 1 (.s 5)),oo 33 (.load false 1 (.s 32)),oo 34 (.call 47 [(.s 33)]),oo 35 (.bin .geq false (.s 34) (.c (.int .i64 0))),oo 36 (.mov (.s 35)),oT 37 36 (.fieldAddr 1 (.s 5)),
 oT 38 36 (.load false 1 (.s 37)),oT 39 36 (.mov (.s 7)),oT 40 36 (.bin .and false (.s 38) (.s 39)),oT 41 36 (.fieldAddr 1 (.s 5)),oT 42 36 (.load false 1 (.s 41)),oT 43 36 (.bin .eql false (.s 40) (.s 42)),oo 44 (.pick (.s 36) (.s 43) (.c (.bool false))),oo 45 (.mov (.s 44)),
 oT 46 45 (.mov (.s 1)),oT 47 45 (.fieldAddr 0 (.s 5)),oT 48 45 (.load false 1 (.s 47)),oT 49 45 (.call 48 [(.s 46),(.s 48)]),oT 50 45 (.un .not (.s 49)),oo 51 (.pick (.s 45) (.s 50) (.c (.bool false))),oo 52 (.mov (.s 51)),oT 53 52 (.fieldAddr 2 (.s 5)),oT 54 52 (.load false 1 (.s 53)),
 oT 55 52 (.mov (.s 1)),oT 56 52 (.call 11 [(.s 55)]),oT 57 52 (.bin .add false (.s 56) (.c (.int .i64 1))),oT 58 52 (.bin .eql false (.s 54) (.s 57)),oo 59 (.pick (.s 52) (.s 58) (.c (.bool false))),oo 6 (.mov (.s 59))]) [6] (.ret)) (.skip))) [1,5,7] (.seq (
 .region true [oo 60 (.fieldAddr 1 (.s 5)),oo 61 (.load false 1 (.s 60)),oo 62 (.bin .neq false (.s 61) (.c (.int .i64 0))),oo 63 (.mov (.s 62)),oT 64 63 (.fieldAddr 1 (.s 5)),oT 65 63 (.load false 1 (.s 64)),oT 66 63 (.mov (.s 7)),oT 67 63 (.bin .and false (.s 65) (.s 66)),
 oT 68 63 (.fieldAddr 1 (.s 5)),oT 69 63 (.load false 1 (.s 68)),oT 70 63 (.bin .eql false (.s 67) (.s 69)),oo 71 (.pick (.s 63) (.s 70) (.c (.bool false))),oo 72 (.mov (.s 71)),oT 73 72 (.fieldAddr 1 (.s 5)),oT 74 72 (.load false 1 (.s 73)),oT 75 72 (.mov (.s 7)),
 oT 76 72 (.bin .neq false (.s 74) (.s 75)),oo 77 (.pick (.s 72) (.s 76) (.c (.bool false))),oo 78 (.mov (.s 77)),oT 79 78 (.fieldAddr 2 (.s 5)),oT 80 78 (.load false 1 (.s 79)),oT 81 78 (.mov (.s 1)),oT 82 78 (.call 11 [(.s 81)]),oT 83 78 (.bin .eql false (.s 80) (.s 82)),
 oo 84 (.pick (.s 78) (.s 83) (.c (.bool false))),oo 6 (.mov (.s 84))]) [6] (.ret)))))⟩
def tf31 : TFn := ⟨18,[.tmp 4],.seq (.region false [oo 2 (.box 27 (.s 0)),oo 4 (.mov (.c (.int .i64 0)))]) [1,2] (.seq (.seq (.region false [oo 5 (.load true 1 (.s 2)),oo 6 (.mov (.s 1)),oo 7 (.call 49 [(.s 5),(.s 6)]),oo 8 (.un .not (.s 7))]) [1,2,8] (.cond (.s 8) (.seq (
 .region false [oo 4 (.mov (.c (.int .i64 0)))]) [4] (.ret)) (.skip))) [1,2] (.seq (.region false [oo 9 (.fieldAddr 0 (.s 2)),oo 10 (.load false 1 (.s 9)),oo 11 (.mov (.s 1)),oo 12 (.indexAddr 3 (.s 10) (.s 11)),oo 13 (.fieldAddr 2 (.s 12)),oo 14 (.load false 1 (.s 13)),oo 15 (.len (.s 14)),
 oo 16 (.call 50 [(.s 15)]),oo 17 (.bin .sub false (.s 16) (.c (.int .i64 1))),oo 4 (.mov (.s 17))]) [4] (.ret)))⟩
def tf32 : TFn := ⟨30,[.tmp 6],.seq (.region false [oo 3 (.box 27 (.s 0)),oo 6 (.mov (.c (.int .i64 0)))]) [1,2,3] (.seq (.seq (.region false [oo 8 (.mov (.s 1)),oo 9 (.len (.s 8)),oo 10 (.bin .sub false (.s 9) (.c (.int .i64 1))),oo 7 (.mov (.s 10))]) [1,2,3,7] (.block 0 (.loop (.seq (.seq (
 .region false [oo 11 (.mov (.s 7)),oo 12 (.bin .geq false (.s 11) (.c (.int .i64 0)))]) [1,2,3,7,12] (.cond (.s 12) (.skip) (.exit 0))) [1,2,3,7] (.seq (.block 1 (.seq (.region false [oo 15 (.mov (.s 1)),oo 16 (.mov (.s 7)),oo 17 (.indexAddr 4 (.s 15) (.s 16)),oo 18 (.fieldAddr 0 (.s 17)),
 oo 19 (.load false 1 (.s 18)),oo 20 (.mov (.s 2)),oo 21 (.bin .eql false (.s 19) (.s 20))]) [1,2,3,7,21] (.cond (.s 21) (.seq (.region false [oo 22 (.mov (.s 1)),oo 23 (.mov (.s 7)),oo 24 (.indexAddr 4 (.s 22) (.s 23)),oo 25 (.fieldAddr 1 (.s 24)),oo 26 (.load false 1 (.s 25)),
 oo 6 (.mov (.s 26))]) [6] (.ret)) (.skip)))) [1,2,3,7] (.region false [oo 13 (.mov (.s 7)),oo 14 (.bin .sub false (.s 13) (.c (.int .i64 1))),oo 7 (.mov (.s 14))])))))) [2,3] (.seq (.region false [oo 27 (.load true 1 (.s 3)),oo 28 (.mov (.s 2)),oo 29 (.call 31 [(.s 27),(.s 28)]),
 oo 6 (.mov (.s 29))]) [6] (.ret)))⟩
def tf33 : TFn := ⟨8,[.tmp 4],.seq (.region false [oo 3 (.box 3 (.s 1)),oo 4 (.mov (.c (.bool false)))]) [0,3] (.seq (.region false [oo 5 (.mov (.s 0)),oo 6 (.mkfn 52 [(.s 3)]),oo 7 (.call 51 [(.s 5),(.s 6)]),oo 4 (.mov (.s 7))]) [4] (.ret))⟩
def tf34 : TFn := ⟨14,[.tmp 4],.seq (.region false [oo 3 (.box 50 (.s 1)),oo 4 (.mov (.c (.fsl [])))]) [0,3] (.seq (.region true [oo 5 (.mov (.s 0)),oo 6 (.mov (.s 0)),oo 7 (.len (.s 6)),oo 8 (.mov (.s 0)),oo 9 (.len (.s 8)),oo 10 (.slice 4 (.s 5) none (some (.s 7)) (some (.s 9))),
 oo 11 (.load true 4 (.s 3)),oo 12 (.buildSlice 4 50 [(.s 11)]),oo 13 (.append 4 50 32 (.s 10) (.s 12)),oo 4 (.mov (.s 13))]) [4] (.ret))⟩
def tf36 : TFn := ⟨13,[.tmp 2],.seq (.region false [oo 2 (.mov (.c (.int .i64 0)))]) [0] (.seq (.region false [oo 3 (.mov (.c (.int .i64 1)))]) [0,3] (.seq (.seq (.region false [oo 4 (.mov (.c (.int .i64 0)))]) [0,3,4] (.block 0 (.loop (.seq (.seq (.region false [oo 5 (.mov (.s 4)),
 oo 6 (.mov (.s 0)),oo 7 (.bin .lss false (.s 5) (.s 6))]) [0,3,4,7] (.cond (.s 7) (.skip) (.exit 0))) [0,3,4] (.seq (.block 1 (.region false [oo 10 (.mov (.s 3)),oo 11 (.bin .mul false (.s 10) (.c (.int .i64 2))),oo 3 (.mov (.s 11))])) [0,3,4] (.region false [oo 8 (.mov (.s 4)),
 oo 9 (.bin .add false (.s 8) (.c (.int .i64 1))),oo 4 (.mov (.s 9))])))))) [3] (.seq (.region false [oo 12 (.mov (.s 3)),oo 2 (.mov (.s 12))]) [2] (.ret))))⟩
def tf37 : TFn := ⟨6,[.tmp 0],.seq (.region false [oo 0 (.mov (.c (.fsl [])))]) [] (.seq (.region false [oo 1 (.build [(.int .i64 0),(.int .i64 0),(.int .i64 0),(.str []),(.str [])] [(0,1,(.c (.int .i64 1)))]),
 oo 2 (.build [(.int .i64 0),(.int .i64 0),(.int .i64 0),(.str []),(.str [])] [(0,1,(.c (.int .i64 1))),(1,1,(.c (.int .i64 2)))]),oo 3 (.build [(.int .i64 0),(.int .i64 0),(.int .i64 0),(.str []),(.str [])] [(0,1,(.c (.int .i64 2))),(3,1,(.c (.str [97,46,49])))]),
 oo 4 (.build [(.int .i64 0),(.int .i64 0),(.int .i64 0),(.str []),(.str [])] [(0,1,(.c (.int .i64 2)))]),oo 5 (.buildSlice 5 60 [(.s 1),(.s 2),(.s 3),(.s 4)]),oo 0 (.mov (.s 5))]) [0] (.ret))⟩
def tf38 : TFn := ⟨15,[.tmp 4],.seq (.region false [oo 4 (.mov (.c (.int .i64 0)))]) [0,1] (.seq (.block 0 (.seq (.region false [oo 6 (.mov (.s 0)),oo 7 (.mov (.s 1)),oo 8 (.bin .andNot false (.s 6) (.s 7)),oo 9 (.bin .eql false (.s 8) (.c (.int .i64 0))),oo 5 (.mov (.s 9))]) [0,1,5] (
 .cond (.s 5) (.seq (.region false [oo 4 (.mov (.c (.int .i64 2)))]) [4] (.ret)) (.seq (.region false [oo 11 (.mov (.s 0)),oo 12 (.mov (.s 1)),oo 13 (.bin .and false (.s 11) (.s 12)),oo 14 (.bin .eql false (.s 13) (.c (.int .i64 0))),oo 10 (.mov (.s 14))]) [10] (.cond (.s 10) (.seq (
 .region false [oo 4 (.mov (.c (.int .i64 0)))]) [4] (.ret)) (.skip)))))) [] (.seq (.region false [oo 4 (.mov (.c (.int .i64 1)))]) [4] (.ret)))⟩
def tf39 : TFn := ⟨26,[.tmp 2],.seq (.region false [oo 1 (.box 60 (.s 0)),oo 2 (.mov (.c (.bool false)))]) [1] (.seq (.region false [oo 3 (.fieldAddr 0 (.s 1)),oo 4 (.load false 1 (.s 3)),oo 5 (.call 54 [(.s 4)]),oo 6 (.mov (.s 5)),oT 7 6 (.fieldAddr 1 (.s 1)),oT 8 6 (.load false 1 (.s 7)),
 oT 9 6 (.call 54 [(.s 8)]),oo 10 (.pick (.s 6) (.s 9) (.c (.bool false))),oo 11 (.mov (.s 10)),oT 12 11 (.fieldAddr 2 (.s 1)),oT 13 11 (.load false 1 (.s 12)),oT 14 11 (.call 54 [(.s 13)]),oo 15 (.pick (.s 11) (.s 14) (.c (.bool false))),oo 16 (.mov (.s 15)),oT 17 16 (.fieldAddr 3 (.s 1)),
 oT 18 16 (.load false 1 (.s 17)),oT 19 16 (.call 55 [(.s 18),(.c (.bool true))]),oo 20 (.pick (.s 16) (.s 19) (.c (.bool false))),oo 21 (.mov (.s 20)),oT 22 21 (.fieldAddr 4 (.s 1)),oT 23 21 (.load false 1 (.s 22)),oT 24 21 (.call 55 [(.s 23),(.c (.bool false))]),
 oo 25 (.pick (.s 21) (.s 24) (.c (.bool false))),oo 2 (.mov (.s 25))]) [2] (.ret))⟩
def tf40 : TFn := ⟨2,[.cell 0 true 2],.seq (.region false [oo 0 (.alloc 67 [(.fsl []),(.fsl [])])]) [0] (.seq (.region false [oo 1 (.build [(.fsl []),(.fsl [])] []),⟨none,.store 2 (.s 0) (.s 1),none⟩]) [0] (.ret))⟩
def tf41 : TFn := ⟨6,[.cell 2 true 7],.seq (.region false [oo 1 (.box 60 (.s 0)),oo 2 (.alloc 87 [(.int .i64 0),(.int .i64 0),(.int .i64 0),(.int .i64 0),(.str []),(.str []),(.bool false)])]) [1,2] (.seq (.region false [oo 3 (.load true 5 (.s 1)),oo 4 (.call 56 [(.s 3)]),
 oo 5 (.build [(.int .i64 0),(.int .i64 0),(.int .i64 0),(.int .i64 0),(.str []),(.str []),(.bool false)] [(1,5,(.s 4))]),⟨none,.store 7 (.s 2) (.s 5),none⟩]) [2] (.ret))⟩
def tf42 : TFn := ⟨6,[.cell 2 true 7],.seq (.region false [oo 1 (.box 60 (.s 0)),oo 2 (.alloc 87 [(.int .i64 0),(.int .i64 0),(.int .i64 0),(.int .i64 0),(.str []),(.str []),(.bool false)])]) [1,2] (.seq (.region false [oo 3 (.load true 5 (.s 1)),oo 4 (.call 56 [(.s 3)]),
 oo 5 (.build [(.int .i64 0),(.int .i64 0),(.int .i64 0),(.int .i64 0),(.str []),(.str []),(.bool false)] [(1,5,(.s 4)),(6,1,(.c (.bool true)))]),⟨none,.store 7 (.s 2) (.s 5),none⟩]) [2] (.ret))⟩
def tf43 : TFn := ⟨14,[.cell 2 true 7],.seq (.region false [oo 1 (.box 60 (.s 0)),oo 2 (.alloc 87 [(.int .i64 0),(.int .i64 0),(.int .i64 0),(.int .i64 0),(.str []),(.str []),(.bool false)])]) [1,2] (.seq (.seq (.region false [oo 3 (.load true 5 (.s 1)),oo 4 (.call 57 [(.s 3)])]) [1,2,4] (
 .cond (.s 4) (.seq (.region false [oo 5 (.call 58 []),⟨none,.store 7 (.s 2) (.s 5),none⟩]) [2] (.ret)) (.skip))) [1,2] (.seq (.region false [oo 6 (.fieldAddr 0 (.s 1)),oo 7 (.load false 1 (.s 6)),oo 8 (.fieldAddr 1 (.s 1)),oo 9 (.load false 1 (.s 8)),oo 10 (.fieldAddr 2 (.s 1)),
 oo 11 (.load false 1 (.s 10)),oo 12 (.build [(.int .i64 0),(.int .i64 0),(.int .i64 0),(.str []),(.str [])] [(0,1,(.s 7)),(1,1,(.s 9)),(2,1,(.s 11))]),oo 13 (.call 41 [(.s 12)]),⟨none,.store 7 (.s 2) (.s 13),none⟩]) [2] (.ret)))⟩
def tf44 : TFn := ⟨21,[.cell 2 true 7],.seq (.region false [oo 1 (.box 60 (.s 0)),oo 2 (.alloc 87 [(.int .i64 0),(.int .i64 0),(.int .i64 0),(.int .i64 0),(.str []),(.str []),(.bool false)])]) [1,2] (.seq (.region false [oo 6 (.fieldAddr 0 (.s 1)),oo 7 (.load false 1 (.s 6)),
 oo 8 (.fieldAddr 1 (.s 1)),oo 9 (.load false 1 (.s 8)),oo 10 (.fieldAddr 2 (.s 1)),oo 11 (.load false 1 (.s 10)),oo 12 (.build [(.int .i64 0),(.int .i64 0),(.int .i64 0),(.str []),(.str [])] [(0,1,(.s 7)),(1,1,(.s 9)),(2,1,(.s 11))]),oo 13 (.call 59 [(.s 12)]),oo 5 (.mov (.s 13)),
 oo 14 (.extract 0 (.s 5)),oo 15 (.extract 1 (.s 5)),oo 3 (.alloc 60 [(.int .i64 0),(.int .i64 0),(.int .i64 0),(.str []),(.str [])]),⟨none,.store 5 (.s 3) (.s 14),none⟩,oo 4 (.mov (.s 15))]) [2,3,4] (.seq (.seq (.region false [oo 16 (.mov (.s 4)),oo 17 (.un .not (.s 16))]) [2,3,17] (
 .cond (.s 17) (.seq (.region false [oo 18 (.call 60 []),⟨none,.store 7 (.s 2) (.s 18),none⟩]) [2] (.ret)) (.skip))) [2,3] (.seq (.region false [oo 19 (.load true 5 (.s 3)),oo 20 (.call 41 [(.s 19)]),⟨none,.store 7 (.s 2) (.s 20),none⟩]) [2] (.ret))))⟩
def tf45 : TFn := ⟨41,[.cell 4 true 2],.seq (.region false [oo 4 (.alloc 67 [(.fsl []),(.fsl [])])]) [0,1,4] (.seq (.region false [oo 8 (.mov (.s 0)),oo 9 (.call 25 [(.s 8),(.c (.int .i64 8))]),oo 5 (.mov (.s 9))]) [0,1,4,5] (.seq (.region false [oo 10 (.call 40 []),
 oo 6 (.alloc 67 [(.fsl []),(.fsl [])]),⟨none,.store 2 (.s 6) (.s 10),none⟩]) [0,1,4,5,6] (.seq (.seq (.region false [oo 7 (.mov (.c (.int .i64 0)))]) [0,1,4,5,6,7] (.block 0 (.loop (.seq (.seq (.region false [oo 11 (.mov (.s 7)),oo 12 (.mov (.s 1)),oo 13 (.len (.s 12)),
 oo 14 (.bin .lss false (.s 11) (.s 13))]) [0,1,4,5,6,7,14] (.cond (.s 14) (.skip) (.exit 0))) [0,1,4,5,6,7] (.seq (.block 1 (.seq (.region false [oo 17 (.mov (.s 5)),oo 18 (.mov (.s 7)),oo 19 (.conv .u64 (.s 18)),oo 20 (.bin .shr false (.s 17) (.s 19)),
 oo 21 (.bin .and false (.s 20) (.c (.int .i64 1))),oo 22 (.bin .eql false (.s 21) (.c (.int .i64 1)))]) [0,1,4,5,6,7,22] (.cond (.s 22) (.region true [oo 23 (.load true 2 (.s 6)),oo 24 (.mov (.s 1)),oo 25 (.mov (.s 7)),oo 26 (.indexAddr 8 (.s 24) (.s 25)),oo 27 (.fieldAddr 0 (.s 26)),
 oo 28 (.load true 5 (.s 27)),oo 29 (.call 24 [(.s 28)]),oo 30 (.call 61 [(.s 23),(.s 29)]),⟨none,.store 2 (.s 6) (.s 30),none⟩]) (.skip)))) [0,1,4,5,6,7] (.region false [oo 15 (.mov (.s 7)),oo 16 (.bin .add false (.s 15) (.c (.int .i64 1))),oo 7 (.mov (.s 16))])))))) [0,4,6] (.seq (.seq (
 .region false [oo 31 (.mov (.s 0)),oo 32 (.call 25 [(.s 31),(.c (.int .i64 6))])]) [4,6,32] (.block 2 (.seq (.region false [oo 34 (.bin .eql false (.s 32) (.c (.int .i64 0))),oo 33 (.mov (.s 34))]) [4,6,32,33] (.cond (.s 33) (.seq (.region false [oo 35 (.call 62 []),
 ⟨none,.store 2 (.s 4) (.s 35),none⟩]) [4] (.ret)) (.seq (.region false [oo 37 (.bin .eql false (.s 32) (.c (.int .i64 1))),oo 36 (.mov (.s 37))]) [4,6,36] (.cond (.s 36) (.seq (.region false [oo 38 (.load true 2 (.s 6)),oo 39 (.call 63 [(.s 38)]),⟨none,.store 2 (.s 4) (.s 39),none⟩]) [4] (.ret)) (
 .skip))))))) [4,6] (.seq (.region false [oo 40 (.load true 2 (.s 6)),⟨none,.store 2 (.s 4) (.s 40),none⟩]) [4] (.ret))))))⟩
def tf46 : TFn := ⟨12,[.tmp 2],.seq (.region false [oo 2 (.mov (.c (.bool false)))]) [0] (.seq (.region false [oo 3 (.mov (.s 0)),oo 4 (.bin .gtr false (.s 3) (.c (.int .i64 1))),oo 5 (.mov (.s 4)),oT 6 5 (.mov (.s 0)),oT 7 5 (.mov (.s 0)),oT 8 5 (.bin .sub false (.s 7) (.c (.int .i64 1))),
 oT 9 5 (.bin .and false (.s 6) (.s 8)),oT 10 5 (.bin .eql false (.s 9) (.c (.int .i64 0))),oo 11 (.pick (.s 5) (.s 10) (.c (.bool false))),oo 2 (.mov (.s 11))]) [2] (.ret))⟩
def tf47 : TFn := ⟨12,[.tmp 2],.seq (.region false [oo 2 (.mov (.c (.int .i64 0)))]) [0] (.seq (.region false [oo 4 (.mov (.s 0)),oo 5 (.call 28 [(.s 4)]),oo 3 (.mov (.s 5))]) [3] (.seq (.seq (.region false [oo 6 (.mov (.s 3)),oo 7 (.len (.s 6)),
 oo 8 (.bin .neq false (.s 7) (.c (.int .i64 1)))]) [3,8] (.cond (.s 8) (.seq (.region false [oo 2 (.mov (.c (.int .i64 (-1))))]) [2] (.ret)) (.skip))) [3] (.seq (.region false [oo 9 (.mov (.s 3)),oo 10 (.indexAddr 1 (.s 9) (.c (.int .i64 0))),oo 11 (.load false 1 (.s 10)),
 oo 2 (.mov (.s 11))]) [2] (.ret))))⟩
def tf48 : TFn := ⟨27,[.tmp 4],.seq (.region false [oo 4 (.mov (.c (.bool false)))]) [0,1] (.seq (.seq (.region false [oo 5 (.mov (.c (.int .i64 0)))]) [0,1,5] (.block 0 (.loop (.seq (.seq (.region false [oo 6 (.mov (.s 5)),oo 7 (.mov (.s 0)),oo 8 (.len (.s 7)),
 oo 9 (.bin .lss false (.s 6) (.s 8))]) [0,1,5,9] (.cond (.s 9) (.skip) (.exit 0))) [0,1,5] (.seq (.block 1 (.seq (.region false [oo 12 (.mov (.s 0)),oo 13 (.mov (.s 5)),oo 14 (.indexAddr 4 (.s 12) (.s 13)),oo 15 (.fieldAddr 0 (.s 14)),oo 16 (.load false 1 (.s 15)),oo 17 (.mov (.s 1)),
 oo 18 (.bin .eql false (.s 16) (.s 17)),oo 19 (.mov (.s 18)),oT 20 19 (.mov (.s 0)),oT 21 19 (.mov (.s 5)),oT 22 19 (.indexAddr 4 (.s 20) (.s 21)),oT 23 19 (.fieldAddr 3 (.s 22)),oT 24 19 (.load false 1 (.s 23)),oT 25 19 (.bin .eql false (.s 24) (.c (.int .i64 (-1)))),
 oo 26 (.pick (.s 19) (.s 25) (.c (.bool false)))]) [0,1,5,26] (.cond (.s 26) (.seq (.region false [oo 4 (.mov (.c (.bool true)))]) [4] (.ret)) (.skip)))) [0,1,5] (.region false [oo 10 (.mov (.s 5)),oo 11 (.bin .add false (.s 10) (.c (.int .i64 1))),oo 5 (.mov (.s 11))])))))) [] (.seq (
 .region false [oo 4 (.mov (.c (.bool false)))]) [4] (.ret)))⟩
def tf49 : TFn := ⟨14,[.tmp 4],.seq (.region false [oo 2 (.box 27 (.s 0)),oo 4 (.mov (.c (.bool false)))]) [1,2] (.seq (.region false [oo 5 (.mov (.s 1)),oo 6 (.bin .geq false (.s 5) (.c (.int .i64 0))),oo 7 (.mov (.s 6)),oT 8 7 (.mov (.s 1)),oT 9 7 (.fieldAddr 0 (.s 2)),
 oT 10 7 (.load false 1 (.s 9)),oT 11 7 (.len (.s 10)),oT 12 7 (.bin .lss false (.s 8) (.s 11)),oo 13 (.pick (.s 7) (.s 12) (.c (.bool false))),oo 4 (.mov (.s 13))]) [4] (.ret))⟩
def tf50 : TFn := ⟨6,[.tmp 2],.seq (.region false [oo 2 (.mov (.c (.int .i64 0)))]) [0] (.seq (.region false [oo 3 (.mov (.s 0)),oo 4 (.bin .add false (.s 3) (.c (.int .i64 1))),oo 5 (.bin .shl false (.c (.int .i64 1)) (.s 4)),oo 2 (.mov (.s 5))]) [2] (.ret))⟩
def tf51 : TFn := ⟨9,[.tmp 4],.seq (.region false [oo 4 (.mov (.c (.bool false)))]) [0,1] (.seq (.region false [oo 5 (.mov (.s 0)),oo 6 (.mov (.s 1)),oo 7 (.call 64 [(.s 5),(.s 6)]),oo 8 (.bin .geq false (.s 7) (.c (.int .i64 0))),oo 4 (.mov (.s 8))]) [4] (.ret))⟩
def tf52 : TFn := ⟨13,[.tmp 3],.seq (.region false [oo 2 (.box 50 (.s 0)),oo 3 (.mov (.c (.bool false)))]) [1,2] (.seq (.region false [oo 4 (.fieldAddr 3 (.s 2)),oo 5 (.load false 1 (.s 4)),oo 6 (.bin .eql false (.s 5) (.c (.int .i64 (-1)))),oo 7 (.mov (.s 6)),oT 8 7 (.fieldAddr 0 (.s 2)),
 oT 9 7 (.load false 1 (.s 8)),oT 10 7 (.load false 1 (.s 1)),oT 11 7 (.bin .eql false (.s 9) (.s 10)),oo 12 (.pick (.s 7) (.s 11) (.c (.bool false))),oo 3 (.mov (.s 12))]) [3] (.ret))⟩
def tf54 : TFn := ⟨9,[.tmp 2],.seq (.region false [oo 2 (.mov (.c (.bool false)))]) [0] (.seq (.region false [oo 3 (.mov (.s 0)),oo 4 (.bin .geq false (.s 3) (.c (.int .i64 0))),oo 5 (.mov (.s 4)),oT 6 5 (.mov (.s 0)),oT 7 5 (.bin .leq false (.s 6) (.c (.int .i64 9999))),
 oo 8 (.pick (.s 5) (.s 7) (.c (.bool false))),oo 2 (.mov (.s 8))]) [2] (.ret))⟩
def tf55 : TFn := ⟨48,[.tmp 4],.seq (.region false [oo 4 (.mov (.c (.bool false)))]) [0,1] (.seq (.seq (.region false [oo 9 (.mov (.s 0)),oo 10 (.bin .eql false (.s 9) (.c (.str [])))]) [0,1,10] (.cond (.s 10) (.seq (.region false [oo 4 (.mov (.c (.bool true)))]) [4] (.ret)) (.skip))) [0,1] (.seq (
 .region false [oo 11 (.mov (.s 0)),oo 12 (.call 65 [(.s 11),(.c (.int .u8 46))]),oo 5 (.mov (.s 12))]) [1,5] (.seq (.seq (.region false [oo 13 (.mov (.s 5)),oo 14 (.len (.s 13)),oo 15 (.bin .gtr false (.s 14) (.c (.int .i64 4)))]) [1,5,15] (.cond (.s 15) (.seq (
 .region false [oo 4 (.mov (.c (.bool false)))]) [4] (.ret)) (.skip))) [1,5] (.seq (.seq (.region false [oo 6 (.mov (.c (.int .i64 0)))]) [1,5,6] (.block 0 (.loop (.seq (.seq (.region false [oo 16 (.mov (.s 6)),oo 17 (.mov (.s 5)),oo 18 (.len (.s 17)),
 oo 19 (.bin .lss false (.s 16) (.s 18))]) [1,5,6,19] (.cond (.s 19) (.skip) (.exit 0))) [1,5,6] (.seq (.block 1 (.seq (.seq (.region false [oo 22 (.mov (.s 5)),oo 23 (.mov (.s 6)),oo 24 (.indexAddr 1 (.s 22) (.s 23)),oo 25 (.load false 1 (.s 24)),oo 26 (.call 66 [(.s 25)]),
 oo 27 (.un .not (.s 26))]) [1,5,6,27] (.cond (.s 27) (.seq (.region false [oo 4 (.mov (.c (.bool false)))]) [4] (.ret)) (.skip))) [1,5,6] (.seq (.region false [oo 29 (.mov (.s 5)),oo 30 (.mov (.s 6)),oo 31 (.indexAddr 1 (.s 29) (.s 30)),oo 32 (.load false 1 (.s 31)),oo 33 (.call 67 [(.s 32)]),
 oo 28 (.mov (.s 33)),oo 34 (.extract 0 (.s 28)),oo 35 (.extract 1 (.s 28)),oo 7 (.mov (.s 34)),oo 8 (.mov (.s 35))]) [1,5,6,8] (.seq (.region false [oo 36 (.mov (.s 1)),oo 37 (.mov (.s 36)),oT 38 37 (.mov (.s 5)),oT 39 37 (.mov (.s 6)),oT 40 37 (.indexAddr 1 (.s 38) (.s 39)),
 oT 41 37 (.load false 1 (.s 40)),oT 42 37 (.call 68 [(.s 41)]),oo 43 (.pick (.s 37) (.s 42) (.c (.bool false))),oo 44 (.mov (.s 43)),oT 45 44 (.mov (.s 8)),oT 46 44 (.un .not (.s 45)),oo 47 (.pick (.s 44) (.s 46) (.c (.bool false)))]) [1,5,6,47] (.cond (.s 47) (.seq (
 .region false [oo 4 (.mov (.c (.bool false)))]) [4] (.ret)) (.skip)))))) [1,5,6] (.region false [oo 20 (.mov (.s 6)),oo 21 (.bin .add false (.s 20) (.c (.int .i64 1))),oo 6 (.mov (.s 21))])))))) [] (.seq (.region false [oo 4 (.mov (.c (.bool true)))]) [4] (.ret))))))⟩
def tf56 : TFn := ⟨5,[.cell 2 true 5],.seq (.region false [oo 1 (.box 60 (.s 0)),oo 2 (.alloc 60 [(.int .i64 0),(.int .i64 0),(.int .i64 0),(.str []),(.str [])])]) [1,2] (.seq (.region false [oo 3 (.fieldAddr 4 (.s 1)),⟨none,.store 1 (.s 3) (.c (.str [])),none⟩]) [1,2] (.seq (
 .region false [oo 4 (.load true 5 (.s 1)),⟨none,.store 5 (.s 2) (.s 4),none⟩]) [2] (.ret)))⟩
def tf57 : TFn := ⟨16,[.tmp 2],.seq (.region false [oo 1 (.box 60 (.s 0)),oo 2 (.mov (.c (.bool false)))]) [1] (.seq (.region false [oo 3 (.fieldAddr 0 (.s 1)),oo 4 (.load false 1 (.s 3)),oo 5 (.bin .eql false (.s 4) (.c (.int .i64 0))),oo 6 (.mov (.s 5)),oT 7 6 (.fieldAddr 1 (.s 1)),
 oT 8 6 (.load false 1 (.s 7)),oT 9 6 (.bin .eql false (.s 8) (.c (.int .i64 0))),oo 10 (.pick (.s 6) (.s 9) (.c (.bool false))),oo 11 (.mov (.s 10)),oT 12 11 (.fieldAddr 2 (.s 1)),oT 13 11 (.load false 1 (.s 12)),oT 14 11 (.bin .eql false (.s 13) (.c (.int .i64 0))),
 oo 15 (.pick (.s 11) (.s 14) (.c (.bool false))),oo 2 (.mov (.s 15))]) [2] (.ret))⟩
def tf58 : TFn := ⟨2,[.cell 0 true 7],.seq (.region false [oo 0 (.alloc 87 [(.int .i64 0),(.int .i64 0),(.int .i64 0),(.int .i64 0),(.str []),(.str []),(.bool false)])]) [0] (.seq (
 .region false [oo 1 (.build [(.int .i64 0),(.int .i64 0),(.int .i64 0),(.int .i64 0),(.str []),(.str []),(.bool false)] [(0,1,(.c (.int .i64 (-1))))]),⟨none,.store 7 (.s 0) (.s 1),none⟩]) [0] (.ret))⟩
def tf59 : TFn := ⟨34,[.cell 2 true 5,.tmp 3],.seq (.region false [oo 1 (.box 60 (.s 0)),oo 2 (.alloc 60 [(.int .i64 0),(.int .i64 0),(.int .i64 0),(.str []),(.str [])]),oo 3 (.mov (.c (.bool false)))]) [1,2] (.seq (.seq (.region false [oo 7 (.load true 5 (.s 1)),oo 8 (.call 39 [(.s 7)]),
 oo 9 (.un .not (.s 8))]) [1,2,9] (.cond (.s 9) (.seq (.region false [oo 10 (.build [(.int .i64 0),(.int .i64 0),(.int .i64 0),(.str []),(.str [])] []),⟨none,.store 5 (.s 2) (.s 10),none⟩,oo 3 (.mov (.c (.bool false)))]) [2,3] (.ret)) (.skip))) [1,2] (.seq (.seq (
 .region false [oo 11 (.fieldAddr 3 (.s 1)),oo 12 (.load false 1 (.s 11)),oo 13 (.bin .neq false (.s 12) (.c (.str [])))]) [1,2,13] (.cond (.s 13) (.seq (.region false [oo 14 (.fieldAddr 0 (.s 1)),oo 15 (.load false 1 (.s 14)),oo 16 (.fieldAddr 1 (.s 1)),oo 17 (.load false 1 (.s 16)),
 oo 18 (.fieldAddr 2 (.s 1)),oo 19 (.load false 1 (.s 18)),oo 20 (.build [(.int .i64 0),(.int .i64 0),(.int .i64 0),(.str []),(.str [])] [(0,1,(.s 15)),(1,1,(.s 17)),(2,1,(.s 19))]),⟨none,.store 5 (.s 2) (.s 20),none⟩,oo 3 (.mov (.c (.bool true)))]) [2,3] (.ret)) (.skip))) [1,2] (.seq (.seq (
 .region false [oo 4 (.mov (.c (.int .i64 2)))]) [1,2,4] (.block 0 (.loop (.seq (.seq (.region false [oo 21 (.mov (.s 4)),oo 22 (.bin .geq false (.s 21) (.c (.int .i64 0)))]) [1,2,4,22] (.cond (.s 22) (.skip) (.exit 0))) [1,2,4] (.seq (.block 1 (.seq (.region false [oo 26 (.load true 5 (.s 1)),
 oo 27 (.mov (.s 4)),oo 28 (.call 69 [(.s 26),(.s 27)]),oo 25 (.mov (.s 28)),oo 29 (.extract 0 (.s 25)),oo 30 (.extract 1 (.s 25)),oo 5 (.alloc 60 [(.int .i64 0),(.int .i64 0),(.int .i64 0),(.str []),(.str [])]),⟨none,.store 5 (.s 5) (.s 29),none⟩,oo 6 (.mov (.s 30))]) [1,2,4,5,6] (.seq (
 .region false [oo 31 (.mov (.s 6))]) [1,2,4,5,31] (.cond (.s 31) (.seq (.region false [oo 32 (.load true 5 (.s 5)),⟨none,.store 5 (.s 2) (.s 32),none⟩,oo 3 (.mov (.c (.bool true)))]) [2,3] (.ret)) (.skip))))) [1,2,4] (.region false [oo 23 (.mov (.s 4)),
 oo 24 (.bin .sub false (.s 23) (.c (.int .i64 1))),oo 4 (.mov (.s 24))])))))) [2] (.seq (.region false [oo 33 (.build [(.int .i64 0),(.int .i64 0),(.int .i64 0),(.str []),(.str [])] []),⟨none,.store 5 (.s 2) (.s 33),none⟩,oo 3 (.mov (.c (.bool false)))]) [2,3] (.ret)))))⟩
def tf60 : TFn := ⟨2,[.cell 0 true 7],.seq (.region false [oo 0 (.alloc 87 [(.int .i64 0),(.int .i64 0),(.int .i64 0),(.int .i64 0),(.str []),(.str []),(.bool false)])]) [0] (.seq (
 .region false [oo 1 (.build [(.int .i64 0),(.int .i64 0),(.int .i64 0),(.int .i64 0),(.str []),(.str []),(.bool false)] [(0,1,(.c (.int .i64 1)))]),⟨none,.store 7 (.s 0) (.s 1),none⟩]) [0] (.ret))⟩
def tf61 : TFn := ⟨25,[.cell 4 true 2],.seq (.region false [oo 2 (.box 67 (.s 0)),oo 3 (.box 67 (.s 1)),oo 4 (.alloc 67 [(.fsl []),(.fsl [])])]) [2,3,4] (.seq (.seq (.region false [oo 5 (.load true 2 (.s 2)),oo 6 (.call 70 [(.s 5)]),oo 7 (.un .not (.s 6)),oo 8 (.mov (.s 7)),
 oF 9 8 (.load true 2 (.s 3)),oF 10 8 (.call 70 [(.s 9)]),oF 11 8 (.un .not (.s 10)),oo 12 (.pick (.s 8) (.c (.bool true)) (.s 11))]) [2,3,4,12] (.cond (.s 12) (.seq (.region false [oo 13 (.call 40 []),⟨none,.store 2 (.s 4) (.s 13),none⟩]) [4] (.ret)) (.skip))) [2,3,4] (.seq (
 .region true [oo 14 (.fieldAddr 0 (.s 2)),oo 15 (.load false 1 (.s 14)),oo 16 (.fieldAddr 0 (.s 3)),oo 17 (.load false 1 (.s 16)),oo 18 (.call 71 [(.s 15),(.s 17)]),oo 19 (.fieldAddr 1 (.s 2)),oo 20 (.load false 1 (.s 19)),oo 21 (.fieldAddr 1 (.s 3)),oo 22 (.load false 1 (.s 21)),
 oo 23 (.call 71 [(.s 20),(.s 22)]),oo 24 (.build [(.fsl []),(.fsl [])] [(0,1,(.s 18)),(1,1,(.s 23))]),⟨none,.store 2 (.s 4) (.s 24),none⟩]) [4] (.ret)))⟩
def tf62 : TFn := ⟨4,[.cell 0 true 2],.seq (.region false [oo 0 (.alloc 67 [(.fsl []),(.fsl [])])]) [0] (.seq (.region false [oo 1 (.call 72 []),oo 2 (.call 72 []),oo 3 (.build [(.fsl []),(.fsl [])] [(0,1,(.s 1)),(1,1,(.s 2))]),⟨none,.store 2 (.s 0) (.s 3),none⟩]) [0] (.ret))⟩
def tf63 : TFn := ⟨14,[.cell 2 true 2],.seq (.region false [oo 1 (.box 67 (.s 0)),oo 2 (.alloc 67 [(.fsl []),(.fsl [])])]) [1,2] (.seq (.seq (.region false [oo 3 (.load true 2 (.s 1)),oo 4 (.call 70 [(.s 3)]),oo 5 (.un .not (.s 4))]) [1,2,5] (.cond (.s 5) (.seq (.region false [oo 6 (.call 40 []),
 ⟨none,.store 2 (.s 2) (.s 6),none⟩]) [2] (.ret)) (.skip))) [1,2] (.seq (.region true [oo 7 (.fieldAddr 0 (.s 1)),oo 8 (.load false 1 (.s 7)),oo 9 (.call 73 [(.s 8)]),oo 10 (.fieldAddr 1 (.s 1)),oo 11 (.load false 1 (.s 10)),oo 12 (.call 73 [(.s 11)]),
 oo 13 (.build [(.fsl []),(.fsl [])] [(0,1,(.s 9)),(1,1,(.s 12))]),⟨none,.store 2 (.s 2) (.s 13),none⟩]) [2] (.ret)))⟩
def tf64 : TFn := ⟨19,[.tmp 4],.seq (.region false [oo 4 (.mov (.c (.int .i64 0)))]) [0,1] (.seq (.seq (.region false [oo 6 (.mov (.s 0)),oo 7 (.len (.s 6)),oo 8 (.mov (.c (.int .i64 0)))]) [0,1,7,8] (.block 0 (.loop (.seq (.region false [oo 9 (.bin .lss false (.s 8) (.s 7))]) [0,1,7,8,9] (.seq (
 .cond (.s 9) (.skip) (.exit 0)) [0,1,7,8] (.seq (.block 1 (.seq (.region false [oo 10 (.mov (.s 8)),oo 5 (.mov (.s 10))]) [0,1,5,7,8] (.seq (.region false [oo 11 (.mov (.s 1)),oo 12 (.mov (.s 0)),oo 13 (.mov (.s 5)),oo 14 (.indexAddr 4 (.s 12) (.s 13)),oo 15 (.load true 4 (.s 14)),
 oo 16 (.callV (.s 11) [(.s 15)])]) [0,1,5,7,8,16] (.cond (.s 16) (.seq (.region false [oo 17 (.mov (.s 5)),oo 4 (.mov (.s 17))]) [4] (.ret)) (.skip))))) [0,1,7,8] (.region false [oo 18 (.bin .add false (.s 8) (.c (.int .i64 1))),oo 8 (.mov (.s 18))]))))))) [] (.seq (
 .region false [oo 4 (.mov (.c (.int .i64 (-1))))]) [4] (.ret)))⟩
def tf65 : TFn := ⟨34,[.tmp 4],.seq (.region false [oo 4 (.mov (.c (.fsl [])))]) [0,1] (.seq (.region false [oo 5 (.mov (.c (.fsl [])))]) [0,1,5] (.seq (.region false [oo 6 (.mov (.c (.int .i64 0)))]) [0,1,5,6] (.seq (.seq (.region false [oo 7 (.mov (.c (.int .i64 0)))]) [0,1,5,6,7] (.block 0 (
 .loop (.seq (.seq (.region false [oo 8 (.mov (.s 7)),oo 9 (.mov (.s 0)),oo 10 (.lenStr (.s 9)),oo 11 (.bin .lss false (.s 8) (.s 10))]) [0,1,5,6,7,11] (.cond (.s 11) (.skip) (.exit 0))) [0,1,5,6,7] (.seq (.block 1 (.seq (.region false [oo 14 (.mov (.s 0)),oo 15 (.mov (.s 7)),
 oo 16 (.indexStr (.s 14) (.s 15)),oo 17 (.mov (.s 1)),oo 18 (.bin .eql false (.s 16) (.s 17))]) [0,1,5,6,7,18] (.cond (.s 18) (.seq (.region false [oo 19 (.mov (.s 5)),oo 20 (.mov (.s 0)),oo 21 (.mov (.s 6)),oo 22 (.mov (.s 7)),oo 23 (.sliceStr (.s 20) (some (.s 21)) (some (.s 22))),
 oo 24 (.buildSlice 1 9 [(.s 23)]),oo 25 (.append 1 9 16 (.s 19) (.s 24)),oo 5 (.mov (.s 25))]) [0,1,5,7] (.region false [oo 26 (.mov (.s 7)),oo 27 (.bin .add false (.s 26) (.c (.int .i64 1))),oo 6 (.mov (.s 27))])) (.skip)))) [0,1,5,6,7] (.region false [oo 12 (.mov (.s 7)),
 oo 13 (.bin .add false (.s 12) (.c (.int .i64 1))),oo 7 (.mov (.s 13))])))))) [0,5,6] (.seq (.region false [oo 28 (.mov (.s 5)),oo 29 (.mov (.s 0)),oo 30 (.mov (.s 6)),oo 31 (.sliceStr (.s 29) (some (.s 30)) none),oo 32 (.buildSlice 1 9 [(.s 31)]),oo 33 (.append 1 9 16 (.s 28) (.s 32)),
 oo 4 (.mov (.s 33))]) [4] (.ret)))))⟩
def tf66 : TFn := ⟨40,[.tmp 2],.seq (.region false [oo 2 (.mov (.c (.bool false)))]) [0] (.seq (.seq (.region false [oo 5 (.mov (.s 0)),oo 6 (.lenStr (.s 5)),oo 7 (.bin .lss false (.s 6) (.c (.int .i64 1))),oo 8 (.mov (.s 7)),oF 9 8 (.mov (.s 0)),oF 10 8 (.lenStr (.s 9)),
 oF 11 8 (.bin .gtr false (.s 10) (.c (.int .i64 8))),oo 12 (.pick (.s 8) (.c (.bool true)) (.s 11))]) [0,12] (.cond (.s 12) (.seq (.region false [oo 2 (.mov (.c (.bool false)))]) [2] (.ret)) (.skip))) [0] (.seq (.seq (.region false [oo 3 (.mov (.c (.int .i64 0)))]) [0,3] (.block 0 (.loop (.seq (
 .seq (.region false [oo 13 (.mov (.s 3)),oo 14 (.mov (.s 0)),oo 15 (.lenStr (.s 14)),oo 16 (.bin .lss false (.s 13) (.s 15))]) [0,3,16] (.cond (.s 16) (.skip) (.exit 0))) [0,3] (.seq (.block 1 (.seq (.region false [oo 19 (.mov (.s 0)),oo 20 (.mov (.s 3)),oo 21 (.indexStr (.s 19) (.s 20)),
 oo 4 (.mov (.s 21))]) [0,3,4] (.seq (.region false [oo 22 (.mov (.s 4)),oo 23 (.bin .lss false (.s 22) (.c (.int .u8 97))),oo 24 (.mov (.s 23)),oF 25 24 (.mov (.s 4)),oF 26 24 (.bin .gtr false (.s 25) (.c (.int .u8 122))),oo 27 (.pick (.s 24) (.c (.bool true)) (.s 26)),oo 28 (.mov (.s 27)),
 oT 29 28 (.mov (.s 4)),oT 30 28 (.bin .lss false (.s 29) (.c (.int .u8 48))),oT 31 28 (.mov (.s 30)),oF 32 31 (.mov (.s 4)),oF 33 31 (.bin .gtr false (.s 32) (.c (.int .u8 57))),oT 34 28 (.pick (.s 31) (.c (.bool true)) (.s 33)),oo 35 (.pick (.s 28) (.s 34) (.c (.bool false))),
 oo 36 (.mov (.s 35)),oT 37 36 (.mov (.s 4)),oT 38 36 (.bin .neq false (.s 37) (.c (.int .u8 45))),oo 39 (.pick (.s 36) (.s 38) (.c (.bool false)))]) [0,3,39] (.cond (.s 39) (.seq (.region false [oo 2 (.mov (.c (.bool false)))]) [2] (.ret)) (.skip))))) [0,3] (.region false [oo 17 (.mov (.s 3)),
 oo 18 (.bin .add false (.s 17) (.c (.int .i64 1))),oo 3 (.mov (.s 18))])))))) [] (.seq (.region false [oo 2 (.mov (.c (.bool true)))]) [2] (.ret))))⟩
def tf67 : TFn := ⟨46,[.tmp 2,.tmp 3],.seq (.region false [oo 2 (.mov (.c (.int .i64 0))),oo 3 (.mov (.c (.bool false)))]) [0] (.seq (.seq (.region false [oo 6 (.mov (.s 0)),oo 7 (.lenStr (.s 6)),oo 8 (.bin .lss false (.s 7) (.c (.int .i64 1))),oo 9 (.mov (.s 8)),oF 10 9 (.mov (.s 0)),
 oF 11 9 (.lenStr (.s 10)),oF 12 9 (.bin .gtr false (.s 11) (.c (.int .i64 9))),oo 13 (.pick (.s 9) (.c (.bool true)) (.s 12)),oo 14 (.mov (.s 13)),oF 15 14 (.mov (.s 0)),oF 16 14 (.lenStr (.s 15)),oF 17 14 (.bin .gtr false (.s 16) (.c (.int .i64 1))),oF 18 14 (.mov (.s 17)),oT 19 18 (.mov (.s 0)),
 oT 20 18 (.indexStr (.s 19) (.c (.int .i64 0))),oT 21 18 (.bin .eql false (.s 20) (.c (.int .u8 48))),oF 22 14 (.pick (.s 18) (.s 21) (.c (.bool false))),oo 23 (.pick (.s 14) (.c (.bool true)) (.s 22))]) [0,23] (.cond (.s 23) (.seq (.region false [oo 2 (.mov (.c (.int .i64 0))),
 oo 3 (.mov (.c (.bool false)))]) [2,3] (.ret)) (.skip))) [0] (.seq (.region false [oo 4 (.mov (.c (.int .i64 0)))]) [0,4] (.seq (.seq (.region false [oo 5 (.mov (.c (.int .i64 0)))]) [0,4,5] (.block 0 (.loop (.seq (.seq (.region false [oo 24 (.mov (.s 5)),oo 25 (.mov (.s 0)),
 oo 26 (.lenStr (.s 25)),oo 27 (.bin .lss false (.s 24) (.s 26))]) [0,4,5,27] (.cond (.s 27) (.skip) (.exit 0))) [0,4,5] (.seq (.block 1 (.seq (.seq (.region false [oo 30 (.mov (.s 0)),oo 31 (.mov (.s 5)),oo 32 (.indexStr (.s 30) (.s 31)),oo 33 (.call 74 [(.s 32)]),
 oo 34 (.un .not (.s 33))]) [0,4,5,34] (.cond (.s 34) (.seq (.region false [oo 2 (.mov (.c (.int .i64 0))),oo 3 (.mov (.c (.bool false)))]) [2,3] (.ret)) (.skip))) [0,4,5] (.region false [oo 35 (.mov (.s 4)),oo 36 (.bin .mul false (.s 35) (.c (.int .i64 10))),oo 37 (.mov (.s 0)),
 oo 38 (.mov (.s 5)),oo 39 (.indexStr (.s 37) (.s 38)),oo 40 (.bin .sub false (.s 39) (.c (.int .u8 48))),oo 41 (.conv .i64 (.s 40)),oo 42 (.bin .add false (.s 36) (.s 41)),oo 4 (.mov (.s 42))]))) [0,4,5] (.region false [oo 28 (.mov (.s 5)),oo 29 (.bin .add false (.s 28) (.c (.int .i64 1))),
 oo 5 (.mov (.s 29))])))))) [4] (.seq (.seq (.region false [oo 43 (.mov (.s 4)),oo 44 (.bin .gtr false (.s 43) (.c (.int .i64 9999)))]) [4,44] (.cond (.s 44) (.seq (.region false [oo 2 (.mov (.c (.int .i64 0))),oo 3 (.mov (.c (.bool false)))]) [2,3] (.ret)) (.skip))) [4] (.seq (
 .region false [oo 45 (.mov (.s 4)),oo 2 (.mov (.s 45)),oo 3 (.mov (.c (.bool true)))]) [2,3] (.ret))))))⟩
def tf68 : TFn := ⟨23,[.tmp 2],.seq (.region false [oo 2 (.mov (.c (.bool false)))]) [0] (.seq (.seq (.region false [oo 3 (.mov (.c (.int .i64 0)))]) [0,3] (.block 0 (.loop (.seq (.seq (.region false [oo 4 (.mov (.s 3)),oo 5 (.mov (.s 0)),oo 6 (.lenStr (.s 5)),
 oo 7 (.bin .lss false (.s 4) (.s 6))]) [0,3,7] (.cond (.s 7) (.skip) (.exit 0))) [0,3] (.seq (.block 1 (.seq (.region false [oo 10 (.mov (.s 0)),oo 11 (.mov (.s 3)),oo 12 (.indexStr (.s 10) (.s 11)),oo 13 (.bin .lss false (.s 12) (.c (.int .u8 48))),oo 14 (.mov (.s 13)),oF 15 14 (.mov (.s 0)),
 oF 16 14 (.mov (.s 3)),oF 17 14 (.indexStr (.s 15) (.s 16)),oF 18 14 (.bin .gtr false (.s 17) (.c (.int .u8 57))),oo 19 (.pick (.s 14) (.c (.bool true)) (.s 18))]) [0,3,19] (.cond (.s 19) (.seq (.region false [oo 2 (.mov (.c (.bool false)))]) [2] (.ret)) (.skip)))) [0,3] (
 .region false [oo 8 (.mov (.s 3)),oo 9 (.bin .add false (.s 8) (.c (.int .i64 1))),oo 3 (.mov (.s 9))])))))) [0] (.seq (.region false [oo 20 (.mov (.s 0)),oo 21 (.lenStr (.s 20)),oo 22 (.bin .gtr false (.s 21) (.c (.int .i64 0))),oo 2 (.mov (.s 22))]) [2] (.ret)))⟩
def tf69 : TFn := ⟨47,[.cell 4 true 5,.tmp 5],.seq (.region false [oo 2 (.box 60 (.s 0)),oo 4 (.alloc 60 [(.int .i64 0),(.int .i64 0),(.int .i64 0),(.str []),(.str [])]),oo 5 (.mov (.c (.bool false)))]) [1,2,4] (.seq (.seq (.region false [oo 7 (.load true 5 (.s 2)),oo 8 (.call 39 [(.s 7)]),
 oo 9 (.un .not (.s 8)),oo 10 (.mov (.s 9)),oF 11 10 (.mov (.s 1)),oF 12 10 (.bin .lss false (.s 11) (.c (.int .i64 0))),oo 13 (.pick (.s 10) (.c (.bool true)) (.s 12)),oo 14 (.mov (.s 13)),oF 15 14 (.mov (.s 1)),oF 16 14 (.bin .gtr false (.s 15) (.c (.int .i64 2))),
 oo 17 (.pick (.s 14) (.c (.bool true)) (.s 16))]) [1,2,4,17] (.cond (.s 17) (.seq (.region false [oo 18 (.build [(.int .i64 0),(.int .i64 0),(.int .i64 0),(.str []),(.str [])] []),⟨none,.store 5 (.s 4) (.s 18),none⟩,oo 5 (.mov (.c (.bool false)))]) [4,5] (.ret)) (.skip))) [1,2,4] (.seq (
 .region false [oo 6 (.alloc 60 [(.int .i64 0),(.int .i64 0),(.int .i64 0),(.str []),(.str [])])]) [1,2,4,6] (.seq (.seq (.region false [oo 19 (.mov (.s 1))]) [2,4,6,19] (.block 0 (.seq (.region false [oo 29 (.bin .eql false (.s 19) (.c (.int .i64 0))),oo 28 (.mov (.s 29))]) [2,4,6,19,28] (
 .cond (.s 28) (.region false [oo 30 (.fieldAddr 0 (.s 2)),oo 31 (.load false 1 (.s 30)),oo 32 (.bin .add false (.s 31) (.c (.int .i64 1))),oo 33 (.build [(.int .i64 0),(.int .i64 0),(.int .i64 0),(.str []),(.str [])] [(0,1,(.s 32))]),⟨none,.store 5 (.s 6) (.s 33),none⟩]) (.seq (
 .region false [oo 35 (.bin .eql false (.s 19) (.c (.int .i64 1))),oo 34 (.mov (.s 35))]) [2,4,6,34] (.cond (.s 34) (.region false [oo 36 (.fieldAddr 0 (.s 2)),oo 37 (.load false 1 (.s 36)),oo 38 (.fieldAddr 1 (.s 2)),oo 39 (.load false 1 (.s 38)),oo 40 (.bin .add false (.s 39) (.c (.int .i64 1))),
 oo 41 (.build [(.int .i64 0),(.int .i64 0),(.int .i64 0),(.str []),(.str [])] [(0,1,(.s 37)),(1,1,(.s 40))]),⟨none,.store 5 (.s 6) (.s 41),none⟩]) (.region false [oo 20 (.fieldAddr 0 (.s 2)),oo 21 (.load false 1 (.s 20)),oo 22 (.fieldAddr 1 (.s 2)),oo 23 (.load false 1 (.s 22)),
 oo 24 (.fieldAddr 2 (.s 2)),oo 25 (.load false 1 (.s 24)),oo 26 (.bin .add false (.s 25) (.c (.int .i64 1))),oo 27 (.build [(.int .i64 0),(.int .i64 0),(.int .i64 0),(.str []),(.str [])] [(0,1,(.s 21)),(1,1,(.s 23)),(2,1,(.s 26))]),⟨none,.store 5 (.s 6) (.s 27),none⟩]))))))) [4,6] (.seq (.seq (
 .region false [oo 42 (.load true 5 (.s 6)),oo 43 (.call 39 [(.s 42)]),oo 44 (.un .not (.s 43))]) [4,6,44] (.cond (.s 44) (.seq (.region false [oo 45 (.build [(.int .i64 0),(.int .i64 0),(.int .i64 0),(.str []),(.str [])] []),⟨none,.store 5 (.s 4) (.s 45),none⟩,
 oo 5 (.mov (.c (.bool false)))]) [4,5] (.ret)) (.skip))) [4,6] (.seq (.region false [oo 46 (.load true 5 (.s 6)),⟨none,.store 5 (.s 4) (.s 46),none⟩,oo 5 (.mov (.c (.bool true)))]) [4,5] (.ret))))))⟩
def tf70 : TFn := ⟨39,[.tmp 2],.seq (.region false [oo 1 (.box 67 (.s 0)),oo 2 (.mov (.c (.bool false)))]) [1] (.seq (.seq (.region false [oo 4 (.fieldAddr 0 (.s 1)),oo 5 (.load false 1 (.s 4)),oo 6 (.call 75 [(.s 5)]),oo 7 (.un .not (.s 6)),oo 8 (.mov (.s 7)),oF 9 8 (.fieldAddr 1 (.s 1)),
 oF 10 8 (.load false 1 (.s 9)),oF 11 8 (.call 75 [(.s 10)]),oF 12 8 (.un .not (.s 11)),oo 13 (.pick (.s 8) (.c (.bool true)) (.s 12))]) [1,13] (.cond (.s 13) (.seq (.region false [oo 2 (.mov (.c (.bool false)))]) [2] (.ret)) (.skip))) [1] (.seq (.seq (
 .region false [oo 3 (.mov (.c (.int .i64 0)))]) [1,3] (.block 0 (.loop (.seq (.seq (.region false [oo 14 (.mov (.s 3)),oo 15 (.fieldAddr 0 (.s 1)),oo 16 (.load false 1 (.s 15)),oo 17 (.len (.s 16)),oo 18 (.bin .lss false (.s 14) (.s 17))]) [1,3,18] (.cond (.s 18) (.skip) (.exit 0))) [1,3] (.seq (
 .block 1 (.seq (.region false [oo 21 (.fieldAddr 0 (.s 1)),oo 22 (.load false 1 (.s 21)),oo 23 (.mov (.s 3)),oo 24 (.indexAddr 14 (.s 22) (.s 23)),oo 25 (.fieldAddr 0 (.s 24)),oo 26 (.load true 7 (.s 25)),oo 27 (.call 76 [(.s 26)]),oo 28 (.un .not (.s 27)),oo 29 (.mov (.s 28)),
 oF 30 29 (.fieldAddr 0 (.s 1)),oF 31 29 (.load false 1 (.s 30)),oF 32 29 (.mov (.s 3)),oF 33 29 (.indexAddr 14 (.s 31) (.s 32)),oF 34 29 (.fieldAddr 7 (.s 33)),oF 35 29 (.load true 7 (.s 34)),oF 36 29 (.call 76 [(.s 35)]),oF 37 29 (.un .not (.s 36)),
 oo 38 (.pick (.s 29) (.c (.bool true)) (.s 37))]) [1,3,38] (.cond (.s 38) (.seq (.region false [oo 2 (.mov (.c (.bool false)))]) [2] (.ret)) (.skip)))) [1,3] (.region false [oo 19 (.mov (.s 3)),oo 20 (.bin .add false (.s 19) (.c (.int .i64 1))),oo 3 (.mov (.s 20))])))))) [] (.seq (
 .region false [oo 2 (.mov (.c (.bool true)))]) [2] (.ret))))⟩
def tf71 : TFn := ⟨24,[.tmp 4],.seq (.region false [oo 4 (.mov (.c (.fsl [])))]) [0,1] (.seq (.seq (.region false [oo 7 (.mov (.s 0)),oo 8 (.call 75 [(.s 7)]),oo 9 (.un .not (.s 8)),oo 10 (.mov (.s 9)),oF 11 10 (.mov (.s 1)),oF 12 10 (.call 75 [(.s 11)]),oF 13 10 (.un .not (.s 12)),
 oo 14 (.pick (.s 10) (.c (.bool true)) (.s 13))]) [0,1,14] (.cond (.s 14) (.seq (.region false [oo 4 (.mov (.c (.fsl [])))]) [4] (.ret)) (.skip))) [0,1] (.seq (.region false [oo 16 (.mov (.s 0)),oo 17 (.append 14 90 144 (.c (.fsl [])) (.s 16)),oo 18 (.mov (.s 1)),
 oo 19 (.append 14 90 144 (.s 17) (.s 18)),oo 20 (.call 77 [(.s 19)]),oo 15 (.mov (.s 20)),oo 21 (.extract 0 (.s 15)),oo 22 (.extract 1 (.s 15)),oo 5 (.mov (.s 21)),oo 6 (.mov (.s 22))]) [5] (.seq (.region false [oo 23 (.mov (.s 5)),oo 4 (.mov (.s 23))]) [4] (.ret))))⟩
def tf72 : TFn := ⟨5,[.tmp 0],.seq (.region false [oo 0 (.mov (.c (.fsl [])))]) [] (.seq (.region false [oo 1 (.call 58 []),oo 2 (.call 60 []),
 oo 3 (.build [(.int .i64 0),(.int .i64 0),(.int .i64 0),(.int .i64 0),(.str []),(.str []),(.bool false),(.int .i64 0),(.int .i64 0),(.int .i64 0),(.int .i64 0),(.str []),(.str []),(.bool false)] [(0,7,(.s 1)),(7,7,(.s 2))]),oo 4 (.buildSlice 14 90 [(.s 3)]),oo 0 (.mov (.s 4))]) [0] (.ret))⟩
def tf73 : TFn := ⟨42,[.tmp 2],.seq (.region false [oo 2 (.mov (.c (.fsl [])))]) [0] (.seq (.seq (.region false [oo 6 (.mov (.s 0)),oo 7 (.call 75 [(.s 6)]),oo 8 (.un .not (.s 7))]) [0,8] (.cond (.s 8) (.seq (.region false [oo 2 (.mov (.c (.fsl [])))]) [2] (.ret)) (.skip))) [0] (.seq (
 .region false [oo 3 (.mov (.c (.fsl [])))]) [0,3] (.seq (.region false [oo 9 (.mov (.s 0)),oo 10 (.call 78 [(.s 9)]),oo 4 (.mov (.s 10))]) [0,3,4] (.seq (.seq (.region false [oo 5 (.mov (.c (.int .i64 0)))]) [0,3,4,5] (.block 0 (.loop (.seq (.seq (.region false [oo 11 (.mov (.s 5)),
 oo 12 (.bin .add false (.s 11) (.c (.int .i64 1))),oo 13 (.mov (.s 4)),oo 14 (.len (.s 13)),oo 15 (.bin .lss false (.s 12) (.s 14))]) [0,3,4,5,15] (.cond (.s 15) (.skip) (.exit 0))) [0,3,4,5] (.seq (.block 1 (.seq (.region true [oo 18 (.mov (.s 0)),oo 19 (.mov (.s 4)),oo 20 (.mov (.s 5)),
 oo 21 (.indexAddr 7 (.s 19) (.s 20)),oo 22 (.load true 7 (.s 21)),oo 23 (.mov (.s 4)),oo 24 (.mov (.s 5)),oo 25 (.bin .add false (.s 24) (.c (.int .i64 1))),oo 26 (.indexAddr 7 (.s 23) (.s 25)),oo 27 (.load true 7 (.s 26)),oo 28 (.call 79 [(.s 18),(.s 22),(.s 27)]),
 oo 29 (.un .not (.s 28))]) [0,3,4,5,29] (.cond (.s 29) (.region true [oo 30 (.mov (.s 3)),oo 31 (.mov (.s 4)),oo 32 (.mov (.s 5)),oo 33 (.indexAddr 7 (.s 31) (.s 32)),oo 34 (.load true 7 (.s 33)),oo 35 (.mov (.s 4)),oo 36 (.mov (.s 5)),oo 37 (.bin .add false (.s 36) (.c (.int .i64 1))),
 oo 38 (.indexAddr 7 (.s 35) (.s 37)),oo 39 (.load true 7 (.s 38)),oo 40 (.call 80 [(.s 30),(.s 34),(.s 39)]),oo 3 (.mov (.s 40))]) (.skip)))) [0,3,4,5] (.region false [oo 16 (.mov (.s 5)),oo 17 (.bin .add false (.s 16) (.c (.int .i64 1))),oo 5 (.mov (.s 17))])))))) [3] (.seq (
 .region false [oo 41 (.mov (.s 3)),oo 2 (.mov (.s 41))]) [2] (.ret))))))⟩
def tf74 : TFn := ⟨9,[.tmp 2],.seq (.region false [oo 2 (.mov (.c (.bool false)))]) [0] (.seq (.region false [oo 3 (.mov (.s 0)),oo 4 (.bin .geq false (.s 3) (.c (.int .u8 48))),oo 5 (.mov (.s 4)),oT 6 5 (.mov (.s 0)),oT 7 5 (.bin .leq false (.s 6) (.c (.int .u8 57))),
 oo 8 (.pick (.s 5) (.s 7) (.c (.bool false))),oo 2 (.mov (.s 8))]) [2] (.ret))⟩
def tf75 : TFn := ⟨35,[.tmp 2],.seq (.region false [oo 2 (.mov (.c (.bool false)))]) [0] (.seq (.seq (.region false [oo 3 (.mov (.c (.int .i64 0)))]) [0,3] (.block 0 (.loop (.seq (.seq (.region false [oo 4 (.mov (.s 3)),oo 5 (.mov (.s 0)),oo 6 (.len (.s 5)),
 oo 7 (.bin .lss false (.s 4) (.s 6))]) [0,3,7] (.cond (.s 7) (.skip) (.exit 0))) [0,3] (.seq (.block 1 (.seq (.region true [oo 10 (.mov (.s 0)),oo 11 (.mov (.s 3)),oo 12 (.indexAddr 14 (.s 10) (.s 11)),oo 13 (.load true 14 (.s 12)),oo 14 (.call 81 [(.s 13)]),oo 15 (.un .not (.s 14)),
 oo 16 (.mov (.s 15)),oF 17 16 (.mov (.s 3)),oF 18 16 (.bin .gtr false (.s 17) (.c (.int .i64 0))),oF 19 16 (.mov (.s 18)),oT 20 19 (.mov (.s 0)),oT 21 19 (.mov (.s 3)),oT 22 19 (.bin .sub false (.s 21) (.c (.int .i64 1))),oT 23 19 (.indexAddr 14 (.s 20) (.s 22)),oT 24 19 (.fieldAddr 7 (.s 23)),
 oT 25 19 (.load true 7 (.s 24)),oT 26 19 (.mov (.s 0)),oT 27 19 (.mov (.s 3)),oT 28 19 (.indexAddr 14 (.s 26) (.s 27)),oT 29 19 (.fieldAddr 0 (.s 28)),oT 30 19 (.load true 7 (.s 29)),oT 31 19 (.call 82 [(.s 25),(.s 30)]),oT 32 19 (.bin .geq false (.s 31) (.c (.int .i64 0))),
 oF 33 16 (.pick (.s 19) (.s 32) (.c (.bool false))),oo 34 (.pick (.s 16) (.c (.bool true)) (.s 33))]) [0,3,34] (.cond (.s 34) (.seq (.region false [oo 2 (.mov (.c (.bool false)))]) [2] (.ret)) (.skip)))) [0,3] (.region false [oo 8 (.mov (.s 3)),oo 9 (.bin .add false (.s 8) (.c (.int .i64 1))),
 oo 3 (.mov (.s 9))])))))) [] (.seq (.region false [oo 2 (.mov (.c (.bool true)))]) [2] (.ret)))⟩
def tf76 : TFn := ⟨23,[.tmp 2],.seq (.region false [oo 1 (.box 87 (.s 0)),oo 2 (.mov (.c (.bool false)))]) [1] (.seq (.region false [oo 3 (.fieldAddr 0 (.s 1)),oo 4 (.load false 1 (.s 3)),oo 5 (.bin .neq false (.s 4) (.c (.int .i64 0))),oo 6 (.mov (.s 5)),oF 7 6 (.fieldAddr 6 (.s 1)),
 oF 8 6 (.load false 1 (.s 7)),oF 9 6 (.un .not (.s 8)),oF 10 6 (.mov (.s 9)),oT 11 10 (.fieldAddr 1 (.s 1)),oT 12 10 (.fieldAddr 3 (.s 11)),oT 13 10 (.load false 1 (.s 12)),oT 14 10 (.bin .eql false (.s 13) (.c (.str []))),oF 15 6 (.pick (.s 10) (.s 14) (.c (.bool false))),oF 16 6 (.mov (.s 15)),
 oT 17 16 (.fieldAddr 1 (.s 1)),oT 18 16 (.load true 5 (.s 17)),oT 19 16 (.call 57 [(.s 18)]),oT 20 16 (.un .not (.s 19)),oF 21 6 (.pick (.s 16) (.s 20) (.c (.bool false))),oo 22 (.pick (.s 6) (.c (.bool true)) (.s 21)),oo 2 (.mov (.s 22))]) [2] (.ret))⟩
def tf77 : TFn := ⟨52,[.tmp 2,.tmp 3],.seq (.region false [oo 2 (.mov (.c (.fsl []))),oo 3 (.mov (.c (.bool false)))]) [0] (.seq (.seq (.region false [oo 4 (.mov (.c (.int .i64 0)))]) [0,4] (.block 0 (.loop (.seq (.seq (.region false [oo 8 (.mov (.s 4)),oo 9 (.mov (.s 0)),oo 10 (.len (.s 9)),
 oo 11 (.bin .lss false (.s 8) (.s 10))]) [0,4,11] (.cond (.s 11) (.skip) (.exit 0))) [0,4] (.seq (.block 1 (.seq (.region false [oo 14 (.mov (.s 0)),oo 15 (.mov (.s 4)),oo 16 (.indexAddr 14 (.s 14) (.s 15)),oo 17 (.load true 14 (.s 16)),oo 18 (.call 81 [(.s 17)]),
 oo 19 (.un .not (.s 18))]) [0,4,19] (.cond (.s 19) (.seq (.region false [oo 2 (.mov (.c (.fsl []))),oo 3 (.mov (.c (.bool false)))]) [2,3] (.ret)) (.skip)))) [0,4] (.region false [oo 12 (.mov (.s 4)),oo 13 (.bin .add false (.s 12) (.c (.int .i64 1))),oo 4 (.mov (.s 13))])))))) [0] (.seq (
 .region false [oo 5 (.mov (.c (.fsl [])))]) [0,5] (.seq (.region false [oo 20 (.mov (.s 0)),oo 21 (.call 78 [(.s 20)]),oo 6 (.mov (.s 21))]) [0,5,6] (.seq (.seq (.region false [oo 7 (.mov (.c (.int .i64 0)))]) [0,5,6,7] (.block 2 (.loop (.seq (.seq (.region false [oo 22 (.mov (.s 7)),
 oo 23 (.bin .add false (.s 22) (.c (.int .i64 1))),oo 24 (.mov (.s 6)),oo 25 (.len (.s 24)),oo 26 (.bin .lss false (.s 23) (.s 25))]) [0,5,6,7,26] (.cond (.s 26) (.skip) (.exit 2))) [0,5,6,7] (.seq (.block 3 (.seq (.region true [oo 29 (.mov (.s 0)),oo 30 (.mov (.s 6)),oo 31 (.mov (.s 7)),
 oo 32 (.indexAddr 7 (.s 30) (.s 31)),oo 33 (.load true 7 (.s 32)),oo 34 (.mov (.s 6)),oo 35 (.mov (.s 7)),oo 36 (.bin .add false (.s 35) (.c (.int .i64 1))),oo 37 (.indexAddr 7 (.s 34) (.s 36)),oo 38 (.load true 7 (.s 37)),oo 39 (.call 79 [(.s 29),(.s 33),(.s 38)])]) [0,5,6,7,39] (.cond (.s 39) (
 .region true [oo 40 (.mov (.s 5)),oo 41 (.mov (.s 6)),oo 42 (.mov (.s 7)),oo 43 (.indexAddr 7 (.s 41) (.s 42)),oo 44 (.load true 7 (.s 43)),oo 45 (.mov (.s 6)),oo 46 (.mov (.s 7)),oo 47 (.bin .add false (.s 46) (.c (.int .i64 1))),oo 48 (.indexAddr 7 (.s 45) (.s 47)),oo 49 (.load true 7 (.s 48)),
 oo 50 (.call 80 [(.s 40),(.s 44),(.s 49)]),oo 5 (.mov (.s 50))]) (.skip)))) [0,5,6,7] (.region false [oo 27 (.mov (.s 7)),oo 28 (.bin .add false (.s 27) (.c (.int .i64 1))),oo 7 (.mov (.s 28))])))))) [5] (.seq (.region false [oo 51 (.mov (.s 5)),oo 2 (.mov (.s 51)),
 oo 3 (.mov (.c (.bool true)))]) [2,3] (.ret))))))⟩
def tf78 : TFn := ⟨28,[.tmp 2],.seq (.region false [oo 2 (.mov (.c (.fsl [])))]) [0] (.seq (.region false [oo 5 (.call 58 []),oo 6 (.call 60 []),oo 7 (.buildSlice 7 87 [(.s 5),(.s 6)]),oo 3 (.mov (.s 7))]) [0,3] (.seq (.seq (.region false [oo 4 (.mov (.c (.int .i64 0)))]) [0,3,4] (.block 0 (.loop (
 .seq (.seq (.region false [oo 8 (.mov (.s 4)),oo 9 (.mov (.s 0)),oo 10 (.len (.s 9)),oo 11 (.bin .lss false (.s 8) (.s 10))]) [0,3,4,11] (.cond (.s 11) (.skip) (.exit 0))) [0,3,4] (.seq (.block 1 (.region true [oo 14 (.mov (.s 3)),oo 15 (.mov (.s 0)),oo 16 (.mov (.s 4)),
 oo 17 (.indexAddr 14 (.s 15) (.s 16)),oo 18 (.fieldAddr 0 (.s 17)),oo 19 (.load true 7 (.s 18)),oo 20 (.call 83 [(.s 14),(.s 19)]),oo 21 (.mov (.s 0)),oo 22 (.mov (.s 4)),oo 23 (.indexAddr 14 (.s 21) (.s 22)),oo 24 (.fieldAddr 7 (.s 23)),oo 25 (.load true 7 (.s 24)),
 oo 26 (.call 83 [(.s 20),(.s 25)]),oo 3 (.mov (.s 26))])) [0,3,4] (.region false [oo 12 (.mov (.s 4)),oo 13 (.bin .add false (.s 12) (.c (.int .i64 1))),oo 4 (.mov (.s 13))])))))) [3] (.seq (.region false [oo 27 (.mov (.s 3)),oo 2 (.mov (.s 27))]) [2] (.ret))))⟩
def tf79 : TFn := ⟨32,[.tmp 6],.seq (.region false [oo 4 (.box 87 (.s 1)),oo 5 (.box 87 (.s 2)),oo 6 (.mov (.c (.bool false)))]) [0,4,5] (.seq (.seq (.region false [oo 7 (.mov (.c (.int .i64 0)))]) [0,4,5,7] (.block 0 (.loop (.seq (.seq (.region false [oo 8 (.mov (.s 7)),oo 9 (.mov (.s 0)),
 oo 10 (.len (.s 9)),oo 11 (.bin .lss false (.s 8) (.s 10))]) [0,4,5,7,11] (.cond (.s 11) (.skip) (.exit 0))) [0,4,5,7] (.seq (.block 1 (.seq (.region true [oo 14 (.mov (.s 0)),oo 15 (.mov (.s 7)),oo 16 (.indexAddr 14 (.s 14) (.s 15)),oo 17 (.fieldAddr 0 (.s 16)),oo 18 (.load true 7 (.s 17)),
 oo 19 (.load true 7 (.s 4)),oo 20 (.call 82 [(.s 18),(.s 19)]),oo 21 (.bin .leq false (.s 20) (.c (.int .i64 0))),oo 22 (.mov (.s 21)),oT 23 22 (.load true 7 (.s 5)),oT 24 22 (.mov (.s 0)),oT 25 22 (.mov (.s 7)),oT 26 22 (.indexAddr 14 (.s 24) (.s 25)),oT 27 22 (.fieldAddr 7 (.s 26)),
 oT 28 22 (.load true 7 (.s 27)),oT 29 22 (.call 82 [(.s 23),(.s 28)]),oT 30 22 (.bin .leq false (.s 29) (.c (.int .i64 0))),oo 31 (.pick (.s 22) (.s 30) (.c (.bool false)))]) [0,4,5,7,31] (.cond (.s 31) (.seq (.region false [oo 6 (.mov (.c (.bool true)))]) [6] (.ret)) (.skip)))) [0,4,5,7] (
 .region false [oo 12 (.mov (.s 7)),oo 13 (.bin .add false (.s 12) (.c (.int .i64 1))),oo 7 (.mov (.s 13))])))))) [] (.seq (.region false [oo 6 (.mov (.c (.bool false)))]) [6] (.ret)))⟩
def tf80 : TFn := ⟨35,[.tmp 6],.seq (.region false [oo 4 (.box 87 (.s 1)),oo 5 (.box 87 (.s 2)),oo 6 (.mov (.c (.fsl [])))]) [0,4,5] (.seq (.seq (.region false [oo 8 (.mov (.s 0)),oo 9 (.len (.s 8)),oo 10 (.bin .sub false (.s 9) (.c (.int .i64 1))),oo 7 (.mov (.s 10))]) [0,4,5,7] (.seq (
 .region true [oo 11 (.mov (.s 7)),oo 12 (.bin .geq false (.s 11) (.c (.int .i64 0))),oo 13 (.mov (.s 12)),oT 14 13 (.mov (.s 0)),oT 15 13 (.mov (.s 7)),oT 16 13 (.indexAddr 14 (.s 14) (.s 15)),oT 17 13 (.fieldAddr 7 (.s 16)),oT 18 13 (.load true 7 (.s 17)),oT 19 13 (.load true 7 (.s 4)),
 oT 20 13 (.call 82 [(.s 18),(.s 19)]),oT 21 13 (.bin .eql false (.s 20) (.c (.int .i64 0))),oo 22 (.pick (.s 13) (.s 21) (.c (.bool false)))]) [0,4,5,7,22] (.cond (.s 22) (.seq (.region false [oo 23 (.mov (.s 0)),oo 24 (.mov (.s 7)),oo 25 (.load true 7 (.s 5)),
 oo 26 (.indexAddr 14 (.s 23) (.s 24)),oo 27 (.fieldAddr 7 (.s 26)),⟨none,.store 7 (.s 27) (.s 25),none⟩]) [0] (.seq (.region false [oo 28 (.mov (.s 0)),oo 6 (.mov (.s 28))]) [6] (.ret))) (.skip)))) [0,4,5] (.seq (.region false [oo 29 (.mov (.s 0)),oo 30 (.load true 7 (.s 4)),
 oo 31 (.load true 7 (.s 5)),oo 32 (.build [(.int .i64 0),(.int .i64 0),(.int .i64 0),(.int .i64 0),(.str []),(.str []),(.bool false),(.int .i64 0),(.int .i64 0),(.int .i64 0),(.int .i64 0),(.str []),(.str []),(.bool false)] [(0,7,(.s 30)),(7,7,(.s 31))]),oo 33 (.buildSlice 14 90 [(.s 32)]),
 oo 34 (.append 14 90 144 (.s 29) (.s 33)),oo 6 (.mov (.s 34))]) [6] (.ret)))⟩
def tf81 : TFn := ⟨19,[.tmp 2],.seq (.region false [oo 1 (.box 90 (.s 0)),oo 2 (.mov (.c (.bool false)))]) [1] (.seq (.region false [oo 3 (.fieldAddr 0 (.s 1)),oo 4 (.load true 7 (.s 3)),oo 5 (.call 84 [(.s 4)]),oo 6 (.mov (.s 5)),oT 7 6 (.fieldAddr 7 (.s 1)),oT 8 6 (.load true 7 (.s 7)),
 oT 9 6 (.call 84 [(.s 8)]),oo 10 (.pick (.s 6) (.s 9) (.c (.bool false))),oo 11 (.mov (.s 10)),oT 12 11 (.fieldAddr 0 (.s 1)),oT 13 11 (.load true 7 (.s 12)),oT 14 11 (.fieldAddr 7 (.s 1)),oT 15 11 (.load true 7 (.s 14)),oT 16 11 (.call 82 [(.s 13),(.s 15)]),
 oT 17 11 (.bin .lss false (.s 16) (.c (.int .i64 0))),oo 18 (.pick (.s 11) (.s 17) (.c (.bool false))),oo 2 (.mov (.s 18))]) [2] (.ret))⟩
def tf82 : TFn := ⟨46,[.tmp 4],.seq (.region false [oo 2 (.box 87 (.s 0)),oo 3 (.box 87 (.s 1)),oo 4 (.mov (.c (.int .i64 0)))]) [2,3] (.seq (.seq (.region false [oo 6 (.load true 7 (.s 2)),oo 7 (.call 84 [(.s 6)]),oo 8 (.un .not (.s 7)),oo 9 (.mov (.s 8)),oF 10 9 (.load true 7 (.s 3)),
 oF 11 9 (.call 84 [(.s 10)]),oF 12 9 (.un .not (.s 11)),oo 13 (.pick (.s 9) (.c (.bool true)) (.s 12))]) [2,3,13] (.cond (.s 13) (.seq (.region false [oo 4 (.mov (.c (.int .i64 0)))]) [4] (.ret)) (.skip))) [2,3] (.seq (.seq (.region false [oo 14 (.fieldAddr 0 (.s 2)),oo 15 (.load false 1 (.s 14)),
 oo 16 (.fieldAddr 0 (.s 3)),oo 17 (.load false 1 (.s 16)),oo 18 (.bin .neq false (.s 15) (.s 17)),oo 19 (.mov (.s 18)),oF 20 19 (.fieldAddr 0 (.s 2)),oF 21 19 (.load false 1 (.s 20)),oF 22 19 (.bin .neq false (.s 21) (.c (.int .i64 0))),oo 23 (.pick (.s 19) (.c (.bool true)) (.s 22))]) [2,3,23] (
 .cond (.s 23) (.seq (.region false [oo 24 (.fieldAddr 0 (.s 2)),oo 25 (.load false 1 (.s 24)),oo 26 (.fieldAddr 0 (.s 3)),oo 27 (.load false 1 (.s 26)),oo 28 (.call 85 [(.s 25),(.s 27)]),oo 4 (.mov (.s 28))]) [4] (.ret)) (.skip))) [2,3] (.seq (.seq (.region false [oo 29 (.fieldAddr 1 (.s 2)),
 oo 30 (.load true 5 (.s 29)),oo 31 (.fieldAddr 1 (.s 3)),oo 32 (.load true 5 (.s 31)),oo 33 (.call 86 [(.s 30),(.s 32)]),oo 5 (.mov (.s 33))]) [2,3,5] (.seq (.region false [oo 34 (.mov (.s 5)),oo 35 (.bin .neq false (.s 34) (.c (.int .i64 0)))]) [2,3,5,35] (.cond (.s 35) (.seq (
 .region false [oo 36 (.mov (.s 5)),oo 4 (.mov (.s 36))]) [4] (.ret)) (.skip)))) [2,3] (.seq (.block 0 (.seq (.region false [oo 38 (.fieldAddr 6 (.s 2)),oo 39 (.load false 1 (.s 38)),oo 40 (.fieldAddr 6 (.s 3)),oo 41 (.load false 1 (.s 40)),oo 42 (.bin .eql true (.s 39) (.s 41)),
 oo 37 (.mov (.s 42))]) [3,37] (.cond (.s 37) (.seq (.region false [oo 4 (.mov (.c (.int .i64 0)))]) [4] (.ret)) (.seq (.region false [oo 44 (.fieldAddr 6 (.s 3)),oo 45 (.load false 1 (.s 44)),oo 43 (.mov (.s 45))]) [43] (.cond (.s 43) (.seq (.region false [oo 4 (.mov (.c (.int .i64 (-1))))]) [4] (
 .ret)) (.skip)))))) [] (.seq (.region false [oo 4 (.mov (.c (.int .i64 1)))]) [4] (.ret))))))⟩
def tf83 : TFn := ⟨46,[.tmp 4],.seq (.region false [oo 3 (.box 87 (.s 1)),oo 4 (.mov (.c (.fsl [])))]) [0,3] (.seq (.region false [oo 5 (.mov (.c (.int .i64 0)))]) [0,3,5] (.seq (.block 0 (.loop (.seq (.seq (.region true [oo 6 (.mov (.s 5)),oo 7 (.mov (.s 0)),oo 8 (.len (.s 7)),
 oo 9 (.bin .lss false (.s 6) (.s 8)),oo 10 (.mov (.s 9)),oT 11 10 (.mov (.s 0)),oT 12 10 (.mov (.s 5)),oT 13 10 (.indexAddr 7 (.s 11) (.s 12)),oT 14 10 (.load true 7 (.s 13)),oT 15 10 (.load true 7 (.s 3)),oT 16 10 (.call 82 [(.s 14),(.s 15)]),oT 17 10 (.bin .lss false (.s 16) (.c (.int .i64 0))),
 oo 18 (.pick (.s 10) (.s 17) (.c (.bool false)))]) [0,3,5,18] (.cond (.s 18) (.skip) (.exit 0))) [0,3,5] (.block 1 (.region false [oo 19 (.mov (.s 5)),oo 20 (.bin .add false (.s 19) (.c (.int .i64 1))),oo 5 (.mov (.s 20))]))))) [0,3,5] (.seq (.seq (.region true [oo 21 (.mov (.s 5)),
 oo 22 (.mov (.s 0)),oo 23 (.len (.s 22)),oo 24 (.bin .lss false (.s 21) (.s 23)),oo 25 (.mov (.s 24)),oT 26 25 (.mov (.s 0)),oT 27 25 (.mov (.s 5)),oT 28 25 (.indexAddr 7 (.s 26) (.s 27)),oT 29 25 (.load true 7 (.s 28)),oT 30 25 (.load true 7 (.s 3)),oT 31 25 (.call 82 [(.s 29),(.s 30)]),
 oT 32 25 (.bin .eql false (.s 31) (.c (.int .i64 0))),oo 33 (.pick (.s 25) (.s 32) (.c (.bool false)))]) [0,3,5,33] (.cond (.s 33) (.seq (.region false [oo 34 (.mov (.s 0)),oo 4 (.mov (.s 34))]) [4] (.ret)) (.skip))) [0,3,5] (.seq (.region true [oo 35 (.mov (.s 0)),oo 36 (.mov (.s 5)),
 oo 37 (.slice 7 (.s 35) none (some (.s 36)) none),oo 38 (.append 7 87 72 (.c (.fsl [])) (.s 37)),oo 39 (.load true 7 (.s 3)),oo 40 (.buildSlice 7 87 [(.s 39)]),oo 41 (.append 7 87 72 (.s 38) (.s 40)),oo 42 (.mov (.s 0)),oo 43 (.mov (.s 5)),oo 44 (.slice 7 (.s 42) (some (.s 43)) none none),
 oo 45 (.append 7 87 72 (.s 41) (.s 44)),oo 4 (.mov (.s 45))]) [4] (.ret)))))⟩
def tf84 : TFn := ⟨34,[.tmp 2],.seq (.region false [oo 1 (.box 87 (.s 0)),oo 2 (.mov (.c (.bool false)))]) [1] (.seq (.seq (.region false [oo 3 (.fieldAddr 0 (.s 1)),oo 4 (.load false 1 (.s 3)),oo 5 (.bin .eql false (.s 4) (.c (.int .i64 0)))]) [1,5] (.cond (.s 5) (.seq (
 .region false [oo 6 (.fieldAddr 1 (.s 1)),oo 7 (.load true 5 (.s 6)),oo 8 (.call 39 [(.s 7)]),oo 9 (.mov (.s 8)),oT 10 9 (.fieldAddr 1 (.s 1)),oT 11 9 (.fieldAddr 4 (.s 10)),oT 12 9 (.load false 1 (.s 11)),oT 13 9 (.bin .eql false (.s 12) (.c (.str []))),
 oo 14 (.pick (.s 9) (.s 13) (.c (.bool false))),oo 2 (.mov (.s 14))]) [2] (.ret)) (.skip))) [1] (.seq (.region false [oo 15 (.fieldAddr 0 (.s 1)),oo 16 (.load false 1 (.s 15)),oo 17 (.bin .eql false (.s 16) (.c (.int .i64 (-1)))),oo 18 (.mov (.s 17)),oF 19 18 (.fieldAddr 0 (.s 1)),
 oF 20 18 (.load false 1 (.s 19)),oF 21 18 (.bin .eql false (.s 20) (.c (.int .i64 1))),oo 22 (.pick (.s 18) (.c (.bool true)) (.s 21)),oo 23 (.mov (.s 22)),oT 24 23 (.fieldAddr 1 (.s 1)),oT 25 23 (.load true 5 (.s 24)),
 oT 26 23 (.build [(.int .i64 0),(.int .i64 0),(.int .i64 0),(.str []),(.str [])] []),oT 27 23 (.eqs false [0,0,0,2,2] (.s 25) (.s 26)),oo 28 (.pick (.s 23) (.s 27) (.c (.bool false))),oo 29 (.mov (.s 28)),oT 30 29 (.fieldAddr 6 (.s 1)),oT 31 29 (.load false 1 (.s 30)),oT 32 29 (.un .not (.s 31)),
 oo 33 (.pick (.s 29) (.s 32) (.c (.bool false))),oo 2 (.mov (.s 33))]) [2] (.ret)))⟩
def tf85 : TFn := ⟨13,[.tmp 4],.seq (.region false [oo 4 (.mov (.c (.int .i64 0)))]) [0,1] (.seq (.block 0 (.seq (.region false [oo 6 (.mov (.s 0)),oo 7 (.mov (.s 1)),oo 8 (.bin .lss false (.s 6) (.s 7)),oo 5 (.mov (.s 8))]) [0,1,5] (.cond (.s 5) (.seq (
 .region false [oo 4 (.mov (.c (.int .i64 (-1))))]) [4] (.ret)) (.seq (.region false [oo 10 (.mov (.s 0)),oo 11 (.mov (.s 1)),oo 12 (.bin .gtr false (.s 10) (.s 11)),oo 9 (.mov (.s 12))]) [9] (.cond (.s 9) (.seq (.region false [oo 4 (.mov (.c (.int .i64 1)))]) [4] (.ret)) (.skip)))))) [] (.seq (
 .region false [oo 4 (.mov (.c (.int .i64 0)))]) [4] (.ret)))⟩
def tf86 : TFn := ⟨45,[.tmp 4],.seq (.region false [oo 2 (.box 60 (.s 0)),oo 3 (.box 60 (.s 1)),oo 4 (.mov (.c (.int .i64 0)))]) [2,3] (.seq (.seq (.region false [oo 8 (.load true 5 (.s 2)),oo 9 (.call 39 [(.s 8)]),oo 10 (.un .not (.s 9)),oo 11 (.mov (.s 10)),oF 12 11 (.load true 5 (.s 3)),
 oF 13 11 (.call 39 [(.s 12)]),oF 14 11 (.un .not (.s 13)),oo 15 (.pick (.s 11) (.c (.bool true)) (.s 14))]) [2,3,15] (.cond (.s 15) (.seq (.region false [oo 4 (.mov (.c (.int .i64 0)))]) [4] (.ret)) (.skip))) [2,3] (.seq (.seq (.region false [oo 16 (.fieldAddr 0 (.s 2)),
 oo 17 (.load false 1 (.s 16)),oo 18 (.fieldAddr 0 (.s 3)),oo 19 (.load false 1 (.s 18)),oo 20 (.call 85 [(.s 17),(.s 19)]),oo 5 (.mov (.s 20))]) [2,3,5] (.seq (.region false [oo 21 (.mov (.s 5)),oo 22 (.bin .neq false (.s 21) (.c (.int .i64 0)))]) [2,3,5,22] (.cond (.s 22) (.seq (
 .region false [oo 23 (.mov (.s 5)),oo 4 (.mov (.s 23))]) [4] (.ret)) (.skip)))) [2,3] (.seq (.seq (.region false [oo 24 (.fieldAddr 1 (.s 2)),oo 25 (.load false 1 (.s 24)),oo 26 (.fieldAddr 1 (.s 3)),oo 27 (.load false 1 (.s 26)),oo 28 (.call 85 [(.s 25),(.s 27)]),oo 6 (.mov (.s 28))]) [2,3,6] (
 .seq (.region false [oo 29 (.mov (.s 6)),oo 30 (.bin .neq false (.s 29) (.c (.int .i64 0)))]) [2,3,6,30] (.cond (.s 30) (.seq (.region false [oo 31 (.mov (.s 6)),oo 4 (.mov (.s 31))]) [4] (.ret)) (.skip)))) [2,3] (.seq (.seq (.region false [oo 32 (.fieldAddr 2 (.s 2)),
 oo 33 (.load false 1 (.s 32)),oo 34 (.fieldAddr 2 (.s 3)),oo 35 (.load false 1 (.s 34)),oo 36 (.call 85 [(.s 33),(.s 35)]),oo 7 (.mov (.s 36))]) [2,3,7] (.seq (.region false [oo 37 (.mov (.s 7)),oo 38 (.bin .neq false (.s 37) (.c (.int .i64 0)))]) [2,3,7,38] (.cond (.s 38) (.seq (
 .region false [oo 39 (.mov (.s 7)),oo 4 (.mov (.s 39))]) [4] (.ret)) (.skip)))) [2,3] (.seq (.region false [oo 40 (.fieldAddr 3 (.s 2)),oo 41 (.load false 1 (.s 40)),oo 42 (.fieldAddr 3 (.s 3)),oo 43 (.load false 1 (.s 42)),oo 44 (.call 87 [(.s 41),(.s 43)]),oo 4 (.mov (.s 44))]) [4] (.ret))))))⟩
def tf87 : TFn := ⟨52,[.tmp 4],.seq (.region false [oo 4 (.mov (.c (.int .i64 0)))]) [0,1] (.seq (.block 0 (.seq (.region false [oo 10 (.mov (.s 0)),oo 11 (.mov (.s 1)),oo 12 (.bin .eql false (.s 10) (.s 11)),oo 9 (.mov (.s 12))]) [0,1,9] (.cond (.s 9) (.seq (
 .region false [oo 4 (.mov (.c (.int .i64 0)))]) [4] (.ret)) (.seq (.region false [oo 14 (.mov (.s 0)),oo 15 (.bin .eql false (.s 14) (.c (.str []))),oo 13 (.mov (.s 15))]) [0,1,13] (.cond (.s 13) (.seq (.region false [oo 4 (.mov (.c (.int .i64 1)))]) [4] (.ret)) (.seq (
 .region false [oo 17 (.mov (.s 1)),oo 18 (.bin .eql false (.s 17) (.c (.str []))),oo 16 (.mov (.s 18))]) [0,1,16] (.cond (.s 16) (.seq (.region false [oo 4 (.mov (.c (.int .i64 (-1))))]) [4] (.ret)) (.skip)))))))) [0,1] (.seq (.region false [oo 19 (.mov (.s 0)),
 oo 20 (.call 65 [(.s 19),(.c (.int .u8 46))]),oo 21 (.mov (.s 1)),oo 22 (.call 65 [(.s 21),(.c (.int .u8 46))]),oo 5 (.mov (.s 20)),oo 6 (.mov (.s 22))]) [5,6] (.seq (.seq (.region false [oo 7 (.mov (.c (.int .i64 0)))]) [5,6,7] (.block 1 (.loop (.seq (.seq (.region false [oo 23 (.mov (.s 7)),
 oo 24 (.mov (.s 5)),oo 25 (.len (.s 24)),oo 26 (.bin .lss false (.s 23) (.s 25)),oo 27 (.mov (.s 26)),oT 28 27 (.mov (.s 7)),oT 29 27 (.mov (.s 6)),oT 30 27 (.len (.s 29)),oT 31 27 (.bin .lss false (.s 28) (.s 30)),oo 32 (.pick (.s 27) (.s 31) (.c (.bool false)))]) [5,6,7,32] (.cond (.s 32) (
 .skip) (.exit 1))) [5,6,7] (.seq (.block 2 (.seq (.region true [oo 35 (.mov (.s 5)),oo 36 (.mov (.s 7)),oo 37 (.indexAddr 1 (.s 35) (.s 36)),oo 38 (.load false 1 (.s 37)),oo 39 (.mov (.s 6)),oo 40 (.mov (.s 7)),oo 41 (.indexAddr 1 (.s 39) (.s 40)),oo 42 (.load false 1 (.s 41)),
 oo 43 (.call 88 [(.s 38),(.s 42)]),oo 8 (.mov (.s 43))]) [5,6,7,8] (.seq (.region false [oo 44 (.mov (.s 8)),oo 45 (.bin .neq false (.s 44) (.c (.int .i64 0)))]) [5,6,7,8,45] (.cond (.s 45) (.seq (.region false [oo 46 (.mov (.s 8)),oo 4 (.mov (.s 46))]) [4] (.ret)) (.skip))))) [5,6,7] (
 .region false [oo 33 (.mov (.s 7)),oo 34 (.bin .add false (.s 33) (.c (.int .i64 1))),oo 7 (.mov (.s 34))])))))) [5,6] (.seq (.region false [oo 47 (.mov (.s 5)),oo 48 (.len (.s 47)),oo 49 (.mov (.s 6)),oo 50 (.len (.s 49)),oo 51 (.call 85 [(.s 48),(.s 50)]),oo 4 (.mov (.s 51))]) [4] (.ret)))))⟩
def tf88 : TFn := ⟨40,[.tmp 4],.seq (.region false [oo 4 (.mov (.c (.int .i64 0)))]) [0,1] (.seq (.region false [oo 11 (.mov (.s 0)),oo 12 (.call 68 [(.s 11)]),oo 13 (.mov (.s 1)),oo 14 (.call 68 [(.s 13)]),oo 5 (.mov (.s 12)),oo 6 (.mov (.s 14))]) [0,1,5,6] (.seq (.block 0 (.seq (
 .region false [oo 16 (.mov (.s 5)),oo 17 (.mov (.s 16)),oT 18 17 (.mov (.s 6)),oo 19 (.pick (.s 17) (.s 18) (.c (.bool false))),oo 15 (.mov (.s 19))]) [0,1,5,6,15] (.cond (.s 15) (.seq (.region false [oo 21 (.mov (.s 0)),oo 22 (.call 67 [(.s 21)]),oo 20 (.mov (.s 22)),oo 23 (.extract 0 (.s 20)),
 oo 24 (.extract 1 (.s 20)),oo 7 (.mov (.s 23)),oo 8 (.mov (.s 24))]) [1,7] (.seq (.region false [oo 26 (.mov (.s 1)),oo 27 (.call 67 [(.s 26)]),oo 25 (.mov (.s 27)),oo 28 (.extract 0 (.s 25)),oo 29 (.extract 1 (.s 25)),oo 9 (.mov (.s 28)),oo 10 (.mov (.s 29))]) [7,9] (.seq (
 .region false [oo 30 (.mov (.s 7)),oo 31 (.mov (.s 9)),oo 32 (.call 85 [(.s 30),(.s 31)]),oo 4 (.mov (.s 32))]) [4] (.ret)))) (.seq (.region false [oo 34 (.mov (.s 5)),oo 33 (.mov (.s 34))]) [0,1,6,33] (.cond (.s 33) (.seq (.region false [oo 4 (.mov (.c (.int .i64 (-1))))]) [4] (.ret)) (.seq (
 .region false [oo 36 (.mov (.s 6)),oo 35 (.mov (.s 36))]) [0,1,35] (.cond (.s 35) (.seq (.region false [oo 4 (.mov (.c (.int .i64 1)))]) [4] (.ret)) (.skip)))))))) [0,1] (.seq (.region false [oo 37 (.mov (.s 0)),oo 38 (.mov (.s 1)),oo 39 (.call 89 [(.s 37),(.s 38)]),oo 4 (.mov (.s 39))]) [4] (
 .ret))))⟩
def tf89 : TFn := ⟨13,[.tmp 4],.seq (.region false [oo 4 (.mov (.c (.int .i64 0)))]) [0,1] (.seq (.block 0 (.seq (.region false [oo 6 (.mov (.s 0)),oo 7 (.mov (.s 1)),oo 8 (.bin .lss false (.s 6) (.s 7)),oo 5 (.mov (.s 8))]) [0,1,5] (.cond (.s 5) (.seq (
 .region false [oo 4 (.mov (.c (.int .i64 (-1))))]) [4] (.ret)) (.seq (.region false [oo 10 (.mov (.s 0)),oo 11 (.mov (.s 1)),oo 12 (.bin .gtr false (.s 10) (.s 11)),oo 9 (.mov (.s 12))]) [9] (.cond (.s 9) (.seq (.region false [oo 4 (.mov (.c (.int .i64 1)))]) [4] (.ret)) (.skip)))))) [] (.seq (
 .region false [oo 4 (.mov (.c (.int .i64 0)))]) [4] (.ret)))⟩
theorem tp3 : QG Try.prog Try.f3 = some tf3.erase := by kernel_rfl
theorem tp5 : QG Try.prog Try.f5 = some tf5.erase := by kernel_rfl
theorem tp6 : QG Try.prog Try.f6 = some tf6.erase := by kernel_rfl
theorem tp7 : QG Try.prog Try.f7 = some tf7.erase := by kernel_rfl
theorem tp8 : QG Try.prog Try.f8 = some tf8.erase := by kernel_rfl
theorem tp9 : QG Try.prog Try.f9 = some tf9.erase := by kernel_rfl
theorem Qpp : QG Try.prog Try.f10 = some tf10.erase := by kernel_rfl
theorem Qpq : QG Try.prog Try.f11 = some tf11.erase := by kernel_rfl
theorem Qpr : QG Try.prog Try.f12 = some tf12.erase := by kernel_rfl
theorem Qps : QG Try.prog Try.f13 = some tf13.erase := by kernel_rfl
theorem Qpt : QG Try.prog Try.f14 = some tf14.erase := by kernel_rfl
theorem Qpu : QG Try.prog Try.f16 = some tf16.erase := by kernel_rfl
theorem Qpv : QG Try.prog Try.f18 = some tf18.erase := by kernel_rfl
theorem Qpw : QG Try.prog Try.f19 = some tf19.erase := by kernel_rfl
theorem Qpx : QG Try.prog Try.f20 = some tf20.erase := by kernel_rfl
theorem Qpy : QG Try.prog Try.f21 = some tf21.erase := by kernel_rfl
theorem Qpz : QG Try.prog Try.f22 = some tf22.erase := by kernel_rfl
theorem QpA : QG Try.prog Try.f23 = some tf23.erase := by kernel_rfl
theorem QpB : QG Try.prog Try.f24 = some tf24.erase := by kernel_rfl
theorem QpC : QG Try.prog Try.f25 = some tf25.erase := by kernel_rfl
theorem QpD : QG Try.prog Try.f26 = some tf26.erase := by kernel_rfl
theorem QpE : QG Try.prog Try.f27 = some tf27.erase := by kernel_rfl
theorem QpF : QG Try.prog Try.f28 = some tf28.erase := by kernel_rfl
theorem QpG : QG Try.prog Try.f29 = some tf29.erase := by kernel_rfl
theorem QpH : QG Try.prog Try.f30 = some tf30.erase := by kernel_rfl
theorem QpI : QG Try.prog Try.f31 = some tf31.erase := by kernel_rfl
theorem QpJ : QG Try.prog Try.f32 = some tf32.erase := by kernel_rfl
theorem QpK : QG Try.prog Try.f33 = some tf33.erase := by kernel_rfl
theorem QpL : QG Try.prog Try.f34 = some tf34.erase := by kernel_rfl
theorem QpM : QG Try.prog Try.f36 = some tf36.erase := by kernel_rfl
theorem QpN : QG Try.prog Try.f37 = some tf37.erase := by kernel_rfl
theorem QpO : QG Try.prog Try.f38 = some tf38.erase := by kernel_rfl
theorem QpP : QG Try.prog Try.f39 = some tf39.erase := by kernel_rfl
theorem QpQ : QG Try.prog Try.f40 = some tf40.erase := by kernel_rfl
theorem QpR : QG Try.prog Try.f41 = some tf41.erase := by kernel_rfl
theorem QpS : QG Try.prog Try.f42 = some tf42.erase := by kernel_rfl
theorem QpT : QG Try.prog Try.f43 = some tf43.erase := by kernel_rfl
theorem QpU : QG Try.prog Try.f44 = some tf44.erase := by kernel_rfl
theorem QpV : QG Try.prog Try.f45 = some tf45.erase := by kernel_rfl
theorem QpW : QG Try.prog Try.f46 = some tf46.erase := by kernel_rfl
theorem QpX : QG Try.prog Try.f47 = some tf47.erase := by kernel_rfl
theorem QpY : QG Try.prog Try.f48 = some tf48.erase := by kernel_rfl
theorem QpZ : QG Try.prog Try.f49 = some tf49.erase := by kernel_rfl
theorem Qp0 : QG Try.prog Try.f50 = some tf50.erase := by kernel_rfl
theorem Qp1 : QG Try.prog Try.f51 = some tf51.erase := by kernel_rfl
theorem Qp2 : QG Try.prog Try.f52 = some tf52.erase := by kernel_rfl
theorem Qp3 : QG Try.prog Try.f54 = some tf54.erase := by kernel_rfl
theorem Qp4 : QG Try.prog Try.f55 = some tf55.erase := by kernel_rfl
theorem Qp5 : QG Try.prog Try.f56 = some tf56.erase := by kernel_rfl
theorem Qp6 : QG Try.prog Try.f57 = some tf57.erase := by kernel_rfl
theorem Qp7 : QG Try.prog Try.f58 = some tf58.erase := by kernel_rfl
theorem Qp8 : QG Try.prog Try.f59 = some tf59.erase := by kernel_rfl
theorem Qp9 : QG Try.prog Try.f60 = some tf60.erase := by kernel_rfl
theorem Qqa : QG Try.prog Try.f61 = some tf61.erase := by kernel_rfl
theorem Qqb : QG Try.prog Try.f62 = some tf62.erase := by kernel_rfl
theorem Qqc : QG Try.prog Try.f63 = some tf63.erase := by kernel_rfl
theorem Qqd : QG Try.prog Try.f64 = some tf64.erase := by kernel_rfl
theorem Qqe : QG Try.prog Try.f65 = some tf65.erase := by kernel_rfl
theorem Qqf : QG Try.prog Try.f66 = some tf66.erase := by kernel_rfl
theorem Qqg : QG Try.prog Try.f67 = some tf67.erase := by kernel_rfl
theorem Qqh : QG Try.prog Try.f68 = some tf68.erase := by kernel_rfl
theorem Qqi : QG Try.prog Try.f69 = some tf69.erase := by kernel_rfl
theorem Qqj : QG Try.prog Try.f70 = some tf70.erase := by kernel_rfl
theorem Qqk : QG Try.prog Try.f71 = some tf71.erase := by kernel_rfl
theorem Qql : QG Try.prog Try.f72 = some tf72.erase := by kernel_rfl
theorem Qqm : QG Try.prog Try.f73 = some tf73.erase := by kernel_rfl
theorem Qqn : QG Try.prog Try.f74 = some tf74.erase := by kernel_rfl
theorem Qqo : QG Try.prog Try.f75 = some tf75.erase := by kernel_rfl
theorem Qqp : QG Try.prog Try.f76 = some tf76.erase := by kernel_rfl
theorem Qqq : QG Try.prog Try.f77 = some tf77.erase := by kernel_rfl
theorem Qqr : QG Try.prog Try.f78 = some tf78.erase := by kernel_rfl
theorem Qqs : QG Try.prog Try.f79 = some tf79.erase := by kernel_rfl
theorem Qqt : QG Try.prog Try.f80 = some tf80.erase := by kernel_rfl
theorem Qqu : QG Try.prog Try.f81 = some tf81.erase := by kernel_rfl
theorem Qqv : QG Try.prog Try.f82 = some tf82.erase := by kernel_rfl
theorem Qqw : QG Try.prog Try.f83 = some tf83.erase := by kernel_rfl
theorem Qqx : QG Try.prog Try.f84 = some tf84.erase := by kernel_rfl
theorem Qqy : QG Try.prog Try.f85 = some tf85.erase := by kernel_rfl
theorem Qqz : QG Try.prog Try.f86 = some tf86.erase := by kernel_rfl
theorem QqA : QG Try.prog Try.f87 = some tf87.erase := by kernel_rfl
theorem QqB : QG Try.prog Try.f88 = some tf88.erase := by kernel_rfl
theorem QqC : QG Try.prog Try.f89 = some tf89.erase := by kernel_rfl
theorem Yb : Try.prog.follows .mixedOrders = true := by kernel_rfl
end Go.Proofs
namespace M3
open Go Go.Abs
def mFits (n : Int) : Bool := decide (0 <= n) && decide (n <= 9999)
def QbQ (m n : Int) : Int := if m < n then -1 else if n < m then 1 else 0
def XU (c : UInt8) : Bool := decide (48 <= c.toNat) && decide (c.toNat <= 57)
def Xc (s : List UInt8) : Bool := s.all XU && !decide (s = [])
theorem QfB {s : List UInt8} {i : Nat} (h : i < s.length) (hd : XU s[i] = false) : Xc s = false := by
 have : s.all XU = false := by
  rw [Bool.eq_false_iff]
  intro ha
  rw [List.all_eq_true] at ha
  rw [ha _ (List.getElem_mem h)] at hd
  cases hd
 rw [Xc, this]; rfl
theorem Qil {s : List UInt8} {i : Nat} (hi : s.length <= i) (h : (s.take i).all XU = true) : Xc s = !decide (s = []) := by
 rw [List.take_of_length_le hi] at h
 rw [Xc, h]; rfl
def QeD (v n : Int) : Int := if v.tmod n < 0 then v.tmod n + n else v.tmod n
def ZG (l : List Int) : D := .sl (l.map fun x => [.int .i64 x])
theorem Ql4 {v n : Int} (h : 0 < n) : 0 <= QeD v n := by
 unfold QeD
 have h1 := Int.tmod_lt_of_pos v h
 have h2 := Int.lt_tmod_of_pos v h
 split <;> omega
theorem Ql3 {v n : Int} (h : 0 < n) : QeD v n < n := by
 unfold QeD
 have h1 := Int.tmod_lt_of_pos v h
 split <;> omega
end M3
namespace M3
open Go Go.Abs
def Qaj (c : Int) : List UInt8 -> List UInt8 -> List (List UInt8)
 | [], cur => [cur]
 | x :: xs, cur => if (x.toNat : Int) = c then cur :: Qaj c xs [] else Qaj c xs (cur ++ [x])
def Z9 (s : List UInt8) (c : Int) : List (List UInt8) := Qaj c s []
def Qao (l : List (List UInt8)) : List (List D) := l.map fun x => [.str x]
def SplitI (s : List UInt8) (c : Int) (i k : Nat) (acc : List (List UInt8)) : Prop :=
 i <= s.length /\ k <= i /\ acc.length <= i /\ Z9 s c = acc ++ Qaj c (s.drop i) ((s.take i).drop k)
theorem SplitI.zero {s : List UInt8} {c : Int} : SplitI s c 0 0 [] := ⟨Nat.zero_le _, Nat.le_refl _, Nat.le_refl _, by simp [Z9]⟩
theorem SplitI.hit {s : List UInt8} {c : Int} {i k : Nat} {acc : List (List UInt8)} (h : SplitI s c i k acc) (hi : i < s.length) (he : ((s[i]).toNat : Int) = c) : SplitI s c (i + 1) (i + 1) (acc ++ [(s.take i).drop k]) := by
 obtain ⟨h1, h2, h3, h4⟩ := h
 refine ⟨hi, Nat.le_refl _, by simp; omega, ?_⟩
 rw [List.drop_eq_getElem_cons hi] at h4
 simp only [Qaj, he, if_true] at h4
 rw [h4, List.append_assoc]
 simp
theorem SplitI.miss {s : List UInt8} {c : Int} {i k : Nat} {acc : List (List UInt8)} (h : SplitI s c i k acc) (hi : i < s.length) (he : ¬ ((s[i]).toNat : Int) = c) : SplitI s c (i + 1) k acc := by
 obtain ⟨h1, h2, h3, h4⟩ := h
 refine ⟨hi, by omega, by omega, ?_⟩
 rw [List.drop_eq_getElem_cons hi] at h4
 simp only [Qaj, he, if_false] at h4
 rw [h4, List.take_succ_eq_append_getElem hi, List.drop_append_of_le_length (by simp; omega)]
theorem SplitI.done {s : List UInt8} {c : Int} {i k : Nat} {acc : List (List UInt8)} (h : SplitI s c i k acc) (hi : s.length <= i) : Z9 s c = acc ++ [s.drop k] := by
 obtain ⟨h1, h2, h3, h4⟩ := h
 rw [h4, List.drop_eq_nil_of_le hi, List.take_of_length_le hi]
 rfl
end M3
namespace M3
open Go Go.Abs
def Qho (a b : List UInt8) : Int := if Op.bytesLess a b = true then -1 else if a = b then 0 else 1
def Xl (c : Int) : Bool := decide (48 <= c) && decide (c <= 57)
def YQ (c : UInt8) : Bool := (decide (97 <= c.toNat) && decide (c.toNat <= 122)) || (decide (48 <= c.toNat) && decide (c.toNat <= 57)) || decide (c.toNat = 45)
def QeE (s : List UInt8) : Bool := decide (1 <= s.length) && decide (s.length <= 8) && s.all YQ
def val (s : List UInt8) : Nat := s.foldl (fun n c => 10 * n + (c.toNat - 48)) 0
def YM (s : List UInt8) : Int × Bool :=
 if s.length < 1 \/ 9 < s.length \/ (1 < s.length /\ s.head? = some 48) \/ s.all XU = false \/ 9999 < val s then (0, false) else ((val s : Int), true)
def mOne (a b : List UInt8) : Int :=
 if Xc a = true /\ Xc b = true then QbQ (YM a).1 (YM b).1
 else if Xc a = true then -1 else if Xc b = true then 1 else Qho a b
def QjR : List (List UInt8) -> List (List UInt8) -> Int
 | [], [] => 0
 | [], _ :: _ => -1
 | _ :: _, [] => 1
 | a :: l, b :: m => if mOne a b ≠ 0 then mOne a b else QjR l m
def Qe5 (a b : List UInt8) : Int := if a = b then 0 else if a = [] then 1 else if b = [] then -1 else QjR (Z9 a 46) (Z9 b 46)
def QdA (pre : Bool) (t : List UInt8) : Bool := QeE t && !(pre && Xc t && !(YM t).2)
def Qbl (s : List UInt8) (pre : Bool) : Bool := decide (s = []) || (decide ((Z9 s 46).length <= 4) && (Z9 s 46).all (QdA pre))
def QgF (a b c : Int) (p q : List UInt8) : Bool := mFits a && mFits b && mFits c && Qbl p true && Qbl q false
def QkH (a b c : Int) (p q : List UInt8) (a' b' c' : Int) (p' q' : List UInt8) : Int :=
 if QgF a b c p q = false \/ QgF a' b' c' p' q' = false then 0
 else if QbQ a a' ≠ 0 then QbQ a a' else if QbQ b b' ≠ 0 then QbQ b b' else if QbQ c c' ≠ 0 then QbQ c c' else Qe5 p p'
theorem XW {α : Type} {s : List α} {p : α -> Bool} {i : Nat} (h : i < s.length) (hd : p s[i] = false) : s.all p = false := by
 rw [Bool.eq_false_iff]
 intro ha
 rw [List.all_eq_true] at ha
 rw [ha _ (List.getElem_mem h)] at hd
 cases hd
theorem XI {α : Type} {s : List α} {p : α -> Bool} {i : Nat} (hi : s.length <= i) (h : (s.take i).all p = true) : s.all p = true := by rwa [List.take_of_length_le hi] at h
theorem Qjq {s : List UInt8} {i : Nat} (h : i < s.length) : val (s.take (i + 1)) = 10 * val (s.take i) + (s[i].toNat - 48) := by
 rw [List.take_succ_eq_append_getElem h]; simp only [val, List.foldl_append, List.foldl_cons, List.foldl_nil]
theorem QoC : ∀ {s : List UInt8}, s.all XU = true -> val s < 10 ^ s.length := by
 intro s
 rw [<- List.reverse_reverse s]
 generalize s.reverse = r
 induction r with
 | nil => intro _; decide
 | cons c r ih =>
  intro h
  rw [List.reverse_cons, List.all_append, Bool.and_eq_true] at h
  have h1 := ih h.1
  have h2 : XU c = true := by simpa using h.2
  simp only [XU, Bool.and_eq_true, decide_eq_true_eq] at h2
  rw [List.reverse_cons]
  simp only [val, List.foldl_append, List.foldl_cons, List.foldl_nil, List.length_append, List.length_cons, List.length_nil] at h1 ⊢
  rw [Nat.pow_succ]
  omega
theorem QkM {l m : List (List UInt8)} {i : Nat} (h1 : i < l.length) (h2 : i < m.length) (h : mOne l[i] m[i] = 0) : QjR (l.drop i) (m.drop i) = QjR (l.drop (i + 1)) (m.drop (i + 1)) := by
 rw [List.drop_eq_getElem_cons h1, List.drop_eq_getElem_cons h2]
 simp [QjR, h]
theorem Qby {l m : List (List UInt8)} {i : Nat} (h1 : i < l.length) (h2 : i < m.length) (h : mOne l[i] m[i] ≠ 0) : QjR (l.drop i) (m.drop i) = mOne l[i] m[i] := by
 rw [List.drop_eq_getElem_cons h1, List.drop_eq_getElem_cons h2]
 simp [QjR, h]
theorem Qbx {l m : List (List UInt8)} {i : Nat} (hl : i <= l.length) (hm : i <= m.length) (h : l.length <= i \/ m.length <= i) : QjR (l.drop i) (m.drop i) = QbQ l.length m.length := by
 rcases Nat.lt_or_ge i l.length with h1 | h1 <;> rcases Nat.lt_or_ge i m.length with h2 | h2
 ·omega
 ·rw [List.drop_eq_getElem_cons h1, List.drop_eq_nil_of_le h2]
  simp only [QjR, QbQ]
  rw [if_neg (by omega), if_pos (by omega)]
 ·rw [List.drop_eq_getElem_cons h2, List.drop_eq_nil_of_le h1]
  simp only [QjR, QbQ]
  rw [if_pos (by omega)]
 ·rw [List.drop_eq_nil_of_le h1, List.drop_eq_nil_of_le h2]
  simp only [QjR, QbQ]
  rw [if_neg (by omega), if_neg (by omega)]
end M3
namespace M3
end M3
namespace M3
theorem Qn5 {s : List UInt8} (h : 0 < s.length) (e : ((s[0]).toNat : Int) = 48) : s.head? = some 48 := by
 cases s with
 | nil => simp at h
 | cons x r =>
  simp only [List.getElem_cons_zero] at e
  have : x = 48 := UInt8.toNat_inj.1 (by simpa using (by omega : x.toNat = 48))
  simp [this]
theorem Qkv {s : List UInt8} (h : 0 < s.length) (e : ¬ ((s[0]).toNat : Int) = 48) : s.head? ≠ some 48 := by
 cases s with
 | nil => simp at h
 | cons x r =>
  simp only [List.getElem_cons_zero] at e
  intro hh
  simp at hh
  subst hh
  exact e rfl
theorem QfA {s : List UInt8} {i : Nat} (h : ¬ (s.length < 1 \/ 9 < s.length \/ (1 < s.length /\ s.head? = some 48))) (hi : s.length <= i) (ha : (s.take i).all XU = true) (hv : val (s.take i) <= 9999) : YM s = ((val (s.take i) : Int), true) := by
 have h1 := XI hi ha
 rw [List.take_of_length_le hi] at hv ⊢
 rw [YM, if_neg]
 rintro (q | q | q | q | q)
 ·exact h (.inl q)
 ·exact h (.inr (.inl q))
 ·exact h (.inr (.inr q))
 ·rw [h1] at q; cases q
 ·omega
theorem Qdd {s : List UInt8} {i : Nat} (hi : s.length <= i) (hv : 9999 < val (s.take i)) : YM s = (0, false) := by
 rw [List.take_of_length_le hi] at hv
 rw [YM, if_pos (.inr (.inr (.inr (.inr hv))))]
theorem Qde {s : List UInt8} {i : Nat} (h : i < s.length) (hd : XU s[i] = false) : YM s = (0, false) := by
 rw [YM, if_pos (.inr (.inr (.inr (.inl (XW h hd)))))]
theorem Qdf {s : List UInt8} (h : s.length < 1 \/ 9 < s.length) : YM s = (0, false) := by
 rw [YM, if_pos (by rcases h with h | h; exact .inl h; exact .inr (.inl h))]
theorem QbA {s : List UInt8} (h : 1 < s.length) (e : ((s[0]).toNat : Int) = 48) : YM s = (0, false) := by
 rw [YM, if_pos (.inr (.inr (.inl ⟨h, Qn5 (by omega) e⟩)))]
end M3
namespace M3
open Go Go.Abs
theorem Q2 (l : List (List UInt8)) : (Qao l).length = l.length := by simp [Qao]
theorem Qcw {l : List (List UInt8)} {i : Nat} (h : i < l.length) : (Qao l)[((i : Nat) : Int).toNat]? = some [.str l[i]] := by simp [Qao, h]
theorem QaO {c : Int} : ∀ (s cur : List UInt8), (Qaj c s cur).length <= s.length + 1 /\ ∀ x ∈ Qaj c s cur, x.length <= s.length + cur.length
 | [], cur => by simp [Qaj]
 | x :: xs, cur => by
  simp only [Qaj]
  split
  ·obtain ⟨h1, h2⟩ := QaO (c := c) xs []
   refine ⟨by simp; omega, fun y hy => ?_⟩
   rcases List.mem_cons.1 hy with rfl | hy
   ·simp <;> omega
   ·have := h2 y hy; simp at this ⊢; omega
  ·obtain ⟨h1, h2⟩ := QaO (c := c) xs (cur ++ [x])
   refine ⟨by simp; omega, fun y hy => ?_⟩
   have := h2 y hy; simp at this ⊢; omega
theorem Qlc {s : List UInt8} {c : Int} : (Z9 s c).length <= s.length + 1 := (QaO s []).1
theorem QcQ {s : List UInt8} {c : Int} {i : Nat} (h : i < (Z9 s c).length) (hl : s.length <= 1000000) : ((Z9 s c)[i]).length <= 1000000 := by
 have := (QaO (c := c) s []).2 _ (List.getElem_mem h)
 simp only [List.length_nil, Nat.add_zero] at this
 exact Nat.le_trans this hl
end M3
namespace M3
open Go Go.Abs
theorem QcF {s : List UInt8} {pre : Bool} {i : Nat} (hs : s ≠ []) (h : i < (Z9 s 46).length) (hd : QdA pre (Z9 s 46)[i] = false) : Qbl s pre = false := by
 rw [Qbl, XW h hd]; simp [hs]
theorem Qbm {s : List UInt8} {pre : Bool} {i : Nat} (h4 : (Z9 s 46).length <= 4) (hi : (Z9 s 46).length <= i) (h : ((Z9 s 46).take i).all (QdA pre) = true) : Qbl s pre = true := by
 rw [Qbl, XI hi h]; simp [h4]
end M3
namespace M3
open Go Go.Abs
structure Cu where
 e : Int
 a : Int
 b : Int
 c : Int
 p : List UInt8
 q : List UInt8
 f : Bool
def Qda (e a b c : Int) (p q : List UInt8) (f : Bool) : Bool :=
 if e = 0 then QgF a b c p q && decide (q = [])
 else (decide (e = -1) || decide (e = 1)) && (decide (a = 0) && (decide (b = 0) && (decide (c = 0) && (decide (p = []) && (decide (q = []) && true))))) && !f
def QaK (e a b c : Int) (p q : List UInt8) (f : Bool) (e' a' b' c' : Int) (p' q' : List UInt8) (f' : Bool) : Int :=
 if Qda e a b c p q f = false \/ Qda e' a' b' c' p' q' f' = false then 0
 else if e ≠ e' \/ e ≠ 0 then QbQ e e'
 else if QkH a b c p q a' b' c' p' q' ≠ 0 then QkH a b c p q a' b' c' p' q'
 else if f = f' then 0 else if f' = true then -1 else 1
def QmB (e a b c : Int) (p q : List UInt8) (f : Bool) (a' b' c' : Int) (p' q' : List UInt8) : Bool :=
 if Qda e a b c p q f = false \/ QgF a' b' c' p' q' = false then false
 else if e ≠ 0 then decide (e < 0)
 else decide (QkH a b c p q a' b' c' p' q' < 0) || (decide (QkH a b c p q a' b' c' p' q' = 0) && !f)
end M3
namespace M3
def Qgm (e a b c : Int) (p q : List UInt8) (f : Bool) (e' a' b' c' : Int) (p' q' : List UInt8) (f' : Bool) : Bool :=
 Qda e a b c p q f && Qda e' a' b' c' p' q' f' && decide (QaK e a b c p q f e' a' b' c' p' q' f' < 0)
def Qoi (e a b c : Int) (p q : List UInt8) (f : Bool) (e' a' b' c' : Int) (p' q' : List UInt8) (f' : Bool) (x y z : Int) (r s : List UInt8) : Bool :=
 Qgm e a b c p q f e' a' b' c' p' q' f' && QgF x y z r s && QmB e a b c p q f x y z r s && !QmB e' a' b' c' p' q' f' x y z r s
end M3
namespace M3
open Go Go.Abs
end M3
namespace M3
open Go Go.Abs
end M3
namespace M3
open Go Go.Abs
end M3
namespace M3
open Go Go.Abs
end M3
namespace Go.Proofs
open Go Go.Abs M3
set_option linter.unusedVariables false
set_option linter.unusedSimpArgs false
theorem YV {n : Int} : Ok Try.prog 54 [.int .i64 n] (.bool (mFits n)) := by
 refine Ok.ofT Yb Try.func54 Qp3 (Nat.le_of_ble_eq_true rfl) ?_
 show TW _ _ tf54.body _ _
 refine Qe fun K hK => Qa rfl ?_
 refine hK _ _ (Qb (kp1 rfl) ?_)
 refine Qe fun K hK => Qa rfl (QhZ rfl rfl (Qa rfl ?_))
 refine Qx (g := 5) rfl (fun h1 => ?_) (fun h1 => ?_)
 ·try rw [h1]
  try simp only [qa, qb, qc, qd, qe] at h1
  refine Qf rfl (Qa rfl (Qf rfl (QnQ rfl rfl (Qj rfl rfl (Qa rfl ?_)))))
  refine hK _ _ (Qb (kp1 rfl) ?_)
  refine Qt (Qn rfl ?_)
  simp_all [mFits] <;> omega
 ·try rw [h1]
  try simp only [qa, qb, qc, qd, qe] at h1
  refine Qm rfl (Qm rfl (Qj rfl rfl (Qa rfl ?_)))
  refine hK _ _ (Qb (kp1 rfl) ?_)
  refine Qt (Qn rfl ?_)
  simp_all [mFits] <;> omega
theorem Zp {m n : Int} : Ok Try.prog 85 [.int .i64 m, .int .i64 n] (.int .i64 (QbQ m n)) := by
 refine Ok.ofT Yb Try.func85 Qqy (Nat.le_of_ble_eq_true rfl) ?_
 show TW _ _ tf85.body _ _
 refine Qe fun K hK => Qa rfl ?_
 refine hK _ _ (Qb (kp2 rfl rfl) ?_)
 refine QH ?_ -- 0
 refine QK (Qe fun K hK => Qa rfl (Qa rfl (Y4 rfl rfl (Qa rfl ?_))))
 refine hK _ _ (Qb (kp3 rfl rfl rfl) ?_)
 refine QB rfl (fun h1 => ?_) (fun h1 => ?_)
 ·try rw [h1]
  try simp only [qa, qb, qc, qd, qe] at h1
  refine Qe fun K hK => Qa rfl ?_
  refine hK _ _ (Qb (kp1 rfl) ?_)
  refine Qt (Qu (Qk (Qw rfl ?_)))
  simp_all [QbQ] <;> omega
 ·try rw [h1]
  try simp only [qa, qb, qc, qd, qe] at h1
  refine Qe fun K hK => Qa rfl (Qa rfl (Qfa rfl rfl (Qa rfl ?_)))
  refine hK _ _ (Qb (kp1 rfl) ?_)
  refine QB rfl (fun h2 => ?_) (fun h2 => ?_)
  ·try rw [h2]
   try simp only [qa, qb, qc, qd, qe] at h2
   refine Qe fun K hK => Qa rfl ?_
   refine hK _ _ (Qb (kp1 rfl) ?_)
   refine Qt (Qu (Qk (Qw rfl ?_)))
   simp_all [QbQ] <;> omega
  ·try rw [h2]
   try simp only [qa, qb, qc, qd, qe] at h2
   refine Qz (Ql (Qd (QX) (Qe fun K hK => Qa rfl ?_)))
   refine hK _ _ (Qb (kp1 rfl) ?_)
   refine Qt (Qw rfl ?_)
   simp_all [QbQ] <;> omega
theorem Yz {s : List UInt8} {c : Int} (hl : s.length <= 1000000) : Ok Try.prog 65 [.str s, .int .u8 c] (.sl (Qao (Z9 s c))) := by
 refine Ok.ofT Yb Try.func65 Qqe (Nat.le_of_ble_eq_true rfl) ?_
 show TW _ _ tf65.body _ _
 refine Qe fun K hK => Qa rfl ?_
 refine hK _ _ (Qb (kp2 rfl rfl) ?_)
 refine Qe fun K hK => Qa rfl ?_
 refine hK _ _ (Qb (kp3 rfl rfl rfl) ?_)
 refine Qe fun K hK => Qa rfl ?_
 refine hK _ _ (Qb (kp4 rfl rfl rfl rfl) ?_)
 refine QH ?_ -- 0
 refine Qe fun K hK => Qa rfl ?_
 refine hK _ _ (Qb (kp5 rfl rfl rfl rfl rfl) ?_)
 refine QK ?_
 refine Z6 (ι := Nat × Nat × List (List UInt8)) (fun ⟨i, k, acc⟩ => ⟨[(0, .str s), (1, .int .u8 c), (5, .osl 25 acc.length), (6, .int .i64 k), (7, .int .i64 i)], [(25, ⟨Qao acc, 1, 9, true⟩)]⟩) (fun ⟨i, k, acc⟩ => SplitI s c i k acc) (fun ⟨i, k, acc⟩ => s.length - i) (0, 0, []) ?_ ?_ ?_
 ·exact le_trans (Xk 5 25 1 9 rfl rfl) (ZC (l := [0, 1, 5, 6, 7]) (lH := [25]) (kp5 rfl rfl rfl rfl rfl) (Qq rfl Qy) rfl rfl rfl)
 ·exact SplitI.zero
 intro ⟨i, k, acc⟩ hI
 have hI1 := hI.1
 have hI2 := hI.2.1
 have hI3 := hI.2.2.1
 try dsimp only
 refine QH ?_ -- 1
 refine Qe fun K hK => Qa rfl (Qa rfl (Y9 rfl (Y4 rfl rfl ?_)))
 refine hK _ _ (Qb (kp6 rfl rfl rfl rfl rfl rfl) ?_)
 refine QB rfl (fun h1 => ?_) (fun h1 => ?_)
 ·try rw [h1]
  try simp only [qa, qb, qc, qd, qe] at h1
  refine Qz (Qd (kp5 rfl rfl rfl rfl rfl) ?_)
  refine QH ?_ -- 2
  refine QK (Qe fun K hK => Qa rfl (Qa rfl (Y6 rfl rfl (by omega) (Qcv (by omega)) (Qa rfl (ZJ rfl rfl ?_)))))
  refine hK _ _ (Qb (kp6 rfl rfl rfl rfl rfl rfl) ?_)
  refine QB rfl (fun h2 => ?_) (fun h2 => ?_)
  ·try rw [h2]
   try simp only [qa, qb, qc, qd, qe] at h2
   refine Qe fun K hK => Qa rfl (Qa rfl (Qa rfl (Qa rfl (Qfb rfl rfl rfl (by omega) (by omega) (by omega) rfl (QD rfl rfl (QbS rfl rfl (fun _ h => QaV rfl rfl rfl h) rfl (by simp [Qao]) rfl rfl rfl (by simp; omega) (by simp; omega) (Qa rfl ?_)))))))
   refine hK _ _ (Qb (kp4 rfl rfl rfl rfl) ?_)
   refine Q8 fun K hK => Qa rfl (Q9 rfl rfl (by first | exact Qp (by omega) (by omega) | exact QY (by omega) (by omega) | exact Zd (by omega) (by omega) | rfl) (Qa rfl (hK _ ?_)))
   refine Ql (Qd (kp5 rfl rfl rfl rfl rfl) (Q8 fun K hK => Qa rfl (Q9 rfl rfl (by first | exact Qp (by omega) (by omega) | exact QY (by omega) (by omega) | exact Zd (by omega) (by omega) | rfl) (Qa rfl (hK _ ?_)))))
   refine Qo (i + 1, i + 1, acc ++ [(s.take i).drop k]) ?_ ?_ ?_
   ·exact ZC (l := [0, 1, 5, 6, 7]) (lH := [25]) (kp5 rfl rfl rfl rfl rfl) (Qq rfl Qy) (by simp [Qao, D.scrub]) (by simp [Qao, Box.scrub]) rfl
   ·exact hI.hit (by omega) (by assumption)
   ·show s.length - (i + 1) < s.length - i; omega
  ·try rw [h2]
   try simp only [qa, qb, qc, qd, qe] at h2
   refine Qz (Ql (Qd (kp5 rfl rfl rfl rfl rfl) (Q8 fun K hK => Qa rfl (Q9 rfl rfl (by first | exact Qp (by omega) (by omega) | exact QY (by omega) (by omega) | exact Zd (by omega) (by omega) | rfl) (Qa rfl (hK _ ?_))))))
   refine Qo (i + 1, k, acc) ?_ ?_ ?_
   ·exact ZC (l := [0, 1, 5, 6, 7]) (lH := [25]) (kp5 rfl rfl rfl rfl rfl) (Qq rfl Qy) (by simp [Qao, D.scrub]) (by simp [Qao, Box.scrub]) rfl
   ·exact hI.miss (by omega) (by assumption)
   ·show s.length - (i + 1) < s.length - i; omega
 ·try rw [h1]
  try simp only [qa, qb, qc, qd, qe] at h1
  refine Z0 (Za (QI (QQ (Qd (kp3 rfl rfl rfl) (Qe fun K hK => Qa rfl (Qa rfl (Qa rfl (Qfb rfl rfl rfl (by omega) (by omega) (by omega) rfl (QD rfl rfl (QbS rfl rfl (fun _ h => QaV rfl rfl rfl h) rfl (by simp [Qao]) rfl rfl rfl (by simp; omega) (by simp; omega) ?_))))))))))
  refine Qa rfl ?_
  refine hK _ _ (Qb (kp1 rfl) ?_)
  refine Qt (Ya rfl ?_)
  rw [hI.done (by omega)]; simp [Qaw, D.fz, D.fzS, Qcc, lk, D.can, D.canS, Qao]
end Go.Proofs
namespace Go.Proofs
open Go Go.Abs M3
set_option linter.unusedVariables false
set_option linter.unusedSimpArgs false
theorem QbN {a b : List UInt8} : Ok Try.prog 89 [.str a, .str b] (.int .i64 (Qho a b)) := by
 refine Ok.ofT Yb Try.func89 QqC (Nat.le_of_ble_eq_true rfl) ?_
 show TW _ _ tf89.body _ _
 refine Qe fun K hK => Qa rfl ?_
 refine hK _ _ (Qb (kp2 rfl rfl) ?_)
 refine QH ?_ -- 0
 refine QK (Qe fun K hK => Qa rfl (Qa rfl (QoO rfl rfl (Qa rfl ?_))))
 refine hK _ _ (Qb (kp3 rfl rfl rfl) ?_)
 refine QB rfl (fun h1 => ?_) (fun h1 => ?_)
 ·try rw [h1]
  try simp only [qa, qb, qc, qd, qe] at h1
  refine Qe fun K hK => Qa rfl ?_
  refine hK _ _ (Qb (kp1 rfl) ?_)
  refine Qt (Qu (Qk (Qw rfl ?_)))
  simp_all [Qho]
 ·try rw [h1]
  try simp only [qa, qb, qc, qd, qe] at h1
  refine Qe fun K hK => Qa rfl (Qa rfl (QoN rfl rfl (Qa rfl ?_)))
  refine hK _ _ (Qb (kp1 rfl) ?_)
  refine QB rfl (fun h2 => ?_) (fun h2 => ?_)
  ·try rw [h2]
   try simp only [qa, qb, qc, qd, qe] at h2
   refine Qe fun K hK => Qa rfl ?_
   refine hK _ _ (Qb (kp1 rfl) ?_)
   refine Qt (Qu (Qk (Qw rfl ?_)))
   simp_all [Qho]
  ·try rw [h2]
   try simp only [qa, qb, qc, qd, qe] at h2
   refine Qz (Ql (Qd (QX) (Qe fun K hK => Qa rfl ?_)))
   refine hK _ _ (Qb (kp1 rfl) ?_)
   refine Qt (Qw rfl ?_)
   simp_all [Qho]
theorem QbK {c : Int} : Ok Try.prog 74 [.int .u8 c] (.bool (Xl c)) := by
 refine Ok.ofT Yb Try.func74 Qqn (Nat.le_of_ble_eq_true rfl) ?_
 show TW _ _ tf74.body _ _
 refine Qe fun K hK => Qa rfl ?_
 refine hK _ _ (Qb (kp1 rfl) ?_)
 refine Qe fun K hK => Qa rfl (QhZ rfl rfl (Qa rfl ?_))
 refine Qx (g := 5) rfl (fun h1 => ?_) (fun h1 => ?_)
 ·try rw [h1]
  try simp only [qa, qb, qc, qd, qe] at h1
  refine Qf rfl (Qa rfl (Qf rfl (QnQ rfl rfl (Qj rfl rfl (Qa rfl ?_)))))
  refine hK _ _ (Qb (kp1 rfl) ?_)
  refine Qt (Qn rfl ?_)
  simp_all [Xl] <;> omega
 ·try rw [h1]
  try simp only [qa, qb, qc, qd, qe] at h1
  refine Qm rfl (Qm rfl (Qj rfl rfl (Qa rfl ?_)))
  refine hK _ _ (Qb (kp1 rfl) ?_)
  refine Qt (Qn rfl ?_)
  simp_all [Xl] <;> omega
theorem Yi {s : List UInt8} (hl : s.length <= 1000000) : Ok Try.prog 68 [.str s] (.bool (Xc s)) := by
 refine Ok.ofT Yb Try.func68 Qqh (Nat.le_of_ble_eq_true rfl) ?_
 show TW _ _ tf68.body _ _
 refine Qe fun K hK => Qa rfl ?_
 refine hK _ _ (Qb (kp1 rfl) ?_)
 refine QH ?_ -- 0
 refine Qe fun K hK => Qa rfl ?_
 refine hK _ _ (Qb (kp2 rfl rfl) ?_)
 refine QK ?_
 refine Z6 (ι := Nat) (fun i => ⟨[(0, .str s), (3, .int .i64 i)], []⟩) (fun i => i <= s.length /\ (s.take i).all XU = true) (fun i => s.length - i) 0 ?_ ?_ ?_
 ·exact Q7 (kp2 rfl rfl)
 ·exact ⟨Nat.zero_le _, rfl⟩
 intro i hI
 try dsimp only
 refine QH ?_ -- 1
 refine Qe fun K hK => Qa rfl (Qa rfl (Y9 rfl (Y4 rfl rfl ?_)))
 refine hK _ _ (Qb (kp3 rfl rfl rfl) ?_)
 refine QB rfl (fun h1 => ?_) (fun h1 => ?_)
 ·try rw [h1]
  try simp only [qa, qb, qc, qd, qe] at h1
  refine Qz (Qd (kp2 rfl rfl) ?_)
  refine QH ?_ -- 2
  refine QK (Qe fun K hK => Qa rfl (Qa rfl (Y6 rfl rfl (by omega) (Qcv (by omega)) (Y4 rfl rfl (Qa rfl ?_)))))
  refine Qx (g := 14) rfl (fun h2 => ?_) (fun h2 => ?_)
  ·try rw [h2]
   try simp only [qa, qb, qc, qd, qe] at h2
   refine Qm rfl (Qm rfl (Qm rfl (Qm rfl (Qj rfl rfl ?_))))
   refine hK _ _ (Qb (kp3 rfl rfl rfl) ?_)
   refine Zz rfl (Qe fun K hK => Qa rfl ?_)
   refine hK _ _ (Qb (kp1 rfl) ?_)
   refine Qt (Qu (Qk (Zn (Qu (Qk (Qn rfl ?_))))))
   exact (QfB (i := i) (by omega) (by simp [XU]; omega)).symm
  ·try rw [h2]
   try simp only [qa, qb, qc, qd, qe] at h2
   refine Qf rfl (Qa rfl (Qf rfl (Qa rfl (Qf rfl (Y6 rfl rfl (by omega) (Qcv (by omega)) (Qf rfl (Qfa rfl rfl (Qj rfl rfl ?_))))))))
   refine hK _ _ (Qb (kp3 rfl rfl rfl) ?_)
   refine QB rfl (fun h3 => ?_) (fun h3 => ?_)
   ·try rw [h3]
    try simp only [qa, qb, qc, qd, qe] at h3
    refine Qe fun K hK => Qa rfl ?_
    refine hK _ _ (Qb (kp1 rfl) ?_)
    refine Qt (Qu (Qk (Zn (Qu (Qk (Qn rfl ?_))))))
    exact (QfB (i := i) (by omega) (by simp [XU]; omega)).symm
   ·try rw [h3]
    try simp only [qa, qb, qc, qd, qe] at h3
    refine Qz (Ql (Qd (kp2 rfl rfl) (Q8 fun K hK => Qa rfl (Q9 rfl rfl (by first | exact Qp (by omega) (by omega) | exact QY (by omega) (by omega) | exact Zd (by omega) (by omega) | rfl) (Qa rfl (hK _ ?_))))))
    refine Qo (i + 1) ?_ ?_ ?_
    ·exact Q7 (kp2 rfl rfl)
    ·exact ⟨by omega, Ym (by omega) hI.2 (by simp [XU]; omega)⟩
    ·first | omega | (simp only; omega) | (dsimp only; omega)
 ·try rw [h1]
  try simp only [qa, qb, qc, qd, qe] at h1
  refine Z0 (Za (QI (QQ (Qd (kp1 rfl) (Qe fun K hK => Qa rfl (Y9 rfl (Qfa rfl rfl (Qa rfl ?_))))))))
  refine hK _ _ (Qb (kp1 rfl) ?_)
  refine Qt (Qn rfl ?_)
  rw [Qil (i := i) (by omega) hI.2]; cases s <;> simp
theorem Qck {s : List UInt8} (hl : s.length <= 1000000) : Ok Try.prog 66 [.str s] (.bool (QeE s)) := by
 refine Ok.ofT Yb Try.func66 Qqf (Nat.le_of_ble_eq_true rfl) ?_
 show TW _ _ tf66.body _ _
 refine Qe fun K hK => Qa rfl ?_
 refine hK _ _ (Qb (kp1 rfl) ?_)
 refine QH ?_ -- 0
 refine Qe fun K hK => Qa rfl (Y9 rfl (Y4 rfl rfl (Qa rfl ?_)))
 refine Qx (g := 8) rfl (fun h1 => ?_) (fun h1 => ?_)
 ·try rw [h1]
  try simp only [qa, qb, qc, qd, qe] at h1
  refine Qm rfl (Qm rfl (Qm rfl (Qj rfl rfl ?_)))
  refine hK _ _ (Qb (kp2 rfl rfl) ?_)
  refine Zz rfl (Qe fun K hK => Qa rfl ?_)
  refine hK _ _ (Qb (kp1 rfl) ?_)
  refine Qt (Qk (Qn rfl ?_))
  first | (have hz := XI (p := YQ) (s := s) (i := i) (by omega) hI.2; simp [QeE, hz]; omega) | (have hz := XW (p := YQ) (s := s) (i := i) (by omega) (by simp [YQ]; omega); simp [QeE, hz]; done) | (simp [QeE]; omega)
 ·try rw [h1]
  try simp only [qa, qb, qc, qd, qe] at h1
  refine Qf rfl (Qa rfl (Qf rfl (Y9 rfl (Qf rfl (Qfa rfl rfl (Qj rfl rfl ?_))))))
  refine hK _ _ (Qb (kp2 rfl rfl) ?_)
  refine QB rfl (fun h2 => ?_) (fun h2 => ?_)
  ·try rw [h2]
   try simp only [qa, qb, qc, qd, qe] at h2
   refine Qe fun K hK => Qa rfl ?_
   refine hK _ _ (Qb (kp1 rfl) ?_)
   refine Qt (Qk (Qn rfl ?_))
   first | (have hz := XI (p := YQ) (s := s) (i := i) (by omega) hI.2; simp [QeE, hz]; omega) | (have hz := XW (p := YQ) (s := s) (i := i) (by omega) (by simp [YQ]; omega); simp [QeE, hz]; done) | (simp [QeE]; omega)
  ·try rw [h2]
   try simp only [qa, qb, qc, qd, qe] at h2
   refine Qz (Qd (kp1 rfl) ?_)
   refine QH ?_ -- 1
   refine Qe fun K hK => Qa rfl ?_
   refine hK _ _ (Qb (kp2 rfl rfl) ?_)
   refine QK ?_
   refine Z6 (ι := Nat) (fun i => ⟨[(0, .str s), (3, .int .i64 i)], []⟩) (fun i => i <= s.length /\ (s.take i).all YQ = true) (fun i => s.length - i) 0 ?_ ?_ ?_
   ·exact Q7 (kp2 rfl rfl)
   ·exact ⟨Nat.zero_le _, rfl⟩
   intro i hI
   try dsimp only
   refine QH ?_ -- 2
   refine Qe fun K hK => Qa rfl (Qa rfl (Y9 rfl (Y4 rfl rfl ?_)))
   refine hK _ _ (Qb (kp3 rfl rfl rfl) ?_)
   refine QB rfl (fun h3 => ?_) (fun h3 => ?_)
   ·try rw [h3]
    try simp only [qa, qb, qc, qd, qe] at h3
    refine Qz (Qd (kp2 rfl rfl) ?_)
    refine QH ?_ -- 3
    refine QK (Qe fun K hK => Qa rfl (Qa rfl (Y6 rfl rfl (by omega) (Qcv (by omega)) (Qa rfl ?_))))
    refine hK _ _ (Qb (kp3 rfl rfl rfl) ?_)
    refine Qe fun K hK => Qa rfl (Y4 rfl rfl (Qa rfl ?_))
    refine Qx (g := 24) rfl (fun h4 => ?_) (fun h4 => ?_)
    ·try rw [h4]
     try simp only [qa, qb, qc, qd, qe] at h4
     refine Qm rfl (Qm rfl (Qj rfl rfl (Qa rfl (Qf rfl (Qa rfl (Qf rfl (Y4 rfl rfl (Qf rfl (Qa rfl ?_)))))))))
     refine Qx (g := 31) rfl (fun h5 => ?_) (fun h5 => ?_)
     ·try rw [h5]
      try simp only [qa, qb, qc, qd, qe] at h5
      refine Qm rfl (Qm rfl (Qf rfl (Qj rfl rfl (Qj rfl rfl (Qa rfl (Qf rfl (Qa rfl (Qf rfl (Qay rfl rfl (Qj rfl rfl ?_))))))))))
      refine hK _ _ (Qb (kp3 rfl rfl rfl) ?_)
      refine QB rfl (fun h6 => ?_) (fun h6 => ?_)
      ·try rw [h6]
       try simp only [qa, qb, qc, qd, qe] at h6
       refine Qe fun K hK => Qa rfl ?_
       refine hK _ _ (Qb (kp1 rfl) ?_)
       refine Qt (Qu (Qk (Zn (Qu (Qk (Qn rfl ?_))))))
       first | (have hz := XI (p := YQ) (s := s) (i := i) (by omega) hI.2; simp [QeE, hz]; omega) | (have hz := XW (p := YQ) (s := s) (i := i) (by omega) (by simp [YQ]; omega); simp [QeE, hz]; done) | (simp [QeE]; omega)
      ·try rw [h6]
       try simp only [qa, qb, qc, qd, qe] at h6
       refine Qz (Ql (Qd (kp2 rfl rfl) (Q8 fun K hK => Qa rfl (Q9 rfl rfl (by first | exact Qp (by omega) (by omega) | exact QY (by omega) (by omega) | exact Zd (by omega) (by omega) | rfl) (Qa rfl (hK _ ?_))))))
       refine Qo (i + 1) ?_ ?_ ?_
       ·exact Q7 (kp2 rfl rfl)
       ·exact ⟨by omega, Ym (by omega) hI.2 (by simp [YQ]; omega)⟩
       ·first | omega | (simp only; omega) | (dsimp only; omega)
     ·try rw [h5]
      try simp only [qa, qb, qc, qd, qe] at h5
      refine Qf rfl (Qa rfl (Qf rfl (Qfa rfl rfl (Qf rfl (Qj rfl rfl (Qj rfl rfl (Qa rfl ?_)))))))
      refine Qx (g := 36) rfl (fun h7 => ?_) (fun h7 => ?_)
      ·try rw [h7]
       try simp only [qa, qb, qc, qd, qe] at h7
       refine Qf rfl (Qa rfl (Qf rfl (Qay rfl rfl (Qj rfl rfl ?_))))
       refine hK _ _ (Qb (kp3 rfl rfl rfl) ?_)
       refine QB rfl (fun h8 => ?_) (fun h8 => ?_)
       ·try rw [h8]
        try simp only [qa, qb, qc, qd, qe] at h8
        refine Qe fun K hK => Qa rfl ?_
        refine hK _ _ (Qb (kp1 rfl) ?_)
        refine Qt (Qu (Qk (Zn (Qu (Qk (Qn rfl ?_))))))
        first | (have hz := XI (p := YQ) (s := s) (i := i) (by omega) hI.2; simp [QeE, hz]; omega) | (have hz := XW (p := YQ) (s := s) (i := i) (by omega) (by simp [YQ]; omega); simp [QeE, hz]; done) | (simp [QeE]; omega)
       ·try rw [h8]
        try simp only [qa, qb, qc, qd, qe] at h8
        refine Qz (Ql (Qd (kp2 rfl rfl) (Q8 fun K hK => Qa rfl (Q9 rfl rfl (by first | exact Qp (by omega) (by omega) | exact QY (by omega) (by omega) | exact Zd (by omega) (by omega) | rfl) (Qa rfl (hK _ ?_))))))
        refine Qo (i + 1) ?_ ?_ ?_
        ·exact Q7 (kp2 rfl rfl)
        ·exact ⟨by omega, Ym (by omega) hI.2 (by simp [YQ]; omega)⟩
        ·first | omega | (simp only; omega) | (dsimp only; omega)
      ·try rw [h7]
       try simp only [qa, qb, qc, qd, qe] at h7
       refine Qm rfl (Qm rfl (Qj rfl rfl ?_))
       refine hK _ _ (Qb (kp3 rfl rfl rfl) ?_)
       refine Z5 rfl (Qz (Ql (Qd (kp2 rfl rfl) (Q8 fun K hK => Qa rfl (Q9 rfl rfl (by first | exact Qp (by omega) (by omega) | exact QY (by omega) (by omega) | exact Zd (by omega) (by omega) | rfl) (Qa rfl (hK _ ?_)))))))
       refine Qo (i + 1) ?_ ?_ ?_
       ·exact Q7 (kp2 rfl rfl)
       ·exact ⟨by omega, Ym (by omega) hI.2 (by simp [YQ]; omega)⟩
       ·first | omega | (simp only; omega) | (dsimp only; omega)
    ·try rw [h4]
     try simp only [qa, qb, qc, qd, qe] at h4
     refine Qf rfl (Qa rfl (Qf rfl (Qfa rfl rfl (Qj rfl rfl (Qa rfl ?_)))))
     refine Qx (g := 28) rfl (fun h9 => ?_) (fun h9 => ?_)
     ·try rw [h9]
      try simp only [qa, qb, qc, qd, qe] at h9
      refine Qf rfl (Qa rfl (Qf rfl (Y4 rfl rfl (Qf rfl (Qa rfl ?_)))))
      refine Qx (g := 31) rfl (fun h10 => ?_) (fun h10 => ?_)
      ·try rw [h10]
       try simp only [qa, qb, qc, qd, qe] at h10
       refine Qm rfl (Qm rfl (Qf rfl (Qj rfl rfl (Qj rfl rfl (Qa rfl (Qf rfl (Qa rfl (Qf rfl (Qay rfl rfl (Qj rfl rfl ?_))))))))))
       refine hK _ _ (Qb (kp3 rfl rfl rfl) ?_)
       refine QB rfl (fun h11 => ?_) (fun h11 => ?_)
       ·try rw [h11]
        try simp only [qa, qb, qc, qd, qe] at h11
        refine Qe fun K hK => Qa rfl ?_
        refine hK _ _ (Qb (kp1 rfl) ?_)
        refine Qt (Qu (Qk (Zn (Qu (Qk (Qn rfl ?_))))))
        first | (have hz := XI (p := YQ) (s := s) (i := i) (by omega) hI.2; simp [QeE, hz]; omega) | (have hz := XW (p := YQ) (s := s) (i := i) (by omega) (by simp [YQ]; omega); simp [QeE, hz]; done) | (simp [QeE]; omega)
       ·try rw [h11]
        try simp only [qa, qb, qc, qd, qe] at h11
        refine Qz (Ql (Qd (kp2 rfl rfl) (Q8 fun K hK => Qa rfl (Q9 rfl rfl (by first | exact Qp (by omega) (by omega) | exact QY (by omega) (by omega) | exact Zd (by omega) (by omega) | rfl) (Qa rfl (hK _ ?_))))))
        refine Qo (i + 1) ?_ ?_ ?_
        ·exact Q7 (kp2 rfl rfl)
        ·exact ⟨by omega, Ym (by omega) hI.2 (by simp [YQ]; omega)⟩
        ·first | omega | (simp only; omega) | (dsimp only; omega)
      ·try rw [h10]
       try simp only [qa, qb, qc, qd, qe] at h10
       refine Qf rfl (Qa rfl (Qf rfl (Qfa rfl rfl (Qf rfl (Qj rfl rfl (Qj rfl rfl (Qa rfl ?_)))))))
       refine Qx (g := 36) rfl (fun h12 => ?_) (fun h12 => ?_)
       ·try rw [h12]
        try simp only [qa, qb, qc, qd, qe] at h12
        refine Qf rfl (Qa rfl (Qf rfl (Qay rfl rfl (Qj rfl rfl ?_))))
        refine hK _ _ (Qb (kp3 rfl rfl rfl) ?_)
        refine QB rfl (fun h13 => ?_) (fun h13 => ?_)
        ·try rw [h13]
         try simp only [qa, qb, qc, qd, qe] at h13
         refine Qe fun K hK => Qa rfl ?_
         refine hK _ _ (Qb (kp1 rfl) ?_)
         refine Qt (Qu (Qk (Zn (Qu (Qk (Qn rfl ?_))))))
         first | (have hz := XI (p := YQ) (s := s) (i := i) (by omega) hI.2; simp [QeE, hz]; omega) | (have hz := XW (p := YQ) (s := s) (i := i) (by omega) (by simp [YQ]; omega); simp [QeE, hz]; done) | (simp [QeE]; omega)
        ·try rw [h13]
         try simp only [qa, qb, qc, qd, qe] at h13
         refine Qz (Ql (Qd (kp2 rfl rfl) (Q8 fun K hK => Qa rfl (Q9 rfl rfl (by first | exact Qp (by omega) (by omega) | exact QY (by omega) (by omega) | exact Zd (by omega) (by omega) | rfl) (Qa rfl (hK _ ?_))))))
         refine Qo (i + 1) ?_ ?_ ?_
         ·exact Q7 (kp2 rfl rfl)
         ·exact ⟨by omega, Ym (by omega) hI.2 (by simp [YQ]; omega)⟩
         ·first | omega | (simp only; omega) | (dsimp only; omega)
       ·try rw [h12]
        try simp only [qa, qb, qc, qd, qe] at h12
        refine Qm rfl (Qm rfl (Qj rfl rfl ?_))
        refine hK _ _ (Qb (kp3 rfl rfl rfl) ?_)
        refine Z5 rfl (Qz (Ql (Qd (kp2 rfl rfl) (Q8 fun K hK => Qa rfl (Q9 rfl rfl (by first | exact Qp (by omega) (by omega) | exact QY (by omega) (by omega) | exact Zd (by omega) (by omega) | rfl) (Qa rfl (hK _ ?_)))))))
        refine Qo (i + 1) ?_ ?_ ?_
        ·exact Q7 (kp2 rfl rfl)
        ·exact ⟨by omega, Ym (by omega) hI.2 (by simp [YQ]; omega)⟩
        ·first | omega | (simp only; omega) | (dsimp only; omega)
     ·try rw [h9]
      try simp only [qa, qb, qc, qd, qe] at h9
      refine Qm rfl (Qm rfl (Qm rfl (Zy rfl (Zy rfl (Qm rfl (Qj rfl rfl (Qa rfl (Qm rfl (Qm rfl (Qj rfl rfl ?_))))))))))
      refine hK _ _ (Qb (kp3 rfl rfl rfl) ?_)
      refine Z5 rfl (Qz (Ql (Qd (kp2 rfl rfl) (Q8 fun K hK => Qa rfl (Q9 rfl rfl (by first | exact Qp (by omega) (by omega) | exact QY (by omega) (by omega) | exact Zd (by omega) (by omega) | rfl) (Qa rfl (hK _ ?_)))))))
      refine Qo (i + 1) ?_ ?_ ?_
      ·exact Q7 (kp2 rfl rfl)
      ·exact ⟨by omega, Ym (by omega) hI.2 (by simp [YQ]; omega)⟩
      ·first | omega | (simp only; omega) | (dsimp only; omega)
   ·try rw [h3]
    try simp only [qa, qb, qc, qd, qe] at h3
    refine Z0 (Za (QI (QQ (Qd (QX) (Qe fun K hK => Qa rfl ?_)))))
    refine hK _ _ (Qb (kp1 rfl) ?_)
    refine Qt (Qn rfl ?_)
    first | (have hz := XI (p := YQ) (s := s) (i := i) (by omega) hI.2; simp [QeE, hz]; omega) | (have hz := XW (p := YQ) (s := s) (i := i) (by omega) (by simp [YQ]; omega); simp [QeE, hz]; done) | (simp [QeE]; omega)
theorem Ys {s : List UInt8} (hl : s.length <= 1000000) : Ok Try.prog 67 [.str s] (.tup [.int .i64 (YM s).1, .bool (YM s).2]) := by
 refine Ok.ofT Yb Try.func67 Qqg (Nat.le_of_ble_eq_true rfl) ?_
 show TW _ _ tf67.body _ _
 refine Qe fun K hK => Qa rfl (Qa rfl ?_)
 refine hK _ _ (Qb (kp1 rfl) ?_)
 refine QjW (ι := Unit) (fun _u => ⟨[(0, .str s)], []⟩) (fun _u => ¬ (s.length < 1 \/ 9 < s.length \/ (1 < s.length /\ s.head? = some 48))) ?_ ?_
 ·skip
  refine Qe fun K hK => Qa rfl (Y9 rfl (Y4 rfl rfl (Qa rfl ?_)))
  refine Qx (g := 9) rfl (fun h1 => ?_) (fun h1 => ?_)
  ·try rw [h1]
   try simp only [qa, qb, qc, qd, qe, Xl, Bool.and_eq_true, Bool.and_eq_false_iff] at h1
   refine Qm rfl (Qm rfl (Qm rfl (Qj rfl rfl (Qa rfl (Qm rfl (Qm rfl (Qm rfl (Qm rfl (Zy rfl (Zy rfl (Zy rfl ?_)))))))))))
   refine Qm rfl (Qj rfl rfl ?_)
   refine hK _ _ (Qb (kp2 rfl rfl) ?_)
   refine Zz rfl (Qe fun K hK => Qa rfl (Qa rfl ?_))
   refine hK _ _ (Qb (kp2 rfl rfl) ?_)
   refine Qt (Qf8 (Zv rfl rfl ?_))
   first | (rw [Qdf (s := s) (by omega)]; exact ⟨rfl, rfl⟩) | (rw [QbA (s := s) (by omega) (by assumption)]; exact ⟨rfl, rfl⟩) | (rw [Qde (s := s) (i := i) (by omega) (by simp [XU]; omega)]; exact ⟨rfl, rfl⟩) | (rw [Qdd (s := s) (i := i) (by omega) (by omega)]; exact ⟨rfl, rfl⟩) | (rw [QfA (s := s) (i := i) hJ (by omega) hI.2.1 (by omega)]; exact ⟨rfl, rfl⟩)
  ·try rw [h1]
   try simp only [qa, qb, qc, qd, qe, Xl, Bool.and_eq_true, Bool.and_eq_false_iff] at h1
   refine Qf rfl (Qa rfl (Qf rfl (Y9 rfl (Qf rfl (Qfa rfl rfl (Qj rfl rfl (Qa rfl ?_)))))))
   refine Qx (g := 14) rfl (fun h2 => ?_) (fun h2 => ?_)
   ·try rw [h2]
    try simp only [qa, qb, qc, qd, qe, Xl, Bool.and_eq_true, Bool.and_eq_false_iff] at h2
    refine Qm rfl (Qm rfl (Qm rfl (Qm rfl (Zy rfl (Zy rfl (Zy rfl (Qm rfl (Qj rfl rfl ?_))))))))
    refine hK _ _ (Qb (kp2 rfl rfl) ?_)
    refine Zz rfl (Qe fun K hK => Qa rfl (Qa rfl ?_))
    refine hK _ _ (Qb (kp2 rfl rfl) ?_)
    refine Qt (Qf8 (Zv rfl rfl ?_))
    first | (rw [Qdf (s := s) (by omega)]; exact ⟨rfl, rfl⟩) | (rw [QbA (s := s) (by omega) (by assumption)]; exact ⟨rfl, rfl⟩) | (rw [Qde (s := s) (i := i) (by omega) (by simp [XU]; omega)]; exact ⟨rfl, rfl⟩) | (rw [Qdd (s := s) (i := i) (by omega) (by omega)]; exact ⟨rfl, rfl⟩) | (rw [QfA (s := s) (i := i) hJ (by omega) hI.2.1 (by omega)]; exact ⟨rfl, rfl⟩)
   ·try rw [h2]
    try simp only [qa, qb, qc, qd, qe, Xl, Bool.and_eq_true, Bool.and_eq_false_iff] at h2
    refine Qf rfl (Qa rfl (Qf rfl (Y9 rfl (Qf rfl (Qfa rfl rfl (Qf rfl (Qa rfl ?_)))))))
    refine Qx (g := 18) rfl (fun h3 => ?_) (fun h3 => ?_)
    ·try rw [h3]
     try simp only [qa, qb, qc, qd, qe, Xl, Bool.and_eq_true, Bool.and_eq_false_iff] at h3
     refine Qf rfl (Qa rfl (Qf rfl (Y6 rfl rfl (by omega) (Qcv (i := 0) (by omega)) (Qf rfl (ZJ rfl rfl (Qf rfl (Qj rfl rfl (Qj rfl rfl ?_))))))))
     refine hK _ _ (Qb (kp2 rfl rfl) ?_)
     refine QB rfl (fun h4 => ?_) (fun h4 => ?_)
     ·try rw [h4]
      try simp only [qa, qb, qc, qd, qe, Xl, Bool.and_eq_true, Bool.and_eq_false_iff] at h4
      refine Qe fun K hK => Qa rfl (Qa rfl ?_)
      refine hK _ _ (Qb (kp2 rfl rfl) ?_)
      refine Qt (Qf8 (Zv rfl rfl ?_))
      first | (rw [Qdf (s := s) (by omega)]; exact ⟨rfl, rfl⟩) | (rw [QbA (s := s) (by omega) (by assumption)]; exact ⟨rfl, rfl⟩) | (rw [Qde (s := s) (i := i) (by omega) (by simp [XU]; omega)]; exact ⟨rfl, rfl⟩) | (rw [Qdd (s := s) (i := i) (by omega) (by omega)]; exact ⟨rfl, rfl⟩) | (rw [QfA (s := s) (i := i) hJ (by omega) hI.2.1 (by omega)]; exact ⟨rfl, rfl⟩)
     ·try rw [h4]
      try simp only [qa, qb, qc, qd, qe, Xl, Bool.and_eq_true, Bool.and_eq_false_iff] at h4
      refine Qz ?_
      refine ZH () ?_ ?_
      ·exact Q7 (kp1 rfl)
      ·rintro (q | q | q) <;> first | omega | exact Qkv (s := s) (by omega) (by assumption) q.2
    ·try rw [h3]
     try simp only [qa, qb, qc, qd, qe, Xl, Bool.and_eq_true, Bool.and_eq_false_iff] at h3
     refine Qm rfl (Qm rfl (Qm rfl (Qf rfl (Qj rfl rfl (Qj rfl rfl ?_)))))
     refine hK _ _ (Qb (kp2 rfl rfl) ?_)
     refine Z5 rfl (Qz ?_)
     refine ZH () ?_ ?_
     ·exact Q7 (kp1 rfl)
     ·rintro (q | q | q) <;> first | omega | exact Qkv (s := s) (by omega) (by assumption) q.2
 intro _u hJ
 try dsimp only
 refine Qe fun K hK => Qa rfl ?_
 refine hK _ _ (Qb (kp2 rfl rfl) ?_)
 refine QH ?_ -- 1
 refine Qe fun K hK => Qa rfl ?_
 refine hK _ _ (Qb (kp3 rfl rfl rfl) ?_)
 refine QK ?_
 refine Z6 (ι := Nat) (fun i => ⟨[(0, .str s), (4, .int .i64 (val (s.take i))), (5, .int .i64 i)], []⟩) (fun i => i <= s.length /\ (s.take i).all XU = true /\ s.length <= 9) (fun i => s.length - i) 0 ?_ ?_ ?_
 ·first | exact Q7 (kp3 rfl rfl rfl) | exact ZC (l := [0, 4, 5]) (kp3 rfl rfl rfl) Qy (by rw [Qjq (by omega)]; simp; omega) rfl rfl
 ·exact ⟨Nat.zero_le _, rfl, by omega⟩
 intro i hI
 have hv := QoC (s := s.take i) hI.2.1
 have hp : 10 ^ (s.take i).length <= 10 ^ 9 := Nat.pow_le_pow_right (by omega) (by simp; omega)
 try dsimp only
 refine QH ?_ -- 2
 refine Qe fun K hK => Qa rfl (Qa rfl (Y9 rfl (Y4 rfl rfl ?_)))
 refine hK _ _ (Qb (kp4 rfl rfl rfl rfl) ?_)
 refine QB rfl (fun h5 => ?_) (fun h5 => ?_)
 ·try rw [h5]
  try simp only [qa, qb, qc, qd, qe, Xl, Bool.and_eq_true, Bool.and_eq_false_iff] at h5
  refine Qz (Qd (kp3 rfl rfl rfl) ?_)
  refine QH ?_ -- 3
  refine QK ?_
  refine QH ?_ -- 4
  refine Qe fun K hK => Qa rfl (Qa rfl (Y6 rfl rfl (by omega) (Qcv (by omega)) (QA (QbK) rfl rfl (.inr rfl) (Yo rfl ?_))))
  refine hK _ _ (Qb (kp4 rfl rfl rfl rfl) ?_)
  refine QB rfl (fun h6 => ?_) (fun h6 => ?_)
  ·try rw [h6]
   try simp only [qa, qb, qc, qd, qe, Xl, Bool.and_eq_true, Bool.and_eq_false_iff] at h6
   refine Qe fun K hK => Qa rfl (Qa rfl ?_)
   refine hK _ _ (Qb (kp2 rfl rfl) ?_)
   refine Qt (Qk (Qu (Qk (Zn (Qu (Qk (Zv rfl rfl ?_)))))))
   first | (rw [Qdf (s := s) (by omega)]; exact ⟨rfl, rfl⟩) | (rw [QbA (s := s) (by omega) (by assumption)]; exact ⟨rfl, rfl⟩) | (rw [Qde (s := s) (i := i) (by omega) (by simp [XU]; omega)]; exact ⟨rfl, rfl⟩) | (rw [Qdd (s := s) (i := i) (by omega) (by omega)]; exact ⟨rfl, rfl⟩) | (rw [QfA (s := s) (i := i) hJ (by omega) hI.2.1 (by omega)]; exact ⟨rfl, rfl⟩)
  ·try rw [h6]
   try simp only [qa, qb, qc, qd, qe, Xl, Bool.and_eq_true, Bool.and_eq_false_iff] at h6
   refine Qz (Qd (kp3 rfl rfl rfl) (Q8 fun K hK => Qa rfl (QnT rfl rfl (by first | exact Qp (by omega) (by omega) | exact QY (by omega) (by omega) | exact Zd (by omega) (by omega) | rfl) (Qa rfl (Qa rfl (Y6 rfl rfl (by omega) (Qcv (by omega)) (Xz rfl rfl (by first | exact Qp (by omega) (by omega) | exact QY (by omega) (by omega) | exact Zd (by omega) (by omega) | rfl) (QiK rfl (by first | exact Qp (by omega) (by omega) | exact QY (by omega) (by omega) | exact Zd (by omega) (by omega) | rfl) (Q9 rfl rfl (by first | exact Qp (by omega) (by omega) | exact QY (by omega) (by omega) | exact Zd (by omega) (by omega) | rfl) (Qa rfl ?_))))))))))
   refine hK _ ?_
   refine Ql (Qd (kp3 rfl rfl rfl) (Q8 fun K hK => Qa rfl (Q9 rfl rfl (by first | exact Qp (by omega) (by omega) | exact QY (by omega) (by omega) | exact Zd (by omega) (by omega) | rfl) (Qa rfl (hK _ ?_)))))
   refine Qo (i + 1) ?_ ?_ ?_
   ·first | exact Q7 (kp3 rfl rfl rfl) | exact ZC (l := [0, 4, 5]) (kp3 rfl rfl rfl) Qy (by rw [Qjq (by omega)]; simp; omega) rfl rfl
   ·exact ⟨by omega, Ym (by omega) hI.2.1 (by simp [XU]; omega), hI.2.2⟩
   ·first | omega | (simp only; omega) | (dsimp only; omega)
 ·try rw [h5]
  try simp only [qa, qb, qc, qd, qe, Xl, Bool.and_eq_true, Bool.and_eq_false_iff] at h5
  refine Z0 (Za (QI (QQ (Qd (kp1 rfl) ?_))))
  refine QH ?_ -- 5
  refine Qe fun K hK => Qa rfl (Qfa rfl rfl ?_)
  refine hK _ _ (Qb (kp2 rfl rfl) ?_)
  refine QB rfl (fun h7 => ?_) (fun h7 => ?_)
  ·try rw [h7]
   try simp only [qa, qb, qc, qd, qe, Xl, Bool.and_eq_true, Bool.and_eq_false_iff] at h7
   refine Qe fun K hK => Qa rfl (Qa rfl ?_)
   refine hK _ _ (Qb (kp2 rfl rfl) ?_)
   refine Qt (Qk (Zv rfl rfl ?_))
   first | (rw [Qdf (s := s) (by omega)]; exact ⟨rfl, rfl⟩) | (rw [QbA (s := s) (by omega) (by assumption)]; exact ⟨rfl, rfl⟩) | (rw [Qde (s := s) (i := i) (by omega) (by simp [XU]; omega)]; exact ⟨rfl, rfl⟩) | (rw [Qdd (s := s) (i := i) (by omega) (by omega)]; exact ⟨rfl, rfl⟩) | (rw [QfA (s := s) (i := i) hJ (by omega) hI.2.1 (by omega)]; exact ⟨rfl, rfl⟩)
  ·try rw [h7]
   try simp only [qa, qb, qc, qd, qe, Xl, Bool.and_eq_true, Bool.and_eq_false_iff] at h7
   refine Qz (Qd (kp1 rfl) (Qe fun K hK => Qa rfl (Qa rfl (Qa rfl ?_))))
   refine hK _ _ (Qb (kp2 rfl rfl) ?_)
   refine Qt (Zv rfl rfl ?_)
   first | (rw [Qdf (s := s) (by omega)]; exact ⟨rfl, rfl⟩) | (rw [QbA (s := s) (by omega) (by assumption)]; exact ⟨rfl, rfl⟩) | (rw [Qde (s := s) (i := i) (by omega) (by simp [XU]; omega)]; exact ⟨rfl, rfl⟩) | (rw [Qdd (s := s) (i := i) (by omega) (by omega)]; exact ⟨rfl, rfl⟩) | (rw [QfA (s := s) (i := i) hJ (by omega) hI.2.1 (by omega)]; exact ⟨rfl, rfl⟩)
end Go.Proofs
namespace Go.Proofs
open Go Go.Abs M3
set_option linter.unusedVariables false
set_option linter.unusedSimpArgs false
theorem Qcj {a b : List UInt8} (ha : a.length <= 1000000) (hb : b.length <= 1000000) : Ok Try.prog 88 [.str a, .str b] (.int .i64 (mOne a b)) := by
 refine Ok.ofT Yb Try.func88 QqB (Nat.le_of_ble_eq_true rfl) ?_
 show TW _ _ tf88.body _ _
 refine Qe fun K hK => Qa rfl ?_
 refine hK _ _ (Qb (kp2 rfl rfl) ?_)
 refine Qe fun K hK => Qa rfl (QA (Yi (by omega)) rfl rfl (.inr rfl) (Qa rfl (QA (Yi (by omega)) rfl rfl (.inr rfl) (Qa rfl (Qa rfl ?_)))))
 refine hK _ _ (Qb (kp4 rfl rfl rfl rfl) ?_)
 refine QH ?_ -- 0
 refine QK (Qe fun K hK => Qa rfl (Qa rfl ?_))
 refine Qx (g := 17) rfl (fun h1 => ?_) (fun h1 => ?_)
 ·try rw [h1]
  try simp only [qa, qb, qc, qd, qe] at h1
  refine Qf rfl (Qa rfl (Qj rfl rfl (Qa rfl ?_)))
  refine hK _ _ (Qb (kp5 rfl rfl rfl rfl rfl) ?_)
  refine QB rfl (fun h2 => ?_) (fun h2 => ?_)
  ·try rw [h2]
   try simp only [qa, qb, qc, qd, qe] at h2
   refine Qe fun K hK => Qa rfl (QA (Ys (by omega)) rfl rfl (.inr rfl) (Qa rfl (ZQ rfl rfl (ZQ rfl rfl (Qa rfl (Qa rfl ?_))))))
   refine hK _ _ (Qb (kp2 rfl rfl) ?_)
   refine Qe fun K hK => Qa rfl (QA (Ys (by omega)) rfl rfl (.inr rfl) (Qa rfl (ZQ rfl rfl (ZQ rfl rfl (Qa rfl (Qa rfl ?_))))))
   refine hK _ _ (Qb (kp2 rfl rfl) ?_)
   refine Qe fun K hK => Qa rfl (Qa rfl (QA (Zp) rfl rfl (.inr rfl) (Qa rfl ?_)))
   refine hK _ _ (Qb (kp1 rfl) ?_)
   refine Qt (Qu (Qk (Qw rfl ?_)))
   simp [mOne, h1, h2]
  ·try rw [h2]
   try simp only [qa, qb, qc, qd, qe] at h2
   refine Qe fun K hK => Qa rfl (Qa rfl ?_)
   refine hK _ _ (Qb (kp4 rfl rfl rfl rfl) ?_)
   refine Zz rfl (Qe fun K hK => Qa rfl ?_)
   refine hK _ _ (Qb (kp1 rfl) ?_)
   refine Qt (Qu (Qk (Qw rfl ?_)))
   simp [mOne, h1, h2]
 ·try rw [h1]
  try simp only [qa, qb, qc, qd, qe] at h1
  refine Qm rfl (Qj rfl rfl (Qa rfl ?_))
  refine hK _ _ (Qb (kp5 rfl rfl rfl rfl rfl) ?_)
  refine Z5 rfl (Qe fun K hK => Qa rfl (Qa rfl ?_))
  refine hK _ _ (Qb (kp4 rfl rfl rfl rfl) ?_)
  refine Z5 rfl (Qe fun K hK => Qa rfl (Qa rfl ?_))
  refine hK _ _ (Qb (kp3 rfl rfl rfl) ?_)
  refine QB rfl (fun h3 => ?_) (fun h3 => ?_)
  ·try rw [h3]
   try simp only [qa, qb, qc, qd, qe] at h3
   refine Qe fun K hK => Qa rfl ?_
   refine hK _ _ (Qb (kp1 rfl) ?_)
   refine Qt (Qu (Qk (Qw rfl ?_)))
   simp [mOne, h1, h3]
  ·try rw [h3]
   try simp only [qa, qb, qc, qd, qe] at h3
   refine Qz (Ql (Qd (kp2 rfl rfl) (Qe fun K hK => Qa rfl (Qa rfl (QA (QbN) rfl rfl (.inr rfl) (Qa rfl ?_))))))
   refine hK _ _ (Qb (kp1 rfl) ?_)
   refine Qt (Qw rfl ?_)
   simp [mOne, h1, h3]
theorem Qb4 {a b : List UInt8} (ha : a.length <= 1000000) (hb : b.length <= 1000000) : Ok Try.prog 87 [.str a, .str b] (.int .i64 (Qe5 a b)) := by
 refine Ok.ofT Yb Try.func87 QqA (Nat.le_of_ble_eq_true rfl) ?_
 show TW _ _ tf87.body _ _
 refine Qe fun K hK => Qa rfl ?_
 refine hK _ _ (Qb (kp2 rfl rfl) ?_)
 refine QH ?_ -- 0
 refine QK (Qe fun K hK => Qa rfl (Qa rfl (QgK rfl rfl (Qa rfl ?_))))
 refine hK _ _ (Qb (kp3 rfl rfl rfl) ?_)
 refine QB rfl (fun h1 => ?_) (fun h1 => ?_)
 ·try rw [h1]
  try simp only [qa, qb, qc, qd, qe, Q2] at h1
  refine Qe fun K hK => Qa rfl ?_
  refine hK _ _ (Qb (kp1 rfl) ?_)
  refine Qt (Qu (Qk (Qw rfl ?_)))
  first | (simp_all [Qe5]; done) | (rw [hI.2.2, Qby (by omega) (by omega) (by assumption)]) | (rw [hI.2.2, Qbx (by omega) (by omega) (by omega)]; simp [Q2])
 ·try rw [h1]
  try simp only [qa, qb, qc, qd, qe, Q2] at h1
  refine Qe fun K hK => Qa rfl (QgK rfl rfl (Qa rfl ?_))
  refine hK _ _ (Qb (kp3 rfl rfl rfl) ?_)
  refine QB rfl (fun h2 => ?_) (fun h2 => ?_)
  ·try rw [h2]
   try simp only [qa, qb, qc, qd, qe, Q2] at h2
   refine Qe fun K hK => Qa rfl ?_
   refine hK _ _ (Qb (kp1 rfl) ?_)
   refine Qt (Qu (Qk (Qw rfl ?_)))
   first | (simp_all [Qe5]; done) | (rw [hI.2.2, Qby (by omega) (by omega) (by assumption)]) | (rw [hI.2.2, Qbx (by omega) (by omega) (by omega)]; simp [Q2])
  ·try rw [h2]
   try simp only [qa, qb, qc, qd, qe, Q2] at h2
   refine Qe fun K hK => Qa rfl (QgK rfl rfl (Qa rfl ?_))
   refine hK _ _ (Qb (kp3 rfl rfl rfl) ?_)
   refine QB rfl (fun h3 => ?_) (fun h3 => ?_)
   ·try rw [h3]
    try simp only [qa, qb, qc, qd, qe, Q2] at h3
    refine Qe fun K hK => Qa rfl ?_
    refine hK _ _ (Qb (kp1 rfl) ?_)
    refine Qt (Qu (Qk (Qw rfl ?_)))
    first | (simp_all [Qe5]; done) | (rw [hI.2.2, Qby (by omega) (by omega) (by assumption)]) | (rw [hI.2.2, Qbx (by omega) (by omega) (by omega)]; simp [Q2])
   ·try rw [h3]
    try simp only [qa, qb, qc, qd, qe, Q2] at h3
    refine Qz (Ql (Qd (kp2 rfl rfl) (Qe fun K hK => Qa rfl (QA (Yz (by omega)) rfl rfl (.inl rfl) (Qa rfl (QA (Yz (by omega)) rfl rfl (.inl rfl) (Qa rfl (Qa rfl ?_))))))))
    refine hK _ _ (Qb (kp2 rfl rfl) ?_)
    refine QH ?_ -- 1
    refine Qe fun K hK => Qa rfl ?_
    refine hK _ _ (Qb (kp3 rfl rfl rfl) ?_)
    refine QK ?_
    refine Z6 (ι := Nat) (fun i => ⟨[(5, .sl (Qao (Z9 a 46))), (6, .sl (Qao (Z9 b 46))), (7, .int .i64 i)], []⟩) (fun i => i <= (Z9 a 46).length /\ i <= (Z9 b 46).length /\ Qe5 a b = QjR ((Z9 a 46).drop i) ((Z9 b 46).drop i)) (fun i => (Z9 a 46).length - i) 0 ?_ ?_ ?_
    ·exact Q7 (kp3 rfl rfl rfl)
    ·exact ⟨Nat.zero_le _, Nat.zero_le _, by simp_all [Qe5]⟩
    intro i hI
    have sl := Qlc (s := a) (c := 46)
    try dsimp only
    refine QH ?_ -- 2
    refine Qe fun K hK => Qa rfl (Qa rfl (Q4 rfl rfl (Y4 rfl rfl (Qa rfl ?_))))
    refine Qx (g := 27) rfl (fun h4 => ?_) (fun h4 => ?_)
    ·try rw [h4]
     try simp only [qa, qb, qc, qd, qe, Q2] at h4
     refine Qf rfl (Qa rfl (Qf rfl (Qa rfl (Qf rfl (Q4 rfl rfl (Qf rfl (Y4 rfl rfl (Qj rfl rfl ?_))))))))
     refine hK _ _ (Qb (kp4 rfl rfl rfl rfl) ?_)
     refine QB rfl (fun h5 => ?_) (fun h5 => ?_)
     ·try rw [h5]
      try simp only [qa, qb, qc, qd, qe, Q2] at h5
      refine Qz (Qd (kp3 rfl rfl rfl) ?_)
      refine QH ?_ -- 3
      refine QK (Qe fun K hK => Qa rfl (Qa rfl (QO rfl rfl rfl (by omega) (Qcw (by omega)) rfl (Zb (ds0 := [1, 0]) rfl rfl rfl rfl rfl (Qa rfl (Qa rfl (QO rfl rfl rfl (by omega) (Qcw (by omega)) rfl (Zb (ds0 := [1, 0]) rfl rfl rfl rfl rfl (Q1 (ds0 := [0]) (Qcj (QcQ (by omega) ha) (QcQ (by omega) hb)) rfl rfl (.inr rfl) rfl rfl (Qa rfl ?_))))))))))
      refine hK _ _ (Qb (kp4 rfl rfl rfl rfl) ?_)
      refine Qe fun K hK => Qa rfl (Qay rfl rfl ?_)
      refine hK _ _ (Qb (kp5 rfl rfl rfl rfl rfl) ?_)
      refine QB rfl (fun h6 => ?_) (fun h6 => ?_)
      ·try rw [h6]
       try simp only [qa, qb, qc, qd, qe, Q2] at h6
       refine Qe fun K hK => Qa rfl (Qa rfl ?_)
       refine hK _ _ (Qb (kp1 rfl) ?_)
       refine Qt (Qu (Qk (Zn (Qu (Qk (Qw rfl ?_))))))
       first | (simp_all [Qe5]; done) | (rw [hI.2.2, Qby (by omega) (by omega) (by assumption)]) | (rw [hI.2.2, Qbx (by omega) (by omega) (by omega)]; simp [Q2])
      ·try rw [h6]
       try simp only [qa, qb, qc, qd, qe, Q2] at h6
       refine Qz (Ql (Qd (kp3 rfl rfl rfl) (Q8 fun K hK => Qa rfl (Q9 rfl rfl (by first | exact Qp (by omega) (by omega) | exact QY (by omega) (by omega) | exact Zd (by omega) (by omega) | rfl) (Qa rfl (hK _ ?_))))))
       refine Qo (i + 1) ?_ ?_ ?_
       ·exact Q7 (kp3 rfl rfl rfl)
       ·exact ⟨by omega, by omega, by rw [hI.2.2, QkM (by omega) (by omega) (by assumption)]⟩
       ·first | omega | (simp only; omega) | (dsimp only; omega)
     ·try rw [h5]
      try simp only [qa, qb, qc, qd, qe, Q2] at h5
      refine Z0 (Za (QI (QQ (Qd (kp2 rfl rfl) (Qe fun K hK => Qa rfl (Q4 rfl rfl (Qa rfl (Q4 rfl rfl (QA (Zp) rfl rfl (.inr rfl) (Qa rfl ?_))))))))))
      refine hK _ _ (Qb (kp1 rfl) ?_)
      refine Qt (Qw rfl ?_)
      first | (simp_all [Qe5]; done) | (rw [hI.2.2, Qby (by omega) (by omega) (by assumption)]) | (rw [hI.2.2, Qbx (by omega) (by omega) (by omega)]; simp [Q2])
    ·try rw [h4]
     try simp only [qa, qb, qc, qd, qe, Q2] at h4
     refine Qm rfl (Qm rfl (Qm rfl (Qm rfl (Qj rfl rfl ?_))))
     refine hK _ _ (Qb (kp4 rfl rfl rfl rfl) ?_)
     refine Z5 rfl (Z0 (Za (QI (QQ (Qd (kp2 rfl rfl) (Qe fun K hK => Qa rfl (Q4 rfl rfl (Qa rfl (Q4 rfl rfl (QA (Zp) rfl rfl (.inr rfl) ?_))))))))))
     refine Qa rfl ?_
     refine hK _ _ (Qb (kp1 rfl) ?_)
     refine Qt (Qw rfl ?_)
     first | (simp_all [Qe5]; done) | (rw [hI.2.2, Qby (by omega) (by omega) (by assumption)]) | (rw [hI.2.2, Qbx (by omega) (by omega) (by omega)]; simp [Q2])
theorem XM {s : List UInt8} {pre : Bool} (hl : s.length <= 1000000) : Ok Try.prog 55 [.str s, .bool pre] (.bool (Qbl s pre)) := by
 refine Ok.ofT Yb Try.func55 Qp4 (Nat.le_of_ble_eq_true rfl) ?_
 show TW _ _ tf55.body _ _
 refine Qe fun K hK => Qa rfl ?_
 refine hK _ _ (Qb (kp2 rfl rfl) ?_)
 refine QH ?_ -- 0
 refine Qe fun K hK => Qa rfl (QgK rfl rfl ?_)
 refine hK _ _ (Qb (kp3 rfl rfl rfl) ?_)
 refine QB rfl (fun h1 => ?_) (fun h1 => ?_)
 ·try rw [h1]
  try simp only [qa, qb, qc, qd, qe, Q2] at h1
  refine Qe fun K hK => Qa rfl ?_
  refine hK _ _ (Qb (kp1 rfl) ?_)
  refine Qt (Qk (Qn rfl ?_))
  first | (simp_all [Qbl]; done) | (simp [Qbl, h1]; omega) | exact (QcF (i := i) (by assumption) (by omega) (by simp [QdA, h1])).symm | exact (Qbm (i := i) (by omega) (by omega) hI.2).symm
 ·try rw [h1]
  try simp only [qa, qb, qc, qd, qe, Q2] at h1
  refine Qz (Qd (kp2 rfl rfl) (Qe fun K hK => Qa rfl (QA (Yz (by omega)) rfl rfl (.inl rfl) (Qa rfl ?_))))
  refine hK _ _ (Qb (kp2 rfl rfl) ?_)
  refine QH ?_ -- 1
  refine Qe fun K hK => Qa rfl (Q4 rfl rfl (Qfa rfl rfl ?_))
  refine hK _ _ (Qb (kp3 rfl rfl rfl) ?_)
  refine QB rfl (fun h2 => ?_) (fun h2 => ?_)
  ·try rw [h2]
   try simp only [qa, qb, qc, qd, qe, Q2] at h2
   refine Qe fun K hK => Qa rfl ?_
   refine hK _ _ (Qb (kp1 rfl) ?_)
   refine Qt (Qk (Qn rfl ?_))
   first | (simp_all [Qbl]; done) | (simp [Qbl, h1, h2]; omega) | exact (QcF (i := i) (by assumption) (by omega) (by simp [QdA, h1, h2])).symm | exact (Qbm (i := i) (by omega) (by omega) hI.2).symm
  ·try rw [h2]
   try simp only [qa, qb, qc, qd, qe, Q2] at h2
   refine Qz (Qd (kp2 rfl rfl) ?_)
   refine QH ?_ -- 2
   refine Qe fun K hK => Qa rfl ?_
   refine hK _ _ (Qb (kp3 rfl rfl rfl) ?_)
   refine QK ?_
   refine Z6 (ι := Nat) (fun i => ⟨[(1, .bool pre), (5, .sl (Qao (Z9 s 46))), (6, .int .i64 i)], []⟩) (fun i => i <= (Z9 s 46).length /\ ((Z9 s 46).take i).all (QdA pre) = true) (fun i => (Z9 s 46).length - i) 0 ?_ ?_ ?_
   ·first | exact Q7 (kp3 rfl rfl rfl) | exact ZC (l := [1, 5, 6]) (kp3 rfl rfl rfl) Qy (by simp [h1, h2]) rfl rfl
   ·exact ⟨Nat.zero_le _, rfl⟩
   intro i hI
   try dsimp only
   refine QH ?_ -- 3
   refine Qe fun K hK => Qa rfl (Qa rfl (Q4 rfl rfl (Y4 rfl rfl ?_)))
   refine hK _ _ (Qb (kp4 rfl rfl rfl rfl) ?_)
   refine QB rfl (fun h3 => ?_) (fun h3 => ?_)
   ·try rw [h3]
    try simp only [qa, qb, qc, qd, qe, Q2] at h3
    refine Qz (Qd (kp3 rfl rfl rfl) ?_)
    refine QH ?_ -- 4
    refine QK ?_
    refine QH ?_ -- 5
    refine Qe fun K hK => Qa rfl (Qa rfl (QO rfl rfl rfl (by omega) (Qcw (by omega)) rfl (QC rfl rfl rfl (QA (Qck (QcQ (by omega) hl)) rfl rfl (.inr rfl) (Yo rfl ?_)))))
    refine hK _ _ (Qb (kp4 rfl rfl rfl rfl) ?_)
    refine QB rfl (fun h4 => ?_) (fun h4 => ?_)
    ·try rw [h4]
     try simp only [qa, qb, qc, qd, qe, Q2] at h4
     refine Qe fun K hK => Qa rfl ?_
     refine hK _ _ (Qb (kp1 rfl) ?_)
     refine Qt (Qk (Qu (Qk (Zn (Qu (Qk (Qn rfl ?_)))))))
     first | (simp_all [Qbl]; done) | (simp [Qbl, h1, h2, h3, h4]; omega) | exact (QcF (i := i) (by assumption) (by omega) (by simp [QdA, h1, h2, h3, h4])).symm | exact (Qbm (i := i) (by omega) (by omega) hI.2).symm
    ·try rw [h4]
     try simp only [qa, qb, qc, qd, qe, Q2] at h4
     refine Qz (Qd (kp3 rfl rfl rfl) (Qe fun K hK => Qa rfl (Qa rfl (QO rfl rfl rfl (by omega) (Qcw (by omega)) rfl (QC rfl rfl rfl (QA (Ys (QcQ (by omega) hl)) rfl rfl (.inr rfl) (Qa rfl (ZQ rfl rfl (ZQ rfl rfl (Qa rfl ?_))))))))))
     refine Qa rfl ?_
     refine hK _ _ (Qb (kp4 rfl rfl rfl rfl) ?_)
     refine Qe fun K hK => Qa rfl (Qa rfl ?_)
     refine Qx (g := 37) rfl (fun h5 => ?_) (fun h5 => ?_)
     ·try rw [h5]
      try simp only [qa, qb, qc, qd, qe, Q2] at h5
      refine Qf rfl (Qa rfl (Qf rfl (Qa rfl (Qf rfl (QO rfl rfl rfl (by omega) (Qcw (by omega)) rfl (Qf rfl (QC rfl rfl rfl (Qf rfl (QA (Yi (QcQ (by omega) hl)) rfl rfl (.inr rfl) (Qj rfl rfl (Qa rfl ?_)))))))))))
      refine Qx (g := 44) rfl (fun h6 => ?_) (fun h6 => ?_)
      ·try rw [h6]
       try simp only [qa, qb, qc, qd, qe, Q2] at h6
       refine Qf rfl (Qa rfl (Qf rfl (Yo rfl (Qj rfl rfl ?_))))
       refine hK _ _ (Qb (kp4 rfl rfl rfl rfl) ?_)
       refine QB rfl (fun h7 => ?_) (fun h7 => ?_)
       ·try rw [h7]
        try simp only [qa, qb, qc, qd, qe, Q2] at h7
        refine Qe fun K hK => Qa rfl ?_
        refine hK _ _ (Qb (kp1 rfl) ?_)
        refine Qt (Qu (Qk (Zn (Qu (Qk (Qn rfl ?_))))))
        first | (simp_all [Qbl]; done) | (simp [Qbl, h1, h2, h3, h4, h5, h6, h7]; omega) | exact (QcF (i := i) (by assumption) (by omega) (by simp [QdA, h1, h2, h3, h4, h5, h6, h7])).symm | exact (Qbm (i := i) (by omega) (by omega) hI.2).symm
       ·try rw [h7]
        try simp only [qa, qb, qc, qd, qe, Q2] at h7
        refine Qz (Ql (Qd (kp3 rfl rfl rfl) (Q8 fun K hK => Qa rfl (Q9 rfl rfl (by first | exact Qp (by omega) (by omega) | exact QY (by omega) (by omega) | exact Zd (by omega) (by omega) | rfl) (Qa rfl (hK _ ?_))))))
        refine Qo (i + 1) ?_ ?_ ?_
        ·first | exact Q7 (kp3 rfl rfl rfl) | exact ZC (l := [1, 5, 6]) (kp3 rfl rfl rfl) Qy (by simp [h1, h2, h3, h4, h5, h6, h7]) rfl rfl
        ·exact ⟨by omega, Ym (by omega) hI.2 (by simp [QdA, h1, h2, h3, h4, h5, h6, h7])⟩
        ·first | omega | (simp only; omega) | (dsimp only; omega)
      ·try rw [h6]
       try simp only [qa, qb, qc, qd, qe, Q2] at h6
       refine Qm rfl (Qm rfl (Qj rfl rfl ?_))
       refine hK _ _ (Qb (kp4 rfl rfl rfl rfl) ?_)
       refine Z5 rfl (Qz (Ql (Qd (kp3 rfl rfl rfl) (Q8 fun K hK => Qa rfl (Q9 rfl rfl (by first | exact Qp (by omega) (by omega) | exact QY (by omega) (by omega) | exact Zd (by omega) (by omega) | rfl) (Qa rfl (hK _ ?_)))))))
       refine Qo (i + 1) ?_ ?_ ?_
       ·first | exact Q7 (kp3 rfl rfl rfl) | exact ZC (l := [1, 5, 6]) (kp3 rfl rfl rfl) Qy (by simp [h1, h2, h3, h4, h5, h6]) rfl rfl
       ·exact ⟨by omega, Ym (by omega) hI.2 (by simp [QdA, h1, h2, h3, h4, h5, h6])⟩
       ·first | omega | (simp only; omega) | (dsimp only; omega)
     ·try rw [h5]
      try simp only [qa, qb, qc, qd, qe, Q2] at h5
      refine Qm rfl (Qm rfl (Qm rfl (Qm rfl (Qm rfl (Qj rfl rfl (Qa rfl (Qm rfl (Qm rfl (Qj rfl rfl ?_)))))))))
      refine hK _ _ (Qb (kp4 rfl rfl rfl rfl) ?_)
      refine Z5 rfl (Qz (Ql (Qd (kp3 rfl rfl rfl) (Q8 fun K hK => Qa rfl (Q9 rfl rfl (by first | exact Qp (by omega) (by omega) | exact QY (by omega) (by omega) | exact Zd (by omega) (by omega) | rfl) (Qa rfl (hK _ ?_)))))))
      refine Qo (i + 1) ?_ ?_ ?_
      ·first | exact Q7 (kp3 rfl rfl rfl) | exact ZC (l := [1, 5, 6]) (kp3 rfl rfl rfl) Qy (by simp [h1, h2, h3, h4, h5]) rfl rfl
      ·exact ⟨by omega, Ym (by omega) hI.2 (by simp [QdA, h1, h2, h3, h4, h5])⟩
      ·first | omega | (simp only; omega) | (dsimp only; omega)
   ·try rw [h3]
    try simp only [qa, qb, qc, qd, qe, Q2] at h3
    refine Z0 (Za (QI (QQ (Qd (QX) (Qe fun K hK => Qa rfl ?_)))))
    refine hK _ _ (Qb (kp1 rfl) ?_)
    refine Qt (Qn rfl ?_)
    first | (simp_all [Qbl]; done) | (simp [Qbl, h1, h2, h3]; omega) | exact (QcF (i := i) (by assumption) (by omega) (by simp [QdA, h1, h2, h3])).symm | exact (Qbm (i := i) (by omega) (by omega) hI.2).symm
theorem Zl {a b c : Int} {p q : List UInt8} (hp : p.length <= 1000000) (hq : q.length <= 1000000) : Ok Try.prog 39 [.agg [.int .i64 a, .int .i64 b, .int .i64 c, .str p, .str q]] (.bool (QgF a b c p q)) := by
 refine Ok.ofT Yb Try.func39 QpP (Nat.le_of_ble_eq_true rfl) ?_
 show TW _ _ tf39.body _ _
 refine Qe fun K hK => ZV rfl rfl rfl (Qa rfl ?_)
 refine hK _ _ (Qb (kp1 rfl) ?_)
 refine Qe fun K hK => Qi rfl rfl (QC rfl rfl rfl (QA (YV) rfl rfl (.inr rfl) (Qa rfl ?_)))
 refine Qx (g := 6) rfl (fun h1 => ?_) (fun h1 => ?_)
 ·try rw [h1]
  try simp only [qa, qb, qc, qd, qe] at h1
  refine Qf rfl (Qi rfl rfl (Qf rfl (QC rfl rfl rfl (Qf rfl (QA (YV) rfl rfl (.inr rfl) (Qj rfl rfl (Qa rfl ?_)))))))
  refine Qx (g := 11) rfl (fun h2 => ?_) (fun h2 => ?_)
  ·try rw [h2]
   try simp only [qa, qb, qc, qd, qe] at h2
   refine Qf rfl (Qi rfl rfl (Qf rfl (QC rfl rfl rfl (Qf rfl (QA (YV) rfl rfl (.inr rfl) (Qj rfl rfl (Qa rfl ?_)))))))
   refine Qx (g := 16) rfl (fun h3 => ?_) (fun h3 => ?_)
   ·try rw [h3]
    try simp only [qa, qb, qc, qd, qe] at h3
    refine Qf rfl (Qi rfl rfl (Qf rfl (QC rfl rfl rfl (Qf rfl (QA (XM (by omega)) rfl rfl (.inr rfl) (Qj rfl rfl (Qa rfl ?_)))))))
    refine Qx (g := 21) rfl (fun h4 => ?_) (fun h4 => ?_)
    ·try rw [h4]
     try simp only [qa, qb, qc, qd, qe] at h4
     refine Qf rfl (Qi rfl rfl (Qf rfl (QC rfl rfl rfl (Qf rfl (QA (XM (by omega)) rfl rfl (.inr rfl) (Qj rfl rfl (Qa rfl ?_)))))))
     refine hK _ _ (Qb (kp1 rfl) ?_)
     refine Qt (Qn rfl ?_)
     simp [QgF, h1, h2, h3, h4]
    ·try rw [h4]
     try simp only [qa, qb, qc, qd, qe] at h4
     refine Qm rfl (Qm rfl (Qm rfl (Qj rfl rfl (Qa rfl ?_))))
     refine hK _ _ (Qb (kp1 rfl) ?_)
     refine Qt (Qn rfl ?_)
     simp [QgF, h1, h2, h3, h4]
   ·try rw [h3]
    try simp only [qa, qb, qc, qd, qe] at h3
    refine Qm rfl (Qm rfl (Qm rfl (Qj rfl rfl (Qa rfl (Qm rfl (Qm rfl (Qm rfl (Qj rfl rfl (Qa rfl ?_)))))))))
    refine hK _ _ (Qb (kp1 rfl) ?_)
    refine Qt (Qn rfl ?_)
    simp [QgF, h1, h2, h3]
  ·try rw [h2]
   try simp only [qa, qb, qc, qd, qe] at h2
   refine Qm rfl (Qm rfl (Qm rfl (Qj rfl rfl (Qa rfl (Qm rfl (Qm rfl (Qm rfl (Qj rfl rfl (Qa rfl (Qm rfl (Qm rfl ?_)))))))))))
   refine Qm rfl (Qj rfl rfl (Qa rfl ?_))
   refine hK _ _ (Qb (kp1 rfl) ?_)
   refine Qt (Qn rfl ?_)
   simp [QgF, h1, h2]
 ·try rw [h1]
  try simp only [qa, qb, qc, qd, qe] at h1
  refine Qm rfl (Qm rfl (Qm rfl (Qj rfl rfl (Qa rfl (Qm rfl (Qm rfl (Qm rfl (Qj rfl rfl (Qa rfl (Qm rfl (Qm rfl ?_)))))))))))
  refine Qm rfl (Qj rfl rfl (Qa rfl (Qm rfl (Qm rfl (Qm rfl (Qj rfl rfl (Qa rfl ?_)))))))
  refine hK _ _ (Qb (kp1 rfl) ?_)
  refine Qt (Qn rfl ?_)
  simp [QgF, h1]
end Go.Proofs
namespace Go.Proofs
open Go Go.Abs M3
set_option linter.unusedVariables false
set_option linter.unusedSimpArgs false
theorem QaW {a b c : Int} {p q : List UInt8} (hp : p.length <= 1000000) (hq : q.length <= 1000000) {a' b' c' : Int} {p' q' : List UInt8} (hp' : p'.length <= 1000000) (hq' : q'.length <= 1000000) : Ok Try.prog 86 [.agg [.int .i64 a, .int .i64 b, .int .i64 c, .str p, .str q], .agg [.int .i64 a', .int .i64 b', .int .i64 c', .str p', .str q']] (.int .i64 (QkH a b c p q a' b' c' p' q')) := by
 refine Ok.ofT Yb Try.func86 Qqz (Nat.le_of_ble_eq_true rfl) ?_
 show TW _ _ tf86.body _ _
 refine Qe fun K hK => ZV rfl rfl rfl (ZV rfl rfl rfl (Qa rfl ?_))
 refine hK _ _ (Qb (kp2 rfl rfl) ?_)
 refine QH ?_ -- 0
 refine Qe fun K hK => QF (cs := [_, _, _, _, _]) rfl rfl rfl rfl (QA (Zl (by omega) (by omega)) rfl rfl (.inr rfl) (Yo rfl (Qa rfl ?_)))
 refine Qx (g := 11) rfl (fun h1 => ?_) (fun h1 => ?_)
 ·try rw [h1]
  try simp only [qa, qb, qc, qd, qe] at h1
  refine Qm rfl (Qm rfl (Qm rfl (Qj rfl rfl ?_)))
  refine hK _ _ (Qb (kp3 rfl rfl rfl) ?_)
  refine Zz rfl (Qe fun K hK => Qa rfl ?_)
  refine hK _ _ (Qb (kp1 rfl) ?_)
  refine Qt (Qk (Qw rfl ?_))
  simp [QkH, h1]
 ·try rw [h1]
  try simp only [qa, qb, qc, qd, qe] at h1
  refine Qf rfl (QF (cs := [_, _, _, _, _]) rfl rfl rfl rfl (Qf rfl (QA (Zl (by omega) (by omega)) rfl rfl (.inr rfl) (Qf rfl (Yo rfl (Qj rfl rfl ?_))))))
  refine hK _ _ (Qb (kp3 rfl rfl rfl) ?_)
  refine QB rfl (fun h2 => ?_) (fun h2 => ?_)
  ·try rw [h2]
   try simp only [qa, qb, qc, qd, qe] at h2
   refine Qe fun K hK => Qa rfl ?_
   refine hK _ _ (Qb (kp1 rfl) ?_)
   refine Qt (Qk (Qw rfl ?_))
   simp [QkH, h1, h2]
  ·try rw [h2]
   try simp only [qa, qb, qc, qd, qe] at h2
   refine Qz (Qd (kp2 rfl rfl) ?_)
   refine QH ?_ -- 1
   refine Qe fun K hK => Qi rfl rfl (QC rfl rfl rfl (Qi rfl rfl (QC rfl rfl rfl (QA (Zp) rfl rfl (.inr rfl) (Qa rfl ?_)))))
   refine hK _ _ (Qb (kp3 rfl rfl rfl) ?_)
   refine Qe fun K hK => Qa rfl (Qay rfl rfl ?_)
   refine hK _ _ (Qb (kp4 rfl rfl rfl rfl) ?_)
   refine QB rfl (fun h3 => ?_) (fun h3 => ?_)
   ·try rw [h3]
    try simp only [qa, qb, qc, qd, qe] at h3
    refine Qe fun K hK => Qa rfl (Qa rfl ?_)
    refine hK _ _ (Qb (kp1 rfl) ?_)
    refine Qt (Qk (Qw rfl ?_))
    simp [QkH, h1, h2, h3]
   ·try rw [h3]
    try simp only [qa, qb, qc, qd, qe] at h3
    refine Qz (Qd (kp2 rfl rfl) ?_)
    refine QH ?_ -- 2
    refine Qe fun K hK => Qi rfl rfl (QC rfl rfl rfl (Qi rfl rfl (QC rfl rfl rfl (QA (Zp) rfl rfl (.inr rfl) (Qa rfl ?_)))))
    refine hK _ _ (Qb (kp3 rfl rfl rfl) ?_)
    refine Qe fun K hK => Qa rfl (Qay rfl rfl ?_)
    refine hK _ _ (Qb (kp4 rfl rfl rfl rfl) ?_)
    refine QB rfl (fun h4 => ?_) (fun h4 => ?_)
    ·try rw [h4]
     try simp only [qa, qb, qc, qd, qe] at h4
     refine Qe fun K hK => Qa rfl (Qa rfl ?_)
     refine hK _ _ (Qb (kp1 rfl) ?_)
     refine Qt (Qk (Qw rfl ?_))
     simp [QkH, h1, h2, h3, h4]
    ·try rw [h4]
     try simp only [qa, qb, qc, qd, qe] at h4
     refine Qz (Qd (kp2 rfl rfl) ?_)
     refine QH ?_ -- 3
     refine Qe fun K hK => Qi rfl rfl (QC rfl rfl rfl (Qi rfl rfl (QC rfl rfl rfl (QA (Zp) rfl rfl (.inr rfl) (Qa rfl ?_)))))
     refine hK _ _ (Qb (kp3 rfl rfl rfl) ?_)
     refine Qe fun K hK => Qa rfl (Qay rfl rfl ?_)
     refine hK _ _ (Qb (kp4 rfl rfl rfl rfl) ?_)
     refine QB rfl (fun h5 => ?_) (fun h5 => ?_)
     ·try rw [h5]
      try simp only [qa, qb, qc, qd, qe] at h5
      refine Qe fun K hK => Qa rfl (Qa rfl ?_)
      refine hK _ _ (Qb (kp1 rfl) ?_)
      refine Qt (Qk (Qw rfl ?_))
      simp [QkH, h1, h2, h3, h4, h5]
     ·try rw [h5]
      try simp only [qa, qb, qc, qd, qe] at h5
      refine Qz (Qd (kp2 rfl rfl) (Qe fun K hK => Qi rfl rfl (QC rfl rfl rfl (Qi rfl rfl (QC rfl rfl rfl (QA (Qb4 (by omega) (by omega)) rfl rfl (.inr rfl) (Qa rfl ?_)))))))
      refine hK _ _ (Qb (kp1 rfl) ?_)
      refine Qt (Qw rfl ?_)
      simp [QkH, h1, h2, h3, h4, h5]
theorem Yj {e a b c : Int} {p q : List UInt8} {f : Bool} (hp : p.length <= 1000000) (hq : q.length <= 1000000) : Ok Try.prog 84 [.agg [.int .i64 e, .int .i64 a, .int .i64 b, .int .i64 c, .str p, .str q, .bool f]] (.bool (Qda e a b c p q f)) := by
 refine Ok.ofT Yb Try.func84 Qqx (Nat.le_of_ble_eq_true rfl) ?_
 show TW _ _ tf84.body _ _
 refine Qe fun K hK => ZV rfl rfl rfl (Qa rfl ?_)
 refine hK _ _ (Qb (kp1 rfl) ?_)
 refine QH ?_ -- 0
 refine Qe fun K hK => Qi rfl rfl (QC rfl rfl rfl (ZJ rfl rfl ?_))
 refine hK _ _ (Qb (kp2 rfl rfl) ?_)
 refine QB rfl (fun h1 => ?_) (fun h1 => ?_)
 ·try rw [h1]
  try simp only [qa, qb, qc, qd, qe] at h1
  refine Qe fun K hK => Qi rfl rfl (QF (cs := [_, _, _, _, _]) rfl rfl rfl rfl (QA (Zl (by omega) (by omega)) rfl rfl (.inr rfl) (Qa rfl ?_)))
  refine Qx (g := 9) rfl (fun h2 => ?_) (fun h2 => ?_)
  ·try rw [h2]
   try simp only [qa, qb, qc, qd, qe] at h2
   refine Qf rfl (Qi rfl rfl (Qf rfl (Qi rfl rfl (Qf rfl (QC rfl rfl rfl (Qf rfl (QgK rfl rfl (Qj rfl rfl (Qa rfl ?_)))))))))
   refine hK _ _ (Qb (kp1 rfl) ?_)
   refine Qt (Qk (Qn rfl ?_))
   simp_all [Qda]
  ·try rw [h2]
   try simp only [qa, qb, qc, qd, qe] at h2
   refine Qm rfl (Qm rfl (Qm rfl (Qm rfl (Qj rfl rfl (Qa rfl ?_)))))
   refine hK _ _ (Qb (kp1 rfl) ?_)
   refine Qt (Qk (Qn rfl ?_))
   simp_all [Qda]
 ·try rw [h1]
  try simp only [qa, qb, qc, qd, qe] at h1
  refine Qz (Qd (kp1 rfl) (Qe fun K hK => Qi rfl rfl (QC rfl rfl rfl (ZJ rfl rfl (Qa rfl ?_)))))
  refine Qx (g := 18) rfl (fun h3 => ?_) (fun h3 => ?_)
  ·try rw [h3]
   try simp only [qa, qb, qc, qd, qe] at h3
   refine Qm rfl (Qm rfl (Qm rfl (Qj rfl rfl (Qa rfl (Qf rfl (Qi rfl rfl (Qf rfl (QF (cs := [_, _, _, _, _]) rfl rfl rfl rfl (Qf rfl (QP rfl rfl (Qf rfl ?_)))))))))))
   refine QiL rfl rfl rfl (Qj rfl rfl (Qa rfl ?_))
   refine Qx (g := 29) rfl (fun h4 => ?_) (fun h4 => ?_)
   ·try rw [h4]
    try simp only [qa, qb, qc, qd, qe] at h4
    refine Qf rfl (Qi rfl rfl (Qf rfl (QC rfl rfl rfl (Qf rfl (Yo rfl (Qj rfl rfl (Qa rfl ?_)))))))
    refine hK _ _ (Qb (kp1 rfl) ?_)
    refine Qt (Qn rfl ?_)
    simp_all [Qda]
   ·try rw [h4]
    try simp only [qa, qb, qc, qd, qe] at h4
    refine Qm rfl (Qm rfl (Qm rfl (Qj rfl rfl (Qa rfl ?_))))
    refine hK _ _ (Qb (kp1 rfl) ?_)
    refine Qt (Qn rfl ?_)
    simp_all [Qda]
  ·try rw [h3]
   try simp only [qa, qb, qc, qd, qe] at h3
   refine Qf rfl (Qi rfl rfl (Qf rfl (QC rfl rfl rfl (Qf rfl (ZJ rfl rfl (Qj rfl rfl (Qa rfl ?_)))))))
   refine Qx (g := 23) rfl (fun h5 => ?_) (fun h5 => ?_)
   ·try rw [h5]
    try simp only [qa, qb, qc, qd, qe] at h5
    refine Qf rfl (Qi rfl rfl (Qf rfl (QF (cs := [_, _, _, _, _]) rfl rfl rfl rfl (Qf rfl (QP rfl rfl (Qf rfl (QiL rfl rfl rfl (Qj rfl rfl (Qa rfl ?_)))))))))
    refine Qx (g := 29) rfl (fun h6 => ?_) (fun h6 => ?_)
    ·try rw [h6]
     try simp only [qa, qb, qc, qd, qe] at h6
     refine Qf rfl (Qi rfl rfl (Qf rfl (QC rfl rfl rfl (Qf rfl (Yo rfl (Qj rfl rfl (Qa rfl ?_)))))))
     refine hK _ _ (Qb (kp1 rfl) ?_)
     refine Qt (Qn rfl ?_)
     simp_all [Qda]
    ·try rw [h6]
     try simp only [qa, qb, qc, qd, qe] at h6
     refine Qm rfl (Qm rfl (Qm rfl (Qj rfl rfl (Qa rfl ?_))))
     refine hK _ _ (Qb (kp1 rfl) ?_)
     refine Qt (Qn rfl ?_)
     simp_all [Qda]
   ·try rw [h5]
    try simp only [qa, qb, qc, qd, qe] at h5
    refine Qm rfl (Qm rfl (Qm rfl (Qm rfl (Qj rfl rfl (Qa rfl (Qm rfl (Qm rfl (Qm rfl (Qj rfl rfl (Qa rfl ?_))))))))))
    refine hK _ _ (Qb (kp1 rfl) ?_)
    refine Qt (Qn rfl ?_)
    simp_all [Qda]
theorem Zk {e a b c : Int} {p q : List UInt8} {f : Bool} (hp : p.length <= 1000000) (hq : q.length <= 1000000) {e' a' b' c' : Int} {p' q' : List UInt8} {f' : Bool} (hp' : p'.length <= 1000000) (hq' : q'.length <= 1000000) : Ok Try.prog 82 [.agg [.int .i64 e, .int .i64 a, .int .i64 b, .int .i64 c, .str p, .str q, .bool f], .agg [.int .i64 e', .int .i64 a', .int .i64 b', .int .i64 c', .str p', .str q', .bool f']] (.int .i64 (QaK e a b c p q f e' a' b' c' p' q' f')) := by
 refine Ok.ofT Yb Try.func82 Qqv (Nat.le_of_ble_eq_true rfl) ?_
 show TW _ _ tf82.body _ _
 refine Qe fun K hK => ZV rfl rfl rfl (ZV rfl rfl rfl (Qa rfl ?_))
 refine hK _ _ (Qb (kp2 rfl rfl) ?_)
 refine QH ?_ -- 0
 refine Qe fun K hK => QF (cs := [_, _, _, _, _, _, _]) rfl rfl rfl rfl (QA (Yj (by omega) (by omega)) rfl rfl (.inr rfl) (Yo rfl (Qa rfl ?_)))
 refine Qx (g := 9) rfl (fun h1 => ?_) (fun h1 => ?_)
 ·try rw [h1]
  try simp only [qa, qb, qc, qd, qe] at h1
  refine Qm rfl (Qm rfl (Qm rfl (Qj rfl rfl ?_)))
  refine hK _ _ (Qb (kp3 rfl rfl rfl) ?_)
  refine Zz rfl (Qe fun K hK => Qa rfl ?_)
  refine hK _ _ (Qb (kp1 rfl) ?_)
  refine Qt (Qk (Qw rfl ?_))
  first | (simp [QaK, h1]; done) | (simp_all [QaK]; done)
 ·try rw [h1]
  try simp only [qa, qb, qc, qd, qe] at h1
  refine Qf rfl (QF (cs := [_, _, _, _, _, _, _]) rfl rfl rfl rfl (Qf rfl (QA (Yj (by omega) (by omega)) rfl rfl (.inr rfl) (Qf rfl (Yo rfl (Qj rfl rfl ?_))))))
  refine hK _ _ (Qb (kp3 rfl rfl rfl) ?_)
  refine QB rfl (fun h2 => ?_) (fun h2 => ?_)
  ·try rw [h2]
   try simp only [qa, qb, qc, qd, qe] at h2
   refine Qe fun K hK => Qa rfl ?_
   refine hK _ _ (Qb (kp1 rfl) ?_)
   refine Qt (Qk (Qw rfl ?_))
   first | (simp [QaK, h1, h2]; done) | (simp_all [QaK]; done)
  ·try rw [h2]
   try simp only [qa, qb, qc, qd, qe] at h2
   refine Qz (Qd (kp2 rfl rfl) ?_)
   refine QH ?_ -- 1
   refine Qe fun K hK => Qi rfl rfl (QC rfl rfl rfl (Qi rfl rfl (QC rfl rfl rfl ?_)))
   first | refine Qay rfl rfl ?_ | refine Qlo rfl rfl ?_
   refine Qa rfl ?_
   refine Qx (g := 19) rfl (fun h3 => ?_) (fun h3 => ?_)
   ·try rw [h3]
    try simp only [qa, qb, qc, qd, qe] at h3
    refine Qm rfl (Qm rfl (Qm rfl (Qj rfl rfl ?_)))
    refine hK _ _ (Qb (kp3 rfl rfl rfl) ?_)
    refine Zz rfl (Qe fun K hK => Qi rfl rfl (QC rfl rfl rfl (Qi rfl rfl (QC rfl rfl rfl (QA (Zp) rfl rfl (.inr rfl) (Qa rfl ?_))))))
    refine hK _ _ (Qb (kp1 rfl) ?_)
    refine Qt (Qk (Qw rfl ?_))
    first | (simp [QaK, h1, h2, h3]; done) | (simp_all [QaK]; done)
   ·try rw [h3]
    try simp only [qa, qb, qc, qd, qe] at h3
    refine Qf rfl (Qi rfl rfl (Qf rfl (QC rfl rfl rfl (Qf rfl (Qay rfl rfl (Qj rfl rfl ?_))))))
    refine hK _ _ (Qb (kp3 rfl rfl rfl) ?_)
    refine QB rfl (fun h4 => ?_) (fun h4 => ?_)
    ·try rw [h4]
     try simp only [qa, qb, qc, qd, qe] at h4
     refine Qe fun K hK => Qi rfl rfl (QC rfl rfl rfl (Qi rfl rfl (QC rfl rfl rfl (QA (Zp) rfl rfl (.inr rfl) (Qa rfl ?_)))))
     refine hK _ _ (Qb (kp1 rfl) ?_)
     refine Qt (Qk (Qw rfl ?_))
     first | (simp [QaK, h1, h2, h3, h4]; done) | (simp_all [QaK]; done)
    ·try rw [h4]
     try simp only [qa, qb, qc, qd, qe] at h4
     refine Qz (Qd (kp2 rfl rfl) ?_)
     refine QH ?_ -- 2
     refine Qe fun K hK => Qi rfl rfl (QF (cs := [_, _, _, _, _]) rfl rfl rfl rfl (Qi rfl rfl (QF (cs := [_, _, _, _, _]) rfl rfl rfl rfl (QA (QaW (by omega) (by omega) (by omega) (by omega)) rfl rfl (.inr rfl) (Qa rfl ?_)))))
     refine hK _ _ (Qb (kp3 rfl rfl rfl) ?_)
     refine Qe fun K hK => Qa rfl (Qay rfl rfl ?_)
     refine hK _ _ (Qb (kp4 rfl rfl rfl rfl) ?_)
     refine QB rfl (fun h5 => ?_) (fun h5 => ?_)
     ·try rw [h5]
      try simp only [qa, qb, qc, qd, qe] at h5
      refine Qe fun K hK => Qa rfl (Qa rfl ?_)
      refine hK _ _ (Qb (kp1 rfl) ?_)
      refine Qt (Qk (Qw rfl ?_))
      first | (simp [QaK, h1, h2, h3, h4, h5]; done) | (simp_all [QaK]; done)
     ·try rw [h5]
      try simp only [qa, qb, qc, qd, qe] at h5
      refine Qz (Qd (kp2 rfl rfl) ?_)
      refine QH ?_ -- 3
      refine QK (Qe fun K hK => Qi rfl rfl (QC rfl rfl rfl (Qi rfl rfl (QC rfl rfl rfl (QmW rfl rfl (Qa rfl ?_))))))
      refine hK _ _ (Qb (kp2 rfl rfl) ?_)
      refine QB rfl (fun h6 => ?_) (fun h6 => ?_)
      ·try rw [h6]
       try simp only [qa, qb, qc, qd, qe] at h6
       refine Qe fun K hK => Qa rfl ?_
       refine hK _ _ (Qb (kp1 rfl) ?_)
       refine Qt (Qu (Qk (Qw rfl ?_)))
       first | (simp [QaK, h1, h2, h3, h4, h5, h6]; done) | (simp_all [QaK]; done)
      ·try rw [h6]
       try simp only [qa, qb, qc, qd, qe] at h6
       refine Qe fun K hK => Qi rfl rfl (QC rfl rfl rfl (Qa rfl ?_))
       refine hK _ _ (Qb (kp1 rfl) ?_)
       refine QB rfl (fun h7 => ?_) (fun h7 => ?_)
       ·try rw [h7]
        try simp only [qa, qb, qc, qd, qe] at h7
        refine Qe fun K hK => Qa rfl ?_
        refine hK _ _ (Qb (kp1 rfl) ?_)
        refine Qt (Qu (Qk (Qw rfl ?_)))
        first | (simp [QaK, h1, h2, h3, h4, h5, h6, h7]; done) | (simp_all [QaK]; done)
       ·try rw [h7]
        try simp only [qa, qb, qc, qd, qe] at h7
        refine Qz (Ql (Qd (QX) (Qe fun K hK => Qa rfl ?_)))
        refine hK _ _ (Qb (kp1 rfl) ?_)
        refine Qt (Qw rfl ?_)
        first | (simp [QaK, h1, h2, h3, h4, h5, h6, h7]; done) | (simp_all [QaK]; done)
theorem Y5 {e a b c : Int} {p q : List UInt8} {f : Bool} (hp : p.length <= 1000000) (hq : q.length <= 1000000) {e' a' b' c' : Int} {p' q' : List UInt8} {f' : Bool} (hp' : p'.length <= 1000000) (hq' : q'.length <= 1000000) : Ok Try.prog 81 [.agg [.int .i64 e, .int .i64 a, .int .i64 b, .int .i64 c, .str p, .str q, .bool f, .int .i64 e', .int .i64 a', .int .i64 b', .int .i64 c', .str p', .str q', .bool f']] (.bool (Qgm e a b c p q f e' a' b' c' p' q' f')) := by
 refine Ok.ofT Yb Try.func81 Qqu (Nat.le_of_ble_eq_true rfl) ?_
 show TW _ _ tf81.body _ _
 refine Qe fun K hK => ZV rfl rfl rfl (Qa rfl ?_)
 refine hK _ _ (Qb (kp1 rfl) ?_)
 refine Qe fun K hK => Qi rfl rfl (QF (cs := [_, _, _, _, _, _, _]) rfl rfl rfl rfl (QA (Yj (by omega) (by omega)) rfl rfl (.inr rfl) (Qa rfl ?_)))
 refine Qx (g := 6) rfl (fun h1 => ?_) (fun h1 => ?_)
 ·try rw [h1]
  try simp only [qa, qb, qc, qd, qe] at h1
  refine Qf rfl (Qi rfl rfl (Qf rfl (QF (cs := [_, _, _, _, _, _, _]) rfl rfl rfl rfl (Qf rfl (QA (Yj (by omega) (by omega)) rfl rfl (.inr rfl) (Qj rfl rfl (Qa rfl ?_)))))))
  refine Qx (g := 11) rfl (fun h2 => ?_) (fun h2 => ?_)
  ·try rw [h2]
   try simp only [qa, qb, qc, qd, qe] at h2
   refine Qf rfl (Qi rfl rfl (Qf rfl (QF (cs := [_, _, _, _, _, _, _]) rfl rfl rfl rfl (Qf rfl (Qi rfl rfl (Qf rfl (QF (cs := [_, _, _, _, _, _, _]) rfl rfl rfl rfl (Qf rfl (QA (Zk (by omega) (by omega) (by omega) (by omega)) rfl rfl (.inr rfl) (Qf rfl (Y4 rfl rfl ?_)))))))))))
   refine Qj rfl rfl (Qa rfl ?_)
   refine hK _ _ (Qb (kp1 rfl) ?_)
   refine Qt (Qn rfl ?_)
   first | (simp [Qgm, h1, h2]; done) | (simp_all [Qgm]; done)
  ·try rw [h2]
   try simp only [qa, qb, qc, qd, qe] at h2
   refine Qm rfl (Qm rfl (Qm rfl (Qm rfl (Qm rfl (Qm rfl (Qj rfl rfl (Qa rfl ?_)))))))
   refine hK _ _ (Qb (kp1 rfl) ?_)
   refine Qt (Qn rfl ?_)
   first | (simp [Qgm, h1, h2]; done) | (simp_all [Qgm]; done)
 ·try rw [h1]
  try simp only [qa, qb, qc, qd, qe] at h1
  refine Qm rfl (Qm rfl (Qm rfl (Qj rfl rfl (Qa rfl (Qm rfl (Qm rfl (Qm rfl (Qm rfl (Qm rfl (Qm rfl (Qj rfl rfl ?_)))))))))))
  refine Qa rfl ?_
  refine hK _ _ (Qb (kp1 rfl) ?_)
  refine Qt (Qn rfl ?_)
  first | (simp [Qgm, h1]; done) | (simp_all [Qgm]; done)
end Go.Proofs
namespace M3
open Go Go.Abs
end M3
namespace M3
open Go Go.Abs
end M3
namespace M3
open Go Go.Abs
end M3
namespace M25
open Go Go.Abs M3
def Qfu (a b c : Int) : Bool := decide (a = 0) && decide (b = 0) && decide (c = 0)
def XC (a b c : Int) (p q : List UInt8) (part : Int) : Option (Int × Int × Int) :=
 if QgF a b c p q = false \/ part < 0 \/ 2 < part then none
 else
  let o := if part = 0 then (a + 1, 0, 0) else if part = 1 then (a, b + 1, 0) else (a, b, c + 1)
  if QgF o.1 o.2.1 o.2.2 [] [] = true then some o else none
def dOV (o : Option (Int × Int × Int)) : D := .tup [.agg [.int .i64 (o.getD (0, 0, 0)).1, .int .i64 (o.getD (0, 0, 0)).2.1, .int .i64 (o.getD (0, 0, 0)).2.2, .str [], .str []], .bool o.isSome]
def Xa (a b c : Int) (p q : List UInt8) : Nat -> Option (Int × Int × Int)
 | 0 => none
 | n + 1 => if (XC a b c p q n).isSome = true then XC a b c p q n else Xa a b c p q n
def Qhm (a b c : Int) (p q : List UInt8) : Option (Int × Int × Int) :=
 if QgF a b c p q = false then none else if p ≠ [] then some (a, b, c) else Xa a b c p q 3
theorem Qbz {a b c : Int} {p q : List UInt8} (h : QgF a b c p q = true) : (0 <= a /\ a <= 9999) /\ (0 <= b /\ b <= 9999) /\ (0 <= c /\ c <= 9999) := by
 simp only [QgF, mFits, Bool.and_eq_true, decide_eq_true_eq] at h
 omega
theorem Qh4 {a b c : Int} {p q : List UInt8} {m : Nat} (hm : 0 < m) (h : (XC a b c p q ((m : Int) - 1)).isSome = false) : Xa a b c p q m = Xa a b c p q (m - 1) := by
 obtain ⟨n, rfl⟩ : ∃ n, m = n + 1 := ⟨m - 1, by omega⟩
 rw [show ((n + 1 : Nat) : Int) - 1 = (n : Int) by omega] at h
 rw [Xa, if_neg (by rw [h]; simp)]; rfl
theorem QgR {a b c : Int} {p q : List UInt8} {m : Nat} (hm : 0 < m) (h : (XC a b c p q ((m : Int) - 1)).isSome = true) : Xa a b c p q m = XC a b c p q ((m : Int) - 1) := by
 obtain ⟨n, rfl⟩ : ∃ n, m = n + 1 := ⟨m - 1, by omega⟩
 rw [show ((n + 1 : Nat) : Int) - 1 = (n : Int) by omega] at h ⊢
 rw [Xa, if_pos h]
def dCu (x : Cu) : List D := [.int .i64 x.e, .int .i64 x.a, .int .i64 x.b, .int .i64 x.c, .str x.p, .str x.q, .bool x.f]
def Qdy (s : Cu × Cu) : List D := dCu s.1 ++ dCu s.2
def ZD (l : List (Cu × Cu)) : D := .sl (l.map Qdy)
def QgE (s : List (Cu × Cu) × List (Cu × Cu)) : D := .agg [ZD s.1, ZD s.2]
def QbV : Cu := ⟨-1, 0, 0, 0, [], [], false⟩
def Qe4 : Cu := ⟨1, 0, 0, 0, [], [], false⟩
def Qey (a b c : Int) : Cu := if Qfu a b c = true then QbV else ⟨0, a, b, c, [], [], false⟩
def QcB (a b c : Int) : Cu := match Qhm a b c [] [] with
 | none => Qe4
 | some o => ⟨0, o.1, o.2.1, o.2.2, [], [], false⟩
def YP (a b c : Int) (p q : List UInt8) : List (Cu × Cu) × List (Cu × Cu) :=
 if QgF a b c p q = false then ([], []) else if p ≠ [] then ([], [(⟨0, a, b, c, p, [], false⟩, ⟨0, a, b, c, p, [], true⟩)]) else ([(Qey a b c, QcB a b c)], [])
def Qfw (e a b c : Int) (p q : List UInt8) (f : Bool) : Bool := !decide (e = 0) || (!f && decide (p = []) && !Qfu a b c)
def Cu.sm (x : Cu) : Prop := x.p.length <= 1000000 /\ x.q.length <= 1000000
def Sm (l : List (Cu × Cu)) : Prop := l.length <= 1000000 /\ ∀ s ∈ l, Cu.sm s.1 /\ Cu.sm s.2
theorem Sm.at {l : List (Cu × Cu)} (h : Sm l) {i : Nat} (hi : i < l.length) : (l[i].1.p.length <= 1000000 /\ l[i].1.q.length <= 1000000) /\ (l[i].2.p.length <= 1000000 /\ l[i].2.q.length <= 1000000) := h.2 _ (List.getElem_mem hi)
def QcE (s : Cu × Cu) : Bool := Qgm s.1.e s.1.a s.1.b s.1.c s.1.p s.1.q s.1.f s.2.e s.2.a s.2.b s.2.c s.2.p s.2.q s.2.f
def QaL (x y : Cu) : Int := QaK x.e x.a x.b x.c x.p x.q x.f y.e y.a y.b y.c y.p y.q y.f
def QnH (l : List (Cu × Cu)) (i : Nat) : Bool := match l[i]? with
 | none => true
 | some s => QcE s && (decide (i = 0) || match l[i - 1]? with | none => true | some r => decide (QaL r.2 s.1 < 0))
theorem QkS {l : List (Cu × Cu)} {i : Nat} (h : i < l.length) : QnH l i = (QcE l[i] && (decide (i = 0) || decide (QaL (l[i - 1]'(by omega)).2 l[i].1 < 0))) := by
 unfold QnH
 rw [List.getElem?_eq_getElem h, List.getElem?_eq_getElem (show i - 1 < l.length by omega)]
theorem QmG {l : List (Cu × Cu)} {i : Nat} (h : i < l.length) (h1 : QcE l[i] = true) (h2 : i = 0 \/ QaL (l[i - 1]'(by omega)).2 l[i].1 < 0) : QnH l i = true := by
 rw [QkS h, h1]; simpa using h2
theorem QfC {l : List (Cu × Cu)} {i : Nat} (h : i < l.length) (h1 : QcE l[i] = false \/ (i ≠ 0 /\ 0 <= QaL (l[i - 1]'(by omega)).2 l[i].1)) : QnH l i = false := by
 rw [QkS h]
 rcases h1 with h1 | ⟨h1, h2⟩
 ·rw [h1]; rfl
 ·simp only [Bool.and_eq_false_iff, Bool.or_eq_false_iff, decide_eq_false_iff_not]
  exact .inr ⟨h1, by omega⟩
def Qez (l : List (Cu × Cu)) : Bool := (List.range l.length).all (QnH l)
theorem X7 {n i : Nat} {p : Nat -> Bool} (h : i < n) (hp : p i = false) : (List.range n).all p = false := by
 rw [Bool.eq_false_iff]; intro ha
 rw [List.all_eq_true] at ha
 rw [ha i (List.mem_range.2 h)] at hp; cases hp
theorem QdU {i : Nat} {p : Nat -> Bool} (h : (List.range i).all p = true) (hp : p i = true) : (List.range (i + 1)).all p = true := by
 rw [List.range_succ, List.all_append, h]; simp [hp]
theorem QcM {i : Nat} {p : Nat -> Bool} {n : Nat} (h : (List.range i).all p = true) (hn : n <= i) : (List.range n).all p = true := by
 rw [List.all_eq_true] at h ⊢
 exact fun x hx => h x (List.mem_range.2 (Nat.lt_of_lt_of_le (List.mem_range.1 hx) hn))
def Qnm (s : Cu × Cu) (a b c : Int) (p q : List UInt8) : Bool := Qoi s.1.e s.1.a s.1.b s.1.c s.1.p s.1.q s.1.f s.2.e s.2.a s.2.b s.2.c s.2.p s.2.q s.2.f a b c p q
def Qoh (l : List (Cu × Cu)) (a b c : Int) (p q : List UInt8) : Bool := Qez l && l.any fun s => Qnm s a b c p q
def inC (x y : Cu) (s : Cu × Cu) : Bool := decide (QaL s.1 x <= 0) && decide (QaL y s.2 <= 0)
theorem Qn9 {x y : Cu} {s : Cu × Cu} (h1 : QaL s.1 x <= 0) (h2 : QaL y s.2 <= 0) : inC x y s = true := by simp [inC, h1, h2]
theorem Qn8 {x y : Cu} {s : Cu × Cu} (h : ¬ QaL s.1 x <= 0 \/ ¬ QaL y s.2 <= 0) : inC x y s = false := by
 simp only [inC, Bool.and_eq_false_iff, decide_eq_false_iff_not]; exact h
def mIn (l : List (Cu × Cu)) (x y : Cu) : Bool := l.any (inC x y)
theorem QfN {α : Type} {s : List α} {p : α -> Bool} {i : Nat} (h : i < s.length) (hp : p s[i] = true) : s.any p = true := List.any_eq_true.2 ⟨_, List.getElem_mem h, hp⟩
theorem Qj0 {α : Type} {s : List α} {p : α -> Bool} {i : Nat} (hi : s.length <= i) (h : (s.take i).any p = false) : s.any p = false := by rwa [List.take_of_length_le hi] at h
theorem QgN {α : Type} {s : List α} {p : α -> Bool} {i : Nat} (h : i < s.length) (ha : (s.take i).any p = false) (hp : p s[i] = false) : (s.take (i + 1)).any p = false := by
 rw [List.take_succ_eq_append_getElem h, List.any_append, ha]; simp [hp]
def QaU (x : Cu) : Bool := Qfw x.e x.a x.b x.c x.p x.q x.f
def QeA (s : List (Cu × Cu) × List (Cu × Cu)) : Bool := Qez s.1 && Qez s.2 && s.1.all fun x => QaU x.1 && QaU x.2
def Qo5 (s : List (Cu × Cu) × List (Cu × Cu)) (a b c : Int) (p q : List UInt8) : Bool :=
 QeA s && QgF a b c p q && (if p = [] then Qoh s.1 a b c p q else Qoh s.2 a b c p q)
theorem Qaf {s : List (Cu × Cu) × List (Cu × Cu)} (h : Qez s.1 = false \/ Qez s.2 = false) : QeA s = false := by
 rw [QeA]; rcases h with h | h <;> simp [h]
theorem Qae {s : List (Cu × Cu) × List (Cu × Cu)} {i : Nat} (hi : i < s.1.length) (h : QaU s.1[i].1 = false \/ QaU s.1[i].2 = false) : QeA s = false := by
 have : (s.1.all fun x => QaU x.1 && QaU x.2) = false := XW hi (by rcases h with h | h <;> simp [h])
 rw [QeA, this, Bool.and_false]
theorem QcG {s : List (Cu × Cu) × List (Cu × Cu)} {i : Nat} (h1 : Qez s.1 = true) (h2 : Qez s.2 = true) (hi : s.1.length <= i) (h : (s.1.take i).all (fun x => QaU x.1 && QaU x.2) = true) : QeA s = true := by
 rw [List.take_of_length_le hi] at h
 rw [QeA, h1, h2, h]; rfl
def QfV (l : List Cu) : D := .sl (l.map dCu)
theorem QhD {l : List Cu} : ∀ r ∈ l.map dCu, r.length = 7 := fun r hr => by obtain ⟨x, _, rfl⟩ := List.mem_map.1 hr; rfl
theorem Ql9 {l : List Cu} {a b : Nat} : ∀ r ∈ ((l.map dCu).take a).drop b, r.length = 7 := fun r hr => QhD r (List.mem_of_mem_take (List.mem_of_mem_drop hr))
def Qbj : List Cu -> Cu -> List Cu
 | [], c => [c]
 | x :: r, c => if QaL x c < 0 then x :: Qbj r c else if QaL x c = 0 then x :: r else c :: x :: r
theorem QkL {l : List Cu} {c : Cu} {k : Nat} (hk : k < l.length) (h : QaL l[k] c < 0) (hi : Qbj l c = l.take k ++ Qbj (l.drop k) c) : Qbj l c = l.take (k + 1) ++ Qbj (l.drop (k + 1)) c := by
 rw [hi, List.drop_eq_getElem_cons hk, Qbj, if_pos h, List.take_succ_eq_append_getElem hk, List.append_assoc]; rfl
theorem QkK {l : List Cu} {c : Cu} {k : Nat} (hk : k < l.length) (h : QaL l[k] c = 0) (hi : Qbj l c = l.take k ++ Qbj (l.drop k) c) : Qbj l c = l := by
 rw [hi, List.drop_eq_getElem_cons hk, Qbj, if_neg (by omega), if_pos h, <- List.drop_eq_getElem_cons hk, List.take_append_drop]
theorem Qjc {l : List Cu} {c : Cu} {k : Nat} (h : l.length <= k \/ ∃ hk : k < l.length, ¬ QaL l[k] c < 0 /\ QaL l[k] c ≠ 0) (hi : Qbj l c = l.take k ++ Qbj (l.drop k) c) : Qbj l c = l.take k ++ c :: l.drop k := by
 rw [hi]
 rcases h with h | ⟨hk, h1, h2⟩
 ·rw [List.drop_eq_nil_of_le h, Qbj]
 ·rw [List.drop_eq_getElem_cons hk, Qbj, if_neg h1, if_neg h2]
theorem QdO : ∀ (l : List Cu) (c : Cu), (Qbj l c).length <= l.length + 1
 | [], c => by simp [Qbj]
 | x :: r, c => by
  have := QdO r c
  simp only [Qbj]
  (repeat' split) <;> simp <;> omega
theorem Qgl : ∀ {l : List Cu} {c : Cu}, (∀ x ∈ l, Cu.sm x) -> Cu.sm c -> ∀ x ∈ Qbj l c, Cu.sm x
 | [], c, _, hc, x, hx => by simp [Qbj] at hx; exact hx ▸ hc
 | y :: r, c, hl, hc, x, hx => by
  simp only [Qbj] at hx
  split at hx
  ·rcases List.mem_cons.1 hx with rfl | hx
   ·exact hl _ (by simp)
   ·exact Qgl (fun z hz => hl z (by simp [hz])) hc x hx
  ·split at hx
   ·exact hl x hx
   ·rcases List.mem_cons.1 hx with rfl | hx
    ·exact hc
    ·exact hl x hx
def Yx (l : List (Cu × Cu)) : List Cu := l.foldl (fun out s => Qbj (Qbj out s.1) s.2) [QbV, Qe4]
theorem QlU {l : List (Cu × Cu)} {i : Nat} (h : i < l.length) : Yx (l.take (i + 1)) = Qbj (Qbj (Yx (l.take i)) l[i].1) l[i].2 := by
 rw [List.take_succ_eq_append_getElem h, Yx, List.foldl_append]; rfl
theorem Qfs : ∀ (l : List (Cu × Cu)) (out : List Cu), (l.foldl (fun out s => Qbj (Qbj out s.1) s.2) out).length <= out.length + 2 * l.length
 | [], out => by simp
 | s :: l, out => by
  have h1 := QdO out s.1
  have h2 := QdO (Qbj out s.1) s.2
  have := Qfs l (Qbj (Qbj out s.1) s.2)
  simp only [List.foldl_cons, List.length_cons]; omega
theorem Qbg (l : List (Cu × Cu)) : (Yx l).length <= 2 + 2 * l.length := Qfs l _
theorem Qhh : ∀ {l : List (Cu × Cu)} {out : List Cu}, (∀ s ∈ l, Cu.sm s.1 /\ Cu.sm s.2) -> (∀ x ∈ out, Cu.sm x) -> ∀ x ∈ l.foldl (fun out s => Qbj (Qbj out s.1) s.2) out, Cu.sm x
 | [], _, _, h => h
 | s :: l, out, hl, h => by
  rw [List.foldl_cons]
  exact Qhh (fun t ht => hl t (by simp [ht])) (Qgl (Qgl h (hl s (by simp)).1) (hl s (by simp)).2)
theorem Qi9 {l : List (Cu × Cu)} (hl : ∀ s ∈ l, Cu.sm s.1 /\ Cu.sm s.2) : ∀ x ∈ Yx l, Cu.sm x := Qhh hl (by
 intro x hx
 simp only [List.mem_cons, List.not_mem_nil, or_false] at hx
 rcases hx with rfl | rfl <;> exact ⟨Nat.zero_le _, Nat.zero_le _⟩)
theorem QdM {l : List (Cu × Cu)} (hl : Sm l) (i : Nat) : (Yx (l.take i)).length <= 2000002 /\ ∀ x ∈ Yx (l.take i), Cu.sm x := by
 refine ⟨?_, Qi9 fun s hs => hl.2 s (List.mem_of_mem_take hs)⟩
 have := Qbg (l.take i)
 have h2 : (l.take i).length <= l.length := List.length_take_le' ..
 have := hl.1
 omega
def Qbi (l : List (Cu × Cu)) (x y : Cu) : List (Cu × Cu) := match l.getLast? with
 | some s => if QaL s.2 x = 0 then l.dropLast ++ [(s.1, y)] else l ++ [(x, y)]
 | none => l ++ [(x, y)]
theorem Qhj {l : List (Cu × Cu)} {x y : Cu} {i : Nat} (hi : i + 1 = l.length) (h : QaL (l[i]'(by omega)).2 x = 0) : Qbi l x y = l.set i ((l[i]'(by omega)).1, y) := by
 have hg : l.getLast? = some (l[i]'(by omega)) := by
  rw [List.getLast?_eq_getElem?, show l.length - 1 = i by omega, List.getElem?_eq_getElem]
 rw [Qbi, hg]
 simp only [h, if_true]
 rw [List.dropLast_eq_take, show l.length - 1 = i by omega, List.set_eq_take_append_cons_drop, if_pos (by omega), List.drop_eq_nil_of_le (by omega)]
theorem QcD {l : List (Cu × Cu)} {x y : Cu} (h : l = [] \/ ∃ i, ∃ hi : i + 1 = l.length, QaL (l[i]'(by omega)).2 x ≠ 0) : Qbi l x y = l ++ [(x, y)] := by
 rcases h with rfl | ⟨i, hi, h⟩
 ·rfl
 ·have hg : l.getLast? = some (l[i]'(by omega)) := by
   rw [List.getLast?_eq_getElem?, show l.length - 1 = i by omega, List.getElem?_eq_getElem]
  rw [Qbi, hg]
  simp only [if_neg h]
theorem Qhk (l : List (Cu × Cu)) (x y : Cu) : (Qbi l x y).length <= l.length + 1 := by
 unfold Qbi
 split
 ·split
  ·simp
  ·simp
 ·simp
theorem Qjb {l : List (Cu × Cu)} {x y : Cu} (hl : ∀ s ∈ l, Cu.sm s.1 /\ Cu.sm s.2) (hx : Cu.sm x) (hy : Cu.sm y) : ∀ s ∈ Qbi l x y, Cu.sm s.1 /\ Cu.sm s.2 := by
 intro s hs
 unfold Qbi at hs
 split at hs
 ·rename_i t ht
  have ht' := List.mem_of_getLast? ht
  split at hs
  ·rcases List.mem_append.1 hs with hs | hs
   ·exact hl s (List.dropLast_subset _ hs)
   ·simp at hs; subst hs; exact ⟨(hl t ht').1, hy⟩
  ·rcases List.mem_append.1 hs with hs | hs
   ·exact hl s hs
   ·simp at hs; subst hs; exact ⟨hx, hy⟩
 ·rcases List.mem_append.1 hs with hs | hs
  ·exact hl s hs
  ·simp at hs; subst hs; exact ⟨hx, hy⟩
theorem Qi4 {α β : Type} {l : List α} {f : α -> β} {i : Nat} (h : i + 1 < l.length) : (l.map f)[((i : Int) + 1).toNat]? = some (f l[i + 1]) := by
 rw [show ((i : Int) + 1).toNat = i + 1 by omega, List.getElem?_map, List.getElem?_eq_getElem h]; rfl
def Qbh (f : Cu -> Cu -> Bool) : List Cu -> List (Cu × Cu) -> List (Cu × Cu)
 | x :: y :: r, out => Qbh f (y :: r) (if f x y = true then Qbi out x y else out)
 | _, out => out
def Qih (l : List (Cu × Cu)) : List (Cu × Cu) := if l.all QcE = true then Qbh (mIn l) (Yx l) [] else []
theorem Qft {f : Cu -> Cu -> Bool} {c : List Cu} {out : List (Cu × Cu)} {i : Nat} (h : i + 1 < c.length) : Qbh f (c.drop i) out = Qbh f (c.drop (i + 1)) (if f c[i] c[i + 1] = true then Qbi out c[i] c[i + 1] else out) := by
 rw [List.drop_eq_getElem_cons (show i < c.length by omega), List.drop_eq_getElem_cons h, Qbh]
theorem QkI {f : Cu -> Cu -> Bool} {c : List Cu} {out : List (Cu × Cu)} {i : Nat} (h : c.length <= i + 1) : Qbh f (c.drop i) out = out := by
 have : (c.drop i).length <= 1 := by simp; omega
 match hd : c.drop i with
 | [] => rfl
 | [x] => rfl
 | x :: y :: r => rw [hd] at this; simp at this
def FillI (f : Cu -> Cu -> Bool) (c : List Cu) (i : Nat) (out : List (Cu × Cu)) : Prop :=
 out.length <= i /\ (∀ s ∈ out, Cu.sm s.1 /\ Cu.sm s.2) /\ Qbh f c [] = Qbh f (c.drop i) out
theorem FillI.zero {f : Cu -> Cu -> Bool} {c : List Cu} : FillI f c 0 [] := ⟨Nat.zero_le _, by simp, by simp⟩
theorem FillI.take {f : Cu -> Cu -> Bool} {c : List Cu} {i : Nat} {out : List (Cu × Cu)} (h : FillI f c i out) (hc : ∀ x ∈ c, Cu.sm x) (hi : i + 1 < c.length) (ht : f c[i] c[i + 1] = true) : FillI f c (i + 1) (Qbi out c[i] c[i + 1]) := by
 obtain ⟨h1, h2, h3⟩ := h
 refine ⟨Nat.le_trans (Qhk ..) (by omega), Qjb h2 (hc _ (List.getElem_mem _)) (hc _ (List.getElem_mem _)), ?_⟩
 rw [h3, Qft hi, if_pos ht]
theorem FillI.skip {f : Cu -> Cu -> Bool} {c : List Cu} {i : Nat} {out : List (Cu × Cu)} (h : FillI f c i out) (hi : i + 1 < c.length) (ht : f c[i] c[i + 1] = false) : FillI f c (i + 1) out := by
 obtain ⟨h1, h2, h3⟩ := h
 exact ⟨by omega, h2, by rw [h3, Qft hi, if_neg (by rw [ht]; simp)]⟩
theorem FillI.done {f : Cu -> Cu -> Bool} {c : List Cu} {i : Nat} {out : List (Cu × Cu)} (h : FillI f c i out) (hi : c.length <= i + 1) : Qbh f c [] = out := by rw [h.2.2, QkI hi]
theorem QoB {i : Nat} : ((i : Int) + 1).toNat = i + 1 := by omega
theorem Yf {l : List (Cu × Cu)} (hl : Sm l) : ∀ x ∈ Yx l, Cu.sm x := Qi9 hl.2
def QmE (a b : List (Cu × Cu)) : List (Cu × Cu) := if Qez a = true /\ Qez b = true then Qih (a ++ b) else []
def Qii (a : List (Cu × Cu)) : List (Cu × Cu) := if Qez a = true then Qbh (fun x y => !mIn a x y) (Yx a) [] else []
theorem QmI {l : List (Cu × Cu)} : ∀ r ∈ l.map Qdy, r.length = 14 := fun r hr => by obtain ⟨x, _, rfl⟩ := List.mem_map.1 hr; rfl
theorem Sm.app {a b : List (Cu × Cu)} (ha : Sm a) (hb : Sm b) (h : a.length + b.length <= 1000000) : Sm (a ++ b) := by
 refine ⟨by simp; omega, fun s hs => ?_⟩
 rcases List.mem_append.1 hs with hs | hs
 ·exact ha.2 s hs
 ·exact hb.2 s hs
theorem Qo1 {H : List (Nat × Box)} {S : Nat -> Bool} {k n : Nat} {b : Box} (hS : S k = true) (hb : lk H k = some b) (hp : b.pr = true) (hn : n = b.rows.length) : (D.osl k n).fz H S = .sl b.rows := by
 simp only [D.fz, D.fzS, hS, hb, if_true, hp, hn, and_self]
abbrev QgC := List (Cu × Cu) × List (Cu × Cu)
def QmF (a b : QgC) : QgC := if QeA a = true /\ QeA b = true then (QmE a.1 b.1, QmE a.2 b.2) else ([], [])
def Qgj (a : QgC) : QgC := if QeA a = true then (Qii a.1, Qii a.2) else ([], [])
def mPl (v n : Int) : Int := if n < 1 then 0 else QeD v n
theorem QeC {v n : Int} : 0 <= mPl v n := by
 unfold mPl; split
 ·omega
 ·exact Ql4 (by omega)
theorem QeB {v n : Int} (h : 1 <= n) : mPl v n < n := by
 rw [mPl, if_neg (by omega)]; exact Ql3 (by omega)
def Qll (l : List Int) (i : Int) : Int := if i < 0 \/ (l.length : Int) <= i then i.tmod 3 else l.getD i.toNat 0
theorem QkG {l : List Int} {i : Int} (h0 : 0 <= i) (h : i < l.length) : Qll l i = l[i.toNat]'(by omega) := by
 rw [Qll, if_neg (by omega), List.getD_eq_getElem?_getD, List.getElem?_eq_getElem (by omega)]; rfl
def I64 (x : Int) : Prop := -9223372036854775808 <= x /\ x <= 9223372036854775807
theorem QlT {l : List Int} {i : Int} (hl : ∀ x ∈ l, I64 x) (hi : I64 i) : I64 (Qll l i) := by
 by_cases h : i < 0 \/ (l.length : Int) <= i
 ·rw [Qll, if_pos h]
  have h1 := Int.tmod_lt_of_pos i (show (0 : Int) < 3 by omega)
  have h2 := Int.lt_tmod_of_pos i (show (0 : Int) < 3 by omega)
  exact ⟨by omega, by omega⟩
 ·rw [QkG (by omega) (by omega)]
  exact hl _ (List.getElem_mem _)
theorem QcT (x : Int) : I64 (IntKind.i64.wrap x) := by
 unfold IntKind.wrap I64
 simp only [IntKind.bits, IntKind.signed, Bool.true_and]
 split
 ·rename_i h
  have := of_decide_eq_true h
  omega
 ·rename_i h
  have : ¬ (x % 2 ^ 64 >= 2 ^ (64 - 1)) := fun hh => h (decide_eq_true hh)
  omega
theorem Qc9 {α : Type} {k : Nat} {v : α} {l : List (Nat × α)} : lk ((k, v) :: l) k = some v := by rw [Qh, if_pos rfl]
theorem QdL {α : Type} {k : Nat} {v : α} {l : List (Nat × α)} : (lk ((k, v) :: l) k).isSome = true := by rw [Qc9]; rfl
def gB (L : List Int) (I : Int) (et : Nat) : Box := ⟨[[ZG L, .int .i64 I]], 2, et, true⟩
def nxI (I : Int) : Int := IntKind.i64.wrap (I + 1)
def nx (L : List Int) (I n : Int) : Int := mPl (Qll L (IntKind.i64.wrap (nxI I - 1))) n
def QeF (h m : Int) : Int := if Qac .and .i64 h m = h then 2 else if Qac .and .i64 h m = 0 then 0 else 1
def Qb8 (h m : Int) : Int := if Qac .andNot .i64 h m = 0 then 2 else if Qac .and .i64 h m = 0 then 0 else 1
theorem Qip {i : Nat} (h : i <= 62) : 1 <= (2 : Int) ^ i /\ (2 : Int) ^ i <= 4611686018427387904 := by
 have h1 : (2 : Nat) ^ i <= 2 ^ 62 := Nat.pow_le_pow_right (by omega) h
 have h2 : 1 <= (2 : Nat) ^ i := Nat.one_le_two_pow
 have h3 : ((2 ^ i : Nat) : Int) = (2 : Int) ^ i := by simp
 rw [<- h3]
 have h4 : (2 : Nat) ^ 62 = 4611686018427387904 := by decide
 omega
structure Vr where
 a : Int
 b : Int
 c : Int
 p : List UInt8
 q : List UInt8
def dVr (v : Vr) : List D := [.int .i64 v.a, .int .i64 v.b, .int .i64 v.c, .str v.p, .str v.q]
def Vr.sm (v : Vr) : Prop := v.p.length <= 100 /\ v.q.length <= 100
def versions : List Vr := [⟨1, 0, 0, [], []⟩, ⟨1, 2, 0, [], []⟩, ⟨2, 0, 0, [97, 46, 49], []⟩, ⟨2, 0, 0, [], []⟩]
theorem QiG : ∀ v ∈ versions, v.sm := by
 intro v hv
 simp only [versions, List.mem_cons, List.not_mem_nil, or_false] at hv
 rcases hv with rfl | rfl | rfl | rfl <;> exact ⟨by decide, by decide⟩
theorem QcI {i : Nat} : ((i : Int) - 1).toNat = i - 1 := by omega
end M25
namespace Go.Proofs
open Go Go.Abs M3 M25
set_option linter.unusedVariables false
set_option linter.unusedSimpArgs false
theorem XL {a b c : Int} {p q : List UInt8} : Ok Try.prog 56 [.agg [.int .i64 a, .int .i64 b, .int .i64 c, .str p, .str q]] (.agg [.int .i64 a, .int .i64 b, .int .i64 c, .str p, .str []]) := by
 refine Ok.ofT Yb Try.func56 Qp5 (Nat.le_of_ble_eq_true rfl) ?_
 show TW _ _ tf56.body _ _
 refine Qe fun K hK => ZV rfl rfl rfl (ZE rfl ?_)
 refine hK _ _ (Qb (kp2 rfl rfl) ?_)
 refine Qe fun K hK => Qi rfl rfl (QS rfl rfl rfl rfl rfl rfl rfl rfl ?_)
 refine hK _ _ (Qb (kp2 rfl rfl) ?_)
 refine Qe fun K hK => QF (cs := [_, _, _, _, _]) rfl rfl rfl rfl (QS rfl rfl rfl rfl rfl rfl rfl rfl ?_)
 refine hK _ _ (Qb (kp1 rfl) ?_)
 refine Qt (Zu (cs := [_, _, _, _, _]) rfl rfl rfl rfl ?_)
 exact rfl
theorem YA  : Ok Try.prog 58 [] (.agg [.int .i64 (-1), .int .i64 0, .int .i64 0, .int .i64 0, .str [], .str [], .bool false]) := by
 refine Ok.ofT Yb Try.func58 Qp7 (Nat.le_of_ble_eq_true rfl) ?_
 show TW _ _ tf58.body _ _
 refine Qe fun K hK => ZE rfl ?_
 refine hK _ _ (Qb (kp1 rfl) ?_)
 refine Qe fun K hK => QP rfl rfl (QS rfl rfl rfl rfl rfl rfl rfl rfl ?_)
 refine hK _ _ (Qb (kp1 rfl) ?_)
 refine Qt (Zu (cs := [_, _, _, _, _, _, _]) rfl rfl rfl rfl ?_)
 exact rfl
theorem YL  : Ok Try.prog 60 [] (.agg [.int .i64 1, .int .i64 0, .int .i64 0, .int .i64 0, .str [], .str [], .bool false]) := by
 refine Ok.ofT Yb Try.func60 Qp9 (Nat.le_of_ble_eq_true rfl) ?_
 show TW _ _ tf60.body _ _
 refine Qe fun K hK => ZE rfl ?_
 refine hK _ _ (Qb (kp1 rfl) ?_)
 refine Qe fun K hK => QP rfl rfl (QS rfl rfl rfl rfl rfl rfl rfl rfl ?_)
 refine hK _ _ (Qb (kp1 rfl) ?_)
 refine Qt (Zu (cs := [_, _, _, _, _, _, _]) rfl rfl rfl rfl ?_)
 exact rfl
theorem Yt {a b c : Int} {p q : List UInt8} : Ok Try.prog 41 [.agg [.int .i64 a, .int .i64 b, .int .i64 c, .str p, .str q]] (.agg [.int .i64 0, .int .i64 a, .int .i64 b, .int .i64 c, .str p, .str [], .bool false]) := by
 refine Ok.ofT Yb Try.func41 QpR (Nat.le_of_ble_eq_true rfl) ?_
 show TW _ _ tf41.body _ _
 refine Qe fun K hK => ZV rfl rfl rfl (ZE rfl ?_)
 refine hK _ _ (Qb (kp2 rfl rfl) ?_)
 refine Qe fun K hK => QF (cs := [_, _, _, _, _]) rfl rfl rfl rfl (QA (XL) rfl rfl (.inl rfl) (QP rfl rfl (QS rfl rfl rfl rfl rfl rfl rfl rfl ?_)))
 refine hK _ _ (Qb (kp1 rfl) ?_)
 refine Qt (Zu (cs := [_, _, _, _, _, _, _]) rfl rfl rfl rfl ?_)
 exact rfl
theorem Qa5 {a b c : Int} {p q : List UInt8} : Ok Try.prog 42 [.agg [.int .i64 a, .int .i64 b, .int .i64 c, .str p, .str q]] (.agg [.int .i64 0, .int .i64 a, .int .i64 b, .int .i64 c, .str p, .str [], .bool true]) := by
 refine Ok.ofT Yb Try.func42 QpS (Nat.le_of_ble_eq_true rfl) ?_
 show TW _ _ tf42.body _ _
 refine Qe fun K hK => ZV rfl rfl rfl (ZE rfl ?_)
 refine hK _ _ (Qb (kp2 rfl rfl) ?_)
 refine Qe fun K hK => QF (cs := [_, _, _, _, _]) rfl rfl rfl rfl (QA (XL) rfl rfl (.inl rfl) (QP rfl rfl (QS rfl rfl rfl rfl rfl rfl rfl rfl ?_)))
 refine hK _ _ (Qb (kp1 rfl) ?_)
 refine Qt (Zu (cs := [_, _, _, _, _, _, _]) rfl rfl rfl rfl ?_)
 exact rfl
theorem Xu {a b c : Int} {p q : List UInt8} : Ok Try.prog 57 [.agg [.int .i64 a, .int .i64 b, .int .i64 c, .str p, .str q]] (.bool (Qfu a b c)) := by
 refine Ok.ofT Yb Try.func57 Qp6 (Nat.le_of_ble_eq_true rfl) ?_
 show TW _ _ tf57.body _ _
 refine Qe fun K hK => ZV rfl rfl rfl (Qa rfl ?_)
 refine hK _ _ (Qb (kp1 rfl) ?_)
 refine Qe fun K hK => Qi rfl rfl (QC rfl rfl rfl (ZJ rfl rfl (Qa rfl ?_)))
 refine Qx (g := 6) rfl (fun h1 => ?_) (fun h1 => ?_)
 ·try rw [h1]
  try simp only [qa, qb, qc, qd, qe] at h1
  refine Qf rfl (Qi rfl rfl (Qf rfl (QC rfl rfl rfl (Qf rfl (ZJ rfl rfl (Qj rfl rfl (Qa rfl ?_)))))))
  refine Qx (g := 11) rfl (fun h2 => ?_) (fun h2 => ?_)
  ·try rw [h2]
   try simp only [qa, qb, qc, qd, qe] at h2
   refine Qf rfl (Qi rfl rfl (Qf rfl (QC rfl rfl rfl (Qf rfl (ZJ rfl rfl (Qj rfl rfl (Qa rfl ?_)))))))
   refine hK _ _ (Qb (kp1 rfl) ?_)
   refine Qt (Qn rfl ?_)
   simp_all [Qfu]
  ·try rw [h2]
   try simp only [qa, qb, qc, qd, qe] at h2
   refine Qm rfl (Qm rfl (Qm rfl (Qj rfl rfl (Qa rfl ?_))))
   refine hK _ _ (Qb (kp1 rfl) ?_)
   refine Qt (Qn rfl ?_)
   simp_all [Qfu]
 ·try rw [h1]
  try simp only [qa, qb, qc, qd, qe] at h1
  refine Qm rfl (Qm rfl (Qm rfl (Qj rfl rfl (Qa rfl (Qm rfl (Qm rfl (Qm rfl (Qj rfl rfl (Qa rfl ?_)))))))))
  refine hK _ _ (Qb (kp1 rfl) ?_)
  refine Qt (Qn rfl ?_)
  simp_all [Qfu]
end Go.Proofs
namespace Go.Proofs
open Go Go.Abs M3 M25
set_option linter.unusedVariables false
set_option linter.unusedSimpArgs false
theorem Qb2 {a b c : Int} {p q : List UInt8} (hp : p.length <= 1000000) (hq : q.length <= 1000000) {part : Int} : Ok Try.prog 69 [.agg [.int .i64 a, .int .i64 b, .int .i64 c, .str p, .str q], .int .i64 part] (dOV (XC a b c p q part)) := by
 refine Ok.ofT Yb Try.func69 Qqi (Nat.le_of_ble_eq_true rfl) ?_
 show TW _ _ tf69.body _ _
 refine Qe fun K hK => ZV rfl rfl rfl (ZE rfl (Qa rfl ?_))
 refine hK _ _ (Qb (kp3 rfl rfl rfl) ?_)
 refine QH ?_ -- 0
 refine Qe fun K hK => QF (cs := [_, _, _, _, _]) rfl rfl rfl rfl (QA (Zl (by omega) (by omega)) rfl rfl (.inr rfl) (Yo rfl (Qa rfl ?_)))
 refine Qx (g := 10) rfl (fun h1 => ?_) (fun h1 => ?_)
 ·try rw [h1]
  try simp only [qa, qb, qc, qd, qe] at h1
  refine Qm rfl (Qm rfl (Qj rfl rfl (Qa rfl (Qm rfl (Qm rfl (Qj rfl rfl ?_))))))
  refine hK _ _ (Qb (kp4 rfl rfl rfl rfl) ?_)
  refine Zz rfl (Qe fun K hK => QP rfl rfl (QS rfl rfl rfl rfl rfl rfl rfl rfl (Qa rfl ?_)))
  refine hK _ _ (Qb (kp2 rfl rfl) ?_)
  refine Qt (Qk (Post.eq (Y8 (ds := [.int .i64 _, .int .i64 _, .int .i64 _, .str _, .str _]) (d' := .bool _) (cs := [_, _, _, _, _]) rfl rfl rfl rfl rfl ⟨rfl, rfl⟩) ?_))
  first | (simp [XC, dOV, h1]; done) | (simp_all [XC, dOV]; done)
 ·try rw [h1]
  try simp only [qa, qb, qc, qd, qe] at h1
  refine Qf rfl (Qa rfl (Qf rfl (Y4 rfl rfl (Qj rfl rfl (Qa rfl ?_)))))
  refine Qx (g := 14) rfl (fun h2 => ?_) (fun h2 => ?_)
  ·try rw [h2]
   try simp only [qa, qb, qc, qd, qe] at h2
   refine Qm rfl (Qm rfl (Qj rfl rfl ?_))
   refine hK _ _ (Qb (kp4 rfl rfl rfl rfl) ?_)
   refine Zz rfl (Qe fun K hK => QP rfl rfl (QS rfl rfl rfl rfl rfl rfl rfl rfl (Qa rfl ?_)))
   refine hK _ _ (Qb (kp2 rfl rfl) ?_)
   refine Qt (Qk (Post.eq (Y8 (ds := [.int .i64 _, .int .i64 _, .int .i64 _, .str _, .str _]) (d' := .bool _) (cs := [_, _, _, _, _]) rfl rfl rfl rfl rfl ⟨rfl, rfl⟩) ?_))
   first | (simp [XC, dOV, h1, h2]; done) | (simp_all [XC, dOV]; done)
  ·try rw [h2]
   try simp only [qa, qb, qc, qd, qe] at h2
   refine Qf rfl (Qa rfl (Qf rfl (Qfa rfl rfl (Qj rfl rfl ?_))))
   refine hK _ _ (Qb (kp4 rfl rfl rfl rfl) ?_)
   refine QB rfl (fun h3 => ?_) (fun h3 => ?_)
   ·try rw [h3]
    try simp only [qa, qb, qc, qd, qe] at h3
    refine Qe fun K hK => QP rfl rfl (QS rfl rfl rfl rfl rfl rfl rfl rfl (Qa rfl ?_))
    refine hK _ _ (Qb (kp2 rfl rfl) ?_)
    refine Qt (Qk (Post.eq (Y8 (ds := [.int .i64 _, .int .i64 _, .int .i64 _, .str _, .str _]) (d' := .bool _) (cs := [_, _, _, _, _]) rfl rfl rfl rfl rfl ⟨rfl, rfl⟩) ?_))
    first | (simp [XC, dOV, h1, h2, h3]; done) | (simp_all [XC, dOV]; done)
   ·try rw [h3]
    try simp only [qa, qb, qc, qd, qe] at h3
    refine Qz (Qd (kp3 rfl rfl rfl) (Qe fun K hK => ZE rfl ?_))
    refine hK _ _ (Qb (kp4 rfl rfl rfl rfl) ?_)
    refine QH ?_ -- 1
    refine Qe fun K hK => Qa rfl ?_
    refine hK _ _ (Qb (kp4 rfl rfl rfl rfl) ?_)
    refine QK (Qe fun K hK => ZJ rfl rfl (Qa rfl ?_))
    refine hK _ _ (Qb (kp5 rfl rfl rfl rfl rfl) ?_)
    refine QB rfl (fun h4 => ?_) (fun h4 => ?_)
    ·try rw [h4]
     try simp only [qa, qb, qc, qd, qe] at h4
     refine Q8 fun K hK => Qi rfl rfl (QC rfl rfl rfl (Q9 rfl rfl (Qp (by have := Qbz (by simpa using h1); omega) (by have := Qbz (by simpa using h1); omega)) (QP rfl rfl (QS rfl rfl rfl rfl rfl rfl rfl rfl (hK _ ?_)))))
     refine Ql (Qd (kp2 rfl rfl) ?_)
     refine QH ?_ -- 2
     refine Qe fun K hK => QF (cs := [_, _, _, _, _]) rfl rfl rfl rfl (QA (Zl (by simp) (by simp)) rfl rfl (.inr rfl) (Yo rfl ?_))
     refine hK _ _ (Qb (kp3 rfl rfl rfl) ?_)
     refine QB rfl (fun h5 => ?_) (fun h5 => ?_)
     ·try rw [h5]
      try simp only [qa, qb, qc, qd, qe] at h5
      refine Qe fun K hK => QP rfl rfl (QS rfl rfl rfl rfl rfl rfl rfl rfl (Qa rfl ?_))
      refine hK _ _ (Qb (kp2 rfl rfl) ?_)
      refine Qt (Qk (Post.eq (Y8 (ds := [.int .i64 _, .int .i64 _, .int .i64 _, .str _, .str _]) (d' := .bool _) (cs := [_, _, _, _, _]) rfl rfl rfl rfl rfl ⟨rfl, rfl⟩) ?_))
      first | (simp [XC, dOV, h1, h2, h3, h4, h5]; done) | (simp_all [XC, dOV]; done)
     ·try rw [h5]
      try simp only [qa, qb, qc, qd, qe] at h5
      refine Qz (Qd (kp2 rfl rfl) (Qe fun K hK => QF (cs := [_, _, _, _, _]) rfl rfl rfl rfl (QS rfl rfl rfl rfl rfl rfl rfl rfl (Qa rfl ?_))))
      refine hK _ _ (Qb (kp2 rfl rfl) ?_)
      refine Qt (Post.eq (Y8 (ds := [.int .i64 _, .int .i64 _, .int .i64 _, .str _, .str _]) (d' := .bool _) (cs := [_, _, _, _, _]) rfl rfl rfl rfl rfl ⟨rfl, rfl⟩) ?_)
      first | (simp [XC, dOV, h1, h2, h3, h4, h5]; done) | (simp_all [XC, dOV]; done)
    ·try rw [h4]
     try simp only [qa, qb, qc, qd, qe] at h4
     refine Qe fun K hK => ZJ rfl rfl (Qa rfl ?_)
     refine hK _ _ (Qb (kp4 rfl rfl rfl rfl) ?_)
     refine QB rfl (fun h6 => ?_) (fun h6 => ?_)
     ·try rw [h6]
      try simp only [qa, qb, qc, qd, qe] at h6
      refine Q8 fun K hK => Qi rfl rfl (QC rfl rfl rfl (Qi rfl rfl (QC rfl rfl rfl (Q9 rfl rfl (Qp (by have := Qbz (by simpa using h1); omega) (by have := Qbz (by simpa using h1); omega)) (QP rfl rfl (QS rfl rfl rfl rfl rfl rfl rfl rfl (hK _ ?_)))))))
      refine Ql (Qd (kp2 rfl rfl) ?_)
      refine QH ?_ -- 2
      refine Qe fun K hK => QF (cs := [_, _, _, _, _]) rfl rfl rfl rfl (QA (Zl (by simp) (by simp)) rfl rfl (.inr rfl) (Yo rfl ?_))
      refine hK _ _ (Qb (kp3 rfl rfl rfl) ?_)
      refine QB rfl (fun h7 => ?_) (fun h7 => ?_)
      ·try rw [h7]
       try simp only [qa, qb, qc, qd, qe] at h7
       refine Qe fun K hK => QP rfl rfl (QS rfl rfl rfl rfl rfl rfl rfl rfl (Qa rfl ?_))
       refine hK _ _ (Qb (kp2 rfl rfl) ?_)
       refine Qt (Qk (Post.eq (Y8 (ds := [.int .i64 _, .int .i64 _, .int .i64 _, .str _, .str _]) (d' := .bool _) (cs := [_, _, _, _, _]) rfl rfl rfl rfl rfl ⟨rfl, rfl⟩) ?_))
       first | (simp [XC, dOV, h1, h2, h3, h4, h6, h7]; done) | (simp_all [XC, dOV]; done)
      ·try rw [h7]
       try simp only [qa, qb, qc, qd, qe] at h7
       refine Qz (Qd (kp2 rfl rfl) (Qe fun K hK => QF (cs := [_, _, _, _, _]) rfl rfl rfl rfl (QS rfl rfl rfl rfl rfl rfl rfl rfl (Qa rfl ?_))))
       refine hK _ _ (Qb (kp2 rfl rfl) ?_)
       refine Qt (Post.eq (Y8 (ds := [.int .i64 _, .int .i64 _, .int .i64 _, .str _, .str _]) (d' := .bool _) (cs := [_, _, _, _, _]) rfl rfl rfl rfl rfl ⟨rfl, rfl⟩) ?_)
       first | (simp [XC, dOV, h1, h2, h3, h4, h6, h7]; done) | (simp_all [XC, dOV]; done)
     ·try rw [h6]
      try simp only [qa, qb, qc, qd, qe] at h6
      refine Q8 fun K hK => Qi rfl rfl (QC rfl rfl rfl (Qi rfl rfl (QC rfl rfl rfl (Qi rfl rfl (QC rfl rfl rfl (Q9 rfl rfl (Qp (by have := Qbz (by simpa using h1); omega) (by have := Qbz (by simpa using h1); omega)) (QP rfl rfl (QS rfl rfl rfl rfl rfl rfl rfl rfl (hK _ ?_)))))))))
      refine Ql (Qd (kp2 rfl rfl) ?_)
      refine QH ?_ -- 2
      refine Qe fun K hK => QF (cs := [_, _, _, _, _]) rfl rfl rfl rfl (QA (Zl (by simp) (by simp)) rfl rfl (.inr rfl) (Yo rfl ?_))
      refine hK _ _ (Qb (kp3 rfl rfl rfl) ?_)
      refine QB rfl (fun h8 => ?_) (fun h8 => ?_)
      ·try rw [h8]
       try simp only [qa, qb, qc, qd, qe] at h8
       refine Qe fun K hK => QP rfl rfl (QS rfl rfl rfl rfl rfl rfl rfl rfl (Qa rfl ?_))
       refine hK _ _ (Qb (kp2 rfl rfl) ?_)
       refine Qt (Qk (Post.eq (Y8 (ds := [.int .i64 _, .int .i64 _, .int .i64 _, .str _, .str _]) (d' := .bool _) (cs := [_, _, _, _, _]) rfl rfl rfl rfl rfl ⟨rfl, rfl⟩) ?_))
       first | (simp [XC, dOV, h1, h2, h3, h4, h6, h8]; done) | (simp_all [XC, dOV]; done)
      ·try rw [h8]
       try simp only [qa, qb, qc, qd, qe] at h8
       refine Qz (Qd (kp2 rfl rfl) (Qe fun K hK => QF (cs := [_, _, _, _, _]) rfl rfl rfl rfl (QS rfl rfl rfl rfl rfl rfl rfl rfl (Qa rfl ?_))))
       refine hK _ _ (Qb (kp2 rfl rfl) ?_)
       refine Qt (Post.eq (Y8 (ds := [.int .i64 _, .int .i64 _, .int .i64 _, .str _, .str _]) (d' := .bool _) (cs := [_, _, _, _, _]) rfl rfl rfl rfl rfl ⟨rfl, rfl⟩) ?_)
       first | (simp [XC, dOV, h1, h2, h3, h4, h6, h8]; done) | (simp_all [XC, dOV]; done)
theorem Qb3 {a b c : Int} {p q : List UInt8} (hp : p.length <= 1000000) (hq : q.length <= 1000000) : Ok Try.prog 59 [.agg [.int .i64 a, .int .i64 b, .int .i64 c, .str p, .str q]] (dOV (Qhm a b c p q)) := by
 refine Ok.ofT Yb Try.func59 Qp8 (Nat.le_of_ble_eq_true rfl) ?_
 show TW _ _ tf59.body _ _
 refine Qe fun K hK => ZV rfl rfl rfl (ZE rfl (Qa rfl ?_))
 refine hK _ _ (Qb (kp2 rfl rfl) ?_)
 refine QH ?_ -- 0
 refine Qe fun K hK => QF (cs := [_, _, _, _, _]) rfl rfl rfl rfl (QA (Zl (by omega) (by omega)) rfl rfl (.inr rfl) (Yo rfl ?_))
 refine hK _ _ (Qb (kp3 rfl rfl rfl) ?_)
 refine QB rfl (fun h1 => ?_) (fun h1 => ?_)
 ·try rw [h1]
  try simp only [qa, qb, qc, qd, qe] at h1
  refine Qe fun K hK => QP rfl rfl (QS rfl rfl rfl rfl rfl rfl rfl rfl (Qa rfl ?_))
  refine hK _ _ (Qb (kp2 rfl rfl) ?_)
  refine Qt (Qk (Post.eq (Y8 (ds := [.int .i64 _, .int .i64 _, .int .i64 _, .str _, .str _]) (d' := .bool _) (cs := [_, _, _, _, _]) rfl rfl rfl rfl rfl ⟨rfl, rfl⟩) ?_))
  simp [Qhm, dOV, h1]
 ·try rw [h1]
  try simp only [qa, qb, qc, qd, qe] at h1
  refine Qz (Qd (kp2 rfl rfl) ?_)
  refine QH ?_ -- 1
  refine Qe fun K hK => Qi rfl rfl (QC rfl rfl rfl (Qlo rfl rfl ?_))
  refine hK _ _ (Qb (kp3 rfl rfl rfl) ?_)
  refine QB rfl (fun h2 => ?_) (fun h2 => ?_)
  ·try rw [h2]
   try simp only [qa, qb, qc, qd, qe] at h2
   refine Qe fun K hK => Qi rfl rfl (QC rfl rfl rfl (Qi rfl rfl (QC rfl rfl rfl (Qi rfl rfl (QC rfl rfl rfl (QP rfl rfl (QS rfl rfl rfl rfl rfl rfl rfl rfl (Qa rfl ?_))))))))
   refine hK _ _ (Qb (kp2 rfl rfl) ?_)
   refine Qt (Qk (Post.eq (Y8 (ds := [.int .i64 _, .int .i64 _, .int .i64 _, .str _, .str _]) (d' := .bool _) (cs := [_, _, _, _, _]) rfl rfl rfl rfl rfl ⟨rfl, rfl⟩) ?_))
   simp [Qhm, dOV, h1, h2]
  ·try rw [h2]
   try simp only [qa, qb, qc, qd, qe] at h2
   refine Qz (Qd (kp2 rfl rfl) ?_)
   refine QH ?_ -- 2
   refine Qe fun K hK => Qa rfl ?_
   refine hK _ _ (Qb (kp3 rfl rfl rfl) ?_)
   refine QK ?_
   refine Z6 (ι := Nat) (fun m => ⟨[(1, .ref 1 0 0), (2, .ref 2 0 0), (4, .int .i64 ((m : Int) - 1))], [(1, ⟨[[.int .i64 a, .int .i64 b, .int .i64 c, .str p, .str q]], 5, 60, true⟩), (2, ⟨[[.int .i64 0, .int .i64 0, .int .i64 0, .str [], .str []]], 5, 60, true⟩)]⟩) (fun m => m <= 3 /\ Xa a b c p q 3 = Xa a b c p q m) (fun m => m) 3 ?_ ?_ ?_
   ·exact ZC (l := [1, 2, 4]) (lH := [1, 2]) (kp3 rfl rfl rfl) (Qq rfl (Qq rfl Qy)) rfl rfl rfl
   ·exact ⟨by omega, rfl⟩
   intro m hI
   obtain ⟨hI1, hI2⟩ := hI
   try dsimp only
   refine QH ?_ -- 3
   refine Qe fun K hK => Qa rfl (QhZ rfl rfl ?_)
   refine hK _ _ (Qb (kp4 rfl rfl rfl rfl) ?_)
   refine QB rfl (fun h3 => ?_) (fun h3 => ?_)
   ·try rw [h3]
    try simp only [qa, qb, qc, qd, qe] at h3
    rcases Nat.eq_zero_or_pos m with hm | hm <;> first | omega | skip
    refine Qz (Qd (kp3 rfl rfl rfl) ?_)
    refine QH ?_ -- 4
    refine QK (Qe fun K hK => QF (cs := [_, _, _, _, _]) rfl rfl rfl rfl (Qa rfl (QA (Qb2 (by omega) (by omega)) rfl rfl (.inl rfl) (Qa rfl (ZQ rfl rfl (ZQ rfl rfl (ZE rfl (QS rfl rfl rfl rfl rfl rfl rfl rfl (Qa rfl ?_)))))))))
    refine hK _ _ (Qb (kp5 rfl rfl rfl rfl rfl) ?_)
    refine Qe fun K hK => Qa rfl ?_
    refine hK _ _ (Qb (kp5 rfl rfl rfl rfl rfl) ?_)
    refine QB rfl (fun h4 => ?_) (fun h4 => ?_)
    ·try rw [h4]
     try simp only [qa, qb, qc, qd, qe] at h4
     refine Qe fun K hK => QF (cs := [_, _, _, _, _]) rfl rfl rfl rfl (QS rfl rfl rfl rfl rfl rfl rfl rfl (Qa rfl ?_))
     refine hK _ _ (Qb (kp2 rfl rfl) ?_)
     refine Qt (Qu (Qk (Zn (Qu (Qk (Post.eq (Y8 (ds := [.int .i64 _, .int .i64 _, .int .i64 _, .str _, .str _]) (d' := .bool _) (cs := [_, _, _, _, _]) rfl rfl rfl rfl rfl ⟨rfl, rfl⟩) ?_))))))
     subst h2
     simp [Qhm, dOV, h1, hI2, QgR hm h4, h4]
    ·try rw [h4]
     try simp only [qa, qb, qc, qd, qe] at h4
     refine Qz (Ql (Qd (kp3 rfl rfl rfl) (Q8 fun K hK => Qa rfl (Xz rfl rfl (by first | exact Qp (by omega) (by omega) | rfl) (Qa rfl (hK _ ?_))))))
     refine Qo (m - 1) ?_ ?_ ?_
     ·refine ZC (l := [1, 2, 4]) (lH := [1, 2]) (kp3 rfl rfl rfl) (Qq rfl (Qq rfl Qy)) ?_ rfl rfl; simp only [List.cons.injEq, Prod.mk.injEq, D.int.injEq, and_true, true_and]; omega
     ·exact ⟨by omega, by rw [hI2]; exact Qh4 hm h4⟩
     ·show m - 1 < m; omega
   ·try rw [h3]
    try simp only [qa, qb, qc, qd, qe] at h3
    rcases Nat.eq_zero_or_pos m with hm | hm <;> first | omega | skip
    refine Z0 (Za (QI (QQ (Qd (kp1 rfl) (Qe fun K hK => QP rfl rfl (QS rfl rfl rfl rfl rfl rfl rfl rfl (Qa rfl ?_)))))))
    refine hK _ _ (Qb (kp2 rfl rfl) ?_)
    refine Qt (Post.eq (Y8 (ds := [.int .i64 _, .int .i64 _, .int .i64 _, .str _, .str _]) (d' := .bool _) (cs := [_, _, _, _, _]) rfl rfl rfl rfl rfl ⟨rfl, rfl⟩) ?_)
    subst h2
    subst hm
    have hb : Xa a b c [] q 3 = none := hI2
    simp [Qhm, dOV, h1, hb]
end Go.Proofs
namespace Go.Proofs
open Go Go.Abs M3 M25
set_option linter.unusedVariables false
set_option linter.unusedSimpArgs false
theorem Xv {e a b c : Int} {p q : List UInt8} {f : Bool} : Ok Try.prog 76 [.agg [.int .i64 e, .int .i64 a, .int .i64 b, .int .i64 c, .str p, .str q, .bool f]] (.bool (Qfw e a b c p q f)) := by
 refine Ok.ofT Yb Try.func76 Qqp (Nat.le_of_ble_eq_true rfl) ?_
 show TW _ _ tf76.body _ _
 refine Qe fun K hK => ZV rfl rfl rfl (Qa rfl ?_)
 refine hK _ _ (Qb (kp1 rfl) ?_)
 refine Qe fun K hK => Qi rfl rfl (QC rfl rfl rfl (Qay rfl rfl (Qa rfl ?_)))
 refine Qx (g := 6) rfl (fun h1 => ?_) (fun h1 => ?_)
 ·try rw [h1]
  try simp only [qa, qb, qc, qd, qe] at h1
  refine Qm rfl (Qm rfl (Qm rfl (Qm rfl (Zy rfl (Zy rfl (Zy rfl (Zy rfl (Qm rfl (Qm rfl (Zy rfl (Zy rfl ?_)))))))))))
  refine Zy rfl (Zy rfl (Qm rfl (Qj rfl rfl (Qa rfl ?_))))
  refine hK _ _ (Qb (kp1 rfl) ?_)
  refine Qt (Qn rfl ?_)
  simp_all [Qfw]
 ·try rw [h1]
  try simp only [qa, qb, qc, qd, qe] at h1
  refine Qf rfl (Qi rfl rfl (Qf rfl (QC rfl rfl rfl (Qf rfl (Yo rfl (Qf rfl (Qa rfl ?_)))))))
  refine Qx (g := 10) rfl (fun h2 => ?_) (fun h2 => ?_)
  ·try rw [h2]
   try simp only [qa, qb, qc, qd, qe] at h2
   refine Qf rfl (Qi rfl rfl (Qf rfl (Qi rfl rfl (Qf rfl (QC rfl rfl rfl (Qf rfl (QgK rfl rfl (Qf rfl (Qj rfl rfl (Qf rfl (Qa rfl ?_)))))))))))
   refine Qx (g := 16) rfl (fun h3 => ?_) (fun h3 => ?_)
   ·try rw [h3]
    try simp only [qa, qb, qc, qd, qe] at h3
    refine Qf rfl (Qi rfl rfl (Qf rfl (QF (cs := [_, _, _, _, _]) rfl rfl rfl rfl (Qf rfl (QA (Xu) rfl rfl (.inr rfl) (Qf rfl (Yo rfl (Qf rfl (Qj rfl rfl (Qj rfl rfl (Qa rfl ?_)))))))))))
    refine hK _ _ (Qb (kp1 rfl) ?_)
    refine Qt (Qn rfl ?_)
    simp_all [Qfw]
   ·try rw [h3]
    try simp only [qa, qb, qc, qd, qe] at h3
    refine Qm rfl (Qm rfl (Qm rfl (Qm rfl (Qf rfl (Qj rfl rfl (Qj rfl rfl (Qa rfl ?_)))))))
    refine hK _ _ (Qb (kp1 rfl) ?_)
    refine Qt (Qn rfl ?_)
    simp_all [Qfw]
  ·try rw [h2]
   try simp only [qa, qb, qc, qd, qe] at h2
   refine Qm rfl (Qm rfl (Qm rfl (Qm rfl (Qf rfl (Qj rfl rfl (Qf rfl (Qa rfl (Qm rfl (Qm rfl (Qm rfl (Qm rfl ?_)))))))))))
   refine Qf rfl (Qj rfl rfl (Qj rfl rfl (Qa rfl ?_)))
   refine hK _ _ (Qb (kp1 rfl) ?_)
   refine Qt (Qn rfl ?_)
   simp_all [Qfw]
theorem QbO {a b c : Int} {p q : List UInt8} : Ok Try.prog 43 [.agg [.int .i64 a, .int .i64 b, .int .i64 c, .str p, .str q]] (.agg (dCu (Qey a b c))) := by
 refine Ok.ofT Yb Try.func43 QpT (Nat.le_of_ble_eq_true rfl) ?_
 show TW _ _ tf43.body _ _
 refine Qe fun K hK => ZV rfl rfl rfl (ZE rfl ?_)
 refine hK _ _ (Qb (kp2 rfl rfl) ?_)
 refine QH ?_ -- 0
 refine Qe fun K hK => QF (cs := [_, _, _, _, _]) rfl rfl rfl rfl (QA (Xu) rfl rfl (.inr rfl) ?_)
 refine hK _ _ (Qb (kp3 rfl rfl rfl) ?_)
 refine QB rfl (fun h1 => ?_) (fun h1 => ?_)
 ·try rw [h1]
  try simp only [qa, qb, qc, qd, qe] at h1
  refine Qe fun K hK => QA (YA) rfl rfl (.inl rfl) (QS rfl rfl rfl rfl rfl rfl rfl rfl ?_)
  refine hK _ _ (Qb (kp1 rfl) ?_)
  refine Qt (Qk (Post.eq (Zu (ds := [.int .i64 _, .int .i64 _, .int .i64 _, .int .i64 _, .str _, .str _, .bool _]) (cs := [_, _, _, _, _, _, _]) rfl rfl rfl rfl rfl) ?_))
  simp [Qey, dCu, QbV, h1]
 ·try rw [h1]
  try simp only [qa, qb, qc, qd, qe] at h1
  refine Qz (Qd (kp2 rfl rfl) (Qe fun K hK => Qi rfl rfl (QC rfl rfl rfl (Qi rfl rfl (QC rfl rfl rfl (Qi rfl rfl (QC rfl rfl rfl (QP rfl rfl (QA (Yt) rfl rfl (.inl rfl) (QS rfl rfl rfl rfl rfl rfl rfl rfl ?_))))))))))
  refine hK _ _ (Qb (kp1 rfl) ?_)
  refine Qt (Post.eq (Zu (ds := [.int .i64 _, .int .i64 _, .int .i64 _, .int .i64 _, .str _, .str _, .bool _]) (cs := [_, _, _, _, _, _, _]) rfl rfl rfl rfl rfl) ?_)
  simp [Qey, dCu, QbV, h1]
theorem Qa6 {a b c : Int} {p q : List UInt8} : Ok Try.prog 44 [.agg [.int .i64 a, .int .i64 b, .int .i64 c, .str p, .str q]] (.agg (dCu (QcB a b c))) := by
 refine Ok.ofT Yb Try.func44 QpU (Nat.le_of_ble_eq_true rfl) ?_
 show TW _ _ tf44.body _ _
 refine Qe fun K hK => ZV rfl rfl rfl (ZE rfl ?_)
 refine hK _ _ (Qb (kp2 rfl rfl) ?_)
 refine Qe fun K hK => Qi rfl rfl (QC rfl rfl rfl (Qi rfl rfl (QC rfl rfl rfl (Qi rfl rfl (QC rfl rfl rfl (QP rfl rfl (QA (Qb3 (by simp) (by simp)) rfl rfl (.inl rfl) (Qa rfl (ZQ rfl rfl (ZQ rfl rfl ?_))))))))))
 refine ZE rfl (QS rfl rfl rfl rfl rfl rfl rfl rfl (Qa rfl ?_))
 refine hK _ _ (Qb (kp3 rfl rfl rfl) ?_)
 refine QH ?_ -- 0
 refine Qe fun K hK => Qa rfl (Yo rfl ?_)
 refine hK _ _ (Qb (kp3 rfl rfl rfl) ?_)
 refine QB rfl (fun h1 => ?_) (fun h1 => ?_)
 ·try rw [h1]
  try simp only [qa, qb, qc, qd, qe] at h1
  refine Qe fun K hK => QA (YL) rfl rfl (.inl rfl) (QS rfl rfl rfl rfl rfl rfl rfl rfl ?_)
  refine hK _ _ (Qb (kp1 rfl) ?_)
  refine Qt (Qk (Post.eq (Zu (ds := [.int .i64 _, .int .i64 _, .int .i64 _, .int .i64 _, .str _, .str _, .bool _]) (cs := [_, _, _, _, _, _, _]) rfl rfl rfl rfl rfl) ?_))
  cases hn : Qhm a b c [] [] <;> simp [QcB, dCu, Qe4, hn] at *
 ·try rw [h1]
  try simp only [qa, qb, qc, qd, qe] at h1
  refine Qz (Qd (kp2 rfl rfl) (Qe fun K hK => QF (cs := [_, _, _, _, _]) rfl rfl rfl rfl (QA (Yt) rfl rfl (.inl rfl) (QS rfl rfl rfl rfl rfl rfl rfl rfl ?_))))
  refine hK _ _ (Qb (kp1 rfl) ?_)
  refine Qt (Post.eq (Zu (ds := [.int .i64 _, .int .i64 _, .int .i64 _, .int .i64 _, .str _, .str _, .bool _]) (cs := [_, _, _, _, _, _, _]) rfl rfl rfl rfl rfl) ?_)
  cases hn : Qhm a b c [] [] <;> simp [QcB, dCu, Qe4, hn] at *
theorem Xw  : Ok Try.prog 72 [] (ZD [(QbV, Qe4)]) := by
 refine Ok.ofT Yb Try.func72 Qql (Nat.le_of_ble_eq_true rfl) ?_
 show TW _ _ tf72.body _ _
 refine Qe fun K hK => Qa rfl ?_
 refine hK _ _ (Qb (QX) ?_)
 refine Qe fun K hK => QA (YA) rfl rfl (.inl rfl) (QA (YL) rfl rfl (.inl rfl) (QP rfl rfl (QD rfl rfl (Qa rfl ?_))))
 refine hK _ _ (Qb (kp1 rfl) ?_)
 refine Qt (Ya rfl ?_)
 rfl
theorem ZW  : Ok Try.prog 40 [] (QgE ([], [])) := by
 refine Ok.ofT Yb Try.func40 QpQ (Nat.le_of_ble_eq_true rfl) ?_
 show TW _ _ tf40.body _ _
 refine Qe fun K hK => ZE rfl ?_
 refine hK _ _ (Qb (kp1 rfl) ?_)
 refine Qe fun K hK => QP rfl rfl (QS rfl rfl rfl rfl rfl rfl rfl rfl ?_)
 refine hK _ _ (Qb (kp1 rfl) ?_)
 refine Qt (Post.eq (Zu (ds := [.sl _, .sl _]) (cs := [_, _]) rfl rfl rfl rfl rfl) ?_)
 rfl
theorem Qcl  : Ok Try.prog 62 [] (QgE ([(QbV, Qe4)], [(QbV, Qe4)])) := by
 refine Ok.ofT Yb Try.func62 Qqb (Nat.le_of_ble_eq_true rfl) ?_
 show TW _ _ tf62.body _ _
 refine Qe fun K hK => ZE rfl ?_
 refine hK _ _ (Qb (kp1 rfl) ?_)
 refine Qe fun K hK => QA (Xw) rfl rfl (.inl rfl) (QA (Xw) rfl rfl (.inl rfl) (QP rfl rfl (QS rfl rfl rfl rfl rfl rfl rfl rfl ?_)))
 refine hK _ _ (Qb (kp1 rfl) ?_)
 refine Qt (Post.eq (Zu (ds := [.sl _, .sl _]) (cs := [_, _]) rfl rfl rfl rfl rfl) ?_)
 rfl
theorem Xt {a b c : Int} {p q : List UInt8} (hp : p.length <= 1000000) (hq : q.length <= 1000000) : Ok Try.prog 24 [.agg [.int .i64 a, .int .i64 b, .int .i64 c, .str p, .str q]] (QgE (YP a b c p q)) := by
 refine Ok.ofT Yb Try.func24 QpB (Nat.le_of_ble_eq_true rfl) ?_
 show TW _ _ tf24.body _ _
 refine Qe fun K hK => ZV rfl rfl rfl (ZE rfl ?_)
 refine hK _ _ (Qb (kp2 rfl rfl) ?_)
 refine QH ?_ -- 0
 refine Qe fun K hK => QF (cs := [_, _, _, _, _]) rfl rfl rfl rfl (QA (Zl (by omega) (by omega)) rfl rfl (.inr rfl) (Yo rfl ?_))
 refine hK _ _ (Qb (kp3 rfl rfl rfl) ?_)
 refine QB rfl (fun h1 => ?_) (fun h1 => ?_)
 ·try rw [h1]
  try simp only [qa, qb, qc, qd, qe] at h1
  refine Qe fun K hK => QA (ZW) rfl rfl (.inl rfl) (QS rfl rfl rfl rfl rfl rfl rfl rfl ?_)
  refine hK _ _ (Qb (kp1 rfl) ?_)
  refine Qt (Qk (Post.eq (Zu (ds := [.sl _, .sl _]) (cs := [_, _]) rfl rfl rfl rfl rfl) ?_))
  simp [YP, QgE, ZD, Qdy, dCu, h1]
 ·try rw [h1]
  try simp only [qa, qb, qc, qd, qe] at h1
  refine Qz (Qd (kp2 rfl rfl) ?_)
  refine QH ?_ -- 1
  refine Qe fun K hK => Qi rfl rfl (QC rfl rfl rfl (Qlo rfl rfl ?_))
  refine hK _ _ (Qb (kp3 rfl rfl rfl) ?_)
  refine QB rfl (fun h2 => ?_) (fun h2 => ?_)
  ·try rw [h2]
   try simp only [qa, qb, qc, qd, qe] at h2
   refine Qe fun K hK => QU (ds0 := [6, 3, 2, 1, 0]) (cs := [_, _, _, _, _]) rfl rfl rfl rfl rfl rfl (Q1 (ds0 := [3, 2, 1, 0]) (Yt) rfl rfl (.inl rfl) rfl rfl (QU (ds0 := [4, 3, 2, 1, 0]) (cs := [_, _, _, _, _]) rfl rfl rfl rfl rfl rfl (Q1 (ds0 := [3, 2, 1, 0]) (Qa5) rfl rfl (.inl rfl) rfl rfl (QP rfl rfl (QD rfl rfl (QP rfl rfl (YR (ds0 := []) rfl rfl rfl rfl rfl rfl rfl rfl rfl rfl ?_)))))))
   refine hK _ _ (Qb (kp1 rfl) ?_)
   refine Qt (Qk (Post.eq (Zu (ds := [.sl _, .sl _]) (cs := [_, _]) rfl rfl rfl rfl rfl) ?_))
   simp [YP, QgE, ZD, Qdy, dCu, h1, h2]
  ·try rw [h2]
   try simp only [qa, qb, qc, qd, qe] at h2
   refine Qz (Qd (kp2 rfl rfl) (Qe fun K hK => QU (ds0 := [6, 3, 2, 1, 0]) (cs := [_, _, _, _, _]) rfl rfl rfl rfl rfl rfl (Q1 (ds0 := [3, 2, 1, 0]) (QbO) rfl rfl (.inl rfl) rfl rfl (QU (ds0 := [4, 3, 2, 1, 0]) (cs := [_, _, _, _, _]) rfl rfl rfl rfl rfl rfl (Q1 (ds0 := [3, 2, 1, 0]) (Qa6) rfl rfl (.inl rfl) rfl rfl (QP rfl rfl (QD rfl rfl (QP rfl rfl (YR (ds0 := []) rfl rfl rfl rfl rfl rfl rfl rfl rfl rfl ?_)))))))))
   refine hK _ _ (Qb (kp1 rfl) ?_)
   refine Qt (Post.eq (Zu (ds := [.sl _, .sl _]) (cs := [_, _]) rfl rfl rfl rfl rfl) ?_)
   subst h2
   simp [YP, QgE, ZD, Qdy, dCu, h1]
end Go.Proofs
namespace Go.Proofs
open Go Go.Abs M3 M25
set_option linter.unusedVariables false
set_option linter.unusedSimpArgs false
theorem Z2 {l : List (Cu × Cu)} (hl : Sm l) : Ok Try.prog 75 [ZD l] (.bool (Qez l)) := by
 refine Ok.ofT Yb Try.func75 Qqo (Nat.le_of_ble_eq_true rfl) ?_
 show TW _ _ tf75.body _ _
 have hn := hl.1
 refine Qe fun K hK => Qa rfl ?_
 refine hK _ _ (Qb (kp1 rfl) ?_)
 refine QH ?_ -- 0
 refine Qe fun K hK => Qa rfl ?_
 refine hK _ _ (Qb (kp2 rfl rfl) ?_)
 refine QK ?_
 refine Z6 (ι := Nat) (fun i => ⟨[(0, ZD l), (3, .int .i64 i)], []⟩) (fun i => i <= l.length /\ (List.range i).all (QnH l) = true) (fun i => l.length - i) 0 ?_ ?_ ?_
 ·exact Q7 (kp2 rfl rfl)
 ·exact ⟨Nat.zero_le _, rfl⟩
 intro i hI
 try dsimp only
 refine QH ?_ -- 1
 refine Qe fun K hK => Qa rfl (Qa rfl (Q4 rfl rfl (Y4 rfl rfl ?_)))
 refine hK _ _ (Qb (kp3 rfl rfl rfl) ?_)
 refine QB rfl (fun h1 => ?_) (fun h1 => ?_)
 ·try rw [h1]
  try simp only [qa, qb, qc, qd, qe, List.length_map] at h1
  refine Qz (Qd (kp2 rfl rfl) ?_)
  refine QH ?_ -- 2
  refine QK (Qe fun K hK => Qa rfl (Qa rfl (QO rfl rfl rfl (by omega) (Zt (by omega)) rfl (QU (ds0 := [20, 19, 18, 17, 16, 15, 14, 13, 12, 11, 10, 9, 8, 7, 6, 5, 4, 3, 2, 1, 0]) (cs := [_, _, _, _, _, _, _, _, _, _, _, _, _, _]) rfl rfl rfl rfl rfl rfl (Q1 (ds0 := [19, 18, 17, 16, 15, 14, 13, 12, 11, 10, 9, 8, 7, 6, 5, 4, 3, 2, 1, 0]) (Y5 (hl.at (i := i) (by omega)).1.1 (hl.at (i := i) (by omega)).1.2 (hl.at (i := i) (by omega)).2.1 (hl.at (i := i) (by omega)).2.2) rfl rfl (.inr rfl) rfl rfl (Yo rfl (Qa rfl ?_)))))))
  refine Qx (g := 16) rfl (fun h2 => ?_) (fun h2 => ?_)
  ·try rw [h2]
   try simp only [qa, qb, qc, qd, qe, List.length_map] at h2
   refine Qm rfl (Qm rfl (Qm rfl (Zy rfl (Zy rfl (Zy rfl (Zy rfl (Zy rfl (Zy rfl (Zy rfl (Zy rfl (Zy rfl ?_)))))))))))
   refine Zy rfl (Zy rfl (Zy rfl (Zy rfl (Qm rfl (Qj rfl rfl ?_)))))
   refine hK _ _ (Qb (kp3 rfl rfl rfl) ?_)
   refine Zz rfl (Qe fun K hK => Qa rfl ?_)
   refine hK _ _ (Qb (kp1 rfl) ?_)
   refine Qt (Qu (Qk (Zn (Qu (Qk (Qn rfl ?_))))))
   first
    | exact (QcM hI.2 (by omega)).symm
    | exact (X7 (i := i) (by omega) (QfC (by omega) (.inl h2))).symm
    | (simp only [QcI] at *; exact (X7 (i := i) (by omega) (QfC (by omega) (.inr ⟨by omega, h4⟩))).symm)
  ·try rw [h2]
   try simp only [qa, qb, qc, qd, qe, List.length_map] at h2
   refine Qf rfl (Qa rfl (Qf rfl (Qfa rfl rfl (Qf rfl (Qa rfl ?_)))))
   refine Qx (g := 19) rfl (fun h3 => ?_) (fun h3 => ?_)
   ·try rw [h3]
    try simp only [qa, qb, qc, qd, qe, List.length_map] at h3
    refine Qf rfl (Qa rfl (Qf rfl (Qa rfl (Qf rfl (Xz rfl rfl (by first | exact Qp (by omega) (by omega) | rfl) (Qf rfl (QO rfl rfl rfl (by omega) (ZA (by omega) (by omega)) rfl (Qf rfl (ZK rfl rfl (Qf rfl (QU (ds0 := [3, 2, 1, 0]) (cs := [_, _, _, _, _, _, _]) rfl rfl rfl rfl rfl rfl ?_)))))))))))
    refine Qf rfl (Qa rfl (Qf rfl (Qa rfl (Qf rfl (QO rfl rfl rfl (by omega) (Zt (by omega)) rfl (Qf rfl (ZK rfl rfl (Qf rfl (QU (ds0 := [3, 2, 1, 0]) (cs := [_, _, _, _, _, _, _]) rfl rfl rfl rfl rfl rfl (Qf rfl (Q1 (ds0 := [2, 1, 0]) (Zk (hl.at (i := ((i : Int) - 1).toNat) (by omega)).2.1 (hl.at (i := ((i : Int) - 1).toNat) (by omega)).2.2 (hl.at (i := i) (by omega)).1.1 (hl.at (i := i) (by omega)).1.2) rfl rfl (.inr rfl) rfl rfl ?_)))))))))))
    refine Qf rfl (QhZ rfl rfl (Qf rfl (Qj rfl rfl (Qj rfl rfl ?_))))
    refine hK _ _ (Qb (kp3 rfl rfl rfl) ?_)
    refine QB rfl (fun h4 => ?_) (fun h4 => ?_)
    ·try rw [h4]
     try simp only [qa, qb, qc, qd, qe, List.length_map] at h4
     refine Qe fun K hK => Qa rfl ?_
     refine hK _ _ (Qb (kp1 rfl) ?_)
     refine Qt (Qu (Qk (Zn (Qu (Qk (Qn rfl ?_))))))
     first
      | exact (QcM hI.2 (by omega)).symm
      | exact (X7 (i := i) (by omega) (QfC (by omega) (.inl h2))).symm
      | (simp only [QcI] at *; exact (X7 (i := i) (by omega) (QfC (by omega) (.inr ⟨by omega, h4⟩))).symm)
    ·try rw [h4]
     try simp only [qa, qb, qc, qd, qe, List.length_map] at h4
     refine Qz (Ql (Qd (kp2 rfl rfl) (Q8 fun K hK => Qa rfl (Q9 rfl rfl (by first | exact Qp (by omega) (by omega) | rfl) (Qa rfl (hK _ ?_))))))
     refine Qo (i + 1) ?_ ?_ ?_
     ·exact Q7 (kp2 rfl rfl)
     ·exact ⟨by omega, QdU hI.2 (QmG (by omega) h2 (by first | exact .inl (by omega) | (simp only [QcI] at *; exact .inr (Int.not_le.1 h4))))⟩
     ·first | omega | (simp only; omega) | (dsimp only; omega)
   ·try rw [h3]
    try simp only [qa, qb, qc, qd, qe, List.length_map] at h3
    refine Qm rfl (Qm rfl (Qm rfl (Qm rfl (Qm rfl (Qm rfl (Qm rfl (Qm rfl (Qm rfl (Qm rfl (Qm rfl (Qm rfl ?_)))))))))))
    refine Qm rfl (Qf rfl (Qj rfl rfl (Qj rfl rfl ?_)))
    refine hK _ _ (Qb (kp3 rfl rfl rfl) ?_)
    refine Z5 rfl (Qz (Ql (Qd (kp2 rfl rfl) (Q8 fun K hK => Qa rfl (Q9 rfl rfl (by first | exact Qp (by omega) (by omega) | rfl) (Qa rfl (hK _ ?_)))))))
    refine Qo (i + 1) ?_ ?_ ?_
    ·exact Q7 (kp2 rfl rfl)
    ·exact ⟨by omega, QdU hI.2 (QmG (by omega) h2 (by first | exact .inl (by omega) | (simp only [QcI] at *; exact .inr (Int.not_le.1 h4))))⟩
    ·first | omega | (simp only; omega) | (dsimp only; omega)
 ·try rw [h1]
  try simp only [qa, qb, qc, qd, qe, List.length_map] at h1
  refine Z0 (Za (QI (QQ (Qd (QX) (Qe fun K hK => Qa rfl ?_)))))
  refine hK _ _ (Qb (kp1 rfl) ?_)
  refine Qt (Qn rfl ?_)
  first
   | exact (QcM hI.2 (by omega)).symm
   | exact (X7 (i := i) (by omega) (QfC (by omega) (.inl h2))).symm
   | (simp only [QcI] at *; exact (X7 (i := i) (by omega) (QfC (by omega) (.inr ⟨by omega, h4⟩))).symm)
theorem Qan {l : List (Cu × Cu)} (hl : Sm l) {x y : Cu} (hx : Cu.sm x) (hy : Cu.sm y) : Ok Try.prog 79 [ZD l, .agg (dCu x), .agg (dCu y)] (.bool (mIn l x y)) := by
 refine Ok.ofT Yb Try.func79 Qqs (Nat.le_of_ble_eq_true rfl) ?_
 show TW _ _ tf79.body _ _
 have hn := hl.1
 refine Qe fun K hK => ZV rfl rfl rfl (ZV rfl rfl rfl (Qa rfl ?_))
 refine hK _ _ (Qb (kp3 rfl rfl rfl) ?_)
 refine QH ?_ -- 0
 refine Qe fun K hK => Qa rfl ?_
 refine hK _ _ (Qb (kp4 rfl rfl rfl rfl) ?_)
 refine QK ?_
 refine Z6 (ι := Nat) (fun i => ⟨[(0, ZD l), (4, .ref 4 0 0), (5, .ref 5 0 0), (7, .int .i64 i)], [(4, ⟨[dCu x], 7, 87, true⟩), (5, ⟨[dCu y], 7, 87, true⟩)]⟩) (fun i => i <= l.length /\ (l.take i).any (inC x y) = false) (fun i => l.length - i) 0 ?_ ?_ ?_
 ·exact ZC (l := [0, 4, 5, 7]) (lH := [4, 5]) (kp4 rfl rfl rfl rfl) (Qq rfl (Qq rfl Qy)) rfl rfl rfl
 ·exact ⟨Nat.zero_le _, by simp⟩
 intro i hI
 try dsimp only
 refine QH ?_ -- 1
 refine Qe fun K hK => Qa rfl (Qa rfl (Q4 rfl rfl (Y4 rfl rfl ?_)))
 refine hK _ _ (Qb (kp5 rfl rfl rfl rfl rfl) ?_)
 refine QB rfl (fun h1 => ?_) (fun h1 => ?_)
 ·try rw [h1]
  try simp only [qa, qb, qc, qd, qe, List.length_map] at h1
  refine Qz (Qd (kp4 rfl rfl rfl rfl) ?_)
  refine QH ?_ -- 2
  refine QK (Qe fun K hK => Qa rfl (Qa rfl (QO rfl rfl rfl (by omega) (Zt (by omega)) rfl (ZK rfl rfl (QU (ds0 := [11, 10, 9, 8, 7, 6, 5, 4, 3, 2, 1, 0]) (cs := [_, _, _, _, _, _, _]) rfl rfl rfl rfl rfl rfl (QU (ds0 := [11, 10, 9, 8, 7, 6, 5, 4, 3, 2, 1, 0]) (cs := [_, _, _, _, _, _, _]) rfl rfl rfl rfl rfl rfl (Q1 (ds0 := [10, 9, 8, 7, 6, 5, 4, 3, 2, 1, 0]) (Zk (hl.at (i := i) (by omega)).1.1 (hl.at (i := i) (by omega)).1.2 hx.1 hx.2) rfl rfl (.inr rfl) rfl rfl (QnQ rfl rfl (Qa rfl ?_)))))))))
  refine Qx (g := 22) rfl (fun h2 => ?_) (fun h2 => ?_)
  ·try rw [h2]
   try simp only [qa, qb, qc, qd, qe, List.length_map] at h2
   refine Qf rfl (QU (ds0 := [2, 1, 0]) (cs := [_, _, _, _, _, _, _]) rfl rfl rfl rfl rfl rfl (Qf rfl (Qa rfl (Qf rfl (Qa rfl (Qf rfl (QO rfl rfl rfl (by omega) (Zt (by omega)) rfl (Qf rfl (ZK rfl rfl (Qf rfl (QU (ds0 := [2, 1, 0]) (cs := [_, _, _, _, _, _, _]) rfl rfl rfl rfl rfl rfl ?_)))))))))))
   refine Qf rfl (Q1 (ds0 := [1, 0]) (Zk hy.1 hy.2 (hl.at (i := i) (by omega)).2.1 (hl.at (i := i) (by omega)).2.2) rfl rfl (.inr rfl) rfl rfl (Qf rfl (QnQ rfl rfl (Qj rfl rfl ?_))))
   refine hK _ _ (Qb (kp5 rfl rfl rfl rfl rfl) ?_)
   refine QB rfl (fun h3 => ?_) (fun h3 => ?_)
   ·try rw [h3]
    try simp only [qa, qb, qc, qd, qe, List.length_map] at h3
    refine Qe fun K hK => Qa rfl ?_
    refine hK _ _ (Qb (kp1 rfl) ?_)
    refine Qt (Qu (Qk (Zn (Qu (Qk (Qn rfl ?_))))))
    first
     | exact (Qj0 (i := i) (by omega) hI.2).symm
     | exact (QfN (i := i) (by omega) (Qn9 h2 h3)).symm
   ·try rw [h3]
    try simp only [qa, qb, qc, qd, qe, List.length_map] at h3
    refine Qz (Ql (Qd (kp4 rfl rfl rfl rfl) (Q8 fun K hK => Qa rfl (Q9 rfl rfl (by first | exact Qp (by omega) (by omega) | rfl) (Qa rfl (hK _ ?_))))))
    refine Qo (i + 1) ?_ ?_ ?_
    ·exact ZC (l := [0, 4, 5, 7]) (lH := [4, 5]) (kp4 rfl rfl rfl rfl) (Qq rfl (Qq rfl Qy)) rfl rfl rfl
    ·exact ⟨by omega, QgN (by omega) hI.2 (Qn8 (by first | exact .inl h2 | exact .inr h3))⟩
    ·first | omega | (simp only; omega) | (dsimp only; omega)
  ·try rw [h2]
   try simp only [qa, qb, qc, qd, qe, List.length_map] at h2
   refine Qm rfl (Qm rfl (Qm rfl (Qm rfl (Qm rfl (Qm rfl (Qm rfl (Qm rfl (Qj rfl rfl ?_))))))))
   refine hK _ _ (Qb (kp5 rfl rfl rfl rfl rfl) ?_)
   refine Z5 rfl (Qz (Ql (Qd (kp4 rfl rfl rfl rfl) (Q8 fun K hK => Qa rfl (Q9 rfl rfl (by first | exact Qp (by omega) (by omega) | rfl) (Qa rfl (hK _ ?_)))))))
   refine Qo (i + 1) ?_ ?_ ?_
   ·exact ZC (l := [0, 4, 5, 7]) (lH := [4, 5]) (kp4 rfl rfl rfl rfl) (Qq rfl (Qq rfl Qy)) rfl rfl rfl
   ·exact ⟨by omega, QgN (by omega) hI.2 (Qn8 (by first | exact .inl h2 | exact .inr h3))⟩
   ·first | omega | (simp only; omega) | (dsimp only; omega)
 ·try rw [h1]
  try simp only [qa, qb, qc, qd, qe, List.length_map] at h1
  refine Z0 (Za (QI (QQ (Qd (QX) (Qe fun K hK => Qa rfl ?_)))))
  refine hK _ _ (Qb (kp1 rfl) ?_)
  refine Qt (Qn rfl ?_)
  first
   | exact (Qj0 (i := i) (by omega) hI.2).symm
   | exact (QfN (i := i) (by omega) (Qn9 h2 h3)).symm
end Go.Proofs
