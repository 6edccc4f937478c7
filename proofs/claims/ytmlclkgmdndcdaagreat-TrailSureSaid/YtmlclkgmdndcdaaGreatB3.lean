/- Part 3 of the means of the proof: a verified abstract evaluator, the prepared functions, and contracts of functions. It states nothing of the claim by itself. -/
import Derived.Test.YtmlclkgmdndcdaaGreatB2
import Derived.KernelRfl
import Derived.Test.YtmlclkgmdndcdaaGreatProg
set_option linter.unusedSimpArgs false
set_option linter.unusedVariables false
namespace Go.Abs
open Go
/-! ### Walks over boxes that are lent, of which little is known -/
def Big (H : List (Nat × Box)) : Prop := ∀ k b, lk H k = some b -> 1000000 <= k
def Closed (H : List (Nat × Box)) : Prop := ∀ k b, lk H k = some b -> ∀ j ∈ b.ids, (lk H j).isSome = true
theorem Big.none {H : List (Nat × Box)} (h : Big H) {k : Nat} (hk : k < 1000000) : lk H k = none := by
 cases hh : lk H k with
 | none => rfl
 | some b => have := h k b hh; omega
theorem Qp {α : Type} {H : List (Nat × α)} {k k' : Nat} {x b : α} (h : k' ≠ k) (e : lk H k = some b) : lk ((k', x) :: H) k = some b := by rw [Qo, if_neg h]; exact e
theorem Zw {α : Type} {H : List (Nat × α)} {k k' : Nat} {x : α} (h : k' ≠ k) (e : lk H k = none) : lk ((k', x) :: H) k = none := by rw [Qo, if_neg h]; exact e
theorem QA {α : Type} {k : Nat} {v : α} {l : List (Nat × α)} : lk ((k, v) :: l) k = some v := by rw [Qo, if_pos rfl]
theorem Big.cons {H : List (Nat × Box)} (h : Big H) {k : Nat} {b : Box} (hk : 1000000 <= k) : Big ((k, b) :: H) := fun j x hj => by
 rw [Qo] at hj
 split at hj
 ·rename_i e; subst e; exact hk
 ·exact h j x hj
theorem Q1 {H : List (Nat × Box)} {k j : Nat} {b : Box} (h : (lk H j).isSome = true) : (lk ((k, b) :: H) j).isSome = true := by
 rw [Qo]; split
 ·rfl
 ·exact h
theorem Q3 {k : Nat} {b : Box} {l : List (Nat × Box)} : (lk ((k, b) :: l) k).isSome = true := by rw [QA]; rfl
theorem Zu {l : List (Nat × Box)} {k : Nat} {b : Box} (h : lk l k = some b) : (lk l k).isSome = true := by rw [h]; rfl
def Plain (b : Box) : Prop := b.ids = []
theorem Qaj {b : Box} (h : b.pr = true) : b.ids = [] := by simp [Box.ids, h]
theorem Closed.cons {H : List (Nat × Box)} (h : Closed H) {k : Nat} {b : Box} (hb : ∀ j ∈ b.ids, (lk H j).isSome = true) : Closed ((k, b) :: H) := fun j x hj i hi => by
 rw [Qo] at hj
 split at hj
 ·cases hj; exact Q1 (hb i hi)
 ·exact Q1 (h j x hj i hi)
theorem Closed.pr {H : List (Nat × Box)} (h : Closed H) {k : Nat} {b : Box} (hb : b.pr = true) : Closed ((k, b) :: H) := h.cons fun j hj => by rw [Qaj hb] at hj; cases hj
theorem QpB {l : List Nat} {fr fr1 fr' : List (Nat × D)} {H H' : List (Nat × Box)} (hf : Zd l fr = fr1) (ef : fr1 = fr') (hH : ∀ k b, lk H' k = some b -> lk H k = some b) (hfr : ∀ p ∈ fr', ∀ k ∈ p.2.ids, (lk H' k).isSome = true) (hcl : Closed H') (hbig : ∀ k, 1000000 <= k -> (lk H k).isSome = true -> (lk H' k).isSome = true) : St.le ⟨fr, H⟩ ⟨fr', H'⟩ := by
 subst hf ef
 intro E g a w r
 exact ⟨g, r.less (fun t d h => YS l fr t d h) hH (fun t d h k hk => hfr (t, d) (ZX h) k hk) hcl hbig⟩
theorem QbD {fr fr' : List (Nat × D)} {H H' : List (Nat × Box)} (ef : fr = fr') (hH : ∀ k, lk H k = lk H' k) : St.le ⟨fr, H⟩ ⟨fr', H'⟩ := by
 subst ef; exact QhY ⟨fun _ => rfl, hH⟩
theorem Qf6 {A H0 : List (Nat × Box)} {k : Nat} {b : Box} (h : lk (A ++ H0) k = some b) : (k, b) ∈ A \/ (lk A k = none /\ lk H0 k = some b) := by
 rw [ZW] at h
 split at h
 ·rename_i v hv; cases h; exact .inl (ZX hv)
 ·rename_i hv; exact .inr ⟨hv, h⟩
theorem Qro {l : List Nat} {fr fr1 fr' : List (Nat × D)} {H A H0 : List (Nat × Box)} (hf : Zd l fr = fr1) (ef : fr1 = fr') (hA : ∀ p ∈ A, lk H p.1 = some p.2 /\ p.2.pr = true) (h0 : ∀ k b, lk A k = none -> lk H0 k = some b -> lk H k = some b) (hfr : ∀ p ∈ fr', ∀ k ∈ p.2.ids, (lk (A ++ H0) k).isSome = true) (hcl : Closed H0)
  (hbig : ∀ k, 1000000 <= k -> (lk H k).isSome = true -> (lk (A ++ H0) k).isSome = true) : St.le ⟨fr, H⟩ ⟨fr', A ++ H0⟩ := by
 have up : ∀ j, (lk H0 j).isSome = true -> (lk (A ++ H0) j).isSome = true := fun j hj => by
  rw [ZW]; split
  ·rfl
  ·exact hj
 refine QpB hf ef (fun k b hk => ?_) hfr (fun k b hk j hj => ?_) hbig
 ·rcases Qf6 hk with h | ⟨h1, h2⟩
  ·exact (hA _ h).1
  ·exact h0 k b h1 h2
 ·rcases Qf6 hk with h | ⟨h1, h2⟩
  ·rw [Qaj (hA _ h).2] at hj; cases hj
  ·exact up j (hcl k b h2 j hj)
theorem Qky {H : List (Nat × Box)} : Big (upH H) := fun k b hk => by
 obtain ⟨j, b0, rfl, _, _⟩ := YU hk
 unfold upN; omega
theorem QeU {H : List (Nat × Box)} (h : Closed H) : Closed (upH H) := fun k b hk j hj => by
 obtain ⟨i, b0, rfl, h1, rfl⟩ := YU hk
 rw [Box.ren_ids] at hj
 obtain ⟨j0, hj0, rfl⟩ := List.mem_map.1 hj
 rw [QaP, Option.isSome_map]
 exact h i b0 h1 j0 hj0
theorem QkL {P : Program} {f : Nat} {args : List Opd} {s : St} {ds ds' : List D} {HF : List (Nat × Box)} {k : Nat} {b b' : Box} {d : D} (ha : Zy s args = some ds) (hF : ∀ j x, lk HF j = some x -> lk s.H j = some x) (hcl : Closed HF) (hds : ∀ x ∈ ds, ∀ j ∈ x.ids, (lk HF j).isSome = true)
  (hk : (lk HF k).isSome = true) (hb : b.pr = true) (hd : d.ids = []) (hu : ds.map QrM = ds') (hr : b.ren upN = b') (hok : OkH P f ds' (upH HF) d ((upN k, b') :: upH HF)) : Qbt P f args s HF [] [(k, b)] d := by
 subst hu hr
 refine ⟨ds, ha, hF, hcl, hds, fun j x hj => ?_, (fun j x hj => by cases hj), (fun j hj => by rw [hd] at hj; cases hj), hok⟩
 rw [Qo] at hj
 split at hj
 ·rename_i e; cases hj; subst e; exact ⟨hk, fun i hi => by rw [Qaj hb] at hi; cases hi⟩
 ·cases hj
theorem XQ {H : List (Nat × Box)} {k : Nat} {b : Box} (hB : Big H) (hC : Closed H) (hk : 1000000 <= k) (hb : b.pr = true) : (∀ j, 1000000 <= j -> (lk H j).isSome = true -> (lk ((k, b) :: H) j).isSome = true) /\ (∀ j x, lk ((k, b) :: H) j = some x -> 500000 <= j /\ ∀ i ∈ x.ids, (lk ((k, b) :: H) i).isSome = true) :=
 ⟨fun _ _ h => Q1 h, fun j x hj => ⟨by have := hB.cons (b := b) hk j x hj; omega, hC.pr hb j x hj⟩⟩
theorem Qf1 {l : List Nat} {fr fr1 fr' : List (Nat × D)} {B A A' H0 : List (Nat × Box)} (hf : Zd l fr = fr1) (ef : fr1 = fr') (hA : ∀ p ∈ A, lk B p.1 = some p.2 /\ p.2.pr = true) (eA : A = A') (hBA : ∀ p ∈ B, 1000000 <= p.1 -> (lk A p.1).isSome = true) (hb : Big H0) (hcl : Closed H0) (hfr : ∀ p ∈ fr', ∀ k ∈ p.2.ids, (lk (A' ++ H0) k).isSome = true) : St.le ⟨fr, B ++ H0⟩ ⟨fr', A' ++ H0⟩ := by
 subst eA
 have noB : ∀ k b, lk H0 k = some b -> lk A k = none -> lk B k = none := fun k b h1 h2 => by
  cases h : lk B k with
  | none => rfl
  | some x =>
   have := hBA (k, x) (ZX h) (hb k b h1)
   simp only at this
   rw [h2] at this; cases this
 refine Qro hf ef (fun p hp => ?_) (fun k b h1 h2 => ?_) hfr hcl fun k hk hs => ?_
 ·obtain ⟨q1, q2⟩ := hA p hp
  exact ⟨Yy q1, q2⟩
 ·rw [YX (noB k b h2 h1)]; exact h2
 ·rw [ZW] at hs ⊢
  cases h : lk B k with
  | some x =>
   have := hBA (k, x) (ZX h) hk
   obtain ⟨y, hy⟩ := Option.isSome_iff_exists.1 this
   simp only at hy
   rw [hy]; rfl
  | none =>
   rw [h] at hs
   cases h2 : lk A k with
   | some x => rfl
   | none => exact hs
theorem QaO {B H : List (Nat × Box)} {kg : Nat} {g : Box} (hb : Big H) (h1 : lk B kg = some g) (h2 : ∀ p ∈ B, 1000000 <= p.1 -> p.1 = kg) : ∀ k b, lk ((kg, g) :: H) k = some b -> lk (B ++ H) k = some b := fun k b hk => by
 rw [Qo] at hk
 split at hk
 ·rename_i e; cases hk; subst e; exact Yy h1
 ·rename_i e
  rw [ZW]
  cases h : lk B k with
  | none => exact hk
  | some x => exact absurd (h2 (k, x) (ZX h) (hb k b hk)).symm e
def scr (k : Nat) (H : List (Nat × Box)) : List (Nat × Box) := H.map fun p => (p.1, p.2.scrub k)
theorem Qjt {k : Nat} {b : Box} (h : k ∉ b.ids) : b.scrub k = b := by
 unfold Box.scrub
 split
 ·rfl
 ·rename_i hp
  have hids : b.ids = b.rows.flatMap fun r => r.flatMap D.sid := by unfold Box.ids; rw [if_neg hp]
  rw [hids] at h
  have key : ∀ rows : List (List D), (k ∉ rows.flatMap fun r => r.flatMap D.sid) -> (rows.map fun r => r.map (D.scrubC k)) = rows := by
   intro rows
   induction rows with
   | nil => intro _; rfl
   | cons r rs ih =>
    intro h'
    rw [List.flatMap_cons, List.mem_append] at h'
    rw [List.map_cons, ih (fun hh => h' (.inr hh)), Yt fun x hx => ?_]
    have hx' : k ∉ x.sid := fun hk => h' (.inl (List.mem_flatMap.2 ⟨x, hx, hk⟩))
    cases x <;> try rfl
    ·rename_i j n
     simp only [D.sid, List.mem_singleton] at hx'
     simp only [D.scrubC]
     first | rfl | rw [if_neg (fun e => hx' e.symm)] | rw [if_neg (fun e => hx' e)]
    ·rename_i j i o
     simp only [D.sid, List.mem_singleton] at hx'
     simp only [D.scrubC]
     first | rfl | rw [if_neg (fun e => hx' e.symm)] | rw [if_neg (fun e => hx' e)]
  rw [key b.rows h]
theorem QpC {k : Nat} : ∀ {H : List (Nat × Box)} {j : Nat}, lk (scr k H) j = (lk H j).map (Box.scrub k)
 | [], _ => rfl
 | (i, b) :: H, j => by
  show (if i = j then some (b.scrub k) else lk (scr k H) j) = _
  rw [Qo, QpC]
  split <;> rfl
theorem Qh3 {H : List (Nat × Box)} {k j : Nat} (hB : Big H) (hC : Closed H) (hk : k < 1000000) : lk (scr k H) j = lk H j := by
 rw [QpC]
 cases h : lk H j with
 | none => rfl
 | some b =>
  rw [Option.map_some, Qjt fun hi => ?_]
  obtain ⟨x, hx⟩ := Option.isSome_iff_exists.1 (hC j b h k hi)
  have := hB k x hx
  omega
theorem Qrq {fr : List (Nat × D)} {B H0 : List (Nat × Box)} (k : Nat) (hB : Big H0) (hC : Closed H0) (hk : k < 1000000 := by decide) : St.le ⟨fr, B ++ scr k H0⟩ ⟨fr, B ++ H0⟩ :=
 QhY ⟨fun _ => rfl, fun j => by
  show lk (B ++ scr k H0) j = lk (B ++ H0) j
  rw [ZW, ZW, Qh3 hB hC hk]⟩
theorem Qj6 {l : List Nat} {fr fr1 : List (Nat × D)} {B A H0 : List (Nat × Box)} (k t : Nat) {n : Nat} {b : Box} (hf : Zd l fr = fr1) (ht : lk fr t = some (.osl k n)) (hb : lk B k = some b) (hp : b.pr = true) (hn : n = b.rows.length) (c1 : ∀ p ∈ fr1, k ∉ p.2.ids)
  (hA : ∀ p ∈ A, p.1 ≠ k /\ lk B p.1 = some p.2 /\ p.2.pr = true) (hBA : ∀ p ∈ B, 1000000 <= p.1 -> (lk A p.1).isSome = true) (hB : Big H0) (hC : Closed H0) (hfr : ∀ p ∈ fr1, ∀ j ∈ p.2.ids, (lk (A ++ H0) j).isSome = true) (hk : k < 1000000 := by decide) : St.le ⟨fr, B ++ H0⟩ ⟨(t, .sl b.rows) :: fr1, A ++ H0⟩ := by
 intro E g a w r
 obtain ⟨g', _, r'⟩ := r.freeze k hk
 subst hf
 have hbB : lk (B ++ H0) k = some b := Yy hb
 have hS : ∀ (x : D), k ∉ x.ids -> x.fz (B ++ H0) (· == k) = x := fun x hx => QgY fun j hj => by
  simp only [beq_eq_false_iff_ne, ne_eq]; rintro rfl; exact hx hj
 have hH0k : ∀ j x, lk H0 j = some x -> k ∉ x.ids := fun j x h hi => by
  obtain ⟨y, hy⟩ := Option.isSome_iff_exists.1 (hC j x h k hi)
  have := hB k y hy
  omega
 have noB : ∀ j x, lk H0 j = some x -> lk A j = none -> lk B j = none := fun j x h1 h2 => by
  cases h : lk B j with
  | none => rfl
  | some y =>
   have := hBA (j, y) (ZX h) (hB j x h1)
   simp only at this
   rw [h2] at this; cases this
 have boxOf : ∀ j x, lk (A ++ H0) j = some x -> j ≠ k /\ lk (B ++ H0) j = some x /\ (x.pr = true \/ k ∉ x.ids) := fun j x h => by
  rcases Qf6 h with h | ⟨h1, h2⟩
  ·obtain ⟨q1, q2, q3⟩ := hA _ h
   exact ⟨q1, Yy q2, .inl q3⟩
  ·refine ⟨fun e => ?_, ?_, .inr (hH0k j x h2)⟩
   ·subst e; have := hB _ x h2; omega
   ·rw [YX (noB j x h2 h1)]; exact h2
 refine ⟨g', r'.less (fun u d h => ?_) (fun j x h => ?_) (fun u d h j hj => ?_) (fun j x h i hi => ?_) fun j hj hs => ?_⟩
 ·simp only [St.freeze, Z8]
  rw [Qo] at h
  split at h
  ·rename_i e; cases h; subst e
   rw [ht]; simp only [Option.map_some]
   congr 1
   simp only [D.fz, D.fzS, beq_self_eq_true, if_true, hbB, hp, hn, and_self]
  ·have h1 := YS l fr u d h
   rw [h1, Option.map_some, hS d (c1 (u, d) (ZX h))]
 ·obtain ⟨q1, q2, q3⟩ := boxOf j x h
  simp only [St.freeze, Qcp]
  rw [if_neg q1, Z8 (Box.fz (B ++ H0) (· == k)), q2, Option.map_some]
  congr 1
  refine Xq (q3.imp id fun h3 i hi => ?_)
  simp only [beq_eq_false_iff_ne, ne_eq]; rintro rfl; exact h3 hi
 ·rw [Qo] at h
  split at h
  ·cases h; simp [D.ids, D.sid] at hj
  ·exact hfr (u, d) (ZX h) j hj
 ·rcases Qf6 h with h | ⟨h1, h2⟩
  ·rw [Qaj (hA _ h).2.2] at hi; cases hi
  ·have := hC j x h2 i hi
   rw [ZW]; split
   ·rfl
   ·exact this
 ·have hs' : (lk (B ++ H0) j).isSome = true := by
   simp only [St.freeze, Qcp] at hs
   rw [if_neg (by omega), Z8 (Box.fz (B ++ H0) (· == k)), Option.isSome_map] at hs
   exact hs
  rw [ZW] at hs' ⊢
  cases h : lk B j with
  | some x =>
   have := hBA (j, x) (ZX h) hj
   obtain ⟨y, hy⟩ := Option.isSome_iff_exists.1 this
   simp only at hy
   rw [hy]; rfl
  | none =>
   rw [h] at hs'
   cases h2 : lk A j with
   | some x => rfl
   | none => exact hs'
section
variable {P : Program} {r : List AOper} {K : St -> Prop} {fr : List (Nat × D)} {H : List (Nat × Box)} {t : Nat}
theorem QpR {esz et bytes kk n : Nat} {x y : Opd} {b : Box} {ys : List (List D)} {q : D} {pr : Bool} (hx : St.ev ⟨fr, H⟩ x = some (.osl kk n)) (hy : St.ev ⟨fr, H⟩ y = some q) (hq : kk ∉ q.ids) (hs : St.src ⟨fr, H⟩ esz q ys pr) (hn : lk H t = none)
  (hb : lk H kk = some b) (hl : n = b.rows.length) (he : b.esz = esz) (het : b.et = et) (hbb : (n + ys.length) * bytes <= 140737488355328) (hc : n + ys.length <= 4611686018427387904)
  (k : run P .fixed r K ⟨(t, .osl t (n + ys.length)) :: fr, (t, ⟨b.rows ++ ys, esz, et, b.pr && pr⟩) :: (kk, Z7) :: H⟩) (hk0 : kk < 1000000 := by decide) (ht0 : t < 1000000 := by decide) : run P .fixed (⟨some t, .append esz et bytes x y, none⟩ :: r) K ⟨fr, H⟩ :=
 .inr (.inl ⟨_, _, _, _, ⟨t, kk, n, b, q, ys, pr, rfl, hx, hk0, hn, ht0, hb, hl, he, het, hy, hq, hs, hbb, hc, rfl, rfl, rfl, rfl⟩, rfl, k⟩)
end
/-! ### The same over boxes whose names are greater than N -/
def QsP (N : Nat) (H : List (Nat × Box)) : Prop := ∀ k b, lk H k = some b -> N <= k
def Qn3 (H : List (Nat × Box)) : Prop := ∀ p ∈ H, p.2.pr = true
theorem QpL {k : Nat} : ∀ {H : List (Nat × Box)}, Qn3 H -> scr k H = H
 | [], _ => rfl
 | (j, b) :: H, h => by
  show (j, b.scrub k) :: scr k H = _
  have hb : b.scrub k = b := by unfold Box.scrub; rw [if_pos (h (j, b) (by simp))]
  rw [hb, QpL fun p hp => h p (by simp [hp])]
theorem QhZ {fr : List (Nat × D)} {B H0 : List (Nat × Box)} (k : Nat) (h : Qn3 H0) : St.le ⟨fr, B ++ scr k H0⟩ ⟨fr, B ++ H0⟩ := by rw [QpL h]; exact le_refl _
theorem Qj7 {l : List Nat} {fr fr1 fr' : List (Nat × D)} {B A A' H0 : List (Nat × Box)} {N : Nat} (hf : Zd l fr = fr1) (ef : fr1 = fr') (hA : ∀ p ∈ A, lk B p.1 = some p.2) (eA : A = A') (hcA : ∀ p ∈ A', ∀ j ∈ p.2.ids, (lk (A' ++ H0) j).isSome = true) (hBA : ∀ p ∈ B, N <= p.1 -> (lk A p.1).isSome = true) (hb : QsP N H0) (hpr : Qn3 H0) (hfr : ∀ p ∈ fr', ∀ k ∈ p.2.ids, (lk (A' ++ H0) k).isSome = true) (hN : N <= 1000000 := by decide) : St.le ⟨fr, B ++ H0⟩ ⟨fr', A' ++ H0⟩ := by
 subst eA
 have noB : ∀ k b, lk H0 k = some b -> lk A k = none -> lk B k = none := fun k b h1 h2 => by
  cases h : lk B k with
  | none => rfl
  | some x =>
   have := hBA (k, x) (ZX h) (hb k b h1)
   simp only at this
   rw [h2] at this; cases this
 refine QpB hf ef (fun k b hk => ?_) hfr (fun k b hk j hj => ?_) fun k hk hs => ?_
 ·rcases Qf6 hk with h | ⟨h1, h2⟩
  ·exact Yy (hA _ h)
  ·rw [YX (noB k b h2 h1)]; exact h2
 ·rcases Qf6 hk with h | ⟨h1, h2⟩
  ·exact hcA _ h j hj
  ·rw [Qaj (hpr _ (ZX h2))] at hj; cases hj
 ·rw [ZW] at hs ⊢
  cases h : lk B k with
  | some x =>
   have := hBA (k, x) (ZX h) (Nat.le_trans hN hk)
   obtain ⟨y, hy⟩ := Option.isSome_iff_exists.1 this
   simp only at hy
   rw [hy]; rfl
  | none =>
   rw [h] at hs
   cases h2 : lk A k with
   | some x => rfl
   | none => exact hs
/-! ### Cells told as plain slices -/
theorem canS_cell {d : D} : d.canS.isCell = d.isCell := by cases d <;> rfl
theorem QcD {d : D} : d.canS.sid = d.sid := by cases d <;> rfl
theorem RepS.canS {g : Gh} {d : D} {v : Value} (h : RepS g d v) : RepS g d.canS v := by
 cases d <;> simp only [D.canS] <;> try exact h
 simp only [RepS, RepP] at h ⊢
 obtain ⟨a0, q1, q2⟩ := h
 exact ⟨a0, _, q1, Nat.le_refl _, q2⟩
theorem CellsC.canS {g : Gh} {c : Array Value} : ∀ {off : Nat} {ds : List D}, CellsC g c off ds -> CellsC g c off (ds.map D.canS)
 | _, [], _ => by simp only [List.map_nil, CellsC]
 | off, d :: ds, h => by
  simp only [CellsC, List.map_cons] at h ⊢
  obtain ⟨⟨h1, x, h2, h3⟩, h4⟩ := h
  exact ⟨⟨canS_cell.trans h1, x, h2, h3.canS⟩, h4.canS⟩
theorem RowsC.canAt {g : Gh} {c : Array Value} : ∀ {off : Nat} {rs : List (List D)} (i : Nat), RowsC g c off rs -> RowsC g c off (rs.modify i fun r => r.map D.canS)
 | _, [], i, h => by cases i <;> exact h
 | off, r :: rs, 0, h => by
  simp only [RowsC, List.modify_zero_cons] at h ⊢
  exact ⟨h.1.canS, by rw [List.length_map]; exact h.2⟩
 | off, r :: rs, i + 1, h => by
  simp only [RowsC, List.modify_succ_cons] at h ⊢
  exact ⟨h.1, RowsC.canAt i h.2⟩
theorem Qbk {α : Type} {f : α -> α} : ∀ {l : List α} {i : Nat} {x : α}, x ∈ l.modify i f -> x ∈ l \/ ∃ y ∈ l, x = f y
 | [], i, x, h => by cases i <;> exact absurd h (by simp)
 | a :: l, 0, x, h => by
  simp only [List.modify_zero_cons, List.mem_cons] at h
  rcases h with rfl | h
  ·exact .inr ⟨a, by simp, rfl⟩
  ·exact .inl (by simp [h])
 | a :: l, i + 1, x, h => by
  simp only [List.modify_succ_cons, List.mem_cons] at h
  rcases h with rfl | h
  ·exact .inl (by simp)
  ·rcases Qbk h with h | ⟨y, hy, e⟩
   ·exact .inl (by simp [h])
   ·exact .inr ⟨y, by simp [hy], e⟩
theorem Qfj {fr : List (Nat × D)} {H : List (Nat × Box)} {k : Nat} {b : Box} (i : Nat) (hb : lk H k = some b) : St.le ⟨fr, H⟩ ⟨fr, (k, { b with rows := b.rows.modify i fun r => r.map D.canS }) :: H⟩ := fun E g a w r => by
 have hsid : ∀ (r : List D), (r.map D.canS).flatMap D.sid = r.flatMap D.sid := fun r => by
  induction r with
  | nil => rfl
  | cons d r ih => rw [List.map_cons, List.flatMap_cons, List.flatMap_cons, QcD, ih]
 have hids : ∀ j, j ∈ Box.ids { b with rows := b.rows.modify i fun r => r.map D.canS } -> j ∈ b.ids := fun j hj => by
  unfold Box.ids at hj ⊢
  simp only at hj
  split at hj
  ·cases hj
  ·rename_i hp
   rw [if_neg hp]
   obtain ⟨row, hrow, hk⟩ := List.mem_flatMap.1 hj
   rcases Qbk hrow with h | ⟨y, hy, rfl⟩
   ·exact List.mem_flatMap.2 ⟨row, h, hk⟩
   ·rw [hsid] at hk; exact List.mem_flatMap.2 ⟨y, hy, hk⟩
 have hsome : ∀ j, (lk ((k, ({ b with rows := b.rows.modify i fun r => r.map D.canS } : Box)) :: H) j).isSome = (lk H j).isSome := fun j => by
  rw [Qo]; split
  ·rename_i e; subst e; rw [hb]; rfl
  ·rfl
 have hget : ∀ j b', lk ((k, ({ b with rows := b.rows.modify i fun r => r.map D.canS } : Box)) :: H) j = some b' -> (j = k /\ b' = { b with rows := b.rows.modify i fun r => r.map D.canS }) \/ (j ≠ k /\ lk H j = some b') := fun j b' h => by
  rw [Qo] at h
  split at h
  ·rename_i e; cases h; exact .inl ⟨e.symm, rfl⟩
  ·rename_i e; exact .inr ⟨Ne.symm e, h⟩
 refine ⟨g, r.nt, r.df, r.fr, fun t d h j hj => (hsome j).trans (r.wfF t d h j hj), fun j b' h i' hi => ?_, fun j b' h => ?_, fun j j' b1 b2 B e e' h1 h2 h3 h4 => ?_, r.kr, r.ext, r.kx, fun j hj => let ⟨h1, h2, h3, h4⟩ := r.kp j hj; ⟨h1, h2, h3, (hsome j).trans h4⟩⟩
 ·rcases hget j b' h with ⟨rfl, rfl⟩ | ⟨_, h⟩
  ·rw [hsome]; exact r.wfH _ b hb i' (hids i' hi)
  ·rw [hsome]; exact r.wfH j b' h i' hi
 ·rcases hget j b' h with ⟨rfl, rfl⟩ | ⟨_, h⟩
  ·obtain ⟨h1, h2, h3⟩ := r.bx _ b hb
   by_cases hr : b.rows = []
   ·have e : ({ b with rows := b.rows.modify i fun r => r.map D.canS } : Box) = b := by
     obtain ⟨rows, e1, e2, e3⟩ := b
     simp only at hr
     subst hr
     cases i <;> rfl
    rw [e]; exact ⟨h1, h2, h3⟩
   ·refine ⟨fun row hrow => ?_, fun hp row hrow d hd => ?_, .inr ?_⟩
    ·rcases Qbk hrow with h | ⟨y, hy, rfl⟩
     ·exact h1 row h
     ·rw [List.length_map]; exact h1 y hy
    ·rcases Qbk hrow with h | ⟨y, hy, rfl⟩
     ·exact h2 hp row h d hd
     ·obtain ⟨d0, hd0, rfl⟩ := List.mem_map.1 hd
      rw [QcD]; exact h2 hp y hy d0 hd0
    ·obtain ⟨_, B, c, q1, q2, q3, q4, q5⟩ := h3.resolve_left fun h => hr h.1
     refine ⟨fun e => hr ?_, B, c, q1, q2, q3, q4.canAt i, q5⟩
     have := congrArg List.length e
     simp only [List.length_modify, List.length_nil] at this
     exact List.eq_nil_of_length_eq_zero this
  ·exact r.bx j b' h
 ·have : ∀ j b', lk ((k, ({ b with rows := b.rows.modify i fun r => r.map D.canS } : Box)) :: H) j = some b' -> ∃ b'', lk H j = some b'' := fun j b' h => by
   rcases hget j b' h with ⟨rfl, _⟩ | ⟨_, h⟩
   ·exact ⟨b, hb⟩
   ·exact ⟨b', h⟩
  obtain ⟨c1, q1⟩ := this j b1 h1
  obtain ⟨c2, q2⟩ := this j' b2 h2
  exact r.inj j j' c1 c2 B e e' q1 q2 h3 h4
theorem Qm2 {fr fr' : List (Nat × D)} {H H' : List (Nat × Box)} (k : Nat) (hk : k < 1000000) (hF : ∀ t d, lk fr' t = some d -> ∃ d0, lk fr t = some d0 /\ d0.fz H (· == k) = d) (hH : ∀ j b, lk H' j = some b -> j ≠ k /\ ∃ b0, lk H j = some b0 /\ b0.fz H (· == k) = b)
  (wfF : ∀ t d, lk fr' t = some d -> ∀ j ∈ d.ids, (lk H' j).isSome = true) (wfH : Closed H') (hbig : ∀ j, 1000000 <= j -> (lk H j).isSome = true -> (lk H' j).isSome = true) : St.le ⟨fr, H⟩ ⟨fr', H'⟩ := by
 intro E g a w r
 obtain ⟨g', _, r'⟩ := r.freeze k hk
 refine ⟨g', r'.less (fun u d h => ?_) (fun j x h => ?_) wfF wfH fun j hj hs => hbig j hj ?_⟩
 ·obtain ⟨d0, q1, q2⟩ := hF u d h
  simp only [St.freeze, Z8, q1, Option.map_some, q2]
 ·obtain ⟨q1, b0, q2, q3⟩ := hH j x h
  simp only [St.freeze, Qcp]
  rw [if_neg q1, Z8 (Box.fz H (· == k)), q2, Option.map_some, q3]
 ·simp only [St.freeze, Qcp] at hs
  rw [if_neg (by omega), Z8 (Box.fz H (· == k)), Option.isSome_map] at hs
  exact hs
theorem Qqi {fr fr' : List (Nat × D)} {H H' : List (Nat × Box)} (S : Nat -> Bool) (hS : ∀ k, S k = true -> k < 1000000) (hF : ∀ t d, lk fr' t = some d -> ∃ d0, lk fr t = some d0 /\ d0.fz H S = d) (hH : ∀ j b, lk H' j = some b -> S j = false /\ ∃ b0, lk H j = some b0 /\ b0.fz H S = b)
  (wfF : ∀ t d, lk fr' t = some d -> ∀ j ∈ d.ids, (lk H' j).isSome = true) (wfH : Closed H') (hbig : ∀ j, 1000000 <= j -> (lk H j).isSome = true -> (lk H' j).isSome = true) : St.le ⟨fr, H⟩ ⟨fr', H'⟩ := by
 intro E g a w r
 obtain ⟨g', _, r'⟩ := r.freezeS S hS
 refine ⟨g', r'.less (fun u d h => ?_) (fun j x h => ?_) wfF wfH fun j hj hs => hbig j hj ?_⟩
 ·obtain ⟨d0, q1, q2⟩ := hF u d h
  simp only [St.freezeS, Z8, q1, Option.map_some, q2]
 ·obtain ⟨q1, b0, q2, q3⟩ := hH j x h
  simp only [St.freezeS, Qf8]
  rw [if_neg (by rw [q1]; simp), Z8 (Box.fz H S), q2, Option.map_some, q3]
 ·simp only [St.freezeS, Qf8] at hs
  split at hs
  ·cases hs
  ·rw [Z8 (Box.fz H S), Option.isSome_map] at hs
   exact hs
theorem Zp (n : Nat) (p : List Nat) : Qce n p [] = true := by simp [Qce]
theorem Zq {n k : Nat} {R : List (Nat × List Nat)} : Qce n [k] R = R.all fun e => e.1 != k || e.2.contains n := by simp [Qce]
theorem Zr {n k j : Nat} {R : List (Nat × List Nat)} : Qce n [k, j] R = ((R.all fun e => e.1 != k || e.2.contains n) && R.all fun e => e.1 != j || e.2.contains n) := by simp [Qce]
theorem ZE {P ds : List Nat} {n k : Nat} (h : ds.contains n = true) : ((P.map fun x => (x, ds)).all fun e => e.1 != k || e.2.contains n) = true := by
 rw [List.all_eq_true]
 intro e he
 obtain ⟨x, _, rfl⟩ := List.mem_map.1 he
 rw [h, Bool.or_true]
theorem Qqj {fr : List (Nat × D)} {H : List (Nat × Box)} (t : Nat) (ht : lk fr t = some (.fsl [])) : St.le ⟨fr, H⟩ ⟨(t, .sl []) :: fr, H⟩ := by
 intro E g a w r
 refine ⟨g, { r with fr := fun u d h => ?_, wfF := fun u d h j hj => ?_ }⟩
 ·rw [Qo] at h
  split at h
  ·rename_i e; cases h; subst e
   have h1 := r.fr t (.fsl []) ht
   simp only [Rep, RepS, RepP] at h1 ⊢
   obtain ⟨a0, h2, _⟩ := h1
   exact ⟨a0, 0, h2, Nat.le_refl _, .inl trivial⟩
  ·exact r.fr u d h
 ·rw [Qo] at h
  split at h
  ·cases h; simp [D.ids, D.sid] at hj
  ·exact r.wfF u d h j hj
end Go.Abs
namespace Go.Abs
open Go
theorem Qrp {fr fr1 : List (Nat × D)} {H H1 : List (Nat × Box)} {l lH : List Nat} (kA kR : Nat) (pr' : Bool) {bA bR : Box} {rows' : List (List D)} (hf : Zd l fr = fr1) (hH : Qbf lH H = H1) (hA : lk H kA = some bA) (hR : lk H kR = some bR) (hpA : bA.pr = false) (hp : bR.pr = true)
  (hfz : (bA.rows.map fun r => r.map (D.fzS H (· == kR))) = rows') (hpr : pr' = true -> rows' ≠ [] /\ ∀ r ∈ rows', ∀ d ∈ r, d.sid = []) (hne : kA ≠ kR) (c1 : (fr1.all fun p => !p.2.ids.contains kR) = true) (c2 : (H1.all fun p => p.1 != kR && (p.2.pr || !p.2.ids.contains kR)) = true)
  (hw : wfB ((kA, ⟨rows', bA.esz, bA.et, pr'⟩) :: H1) fr1 = true) (hbk : Qp3 H ((kA, ⟨rows', bA.esz, bA.et, pr'⟩) :: H1) = true) (hk : kR < 1000000 := by decide) : St.le ⟨fr, H⟩ ⟨fr1, (kA, ⟨rows', bA.esz, bA.et, pr'⟩) :: H1⟩ := by
 subst hf hH
 simp only [wfB, Bool.and_eq_true, List.all_eq_true] at hw
 simp only [List.all_eq_true, Bool.not_eq_true', List.contains_eq_mem, decide_eq_false_iff_not] at c1
 simp only [List.all_eq_true, Bool.and_eq_true, Bool.or_eq_true, Bool.not_eq_true', List.contains_eq_mem, decide_eq_false_iff_not, bne_iff_ne, ne_eq] at c2
 have hsome : ∀ j, (lk ((kA, (⟨rows', bA.esz, bA.et, false⟩ : Box)) :: Qbf lH H) j).isSome = (lk ((kA, (⟨rows', bA.esz, bA.et, pr'⟩ : Box)) :: Qbf lH H) j).isSome := fun j => by
  rw [Qo, Qo]; split <;> rfl
 have hids : ∀ j, j ∈ Box.ids ⟨rows', bA.esz, bA.et, false⟩ -> (lk ((kA, (⟨rows', bA.esz, bA.et, pr'⟩ : Box)) :: Qbf lH H) j).isSome = true := fun j hj => by
  cases hc : pr'
  ·rw [hc] at hw; exact hw.2 (kA, ⟨rows', bA.esz, bA.et, false⟩) (by simp) j hj
  ·exfalso
   unfold Box.ids at hj
   simp only [Bool.false_eq_true, if_false] at hj
   obtain ⟨r, hr, hj⟩ := List.mem_flatMap.1 hj
   obtain ⟨d, hd, hj⟩ := List.mem_flatMap.1 hj
   rw [(hpr hc).2 r hr d hd] at hj; cases hj
 have h1 : St.le ⟨fr, H⟩ ⟨Zd l fr, (kA, ⟨rows', bA.esz, bA.et, false⟩) :: Qbf lH H⟩ := by
  refine Qm2 kR hk (fun t d h => ⟨d, YS l fr t d h, QgY fun j hj => ?_⟩) (fun j b h => ?_) (fun t d h j hj => ?_) (fun j b h i hi => ?_) fun j hj hs => ?_
  ·simp only [beq_eq_false_iff_ne, ne_eq]; rintro rfl; exact c1 (t, d) (ZX h) hj
  ·rw [Qo] at h
   split at h
   ·rename_i e; cases h; subst e
    refine ⟨hne, bA, hA, ?_⟩
    unfold Box.fz; rw [if_neg (by rw [hpA]; simp)]
    rw [hfz, hpA]
   ·have := c2 (j, b) (ZX h)
    refine ⟨this.1, b, QcI lH H j b h, Xq (this.2.imp id fun h3 i hi => ?_)⟩
    simp only [beq_eq_false_iff_ne, ne_eq]; rintro rfl; exact h3 hi
  ·rw [hsome]; exact hw.1 (t, d) (ZX h) j hj
  ·rw [hsome]
   rw [Qo] at h
   split at h
   ·cases h; exact hids i hi
   ·exact hw.2 (j, b) (List.mem_cons_of_mem _ (ZX h)) i hi
  ·rw [hsome]; exact QfG hbk j hj hs
 cases hc : pr'
 ·exact h1
 ·refine le_trans h1 (le_trans (QfZ (k := kA) (by rw [Qo, if_pos rfl]) (hpr hc).1 (hpr hc).2) (QhY ⟨fun _ => rfl, fun j => ?_⟩))
  show lk ((kA, _) :: (kA, _) :: Qbf lH H) j = lk ((kA, _) :: Qbf lH H) j
  rw [Qo, Qo, Qo]
  split <;> rfl
end Go.Abs
namespace Go.Abs
open Go
theorem qa {p : Prop} [Decidable p] : (decide p = true) = p := decide_eq_true_eq
theorem qb {p : Prop} [Decidable p] : (decide p = false) ↔ ¬ p := decide_eq_false_iff_not
theorem qc {a b : Bool} : ((!a) = b) = (a = !b) := by simp
theorem qd : (!true) = false := rfl
theorem qe : (!false) = true := rfl
section
variable {fr : List (Nat × D)}
theorem kp1 {t0 : Nat} {d0 : D} (h0 : lk fr t0 = some d0) : Zd [t0] fr = [(t0, d0)] := Qc h0 Q0
theorem kp2 {t0 t1 : Nat} {d0 d1 : D} (h0 : lk fr t0 = some d0) (h1 : lk fr t1 = some d1) : Zd [t0, t1] fr = [(t0, d0), (t1, d1)] := Qc h0 (Qc h1 Q0)
theorem kp3 {t0 t1 t2 : Nat} {d0 d1 d2 : D} (h0 : lk fr t0 = some d0) (h1 : lk fr t1 = some d1) (h2 : lk fr t2 = some d2) : Zd [t0, t1, t2] fr = [(t0, d0), (t1, d1), (t2, d2)] := Qc h0 (Qc h1 (Qc h2 Q0))
theorem kp4 {t0 t1 t2 t3 : Nat} {d0 d1 d2 d3 : D} (h0 : lk fr t0 = some d0) (h1 : lk fr t1 = some d1) (h2 : lk fr t2 = some d2) (h3 : lk fr t3 = some d3) : Zd [t0, t1, t2, t3] fr = [(t0, d0), (t1, d1), (t2, d2), (t3, d3)] := Qc h0 (Qc h1 (Qc h2 (Qc h3 Q0)))
theorem kp5 {t0 t1 t2 t3 t4 : Nat} {d0 d1 d2 d3 d4 : D} (h0 : lk fr t0 = some d0) (h1 : lk fr t1 = some d1) (h2 : lk fr t2 = some d2) (h3 : lk fr t3 = some d3) (h4 : lk fr t4 = some d4) : Zd [t0, t1, t2, t3, t4] fr = [(t0, d0), (t1, d1), (t2, d2), (t3, d3), (t4, d4)] := Qc h0 (Qc h1 (Qc h2 (Qc h3 (Qc h4 Q0))))
theorem kp6 {t0 t1 t2 t3 t4 t5 : Nat} {d0 d1 d2 d3 d4 d5 : D} (h0 : lk fr t0 = some d0) (h1 : lk fr t1 = some d1) (h2 : lk fr t2 = some d2) (h3 : lk fr t3 = some d3) (h4 : lk fr t4 = some d4) (h5 : lk fr t5 = some d5) : Zd [t0, t1, t2, t3, t4, t5] fr = [(t0, d0), (t1, d1), (t2, d2), (t3, d3), (t4, d4), (t5, d5)] := Qc h0 (Qc h1 (Qc h2 (Qc h3 (Qc h4 (Qc h5 Q0)))))
theorem kp7 {t0 t1 t2 t3 t4 t5 t6 : Nat} {d0 d1 d2 d3 d4 d5 d6 : D} (h0 : lk fr t0 = some d0) (h1 : lk fr t1 = some d1) (h2 : lk fr t2 = some d2) (h3 : lk fr t3 = some d3) (h4 : lk fr t4 = some d4) (h5 : lk fr t5 = some d5) (h6 : lk fr t6 = some d6) : Zd [t0, t1, t2, t3, t4, t5, t6] fr = [(t0, d0), (t1, d1), (t2, d2), (t3, d3), (t4, d4), (t5, d5), (t6, d6)] := Qc h0 (Qc h1 (Qc h2 (Qc h3 (Qc h4 (Qc h5 (Qc h6 Q0))))))
theorem kp8 {t0 t1 t2 t3 t4 t5 t6 t7 : Nat} {d0 d1 d2 d3 d4 d5 d6 d7 : D} (h0 : lk fr t0 = some d0) (h1 : lk fr t1 = some d1) (h2 : lk fr t2 = some d2) (h3 : lk fr t3 = some d3) (h4 : lk fr t4 = some d4) (h5 : lk fr t5 = some d5) (h6 : lk fr t6 = some d6) (h7 : lk fr t7 = some d7) : Zd [t0, t1, t2, t3, t4, t5, t6, t7] fr = [(t0, d0), (t1, d1), (t2, d2), (t3, d3), (t4, d4), (t5, d5), (t6, d6), (t7, d7)] := Qc h0 (Qc h1 (Qc h2 (Qc h3 (Qc h4 (Qc h5 (Qc h6 (Qc h7 Q0)))))))
theorem kp9 {t0 t1 t2 t3 t4 t5 t6 t7 t8 : Nat} {d0 d1 d2 d3 d4 d5 d6 d7 d8 : D} (h0 : lk fr t0 = some d0) (h1 : lk fr t1 = some d1) (h2 : lk fr t2 = some d2) (h3 : lk fr t3 = some d3) (h4 : lk fr t4 = some d4) (h5 : lk fr t5 = some d5) (h6 : lk fr t6 = some d6) (h7 : lk fr t7 = some d7) (h8 : lk fr t8 = some d8) : Zd [t0, t1, t2, t3, t4, t5, t6, t7, t8] fr = [(t0, d0), (t1, d1), (t2, d2), (t3, d3), (t4, d4), (t5, d5), (t6, d6), (t7, d7), (t8, d8)] := Qc h0 (Qc h1 (Qc h2 (Qc h3 (Qc h4 (Qc h5 (Qc h6 (Qc h7 (Qc h8 Q0))))))))
theorem QlU {t0 t1 t2 t3 t4 t5 t6 t7 t8 t9 : Nat} {d0 d1 d2 d3 d4 d5 d6 d7 d8 d9 : D} (h0 : lk fr t0 = some d0) (h1 : lk fr t1 = some d1) (h2 : lk fr t2 = some d2) (h3 : lk fr t3 = some d3) (h4 : lk fr t4 = some d4) (h5 : lk fr t5 = some d5) (h6 : lk fr t6 = some d6) (h7 : lk fr t7 = some d7) (h8 : lk fr t8 = some d8) (h9 : lk fr t9 = some d9) : Zd [t0, t1, t2, t3, t4, t5, t6, t7, t8, t9] fr = [(t0, d0), (t1, d1), (t2, d2), (t3, d3), (t4, d4), (t5, d5), (t6, d6), (t7, d7), (t8, d8), (t9, d9)] := Qc h0 (Qc h1 (Qc h2 (Qc h3 (Qc h4 (Qc h5 (Qc h6 (Qc h7 (Qc h8 (Qc h9 Q0)))))))))
theorem QsX {t0 t1 t2 t3 t4 t5 t6 t7 t8 t9 t10 : Nat} {d0 d1 d2 d3 d4 d5 d6 d7 d8 d9 d10 : D} (h0 : lk fr t0 = some d0) (h1 : lk fr t1 = some d1) (h2 : lk fr t2 = some d2) (h3 : lk fr t3 = some d3) (h4 : lk fr t4 = some d4) (h5 : lk fr t5 = some d5) (h6 : lk fr t6 = some d6) (h7 : lk fr t7 = some d7) (h8 : lk fr t8 = some d8) (h9 : lk fr t9 = some d9) (h10 : lk fr t10 = some d10) : Zd [t0, t1, t2, t3, t4, t5, t6, t7, t8, t9, t10] fr = [(t0, d0), (t1, d1), (t2, d2), (t3, d3), (t4, d4), (t5, d5), (t6, d6), (t7, d7), (t8, d8), (t9, d9), (t10, d10)] := Qc h0 (Qc h1 (Qc h2 (Qc h3 (Qc h4 (Qc h5 (Qc h6 (Qc h7 (Qc h8 (Qc h9 (Qc h10 Q0))))))))))
theorem Qrn {t0 t1 t2 t3 t4 t5 t6 t7 t8 t9 t10 t11 : Nat} {d0 d1 d2 d3 d4 d5 d6 d7 d8 d9 d10 d11 : D} (h0 : lk fr t0 = some d0) (h1 : lk fr t1 = some d1) (h2 : lk fr t2 = some d2) (h3 : lk fr t3 = some d3) (h4 : lk fr t4 = some d4) (h5 : lk fr t5 = some d5) (h6 : lk fr t6 = some d6) (h7 : lk fr t7 = some d7) (h8 : lk fr t8 = some d8) (h9 : lk fr t9 = some d9) (h10 : lk fr t10 = some d10) (h11 : lk fr t11 = some d11) : Zd [t0, t1, t2, t3, t4, t5, t6, t7, t8, t9, t10, t11] fr = [(t0, d0), (t1, d1), (t2, d2), (t3, d3), (t4, d4), (t5, d5), (t6, d6), (t7, d7), (t8, d8), (t9, d9), (t10, d10), (t11, d11)] := Qc h0 (Qc h1 (Qc h2 (Qc h3 (Qc h4 (Qc h5 (Qc h6 (Qc h7 (Qc h8 (Qc h9 (Qc h10 (Qc h11 Q0)))))))))))
theorem Qr7 {t0 t1 t2 t3 t4 t5 t6 t7 t8 t9 t10 t11 t12 : Nat} {d0 d1 d2 d3 d4 d5 d6 d7 d8 d9 d10 d11 d12 : D} (h0 : lk fr t0 = some d0) (h1 : lk fr t1 = some d1) (h2 : lk fr t2 = some d2) (h3 : lk fr t3 = some d3) (h4 : lk fr t4 = some d4) (h5 : lk fr t5 = some d5) (h6 : lk fr t6 = some d6) (h7 : lk fr t7 = some d7) (h8 : lk fr t8 = some d8) (h9 : lk fr t9 = some d9) (h10 : lk fr t10 = some d10) (h11 : lk fr t11 = some d11) (h12 : lk fr t12 = some d12) : Zd [t0, t1, t2, t3, t4, t5, t6, t7, t8, t9, t10, t11, t12] fr = [(t0, d0), (t1, d1), (t2, d2), (t3, d3), (t4, d4), (t5, d5), (t6, d6), (t7, d7), (t8, d8), (t9, d9), (t10, d10), (t11, d11), (t12, d12)] := Qc h0 (Qc h1 (Qc h2 (Qc h3 (Qc h4 (Qc h5 (Qc h6 (Qc h7 (Qc h8 (Qc h9 (Qc h10 (Qc h11 (Qc h12 Q0))))))))))))
theorem kp14 {t0 t1 t2 t3 t4 t5 t6 t7 t8 t9 t10 t11 t12 t13 : Nat} {d0 d1 d2 d3 d4 d5 d6 d7 d8 d9 d10 d11 d12 d13 : D} (h0 : lk fr t0 = some d0) (h1 : lk fr t1 = some d1) (h2 : lk fr t2 = some d2) (h3 : lk fr t3 = some d3) (h4 : lk fr t4 = some d4) (h5 : lk fr t5 = some d5) (h6 : lk fr t6 = some d6) (h7 : lk fr t7 = some d7) (h8 : lk fr t8 = some d8) (h9 : lk fr t9 = some d9) (h10 : lk fr t10 = some d10) (h11 : lk fr t11 = some d11) (h12 : lk fr t12 = some d12) (h13 : lk fr t13 = some d13) : Zd [t0, t1, t2, t3, t4, t5, t6, t7, t8, t9, t10, t11, t12, t13] fr = [(t0, d0), (t1, d1), (t2, d2), (t3, d3), (t4, d4), (t5, d5), (t6, d6), (t7, d7), (t8, d8), (t9, d9), (t10, d10), (t11, d11), (t12, d12), (t13, d13)] := Qc h0 (Qc h1 (Qc h2 (Qc h3 (Qc h4 (Qc h5 (Qc h6 (Qc h7 (Qc h8 (Qc h9 (Qc h10 (Qc h11 (Qc h12 (Qc h13 Q0)))))))))))))
theorem kp15 {t0 t1 t2 t3 t4 t5 t6 t7 t8 t9 t10 t11 t12 t13 t14 : Nat} {d0 d1 d2 d3 d4 d5 d6 d7 d8 d9 d10 d11 d12 d13 d14 : D} (h0 : lk fr t0 = some d0) (h1 : lk fr t1 = some d1) (h2 : lk fr t2 = some d2) (h3 : lk fr t3 = some d3) (h4 : lk fr t4 = some d4) (h5 : lk fr t5 = some d5) (h6 : lk fr t6 = some d6) (h7 : lk fr t7 = some d7) (h8 : lk fr t8 = some d8) (h9 : lk fr t9 = some d9) (h10 : lk fr t10 = some d10) (h11 : lk fr t11 = some d11) (h12 : lk fr t12 = some d12) (h13 : lk fr t13 = some d13) (h14 : lk fr t14 = some d14) : Zd [t0, t1, t2, t3, t4, t5, t6, t7, t8, t9, t10, t11, t12, t13, t14] fr = [(t0, d0), (t1, d1), (t2, d2), (t3, d3), (t4, d4), (t5, d5), (t6, d6), (t7, d7), (t8, d8), (t9, d9), (t10, d10), (t11, d11), (t12, d12), (t13, d13), (t14, d14)] := Qc h0 (Qc h1 (Qc h2 (Qc h3 (Qc h4 (Qc h5 (Qc h6 (Qc h7 (Qc h8 (Qc h9 (Qc h10 (Qc h11 (Qc h12 (Qc h13 (Qc h14 Q0))))))))))))))
theorem kp16 {t0 t1 t2 t3 t4 t5 t6 t7 t8 t9 t10 t11 t12 t13 t14 t15 : Nat} {d0 d1 d2 d3 d4 d5 d6 d7 d8 d9 d10 d11 d12 d13 d14 d15 : D} (h0 : lk fr t0 = some d0) (h1 : lk fr t1 = some d1) (h2 : lk fr t2 = some d2) (h3 : lk fr t3 = some d3) (h4 : lk fr t4 = some d4) (h5 : lk fr t5 = some d5) (h6 : lk fr t6 = some d6) (h7 : lk fr t7 = some d7) (h8 : lk fr t8 = some d8) (h9 : lk fr t9 = some d9) (h10 : lk fr t10 = some d10) (h11 : lk fr t11 = some d11) (h12 : lk fr t12 = some d12) (h13 : lk fr t13 = some d13) (h14 : lk fr t14 = some d14) (h15 : lk fr t15 = some d15) : Zd [t0, t1, t2, t3, t4, t5, t6, t7, t8, t9, t10, t11, t12, t13, t14, t15] fr = [(t0, d0), (t1, d1), (t2, d2), (t3, d3), (t4, d4), (t5, d5), (t6, d6), (t7, d7), (t8, d8), (t9, d9), (t10, d10), (t11, d11), (t12, d12), (t13, d13), (t14, d14), (t15, d15)] := Qc h0 (Qc h1 (Qc h2 (Qc h3 (Qc h4 (Qc h5 (Qc h6 (Qc h7 (Qc h8 (Qc h9 (Qc h10 (Qc h11 (Qc h12 (Qc h13 (Qc h14 (Qc h15 Q0)))))))))))))))
theorem kp17 {t0 t1 t2 t3 t4 t5 t6 t7 t8 t9 t10 t11 t12 t13 t14 t15 t16 : Nat} {d0 d1 d2 d3 d4 d5 d6 d7 d8 d9 d10 d11 d12 d13 d14 d15 d16 : D} (h0 : lk fr t0 = some d0) (h1 : lk fr t1 = some d1) (h2 : lk fr t2 = some d2) (h3 : lk fr t3 = some d3) (h4 : lk fr t4 = some d4) (h5 : lk fr t5 = some d5) (h6 : lk fr t6 = some d6) (h7 : lk fr t7 = some d7) (h8 : lk fr t8 = some d8) (h9 : lk fr t9 = some d9) (h10 : lk fr t10 = some d10) (h11 : lk fr t11 = some d11) (h12 : lk fr t12 = some d12) (h13 : lk fr t13 = some d13) (h14 : lk fr t14 = some d14) (h15 : lk fr t15 = some d15) (h16 : lk fr t16 = some d16) : Zd [t0, t1, t2, t3, t4, t5, t6, t7, t8, t9, t10, t11, t12, t13, t14, t15, t16] fr = [(t0, d0), (t1, d1), (t2, d2), (t3, d3), (t4, d4), (t5, d5), (t6, d6), (t7, d7), (t8, d8), (t9, d9), (t10, d10), (t11, d11), (t12, d12), (t13, d13), (t14, d14), (t15, d15), (t16, d16)] := Qc h0 (Qc h1 (Qc h2 (Qc h3 (Qc h4 (Qc h5 (Qc h6 (Qc h7 (Qc h8 (Qc h9 (Qc h10 (Qc h11 (Qc h12 (Qc h13 (Qc h14 (Qc h15 (Qc h16 Q0))))))))))))))))
theorem kp18 {t0 t1 t2 t3 t4 t5 t6 t7 t8 t9 t10 t11 t12 t13 t14 t15 t16 t17 : Nat} {d0 d1 d2 d3 d4 d5 d6 d7 d8 d9 d10 d11 d12 d13 d14 d15 d16 d17 : D} (h0 : lk fr t0 = some d0) (h1 : lk fr t1 = some d1) (h2 : lk fr t2 = some d2) (h3 : lk fr t3 = some d3) (h4 : lk fr t4 = some d4) (h5 : lk fr t5 = some d5) (h6 : lk fr t6 = some d6) (h7 : lk fr t7 = some d7) (h8 : lk fr t8 = some d8) (h9 : lk fr t9 = some d9) (h10 : lk fr t10 = some d10) (h11 : lk fr t11 = some d11) (h12 : lk fr t12 = some d12) (h13 : lk fr t13 = some d13) (h14 : lk fr t14 = some d14) (h15 : lk fr t15 = some d15) (h16 : lk fr t16 = some d16) (h17 : lk fr t17 = some d17) : Zd [t0, t1, t2, t3, t4, t5, t6, t7, t8, t9, t10, t11, t12, t13, t14, t15, t16, t17] fr = [(t0, d0), (t1, d1), (t2, d2), (t3, d3), (t4, d4), (t5, d5), (t6, d6), (t7, d7), (t8, d8), (t9, d9), (t10, d10), (t11, d11), (t12, d12), (t13, d13), (t14, d14), (t15, d15), (t16, d16), (t17, d17)] := Qc h0 (Qc h1 (Qc h2 (Qc h3 (Qc h4 (Qc h5 (Qc h6 (Qc h7 (Qc h8 (Qc h9 (Qc h10 (Qc h11 (Qc h12 (Qc h13 (Qc h14 (Qc h15 (Qc h16 (Qc h17 Q0)))))))))))))))))
theorem kp19 {t0 t1 t2 t3 t4 t5 t6 t7 t8 t9 t10 t11 t12 t13 t14 t15 t16 t17 t18 : Nat} {d0 d1 d2 d3 d4 d5 d6 d7 d8 d9 d10 d11 d12 d13 d14 d15 d16 d17 d18 : D} (h0 : lk fr t0 = some d0) (h1 : lk fr t1 = some d1) (h2 : lk fr t2 = some d2) (h3 : lk fr t3 = some d3) (h4 : lk fr t4 = some d4) (h5 : lk fr t5 = some d5) (h6 : lk fr t6 = some d6) (h7 : lk fr t7 = some d7) (h8 : lk fr t8 = some d8) (h9 : lk fr t9 = some d9) (h10 : lk fr t10 = some d10) (h11 : lk fr t11 = some d11) (h12 : lk fr t12 = some d12) (h13 : lk fr t13 = some d13) (h14 : lk fr t14 = some d14) (h15 : lk fr t15 = some d15) (h16 : lk fr t16 = some d16) (h17 : lk fr t17 = some d17) (h18 : lk fr t18 = some d18) : Zd [t0, t1, t2, t3, t4, t5, t6, t7, t8, t9, t10, t11, t12, t13, t14, t15, t16, t17, t18] fr = [(t0, d0), (t1, d1), (t2, d2), (t3, d3), (t4, d4), (t5, d5), (t6, d6), (t7, d7), (t8, d8), (t9, d9), (t10, d10), (t11, d11), (t12, d12), (t13, d13), (t14, d14), (t15, d15), (t16, d16), (t17, d17), (t18, d18)] := Qc h0 (Qc h1 (Qc h2 (Qc h3 (Qc h4 (Qc h5 (Qc h6 (Qc h7 (Qc h8 (Qc h9 (Qc h10 (Qc h11 (Qc h12 (Qc h13 (Qc h14 (Qc h15 (Qc h16 (Qc h17 (Qc h18 Q0))))))))))))))))))
theorem kp20 {t0 t1 t2 t3 t4 t5 t6 t7 t8 t9 t10 t11 t12 t13 t14 t15 t16 t17 t18 t19 : Nat} {d0 d1 d2 d3 d4 d5 d6 d7 d8 d9 d10 d11 d12 d13 d14 d15 d16 d17 d18 d19 : D} (h0 : lk fr t0 = some d0) (h1 : lk fr t1 = some d1) (h2 : lk fr t2 = some d2) (h3 : lk fr t3 = some d3) (h4 : lk fr t4 = some d4) (h5 : lk fr t5 = some d5) (h6 : lk fr t6 = some d6) (h7 : lk fr t7 = some d7) (h8 : lk fr t8 = some d8) (h9 : lk fr t9 = some d9) (h10 : lk fr t10 = some d10) (h11 : lk fr t11 = some d11) (h12 : lk fr t12 = some d12) (h13 : lk fr t13 = some d13) (h14 : lk fr t14 = some d14) (h15 : lk fr t15 = some d15) (h16 : lk fr t16 = some d16) (h17 : lk fr t17 = some d17) (h18 : lk fr t18 = some d18) (h19 : lk fr t19 = some d19) : Zd [t0, t1, t2, t3, t4, t5, t6, t7, t8, t9, t10, t11, t12, t13, t14, t15, t16, t17, t18, t19] fr = [(t0, d0), (t1, d1), (t2, d2), (t3, d3), (t4, d4), (t5, d5), (t6, d6), (t7, d7), (t8, d8), (t9, d9), (t10, d10), (t11, d11), (t12, d12), (t13, d13), (t14, d14), (t15, d15), (t16, d16), (t17, d17), (t18, d18), (t19, d19)] := Qc h0 (Qc h1 (Qc h2 (Qc h3 (Qc h4 (Qc h5 (Qc h6 (Qc h7 (Qc h8 (Qc h9 (Qc h10 (Qc h11 (Qc h12 (Qc h13 (Qc h14 (Qc h15 (Qc h16 (Qc h17 (Qc h18 (Qc h19 Q0)))))))))))))))))))
theorem kp21 {t0 t1 t2 t3 t4 t5 t6 t7 t8 t9 t10 t11 t12 t13 t14 t15 t16 t17 t18 t19 t20 : Nat} {d0 d1 d2 d3 d4 d5 d6 d7 d8 d9 d10 d11 d12 d13 d14 d15 d16 d17 d18 d19 d20 : D} (h0 : lk fr t0 = some d0) (h1 : lk fr t1 = some d1) (h2 : lk fr t2 = some d2) (h3 : lk fr t3 = some d3) (h4 : lk fr t4 = some d4) (h5 : lk fr t5 = some d5) (h6 : lk fr t6 = some d6) (h7 : lk fr t7 = some d7) (h8 : lk fr t8 = some d8) (h9 : lk fr t9 = some d9) (h10 : lk fr t10 = some d10) (h11 : lk fr t11 = some d11) (h12 : lk fr t12 = some d12) (h13 : lk fr t13 = some d13) (h14 : lk fr t14 = some d14) (h15 : lk fr t15 = some d15) (h16 : lk fr t16 = some d16) (h17 : lk fr t17 = some d17) (h18 : lk fr t18 = some d18) (h19 : lk fr t19 = some d19) (h20 : lk fr t20 = some d20) : Zd [t0, t1, t2, t3, t4, t5, t6, t7, t8, t9, t10, t11, t12, t13, t14, t15, t16, t17, t18, t19, t20] fr = [(t0, d0), (t1, d1), (t2, d2), (t3, d3), (t4, d4), (t5, d5), (t6, d6), (t7, d7), (t8, d8), (t9, d9), (t10, d10), (t11, d11), (t12, d12), (t13, d13), (t14, d14), (t15, d15), (t16, d16), (t17, d17), (t18, d18), (t19, d19), (t20, d20)] := Qc h0 (Qc h1 (Qc h2 (Qc h3 (Qc h4 (Qc h5 (Qc h6 (Qc h7 (Qc h8 (Qc h9 (Qc h10 (Qc h11 (Qc h12 (Qc h13 (Qc h14 (Qc h15 (Qc h16 (Qc h17 (Qc h18 (Qc h19 (Qc h20 Q0))))))))))))))))))))
theorem kp22 {t0 t1 t2 t3 t4 t5 t6 t7 t8 t9 t10 t11 t12 t13 t14 t15 t16 t17 t18 t19 t20 t21 : Nat} {d0 d1 d2 d3 d4 d5 d6 d7 d8 d9 d10 d11 d12 d13 d14 d15 d16 d17 d18 d19 d20 d21 : D} (h0 : lk fr t0 = some d0) (h1 : lk fr t1 = some d1) (h2 : lk fr t2 = some d2) (h3 : lk fr t3 = some d3) (h4 : lk fr t4 = some d4) (h5 : lk fr t5 = some d5) (h6 : lk fr t6 = some d6) (h7 : lk fr t7 = some d7) (h8 : lk fr t8 = some d8) (h9 : lk fr t9 = some d9) (h10 : lk fr t10 = some d10) (h11 : lk fr t11 = some d11) (h12 : lk fr t12 = some d12) (h13 : lk fr t13 = some d13) (h14 : lk fr t14 = some d14) (h15 : lk fr t15 = some d15) (h16 : lk fr t16 = some d16) (h17 : lk fr t17 = some d17) (h18 : lk fr t18 = some d18) (h19 : lk fr t19 = some d19) (h20 : lk fr t20 = some d20) (h21 : lk fr t21 = some d21) : Zd [t0, t1, t2, t3, t4, t5, t6, t7, t8, t9, t10, t11, t12, t13, t14, t15, t16, t17, t18, t19, t20, t21] fr = [(t0, d0), (t1, d1), (t2, d2), (t3, d3), (t4, d4), (t5, d5), (t6, d6), (t7, d7), (t8, d8), (t9, d9), (t10, d10), (t11, d11), (t12, d12), (t13, d13), (t14, d14), (t15, d15), (t16, d16), (t17, d17), (t18, d18), (t19, d19), (t20, d20), (t21, d21)] := Qc h0 (Qc h1 (Qc h2 (Qc h3 (Qc h4 (Qc h5 (Qc h6 (Qc h7 (Qc h8 (Qc h9 (Qc h10 (Qc h11 (Qc h12 (Qc h13 (Qc h14 (Qc h15 (Qc h16 (Qc h17 (Qc h18 (Qc h19 (Qc h20 (Qc h21 Q0)))))))))))))))))))))
theorem kp23 {t0 t1 t2 t3 t4 t5 t6 t7 t8 t9 t10 t11 t12 t13 t14 t15 t16 t17 t18 t19 t20 t21 t22 : Nat} {d0 d1 d2 d3 d4 d5 d6 d7 d8 d9 d10 d11 d12 d13 d14 d15 d16 d17 d18 d19 d20 d21 d22 : D} (h0 : lk fr t0 = some d0) (h1 : lk fr t1 = some d1) (h2 : lk fr t2 = some d2) (h3 : lk fr t3 = some d3) (h4 : lk fr t4 = some d4) (h5 : lk fr t5 = some d5) (h6 : lk fr t6 = some d6) (h7 : lk fr t7 = some d7) (h8 : lk fr t8 = some d8) (h9 : lk fr t9 = some d9) (h10 : lk fr t10 = some d10) (h11 : lk fr t11 = some d11) (h12 : lk fr t12 = some d12) (h13 : lk fr t13 = some d13) (h14 : lk fr t14 = some d14) (h15 : lk fr t15 = some d15) (h16 : lk fr t16 = some d16) (h17 : lk fr t17 = some d17) (h18 : lk fr t18 = some d18) (h19 : lk fr t19 = some d19) (h20 : lk fr t20 = some d20) (h21 : lk fr t21 = some d21) (h22 : lk fr t22 = some d22) : Zd [t0, t1, t2, t3, t4, t5, t6, t7, t8, t9, t10, t11, t12, t13, t14, t15, t16, t17, t18, t19, t20, t21, t22] fr = [(t0, d0), (t1, d1), (t2, d2), (t3, d3), (t4, d4), (t5, d5), (t6, d6), (t7, d7), (t8, d8), (t9, d9), (t10, d10), (t11, d11), (t12, d12), (t13, d13), (t14, d14), (t15, d15), (t16, d16), (t17, d17), (t18, d18), (t19, d19), (t20, d20), (t21, d21), (t22, d22)] := Qc h0 (Qc h1 (Qc h2 (Qc h3 (Qc h4 (Qc h5 (Qc h6 (Qc h7 (Qc h8 (Qc h9 (Qc h10 (Qc h11 (Qc h12 (Qc h13 (Qc h14 (Qc h15 (Qc h16 (Qc h17 (Qc h18 (Qc h19 (Qc h20 (Qc h21 (Qc h22 Q0))))))))))))))))))))))
theorem kp24 {t0 t1 t2 t3 t4 t5 t6 t7 t8 t9 t10 t11 t12 t13 t14 t15 t16 t17 t18 t19 t20 t21 t22 t23 : Nat} {d0 d1 d2 d3 d4 d5 d6 d7 d8 d9 d10 d11 d12 d13 d14 d15 d16 d17 d18 d19 d20 d21 d22 d23 : D} (h0 : lk fr t0 = some d0) (h1 : lk fr t1 = some d1) (h2 : lk fr t2 = some d2) (h3 : lk fr t3 = some d3) (h4 : lk fr t4 = some d4) (h5 : lk fr t5 = some d5) (h6 : lk fr t6 = some d6) (h7 : lk fr t7 = some d7) (h8 : lk fr t8 = some d8) (h9 : lk fr t9 = some d9) (h10 : lk fr t10 = some d10) (h11 : lk fr t11 = some d11) (h12 : lk fr t12 = some d12) (h13 : lk fr t13 = some d13) (h14 : lk fr t14 = some d14) (h15 : lk fr t15 = some d15) (h16 : lk fr t16 = some d16) (h17 : lk fr t17 = some d17) (h18 : lk fr t18 = some d18) (h19 : lk fr t19 = some d19) (h20 : lk fr t20 = some d20) (h21 : lk fr t21 = some d21) (h22 : lk fr t22 = some d22) (h23 : lk fr t23 = some d23) : Zd [t0, t1, t2, t3, t4, t5, t6, t7, t8, t9, t10, t11, t12, t13, t14, t15, t16, t17, t18, t19, t20, t21, t22, t23] fr = [(t0, d0), (t1, d1), (t2, d2), (t3, d3), (t4, d4), (t5, d5), (t6, d6), (t7, d7), (t8, d8), (t9, d9), (t10, d10), (t11, d11), (t12, d12), (t13, d13), (t14, d14), (t15, d15), (t16, d16), (t17, d17), (t18, d18), (t19, d19), (t20, d20), (t21, d21), (t22, d22), (t23, d23)] := Qc h0 (Qc h1 (Qc h2 (Qc h3 (Qc h4 (Qc h5 (Qc h6 (Qc h7 (Qc h8 (Qc h9 (Qc h10 (Qc h11 (Qc h12 (Qc h13 (Qc h14 (Qc h15 (Qc h16 (Qc h17 (Qc h18 (Qc h19 (Qc h20 (Qc h21 (Qc h22 (Qc h23 Q0)))))))))))))))))))))))
end
end Go.Abs
namespace Go.Proofs
open Go Go.Abs
set_option maxRecDepth 100000
abbrev oo (t : Nat) (op : AOp) : AOper := ⟨some t,op,none⟩
abbrev oT (t g : Nat) (op : AOp) : AOper := ⟨some t,op,some (g,true)⟩
abbrev oF (t g : Nat) (op : AOp) : AOper := ⟨some t,op,some (g,false)⟩
def tf4 : TFn := ⟨109,[.tmp 6],.seq (.region false [oo 6 (.mov (.c (.bool false)))]) [0,1,2] (.seq (.seq (.region false [oo 17 (.mov (.s 1)),oo 18 (.len (.s 17)),oo 19 (.bin .gtr false (.s 18) (.c (.int .i64 40))),oo 20 (.mov (.s 19)),oF 21 20 (.mov (.s 2)),oF 22 20 (.len (.s 21)),
 oF 23 20 (.bin .gtr false (.s 22) (.c (.int .i64 40))),oo 24 (.pick (.s 20) (.c (.bool true)) (.s 23))]) [0,1,2,24] (.cond (.s 24) (.seq (.region false [oo 25 (.call 9 []),oo 6 (.mov (.s 25))]) [6] (.ret)) (.skip))) [0,1,2] (.seq (.region false [oo 26 (.mov (.s 0)),
 oo 27 (.call 10 [(.s 26),(.c (.int .i64 3))]),oo 7 (.alloc 26 [(.fsl [])]),⟨none,.store 1 (.s 7) (.s 27),none⟩]) [1,2,7] (.seq (.region true [oo 29 (.load true 1 (.s 7)),oo 30 (.load true 1 (.s 7)),oo 31 (.call 12 [(.s 30),(.c (.fsl []))]),oo 32 (.mov (.s 1)),
 oo 33 (.call 11 [(.s 29),(.s 31),(.s 32)]),oo 28 (.mov (.s 33)),oo 34 (.extract 0 (.s 28)),oo 35 (.extract 1 (.s 28)),oo 8 (.mov (.s 34)),oo 9 (.mov (.s 35))]) [2,7,8] (.seq (.region false [oo 36 (.load true 1 (.s 7)),oo 37 (.mov (.s 2)),oo 38 (.call 18 [(.s 36),(.s 37)]),
 oo 10 (.mov (.s 38))]) [7,8,10] (.seq (.region false [oo 39 (.load true 1 (.s 7)),oo 40 (.mov (.s 8)),oo 41 (.mov (.s 10)),oo 42 (.call 19 [(.s 39),(.s 40),(.s 41)]),oo 11 (.mov (.s 42))]) [7,8,10,11] (.seq (.seq (.region false [oo 12 (.mov (.c (.int .i64 0)))]) [7,8,10,11,12] (.block 0 (.loop (
 .seq (.seq (.region false [oo 43 (.mov (.s 12)),oo 44 (.mov (.s 8)),oo 45 (.len (.s 44)),oo 46 (.bin .leq false (.s 43) (.s 45))]) [7,8,10,11,12,46] (.cond (.s 46) (.skip) (.exit 0))) [7,8,10,11,12] (.seq (.block 1 (.seq (.region true [oo 49 (.load true 1 (.s 7)),oo 50 (.mov (.s 8)),
 oo 51 (.mov (.s 12)),oo 52 (.slice 4 (.s 50) none (some (.s 51)) none),oo 53 (.mov (.s 10)),oo 54 (.call 20 [(.s 49),(.s 52),(.s 53)]),oo 55 (.mov (.s 11)),oo 56 (.bin .geq false (.s 55) (.c (.int .i64 0))),oo 57 (.mov (.s 56)),oT 58 57 (.mov (.s 12)),oT 59 57 (.mov (.s 11)),
 oT 60 57 (.bin .geq false (.s 58) (.s 59)),oo 61 (.pick (.s 57) (.s 60) (.c (.bool false))),oo 62 (.bin .neq true (.s 54) (.s 61))]) [7,8,10,11,12,62] (.cond (.s 62) (.seq (.region false [oo 6 (.mov (.c (.bool false)))]) [6] (.ret)) (.skip)))) [7,8,10,11,12] (.region false [oo 47 (.mov (.s 12)),
 oo 48 (.bin .add false (.s 47) (.c (.int .i64 1))),oo 12 (.mov (.s 48))])))))) [7,8,10,11] (.seq (.seq (.region false [oo 13 (.mov (.c (.int .i64 0)))]) [7,8,10,11,13] (.block 2 (.loop (.seq (.seq (.region false [oo 63 (.mov (.s 13)),oo 64 (.load true 1 (.s 7)),oo 65 (.call 21 [(.s 64)]),
 oo 66 (.bin .lss false (.s 63) (.s 65)),oo 67 (.mov (.s 66)),oT 68 67 (.mov (.s 13)),oT 69 67 (.bin .lss false (.s 68) (.c (.int .i64 1000))),oo 70 (.pick (.s 67) (.s 69) (.c (.bool false))),oo 71 (.mov (.s 70)),oT 72 71 (.mov (.s 11)),oT 73 71 (.bin .geq false (.s 72) (.c (.int .i64 0))),
 oo 74 (.pick (.s 71) (.s 73) (.c (.bool false)))]) [7,8,10,11,13,74] (.cond (.s 74) (.skip) (.exit 2))) [7,8,10,11,13] (.seq (.block 3 (.seq (.region false [oo 77 (.load true 1 (.s 7)),oo 78 (.mov (.s 13)),oo 79 (.call 22 [(.s 77),(.s 78)]),oo 14 (.mov (.s 79))]) [7,8,10,11,13,14] (.seq (
 .region false [oo 15 (.mov (.c (.bool true)))]) [7,8,10,11,13,14,15] (.seq (.seq (.region false [oo 16 (.mov (.c (.int .i64 0)))]) [7,8,10,11,13,14,15,16] (.block 4 (.loop (.seq (.seq (.region false [oo 80 (.mov (.s 16)),oo 81 (.fieldAddr 0 (.s 7)),oo 82 (.load false 1 (.s 81)),
 oo 83 (.len (.s 82)),oo 84 (.bin .lss false (.s 80) (.s 83))]) [7,8,10,11,13,14,15,16,84] (.cond (.s 84) (.skip) (.exit 4))) [7,8,10,11,13,14,15,16] (.seq (.block 5 (.region true [oo 87 (.mov (.s 15)),oo 88 (.mov (.s 87)),oT 89 88 (.load true 1 (.s 7)),oT 90 88 (.mov (.s 14)),
 oT 91 88 (.mov (.s 16)),oT 92 88 (.call 23 [(.s 89),(.s 90),(.s 91)]),oT 93 88 (.load true 1 (.s 7)),oT 94 88 (.mov (.s 8)),oT 95 88 (.mov (.s 16)),oT 96 88 (.call 16 [(.s 93),(.s 94),(.s 95)]),oT 97 88 (.bin .and false (.s 92) (.s 96)),oT 98 88 (.bin .neq false (.s 97) (.c (.int .i64 0))),
 oo 99 (.pick (.s 88) (.s 98) (.c (.bool false))),oo 15 (.mov (.s 99))])) [7,8,10,11,13,14,15,16] (.region false [oo 85 (.mov (.s 16)),oo 86 (.bin .add false (.s 85) (.c (.int .i64 1))),oo 16 (.mov (.s 86))])))))) [7,8,10,11,13,14,15] (.seq (.region false [oo 100 (.mov (.s 15)),
 oo 101 (.mov (.s 100)),oT 102 101 (.load true 1 (.s 7)),oT 103 101 (.mov (.s 10)),oT 104 101 (.mov (.s 14)),oT 105 101 (.call 24 [(.s 102),(.s 103),(.s 104)]),oT 106 101 (.un .not (.s 105)),oo 107 (.pick (.s 101) (.s 106) (.c (.bool false)))]) [7,8,10,11,13,107] (.cond (.s 107) (.seq (
 .region false [oo 6 (.mov (.c (.bool false)))]) [6] (.ret)) (.skip))))))) [7,8,10,11,13] (.region false [oo 75 (.mov (.s 13)),oo 76 (.bin .add false (.s 75) (.c (.int .i64 1))),oo 13 (.mov (.s 76))])))))) [] (.seq (.region false [oo 108 (.call 9 []),oo 6 (.mov (.s 108))]) [6] (.ret)))))))))⟩
def tf9 : TFn := ⟨61,[.tmp 0],.seq (.region false [oo 0 (.mov (.c (.bool false)))]) [] (.seq (.region false [oo 6 (.call 38 []),oo 1 (.alloc 26 [(.fsl [])]),⟨none,.store 1 (.s 1) (.s 6),none⟩]) [1] (.seq (.region false [oo 8 (.load true 1 (.s 1)),
 oo 9 (.build [(.int .i64 0),(.int .i64 0)] [(0,1,(.c (.int .i64 1))),(1,1,(.c (.int .i64 1)))]),oo 10 (.call 15 [(.s 8),(.c (.fsl [])),(.s 9),(.c (.int .i64 4))]),oo 7 (.mov (.s 10)),oo 11 (.extract 0 (.s 7)),oo 12 (.extract 1 (.s 7)),oo 2 (.mov (.s 11)),oo 3 (.mov (.s 12))]) [1,2,3] (.seq (
 .region false [oo 14 (.load true 1 (.s 1)),oo 15 (.mov (.s 2)),oo 16 (.call 33 [(.s 14),(.s 15),(.c (.int .i64 1)),(.c (.int .i64 1))]),oo 13 (.mov (.s 16)),oo 17 (.extract 0 (.s 13)),oo 18 (.extract 1 (.s 13)),oo 4 (.mov (.s 17)),oo 5 (.mov (.s 18))]) [1,3,4,5] (.seq (
 .region false [oo 19 (.mov (.s 3)),oo 20 (.mov (.s 19)),oT 21 20 (.mov (.s 5)),oo 22 (.pick (.s 20) (.s 21) (.c (.bool false))),oo 23 (.mov (.s 22)),oT 24 23 (.mov (.s 4)),oT 25 23 (.len (.s 24)),oT 26 23 (.bin .eql false (.s 25) (.c (.int .i64 2))),
 oo 27 (.pick (.s 23) (.s 26) (.c (.bool false))),oo 28 (.mov (.s 27)),oT 29 28 (.mov (.s 4)),oT 30 28 (.indexAddr 4 (.s 29) (.c (.int .i64 0))),oT 31 28 (.load true 4 (.s 30)),
 oT 32 28 (.build [(.int .i64 0),(.int .i64 0),(.int .i64 0),(.int .i64 0)] [(0,1,(.c (.int .i64 1))),(1,1,(.c (.int .i64 6))),(2,1,(.c (.int .i64 0))),(3,1,(.c (.int .i64 4)))]),oT 33 28 (.eqs false [0,0,0,0] (.s 31) (.s 32)),oo 34 (.pick (.s 28) (.s 33) (.c (.bool false))),oo 35 (.mov (.s 34)),
 oT 36 35 (.mov (.s 4)),oT 37 35 (.indexAddr 4 (.s 36) (.c (.int .i64 1))),oT 38 35 (.load true 4 (.s 37)),oT 39 35 (.build [(.int .i64 0),(.int .i64 0),(.int .i64 0),(.int .i64 0)] [(0,1,(.c (.int .i64 1))),(1,1,(.c (.int .i64 4))),(2,1,(.c (.int .i64 1))),(3,1,(.c (.int .i64 (-1))))]),
 oT 40 35 (.eqs false [0,0,0,0] (.s 38) (.s 39)),oo 41 (.pick (.s 35) (.s 40) (.c (.bool false))),oo 42 (.mov (.s 41)),oT 43 42 (.load true 1 (.s 1)),oT 44 42 (.mov (.s 4)),oT 45 42 (.call 26 [(.s 43),(.s 44)]),oo 46 (.pick (.s 42) (.s 45) (.c (.bool false))),oo 47 (.mov (.s 46)),
 oT 48 47 (.load true 1 (.s 1)),oT 49 47 (.mov (.s 4)),oT 50 47 (.call 16 [(.s 48),(.s 49),(.c (.int .i64 1))]),oT 51 47 (.bin .eql false (.s 50) (.c (.int .i64 4))),oo 52 (.pick (.s 47) (.s 51) (.c (.bool false))),oo 53 (.mov (.s 52)),oT 54 53 (.load true 1 (.s 1)),oT 55 53 (.mov (.s 4)),
 oT 56 53 (.build [(.int .i64 0),(.int .i64 0)] [(0,1,(.c (.int .i64 1))),(1,1,(.c (.int .i64 4)))]),oT 57 53 (.buildSlice 2 35 [(.s 56)]),oT 58 53 (.call 19 [(.s 54),(.s 55),(.s 57)]),oT 59 53 (.bin .eql false (.s 58) (.c (.int .i64 2))),oo 60 (.pick (.s 53) (.s 59) (.c (.bool false))),
 oo 0 (.mov (.s 60))]) [0] (.ret)))))⟩
def tf10 : TFn := ⟨90,[.cell 4 true 1],.seq (.region false [oo 4 (.alloc 26 [(.fsl [])])]) [0,1,4] (.seq (.region false [oo 10 (.mov (.s 0)),oo 11 (.build [(.fsl []),(.int .i64 0)] [(0,1,(.s 10))]),oo 12 (.box 63 (.s 11)),oo 5 (.mov (.s 12))]) [1,4,5] (.seq (.region false [oo 13 (.mov (.s 5)),
 oo 14 (.mov (.s 1)),oo 15 (.call 39 [(.s 13),(.s 14)]),oo 6 (.mov (.s 15))]) [4,5,6] (.seq (.region true [oo 16 (.mov (.s 6)),oo 17 (.indexAddr 3 (.s 16) (.c (.int .i64 0))),oo 18 (.fieldAddr 2 (.s 17)),oo 19 (.load false 1 (.s 18)),oo 20 (.mov (.s 5)),oo 21 (.mov (.s 6)),
 oo 22 (.call 40 [(.s 20),(.s 21),(.c (.int .i64 3))]),oo 23 (.indexAddr 8 (.s 19) (.c (.int .i64 0))),oo 24 (.fieldAddr 6 (.s 23)),⟨none,.store 1 (.s 24) (.s 22),none⟩]) [4,5,6] (.seq (.seq (.region false [oo 7 (.mov (.c (.int .i64 1)))]) [4,5,6,7] (.block 0 (.loop (.seq (.seq (
 .region false [oo 25 (.mov (.s 7)),oo 26 (.mov (.s 6)),oo 27 (.len (.s 26)),oo 28 (.bin .lss false (.s 25) (.s 27))]) [4,5,6,7,28] (.cond (.s 28) (.skip) (.exit 0))) [4,5,6,7] (.seq (.block 1 (.seq (.region false [oo 8 (.mov (.c (.int .i64 0)))]) [4,5,6,7,8] (.block 2 (.loop (.seq (.seq (
 .region false [oo 31 (.mov (.s 8)),oo 32 (.mov (.s 6)),oo 33 (.mov (.s 7)),oo 34 (.indexAddr 3 (.s 32) (.s 33)),oo 35 (.fieldAddr 2 (.s 34)),oo 36 (.load false 1 (.s 35)),oo 37 (.len (.s 36)),oo 38 (.bin .lss false (.s 31) (.s 37))]) [4,5,6,7,8,38] (.cond (.s 38) (.skip) (.exit 2))) [4,5,6,7,8] (
 .seq (.block 3 (.seq (.region false [oo 41 (.mov (.s 6)),oo 42 (.mov (.s 7)),oo 43 (.indexAddr 3 (.s 41) (.s 42)),oo 44 (.fieldAddr 2 (.s 43)),oo 45 (.load false 1 (.s 44)),oo 46 (.mov (.s 8)),oo 47 (.indexAddr 8 (.s 45) (.s 46)),oo 9 (.mov (.s 47))]) [4,5,6,7,8,9] (.seq (.seq (
 .region false [oo 48 (.mov (.s 6)),oo 49 (.mov (.s 7)),oo 50 (.indexAddr 3 (.s 48) (.s 49)),oo 51 (.fieldAddr 1 (.s 50)),oo 52 (.load false 1 (.s 51)),oo 53 (.bin .neq false (.s 52) (.c (.str [])))]) [4,5,6,7,8,9,53] (.cond (.s 53) (.region false [oo 54 (.mov (.s 9)),oo 55 (.mov (.s 7)),
 oo 56 (.bin .sub false (.s 55) (.c (.int .i64 1))),oo 57 (.mov (.s 9)),oo 58 (.nilCheck (.s 57)),oo 59 (.fieldAddr 0 (.s 58)),oo 60 (.load true 5 (.s 59)),oo 61 (.call 41 [(.s 60)]),oo 62 (.build [(.int .i64 0),(.fsl []),(.fsl [])] [(0,1,(.s 56)),(1,2,(.s 61))]),oo 63 (.buildSlice 3 81 [(.s 62)]),
 oo 64 (.buildSlice 1 69 [(.s 63)]),oo 65 (.nilCheck (.s 54)),oo 66 (.fieldAddr 6 (.s 65)),⟨none,.store 1 (.s 66) (.s 64),none⟩]) (.skip))) [4,5,6,7,8,9] (.seq (.region true [oo 67 (.mov (.s 9)),oo 68 (.mov (.s 9)),oo 69 (.nilCheck (.s 68)),oo 70 (.fieldAddr 6 (.s 69)),
 oo 71 (.load false 1 (.s 70)),oo 72 (.mov (.s 5)),oo 73 (.mov (.s 6)),oo 74 (.call 40 [(.s 72),(.s 73),(.c (.int .i64 2))]),oo 75 (.append 1 69 24 (.s 71) (.s 74)),oo 76 (.nilCheck (.s 67)),oo 77 (.fieldAddr 6 (.s 76)),⟨none,.store 1 (.s 77) (.s 75),none⟩]) [4,5,6,7,8,9] (.seq (
 .region false [oo 78 (.mov (.s 5)),oo 79 (.call 42 [(.s 78),(.c (.int .i64 4))]),oo 80 (.bin .eql false (.s 79) (.c (.int .i64 0)))]) [4,5,6,7,8,9,80] (.cond (.s 80) (.region false [oo 81 (.mov (.s 9)),oo 82 (.mov (.s 5)),oo 83 (.mov (.s 6)),oo 84 (.call 43 [(.s 82),(.s 83)]),
 oo 85 (.buildSlice 3 81 [(.s 84)]),oo 86 (.nilCheck (.s 81)),oo 87 (.fieldAddr 7 (.s 86)),⟨none,.store 1 (.s 87) (.s 85),none⟩]) (.skip))))))) [4,5,6,7,8] (.region false [oo 39 (.mov (.s 8)),oo 40 (.bin .add false (.s 39) (.c (.int .i64 1))),oo 8 (.mov (.s 40))]))))))) [4,5,6,7] (
 .region false [oo 29 (.mov (.s 7)),oo 30 (.bin .add false (.s 29) (.c (.int .i64 1))),oo 7 (.mov (.s 30))])))))) [4,6] (.seq (.region false [oo 88 (.mov (.s 6)),oo 89 (.build [(.fsl [])] [(0,1,(.s 88))]),⟨none,.store 1 (.s 4) (.s 89),none⟩]) [4] (.ret))))))⟩
def tf11 : TFn := ⟨87,[.tmp 6,.tmp 7],.seq (.region false [oo 3 (.box 26 (.s 0)),oo 6 (.mov (.c (.fsl []))),oo 7 (.mov (.c (.int .i64 0)))]) [1,2,3] (.seq (.region false [oo 8 (.mov (.c (.fsl [])))]) [1,2,3,8] (.seq (.seq (.region false [oo 9 (.mov (.c (.int .i64 0)))]) [1,2,3,8,9] (.block 0 (
 .loop (.seq (.seq (.region false [oo 17 (.mov (.s 9)),oo 18 (.mov (.s 2)),oo 19 (.len (.s 18)),oo 20 (.bin .leq false (.s 17) (.s 19)),oo 21 (.mov (.s 20)),oT 22 21 (.mov (.s 9)),oT 23 21 (.bin .lss false (.s 22) (.c (.int .i64 12))),
 oo 24 (.pick (.s 21) (.s 23) (.c (.bool false)))]) [1,2,3,8,9,24] (.cond (.s 24) (.skip) (.exit 0))) [1,2,3,8,9] (.seq (.block 1 (.seq (.region false [oo 28 (.load true 1 (.s 3)),oo 29 (.mov (.s 1)),oo 30 (.mov (.s 8)),oo 31 (.call 44 [(.s 28),(.s 29),(.s 30)]),oo 27 (.mov (.s 31)),
 oo 32 (.extract 0 (.s 27)),oo 33 (.extract 1 (.s 27)),oo 10 (.mov (.s 32)),oo 11 (.mov (.s 33))]) [1,2,3,9,10,11] (.seq (.region false [oo 34 (.mov (.s 10)),oo 8 (.mov (.s 34))]) [1,2,3,8,9,11] (.seq (.seq (.region false [oo 35 (.mov (.s 11)),oo 36 (.bin .geq false (.s 35) (.c (.int .i64 0))),
 oo 37 (.mov (.s 36)),oF 38 37 (.mov (.s 9)),oF 39 37 (.mov (.s 2)),oF 40 37 (.len (.s 39)),oF 41 37 (.bin .eql false (.s 38) (.s 40)),oo 42 (.pick (.s 37) (.c (.bool true)) (.s 41))]) [1,2,3,8,9,11,42] (.cond (.s 42) (.seq (.region false [oo 43 (.mov (.s 8)),oo 44 (.mov (.s 11)),
 oo 6 (.mov (.s 43)),oo 7 (.mov (.s 44))]) [6,7] (.ret)) (.skip))) [1,2,3,8,9] (.seq (.region true [oo 45 (.mov (.s 2)),oo 46 (.mov (.s 9)),oo 47 (.indexAddr 1 (.s 45) (.s 46)),oo 48 (.load false 1 (.s 47)),oo 49 (.fieldAddr 0 (.s 3)),oo 50 (.load false 1 (.s 49)),oo 51 (.len (.s 50)),
 oo 52 (.call 13 [(.s 48),(.s 51)]),oo 12 (.mov (.s 52))]) [1,2,3,8,9,12] (.seq (.region false [oo 53 (.load true 1 (.s 3)),oo 54 (.mov (.s 8)),oo 55 (.mov (.s 12)),oo 56 (.call 14 [(.s 53),(.s 54),(.s 55)]),oo 57 (.call 45 [(.s 56)]),oo 13 (.mov (.s 57))]) [1,2,3,8,9,12,13] (.seq (
 .region false [oo 14 (.mov (.c (.int .i64 0)))]) [1,2,3,8,9,12,13,14] (.block 2 (.loop (.seq (.seq (.region false [oo 58 (.mov (.s 14)),oo 59 (.mov (.s 13)),oo 60 (.len (.s 59)),oo 61 (.bin .lss false (.s 58) (.s 60))]) [1,2,3,8,9,12,13,14,61] (.cond (.s 61) (.skip) (
 .exit 2))) [1,2,3,8,9,12,13,14] (.seq (.block 3 (.seq (.region true [oo 65 (.load true 1 (.s 3)),oo 66 (.mov (.s 8)),oo 67 (.mov (.s 12)),oo 68 (.mov (.s 13)),oo 69 (.mov (.s 14)),oo 70 (.mov (.s 2)),oo 71 (.mov (.s 9)),oo 72 (.indexAddr 1 (.s 70) (.s 71)),oo 73 (.load false 1 (.s 72)),
 oo 74 (.call 13 [(.s 73),(.c (.int .i64 7))]),oo 75 (.bin .add false (.s 69) (.s 74)),oo 76 (.mov (.s 13)),oo 77 (.len (.s 76)),oo 78 (.bin .rem false (.s 75) (.s 77)),oo 79 (.indexAddr 1 (.s 68) (.s 78)),oo 80 (.load false 1 (.s 79)),oo 81 (.call 34 [(.s 65),(.s 66),(.s 67),(.s 80)]),
 oo 64 (.mov (.s 81)),oo 82 (.extract 0 (.s 64)),oo 83 (.extract 1 (.s 64)),oo 15 (.mov (.s 82)),oo 16 (.mov (.s 83))]) [1,2,3,8,9,12,13,14,15,16] (.seq (.region false [oo 84 (.mov (.s 16))]) [1,2,3,8,9,12,13,14,15,84] (.cond (.s 84) (.seq (.region false [oo 85 (.mov (.s 15)),
 oo 8 (.mov (.s 85))]) [1,2,3,8,9] (.exit 2)) (.skip))))) [1,2,3,8,9,12,13,14] (.region false [oo 62 (.mov (.s 14)),oo 63 (.bin .add false (.s 62) (.c (.int .i64 1))),oo 14 (.mov (.s 63))])))))))))))) [1,2,3,8,9] (.region false [oo 25 (.mov (.s 9)),
 oo 26 (.bin .add false (.s 25) (.c (.int .i64 1))),oo 9 (.mov (.s 26))])))))) [8] (.seq (.region false [oo 86 (.mov (.s 8)),oo 6 (.mov (.s 86)),oo 7 (.mov (.c (.int .i64 (-1))))]) [6,7] (.ret))))⟩
def tf12 : TFn := ⟨66,[.tmp 4],.seq (.region false [oo 2 (.box 26 (.s 0)),oo 4 (.mov (.c (.fsl [])))]) [1,2] (.seq (.region false [oo 11 (.load true 1 (.s 2)),oo 12 (.call 46 [(.s 11)]),oo 5 (.mov (.s 12))]) [1,2,5] (.seq (.region false [oo 6 (.mov (.c (.fsl [])))]) [1,2,5,6] (.seq (.seq (
 .region false [oo 7 (.mov (.c (.int .i64 0)))]) [1,2,5,6,7] (.block 0 (.loop (.seq (.seq (.region false [oo 13 (.mov (.s 7)),oo 14 (.mov (.s 5)),oo 15 (.len (.s 14)),oo 16 (.bin .lss false (.s 13) (.s 15))]) [1,2,5,6,7,16] (.cond (.s 16) (.skip) (.exit 0))) [1,2,5,6,7] (.seq (.block 1 (
 .region false [oo 19 (.mov (.s 6)),oo 20 (.mov (.s 5)),oo 21 (.mov (.s 7)),oo 22 (.indexAddr 5 (.s 20) (.s 21)),oo 23 (.fieldAddr 4 (.s 22)),oo 24 (.load false 1 (.s 23)),oo 25 (.buildSlice 1 41 [(.s 24)]),oo 26 (.append 1 41 24 (.s 19) (.s 25)),oo 6 (.mov (.s 26))])) [1,2,5,6,7] (
 .region false [oo 17 (.mov (.s 7)),oo 18 (.bin .add false (.s 17) (.c (.int .i64 1))),oo 7 (.mov (.s 18))])))))) [1,2,6] (.seq (.seq (.region false [oo 8 (.mov (.c (.int .i64 0)))]) [1,2,6,8] (.block 2 (.loop (.seq (.seq (.region false [oo 27 (.mov (.s 8)),oo 28 (.mov (.s 1)),oo 29 (.len (.s 28)),
 oo 30 (.bin .lss false (.s 27) (.s 29)),oo 31 (.mov (.s 30)),oT 32 31 (.mov (.s 8)),oT 33 31 (.fieldAddr 0 (.s 2)),oT 34 31 (.load false 1 (.s 33)),oT 35 31 (.len (.s 34)),oT 36 31 (.bin .lss false (.s 32) (.s 35)),oo 37 (.pick (.s 31) (.s 36) (.c (.bool false)))]) [1,2,6,8,37] (.cond (.s 37) (
 .skip) (.exit 2))) [1,2,6,8] (.seq (.block 3 (.seq (.region true [oo 41 (.load true 1 (.s 2)),oo 42 (.mov (.s 8)),oo 43 (.load true 1 (.s 2)),oo 44 (.mov (.s 8)),oo 45 (.call 48 [(.s 43),(.s 44)]),oo 46 (.load true 1 (.s 2)),oo 47 (.mov (.s 8)),oo 48 (.call 48 [(.s 46),(.s 47)]),
 oo 49 (.mov (.s 1)),oo 50 (.mov (.s 8)),oo 51 (.indexAddr 1 (.s 49) (.s 50)),oo 52 (.load false 1 (.s 51)),oo 53 (.bin .and false (.s 48) (.s 52)),oo 54 (.bin .sub false (.s 45) (.s 53)),oo 55 (.build [(.int .i64 0),(.int .i64 0)] [(0,1,(.s 42)),(1,1,(.s 54))]),oo 56 (.buildSlice 2 35 [(.s 55)]),
 oo 57 (.call 47 [(.s 41),(.s 56)]),oo 40 (.mov (.s 57)),oo 58 (.extract 0 (.s 40)),oo 59 (.extract 1 (.s 40)),oo 9 (.mov (.s 58)),oo 10 (.mov (.s 59))]) [1,2,6,8,9,10] (.seq (.region false [oo 60 (.mov (.s 10))]) [1,2,6,8,9,60] (.cond (.s 60) (.region false [oo 61 (.mov (.s 6)),
 oo 62 (.mov (.s 9)),oo 63 (.buildSlice 1 41 [(.s 62)]),oo 64 (.append 1 41 24 (.s 61) (.s 63)),oo 6 (.mov (.s 64))]) (.skip))))) [1,2,6,8] (.region false [oo 38 (.mov (.s 8)),oo 39 (.bin .add false (.s 38) (.c (.int .i64 1))),oo 8 (.mov (.s 39))])))))) [6] (.seq (
 .region false [oo 65 (.mov (.s 6)),oo 4 (.mov (.s 65))]) [4] (.ret))))))⟩
def tf13 : TFn := ⟨17,[.tmp 4],.seq (.region false [oo 4 (.mov (.c (.int .i64 0)))]) [0,1] (.seq (.seq (.region false [oo 6 (.mov (.s 1)),oo 7 (.bin .lss false (.s 6) (.c (.int .i64 1)))]) [0,1,7] (.cond (.s 7) (.seq (.region false [oo 4 (.mov (.c (.int .i64 0)))]) [4] (.ret)) (.skip))) [0,1] (
 .seq (.region false [oo 8 (.mov (.s 0)),oo 9 (.mov (.s 1)),oo 10 (.bin .rem false (.s 8) (.s 9)),oo 5 (.mov (.s 10))]) [1,5] (.seq (.seq (.region false [oo 11 (.mov (.s 5)),oo 12 (.bin .lss false (.s 11) (.c (.int .i64 0)))]) [1,5,12] (.cond (.s 12) (.seq (.region false [oo 13 (.mov (.s 5)),
 oo 14 (.mov (.s 1)),oo 15 (.bin .add false (.s 13) (.s 14)),oo 4 (.mov (.s 15))]) [4] (.ret)) (.skip))) [5] (.seq (.region false [oo 16 (.mov (.s 5)),oo 4 (.mov (.s 16))]) [4] (.ret)))))⟩
def tf14 : TFn := ⟨41,[.tmp 6],.seq (.region false [oo 3 (.box 26 (.s 0)),oo 6 (.mov (.c (.int .i64 0)))]) [1,2,3] (.seq (.seq (.region false [oo 8 (.mov (.s 1)),oo 9 (.len (.s 8)),oo 10 (.bin .sub false (.s 9) (.c (.int .i64 1))),oo 7 (.mov (.s 10))]) [1,2,3,7] (.block 0 (.loop (.seq (.seq (
 .region false [oo 11 (.mov (.s 7)),oo 12 (.bin .geq false (.s 11) (.c (.int .i64 0)))]) [1,2,3,7,12] (.cond (.s 12) (.skip) (.exit 0))) [1,2,3,7] (.seq (.block 1 (.seq (.region false [oo 15 (.mov (.s 1)),oo 16 (.mov (.s 7)),oo 17 (.indexAddr 4 (.s 15) (.s 16)),oo 18 (.fieldAddr 0 (.s 17)),
 oo 19 (.load false 1 (.s 18)),oo 20 (.mov (.s 2)),oo 21 (.bin .eql false (.s 19) (.s 20)),oo 22 (.mov (.s 21)),oT 23 22 (.mov (.s 2)),oT 24 22 (.bin .geq false (.s 23) (.c (.int .i64 0))),oo 25 (.pick (.s 22) (.s 24) (.c (.bool false))),oo 26 (.mov (.s 25)),oT 27 26 (.mov (.s 2)),
 oT 28 26 (.fieldAddr 0 (.s 3)),oT 29 26 (.load false 1 (.s 28)),oT 30 26 (.len (.s 29)),oT 31 26 (.bin .lss false (.s 27) (.s 30)),oo 32 (.pick (.s 26) (.s 31) (.c (.bool false)))]) [1,2,3,7,32] (.cond (.s 32) (.seq (.region false [oo 33 (.mov (.s 1)),oo 34 (.mov (.s 7)),
 oo 35 (.indexAddr 4 (.s 33) (.s 34)),oo 36 (.fieldAddr 1 (.s 35)),oo 37 (.load false 1 (.s 36)),oo 6 (.mov (.s 37))]) [6] (.ret)) (.skip)))) [1,2,3,7] (.region false [oo 13 (.mov (.s 7)),oo 14 (.bin .sub false (.s 13) (.c (.int .i64 1))),oo 7 (.mov (.s 14))])))))) [2,3] (.seq (
 .region false [oo 38 (.load true 1 (.s 3)),oo 39 (.mov (.s 2)),oo 40 (.call 48 [(.s 38),(.s 39)]),oo 6 (.mov (.s 40))]) [6] (.ret)))⟩
def tf15 : TFn := ⟨44,[.tmp 8,.tmp 9],.seq (.region false [oo 4 (.box 26 (.s 0)),oo 6 (.box 35 (.s 2)),oo 8 (.mov (.c (.fsl []))),oo 9 (.mov (.c (.bool false)))]) [1,3,4,6] (.seq (.region false [oo 11 (.load true 1 (.s 4)),oo 12 (.mov (.s 1)),oo 13 (.fieldAddr 0 (.s 6)),
 oo 14 (.load false 1 (.s 13)),oo 15 (.call 16 [(.s 11),(.s 12),(.s 14)]),oo 10 (.mov (.s 15))]) [1,3,6,10] (.seq (.seq (.region false [oo 16 (.mov (.s 3)),oo 17 (.bin .lss false (.s 16) (.c (.int .i64 0))),oo 18 (.mov (.s 17)),oF 19 18 (.mov (.s 10)),oF 20 18 (.fieldAddr 1 (.s 6)),
 oF 21 18 (.load false 1 (.s 20)),oF 22 18 (.bin .and false (.s 19) (.s 21)),oF 23 18 (.bin .eql false (.s 22) (.c (.int .i64 0))),oo 24 (.pick (.s 18) (.c (.bool true)) (.s 23)),oo 25 (.mov (.s 24)),oF 26 25 (.mov (.s 10)),oF 27 25 (.fieldAddr 1 (.s 6)),oF 28 25 (.load false 1 (.s 27)),
 oF 29 25 (.bin .andNot false (.s 26) (.s 28)),oF 30 25 (.bin .eql false (.s 29) (.c (.int .i64 0))),oo 31 (.pick (.s 25) (.c (.bool true)) (.s 30))]) [1,3,6,10,31] (.cond (.s 31) (.seq (.region false [oo 8 (.mov (.c (.fsl []))),oo 9 (.mov (.c (.bool false)))]) [8,9] (.ret)) (.skip))) [1,3,6,10] (
 .seq (.region true [oo 32 (.mov (.s 1)),oo 33 (.fieldAddr 0 (.s 6)),oo 34 (.load false 1 (.s 33)),oo 35 (.mov (.s 10)),oo 36 (.fieldAddr 1 (.s 6)),oo 37 (.load false 1 (.s 36)),oo 38 (.bin .andNot false (.s 35) (.s 37)),oo 39 (.mov (.s 1)),oo 40 (.call 17 [(.s 39)]),oo 41 (.mov (.s 3)),
 oo 42 (.build [(.int .i64 0),(.int .i64 0),(.int .i64 0),(.int .i64 0)] [(0,1,(.s 34)),(1,1,(.s 38)),(2,1,(.s 40)),(3,1,(.s 41))]),oo 43 (.call 49 [(.s 32),(.s 42)]),oo 8 (.mov (.s 43)),oo 9 (.mov (.c (.bool true)))]) [8,9] (.ret))))⟩
def tf16 : TFn := ⟨15,[.tmp 6],.seq (.region false [oo 3 (.box 26 (.s 0)),oo 6 (.mov (.c (.int .i64 0)))]) [1,2,3] (.seq (.seq (.region false [oo 7 (.load true 1 (.s 3)),oo 8 (.mov (.s 2)),oo 9 (.call 50 [(.s 7),(.s 8)]),oo 10 (.bin .eql false (.s 9) (.c (.int .i64 0)))]) [1,2,3,10] (
 .cond (.s 10) (.seq (.region false [oo 6 (.mov (.c (.int .i64 0)))]) [6] (.ret)) (.skip))) [1,2,3] (.seq (.region false [oo 11 (.load true 1 (.s 3)),oo 12 (.mov (.s 1)),oo 13 (.mov (.s 2)),oo 14 (.call 51 [(.s 11),(.s 12),(.s 13)]),oo 6 (.mov (.s 14))]) [6] (.ret)))⟩
def tf17 : TFn := ⟨13,[.tmp 2],.seq (.region false [oo 2 (.mov (.c (.int .i64 0)))]) [0] (.seq (.seq (.region false [oo 3 (.mov (.s 0)),oo 4 (.len (.s 3)),oo 5 (.bin .eql false (.s 4) (.c (.int .i64 0)))]) [0,5] (.cond (.s 5) (.seq (.region false [oo 2 (.mov (.c (.int .i64 0)))]) [2] (.ret)) (
 .skip))) [0] (.seq (.region false [oo 6 (.mov (.s 0)),oo 7 (.mov (.s 0)),oo 8 (.len (.s 7)),oo 9 (.bin .sub false (.s 8) (.c (.int .i64 1))),oo 10 (.indexAddr 4 (.s 6) (.s 9)),oo 11 (.fieldAddr 2 (.s 10)),oo 12 (.load false 1 (.s 11)),oo 2 (.mov (.s 12))]) [2] (.ret)))⟩
def tf18 : TFn := ⟨51,[.tmp 4],.seq (.region false [oo 2 (.box 26 (.s 0)),oo 4 (.mov (.c (.fsl [])))]) [1,2] (.seq (.region false [oo 5 (.mov (.c (.fsl [])))]) [1,2,5] (.seq (.seq (.region false [oo 6 (.mov (.c (.int .i64 0)))]) [1,2,5,6] (.block 0 (.loop (.seq (.seq (
 .region false [oo 10 (.mov (.s 6)),oo 11 (.bin .add false (.s 10) (.c (.int .i64 1))),oo 12 (.mov (.s 1)),oo 13 (.len (.s 12)),oo 14 (.bin .lss false (.s 11) (.s 13)),oo 15 (.mov (.s 14)),oT 16 15 (.mov (.s 6)),oT 17 15 (.bin .lss false (.s 16) (.c (.int .i64 8))),
 oo 18 (.pick (.s 15) (.s 17) (.c (.bool false)))]) [1,2,5,6,18] (.cond (.s 18) (.skip) (.exit 0))) [1,2,5,6] (.seq (.block 1 (.seq (.region true [oo 21 (.mov (.s 1)),oo 22 (.mov (.s 6)),oo 23 (.indexAddr 1 (.s 21) (.s 22)),oo 24 (.load false 1 (.s 23)),oo 25 (.fieldAddr 0 (.s 2)),
 oo 26 (.load false 1 (.s 25)),oo 27 (.len (.s 26)),oo 28 (.call 13 [(.s 24),(.s 27)]),oo 7 (.mov (.s 28))]) [1,2,5,6,7] (.region true [oo 29 (.mov (.s 5)),oo 30 (.mov (.s 7)),oo 31 (.mov (.s 1)),oo 32 (.mov (.s 6)),oo 33 (.bin .add false (.s 32) (.c (.int .i64 1))),
 oo 34 (.indexAddr 1 (.s 31) (.s 33)),oo 35 (.load false 1 (.s 34)),oo 36 (.load true 1 (.s 2)),oo 37 (.mov (.s 7)),oo 38 (.call 48 [(.s 36),(.s 37)]),oo 39 (.call 13 [(.s 35),(.s 38)]),oo 40 (.bin .add false (.c (.int .i64 1)) (.s 39)),
 oo 41 (.build [(.int .i64 0),(.int .i64 0)] [(0,1,(.s 30)),(1,1,(.s 40))]),oo 42 (.buildSlice 2 35 [(.s 41)]),oo 43 (.append 2 35 16 (.s 29) (.s 42)),oo 5 (.mov (.s 43))]))) [1,2,5,6] (.region false [oo 19 (.mov (.s 6)),oo 20 (.bin .add false (.s 19) (.c (.int .i64 2))),
 oo 6 (.mov (.s 20))])))))) [2,5] (.seq (.region false [oo 45 (.load true 1 (.s 2)),oo 46 (.mov (.s 5)),oo 47 (.call 47 [(.s 45),(.s 46)]),oo 44 (.mov (.s 47)),oo 48 (.extract 0 (.s 44)),oo 49 (.extract 1 (.s 44)),oo 8 (.mov (.s 48)),oo 9 (.mov (.s 49))]) [8] (.seq (
 .region false [oo 50 (.mov (.s 8)),oo 4 (.mov (.s 50))]) [4] (.ret)))))⟩
def tf19 : TFn := ⟨89,[.tmp 6],.seq (.region false [oo 3 (.box 26 (.s 0)),oo 6 (.mov (.c (.int .i64 0)))]) [1,2,3] (.seq (.region false [oo 14 (.mov (.s 2)),oo 15 (.len (.s 14)),oo 16 (.makeSlice 1 3 8 [(.int .i64 0)] (.s 15) (.s 15)),oo 7 (.mov (.s 16))]) [1,2,3,7] (.seq (.seq (
 .region false [oo 17 (.mov (.s 2)),oo 18 (.len (.s 17)),oo 19 (.mov (.c (.int .i64 0)))]) [1,2,3,7,17,18,19] (.block 0 (.loop (.seq (.region false [oo 20 (.bin .lss false (.s 19) (.s 18))]) [1,2,3,7,17,18,19,20] (.seq (.cond (.s 20) (.skip) (.exit 0)) [1,2,3,7,17,18,19] (.seq (.block 1 (.seq (
 .region false [oo 21 (.mov (.s 19)),oo 22 (.indexAddr 2 (.s 17) (.s 19)),oo 23 (.load true 2 (.s 22)),oo 9 (.alloc 35 [(.int .i64 0),(.int .i64 0)]),oo 8 (.mov (.s 21)),⟨none,.store 2 (.s 9) (.s 23),none⟩]) [1,2,3,7,8,9,17,18,19] (.region false [oo 24 (.mov (.s 7)),oo 25 (.mov (.s 8)),
 oo 26 (.load true 1 (.s 3)),oo 27 (.fieldAddr 0 (.s 9)),oo 28 (.load false 1 (.s 27)),oo 29 (.call 50 [(.s 26),(.s 28)]),oo 30 (.indexAddr 1 (.s 24) (.s 25)),⟨none,.store 1 (.s 30) (.s 29),none⟩]))) [1,2,3,7,17,18,19] (.region false [oo 31 (.bin .add false (.s 19) (.c (.int .i64 1))),
 oo 19 (.mov (.s 31))]))))))) [1,2,7] (.seq (.seq (.region false [oo 32 (.mov (.s 1)),oo 33 (.len (.s 32)),oo 34 (.bin .add false (.s 33) (.c (.int .i64 1))),oo 35 (.mov (.c (.int .i64 0)))]) [1,2,7,34,35] (.block 2 (.loop (.seq (
 .region false [oo 36 (.bin .lss false (.s 35) (.s 34))]) [1,2,7,34,35,36] (.seq (.cond (.s 36) (.skip) (.exit 2)) [1,2,7,34,35] (.seq (.block 3 (.seq (.region false [oo 37 (.mov (.s 35)),oo 10 (.mov (.s 37))]) [1,2,7,10,34,35] (.seq (
 .region false [oo 11 (.mov (.c (.bool true)))]) [1,2,7,10,11,34,35] (.seq (.seq (.region false [oo 38 (.mov (.s 2)),oo 39 (.len (.s 38)),oo 40 (.mov (.c (.int .i64 0)))]) [1,2,7,10,11,34,35,38,39,40] (.block 4 (.loop (.seq (
 .region false [oo 41 (.bin .lss false (.s 40) (.s 39))]) [1,2,7,10,11,34,35,38,39,40,41] (.seq (.cond (.s 41) (.skip) (.exit 4)) [1,2,7,10,11,34,35,38,39,40] (.seq (.block 5 (.seq (.region false [oo 42 (.mov (.s 40)),oo 43 (.indexAddr 2 (.s 38) (.s 40)),oo 44 (.load true 2 (.s 43)),
 oo 13 (.alloc 35 [(.int .i64 0),(.int .i64 0)]),oo 12 (.mov (.s 42)),⟨none,.store 2 (.s 13) (.s 44),none⟩]) [1,2,7,10,11,12,13,34,35,38,39,40] (.seq (.seq (.region true [oo 45 (.mov (.s 10)),oo 46 (.bin .gtr false (.s 45) (.c (.int .i64 0))),oo 47 (.mov (.s 46)),oT 48 47 (.mov (.s 1)),
 oT 49 47 (.mov (.s 10)),oT 50 47 (.bin .sub false (.s 49) (.c (.int .i64 1))),oT 51 47 (.indexAddr 4 (.s 48) (.s 50)),oT 52 47 (.fieldAddr 0 (.s 51)),oT 53 47 (.load false 1 (.s 52)),oT 54 47 (.fieldAddr 0 (.s 13)),oT 55 47 (.load false 1 (.s 54)),oT 56 47 (.bin .eql false (.s 53) (.s 55)),
 oo 57 (.pick (.s 47) (.s 56) (.c (.bool false))),oo 58 (.mov (.s 57)),oT 59 58 (.mov (.s 7)),oT 60 58 (.mov (.s 12)),oT 61 58 (.indexAddr 1 (.s 59) (.s 60)),oT 62 58 (.load false 1 (.s 61)),oT 63 58 (.bin .neq false (.s 62) (.c (.int .i64 0))),
 oo 64 (.pick (.s 58) (.s 63) (.c (.bool false)))]) [1,2,7,10,11,12,13,34,35,38,39,40,64] (.cond (.s 64) (.region false [oo 65 (.mov (.s 7)),oo 66 (.mov (.s 12)),oo 67 (.mov (.s 1)),oo 68 (.mov (.s 10)),oo 69 (.bin .sub false (.s 68) (.c (.int .i64 1))),oo 70 (.indexAddr 4 (.s 67) (.s 69)),
 oo 71 (.fieldAddr 1 (.s 70)),oo 72 (.load false 1 (.s 71)),oo 73 (.indexAddr 1 (.s 65) (.s 66)),⟨none,.store 1 (.s 73) (.s 72),none⟩]) (.skip))) [1,2,7,10,11,12,13,34,35,38,39,40] (.region true [oo 74 (.mov (.s 11)),oo 75 (.mov (.s 74)),oT 76 75 (.mov (.s 7)),oT 77 75 (.mov (.s 12)),
 oT 78 75 (.indexAddr 1 (.s 76) (.s 77)),oT 79 75 (.load false 1 (.s 78)),oT 80 75 (.fieldAddr 1 (.s 13)),oT 81 75 (.load false 1 (.s 80)),oT 82 75 (.call 52 [(.s 79),(.s 81)]),oT 83 75 (.bin .eql false (.s 82) (.c (.int .i64 2))),oo 84 (.pick (.s 75) (.s 83) (.c (.bool false))),
 oo 11 (.mov (.s 84))])))) [1,2,7,10,11,34,35,38,39,40] (.region false [oo 85 (.bin .add false (.s 40) (.c (.int .i64 1))),oo 40 (.mov (.s 85))]))))))) [1,2,7,10,11,34,35] (.seq (.region false [oo 86 (.mov (.s 11))]) [1,2,7,10,34,35,86] (.cond (.s 86) (.seq (.region false [oo 87 (.mov (.s 10)),
 oo 6 (.mov (.s 87))]) [6] (.ret)) (.skip))))))) [1,2,7,34,35] (.region false [oo 88 (.bin .add false (.s 35) (.c (.int .i64 1))),oo 35 (.mov (.s 88))]))))))) [] (.seq (.region false [oo 6 (.mov (.c (.int .i64 (-1))))]) [6] (.ret)))))⟩
def tf20 : TFn := ⟨11,[.tmp 6],.seq (.region false [oo 3 (.box 26 (.s 0)),oo 4 (.box 28 (.s 1)),oo 6 (.mov (.c (.bool false)))]) [2,3,4] (.seq (.region false [oo 7 (.mov (.s 2)),oo 8 (.mkfn 54 [(.s 3),(.s 4)]),oo 9 (.call 53 [(.s 7),(.s 8)]),oo 10 (.un .not (.s 9)),oo 6 (.mov (.s 10))]) [6] (
 .ret))⟩
def tf21 : TFn := ⟨27,[.tmp 2],.seq (.region false [oo 1 (.box 26 (.s 0)),oo 2 (.mov (.c (.int .i64 0)))]) [1] (.seq (.region false [oo 3 (.mov (.c (.int .i64 1)))]) [1,3] (.seq (.seq (.region false [oo 4 (.mov (.c (.int .i64 0)))]) [1,3,4] (.block 0 (.loop (.seq (.seq (
 .region false [oo 5 (.mov (.s 4)),oo 6 (.fieldAddr 0 (.s 1)),oo 7 (.load false 1 (.s 6)),oo 8 (.len (.s 7)),oo 9 (.bin .lss false (.s 5) (.s 8)),oo 10 (.mov (.s 9)),oT 11 10 (.mov (.s 3)),oT 12 10 (.bin .lss false (.s 11) (.c (.int .i64 1000000))),
 oo 13 (.pick (.s 10) (.s 12) (.c (.bool false)))]) [1,3,4,13] (.cond (.s 13) (.skip) (.exit 0))) [1,3,4] (.seq (.block 1 (.region false [oo 16 (.mov (.s 3)),oo 17 (.fieldAddr 0 (.s 1)),oo 18 (.load false 1 (.s 17)),oo 19 (.mov (.s 4)),oo 20 (.indexAddr 3 (.s 18) (.s 19)),
 oo 21 (.fieldAddr 2 (.s 20)),oo 22 (.load false 1 (.s 21)),oo 23 (.len (.s 22)),oo 24 (.bin .add false (.s 23) (.c (.int .i64 1))),oo 25 (.bin .mul false (.s 16) (.s 24)),oo 3 (.mov (.s 25))])) [1,3,4] (.region false [oo 14 (.mov (.s 4)),oo 15 (.bin .add false (.s 14) (.c (.int .i64 1))),
 oo 4 (.mov (.s 15))])))))) [3] (.seq (.region false [oo 26 (.mov (.s 3)),oo 2 (.mov (.s 26))]) [2] (.ret))))⟩
def tf22 : TFn := ⟨34,[.tmp 4],.seq (.region false [oo 2 (.box 26 (.s 0)),oo 4 (.mov (.c (.fsl [])))]) [1,2] (.seq (.region false [oo 5 (.mov (.c (.fsl [])))]) [1,2,5] (.seq (.seq (.region false [oo 6 (.mov (.c (.int .i64 0)))]) [1,2,5,6] (.block 0 (.loop (.seq (.seq (
 .region false [oo 8 (.mov (.s 6)),oo 9 (.fieldAddr 0 (.s 2)),oo 10 (.load false 1 (.s 9)),oo 11 (.len (.s 10)),oo 12 (.bin .lss false (.s 8) (.s 11))]) [1,2,5,6,12] (.cond (.s 12) (.skip) (.exit 0))) [1,2,5,6] (.seq (.block 1 (.seq (.region false [oo 15 (.fieldAddr 0 (.s 2)),
 oo 16 (.load false 1 (.s 15)),oo 17 (.mov (.s 6)),oo 18 (.indexAddr 3 (.s 16) (.s 17)),oo 19 (.fieldAddr 2 (.s 18)),oo 20 (.load false 1 (.s 19)),oo 21 (.len (.s 20)),oo 22 (.bin .add false (.s 21) (.c (.int .i64 1))),oo 7 (.mov (.s 22))]) [1,2,5,6,7] (.seq (.region false [oo 23 (.mov (.s 5)),
 oo 24 (.mov (.s 1)),oo 25 (.mov (.s 7)),oo 26 (.bin .rem false (.s 24) (.s 25)),oo 27 (.bin .sub false (.s 26) (.c (.int .i64 1))),oo 28 (.buildSlice 1 3 [(.s 27)]),oo 29 (.append 1 3 8 (.s 23) (.s 28)),oo 5 (.mov (.s 29))]) [1,2,5,6,7] (.region false [oo 30 (.mov (.s 1)),oo 31 (.mov (.s 7)),
 oo 32 (.bin .quo false (.s 30) (.s 31)),oo 1 (.mov (.s 32))])))) [1,2,5,6] (.region false [oo 13 (.mov (.s 6)),oo 14 (.bin .add false (.s 13) (.c (.int .i64 1))),oo 6 (.mov (.s 14))])))))) [5] (.seq (.region false [oo 33 (.mov (.s 5)),oo 4 (.mov (.s 33))]) [4] (.ret))))⟩
def tf23 : TFn := ⟨48,[.tmp 6],.seq (.region false [oo 3 (.box 26 (.s 0)),oo 6 (.mov (.c (.int .i64 0)))]) [1,2,3] (.seq (.seq (.region false [oo 7 (.mov (.s 2)),oo 8 (.bin .lss false (.s 7) (.c (.int .i64 0))),oo 9 (.mov (.s 8)),oF 10 9 (.mov (.s 2)),oF 11 9 (.fieldAddr 0 (.s 3)),
 oF 12 9 (.load false 1 (.s 11)),oF 13 9 (.len (.s 12)),oF 14 9 (.bin .geq false (.s 10) (.s 13)),oo 15 (.pick (.s 9) (.c (.bool true)) (.s 14)),oo 16 (.mov (.s 15)),oF 17 16 (.mov (.s 2)),oF 18 16 (.mov (.s 1)),oF 19 16 (.len (.s 18)),oF 20 16 (.bin .geq false (.s 17) (.s 19)),
 oo 21 (.pick (.s 16) (.c (.bool true)) (.s 20))]) [1,2,3,21] (.cond (.s 21) (.seq (.region false [oo 6 (.mov (.c (.int .i64 0)))]) [6] (.ret)) (.skip))) [1,2,3] (.seq (.seq (.region true [oo 22 (.mov (.s 1)),oo 23 (.mov (.s 2)),oo 24 (.indexAddr 1 (.s 22) (.s 23)),oo 25 (.load false 1 (.s 24)),
 oo 26 (.bin .lss false (.s 25) (.c (.int .i64 (-1)))),oo 27 (.mov (.s 26)),oF 28 27 (.mov (.s 1)),oF 29 27 (.mov (.s 2)),oF 30 27 (.indexAddr 1 (.s 28) (.s 29)),oF 31 27 (.load false 1 (.s 30)),oF 32 27 (.fieldAddr 0 (.s 3)),oF 33 27 (.load false 1 (.s 32)),oF 34 27 (.mov (.s 2)),
 oF 35 27 (.indexAddr 3 (.s 33) (.s 34)),oF 36 27 (.fieldAddr 2 (.s 35)),oF 37 27 (.load false 1 (.s 36)),oF 38 27 (.len (.s 37)),oF 39 27 (.min (.s 38) (.c (.int .i64 16))),oF 40 27 (.bin .geq false (.s 31) (.s 39)),oo 41 (.pick (.s 27) (.c (.bool true)) (.s 40))]) [1,2,41] (.cond (.s 41) (.seq (
 .region false [oo 6 (.mov (.c (.int .i64 0)))]) [6] (.ret)) (.skip))) [1,2] (.seq (.region false [oo 42 (.mov (.s 1)),oo 43 (.mov (.s 2)),oo 44 (.indexAddr 1 (.s 42) (.s 43)),oo 45 (.load false 1 (.s 44)),oo 46 (.bin .add false (.s 45) (.c (.int .i64 1))),oo 47 (.call 55 [(.s 46)]),
 oo 6 (.mov (.s 47))]) [6] (.ret))))⟩
def tf24 : TFn := ⟨22,[.tmp 6],.seq (.region false [oo 3 (.box 26 (.s 0)),oo 6 (.mov (.c (.bool false)))]) [1,2,3] (.seq (.seq (.region false [oo 7 (.mov (.c (.int .i64 0)))]) [1,2,3,7] (.block 0 (.loop (.seq (.seq (.region false [oo 8 (.mov (.s 7)),oo 9 (.mov (.s 1)),oo 10 (.len (.s 9)),
 oo 11 (.bin .lss false (.s 8) (.s 10))]) [1,2,3,7,11] (.cond (.s 11) (.skip) (.exit 0))) [1,2,3,7] (.seq (.block 1 (.seq (.region true [oo 14 (.load true 1 (.s 3)),oo 15 (.mov (.s 1)),oo 16 (.mov (.s 7)),oo 17 (.indexAddr 2 (.s 15) (.s 16)),oo 18 (.load true 2 (.s 17)),oo 19 (.mov (.s 2)),
 oo 20 (.call 56 [(.s 14),(.s 18),(.s 19)]),oo 21 (.un .not (.s 20))]) [1,2,3,7,21] (.cond (.s 21) (.seq (.region false [oo 6 (.mov (.c (.bool false)))]) [6] (.ret)) (.skip)))) [1,2,3,7] (.region false [oo 12 (.mov (.s 7)),oo 13 (.bin .add false (.s 12) (.c (.int .i64 1))),
 oo 7 (.mov (.s 13))])))))) [] (.seq (.region false [oo 6 (.mov (.c (.bool true)))]) [6] (.ret)))⟩
def tf26 : TFn := ⟨23,[.tmp 4],.seq (.region false [oo 2 (.box 26 (.s 0)),oo 4 (.mov (.c (.bool false)))]) [1,2] (.seq (.seq (.region false [oo 7 (.mov (.s 1)),oo 8 (.len (.s 7)),oo 9 (.mov (.c (.int .i64 0)))]) [1,2,7,8,9] (.block 0 (.loop (.seq (
 .region false [oo 10 (.bin .lss false (.s 9) (.s 8))]) [1,2,7,8,9,10] (.seq (.cond (.s 10) (.skip) (.exit 0)) [1,2,7,8,9] (.seq (.block 1 (.seq (.region false [oo 11 (.mov (.s 9)),oo 12 (.indexAddr 4 (.s 7) (.s 9)),oo 13 (.load true 4 (.s 12)),
 oo 6 (.alloc 60 [(.int .i64 0),(.int .i64 0),(.int .i64 0),(.int .i64 0)]),oo 5 (.mov (.s 11)),⟨none,.store 4 (.s 6) (.s 13),none⟩]) [1,2,5,6,7,8,9] (.seq (.region true [oo 14 (.load true 1 (.s 2)),oo 15 (.mov (.s 1)),oo 16 (.mov (.s 5)),oo 17 (.mov (.s 5)),
 oo 18 (.slice 4 (.s 15) none (some (.s 16)) (some (.s 17))),oo 19 (.load true 4 (.s 6)),oo 20 (.call 58 [(.s 14),(.s 18),(.s 19)]),oo 21 (.un .not (.s 20))]) [1,2,7,8,9,21] (.cond (.s 21) (.seq (.region false [oo 4 (.mov (.c (.bool false)))]) [4] (.ret)) (.skip))))) [1,2,7,8,9] (
 .region false [oo 22 (.bin .add false (.s 9) (.c (.int .i64 1))),oo 9 (.mov (.s 22))]))))))) [] (.seq (.region false [oo 4 (.mov (.c (.bool true)))]) [4] (.ret)))⟩
def tf27 : TFn := ⟨13,[.tmp 2],.seq (.region false [oo 2 (.mov (.c (.int .i64 0)))]) [0] (.seq (.seq (.region false [oo 3 (.mov (.s 0)),oo 4 (.len (.s 3)),oo 5 (.bin .eql false (.s 4) (.c (.int .i64 0)))]) [0,5] (.cond (.s 5) (.seq (.region false [oo 2 (.mov (.c (.int .i64 0)))]) [2] (.ret)) (
 .skip))) [0] (.seq (.region false [oo 6 (.mov (.s 0)),oo 7 (.mov (.s 0)),oo 8 (.len (.s 7)),oo 9 (.bin .sub false (.s 8) (.c (.int .i64 1))),oo 10 (.indexAddr 4 (.s 6) (.s 9)),oo 11 (.fieldAddr 2 (.s 10)),oo 12 (.load false 1 (.s 11)),oo 2 (.mov (.s 12))]) [2] (.ret)))⟩
def tf30 : TFn := ⟨29,[.tmp 6],.seq (.region false [oo 3 (.box 26 (.s 0)),oo 6 (.mov (.c (.bool false)))]) [1,2,3] (.seq (.seq (.region false [oo 7 (.mov (.c (.int .i64 0)))]) [1,2,3,7] (.block 0 (.loop (.seq (.seq (.region false [oo 8 (.mov (.s 7)),oo 9 (.mov (.s 2)),oo 10 (.len (.s 9)),
 oo 11 (.bin .lss false (.s 8) (.s 10))]) [1,2,3,7,11] (.cond (.s 11) (.skip) (.exit 0))) [1,2,3,7] (.seq (.block 1 (.seq (.region true [oo 14 (.load true 1 (.s 3)),oo 15 (.mov (.s 1)),oo 16 (.mov (.s 2)),oo 17 (.mov (.s 7)),oo 18 (.indexAddr 2 (.s 16) (.s 17)),oo 19 (.fieldAddr 0 (.s 18)),
 oo 20 (.load false 1 (.s 19)),oo 21 (.call 14 [(.s 14),(.s 15),(.s 20)]),oo 22 (.mov (.s 2)),oo 23 (.mov (.s 7)),oo 24 (.indexAddr 2 (.s 22) (.s 23)),oo 25 (.fieldAddr 1 (.s 24)),oo 26 (.load false 1 (.s 25)),oo 27 (.call 60 [(.s 21),(.s 26)]),
 oo 28 (.bin .neq false (.s 27) (.c (.int .i64 2)))]) [1,2,3,7,28] (.cond (.s 28) (.seq (.region false [oo 6 (.mov (.c (.bool false)))]) [6] (.ret)) (.skip)))) [1,2,3,7] (.region false [oo 12 (.mov (.s 7)),oo 13 (.bin .add false (.s 12) (.c (.int .i64 1))),oo 7 (.mov (.s 13))])))))) [] (.seq (
 .region false [oo 6 (.mov (.c (.bool true)))]) [6] (.ret)))⟩
def tf33 : TFn := ⟨53,[.tmp 8,.tmp 9],.seq (.region false [oo 4 (.box 26 (.s 0)),oo 8 (.mov (.c (.fsl []))),oo 9 (.mov (.c (.bool false)))]) [1,2,3,4] (.seq (.seq (.region false [oo 11 (.load true 1 (.s 4)),oo 12 (.mov (.s 2)),oo 13 (.call 50 [(.s 11),(.s 12)]),
 oo 14 (.bin .eql false (.s 13) (.c (.int .i64 0))),oo 15 (.mov (.s 14)),oF 16 15 (.mov (.s 3)),oF 17 15 (.bin .lss false (.s 16) (.c (.int .i64 0))),oo 18 (.pick (.s 15) (.c (.bool true)) (.s 17)),oo 19 (.mov (.s 18)),oF 20 19 (.mov (.s 3)),oF 21 19 (.fieldAddr 0 (.s 4)),
 oF 22 19 (.load false 1 (.s 21)),oF 23 19 (.mov (.s 2)),oF 24 19 (.indexAddr 3 (.s 22) (.s 23)),oF 25 19 (.fieldAddr 2 (.s 24)),oF 26 19 (.load false 1 (.s 25)),oF 27 19 (.len (.s 26)),oF 28 19 (.bin .geq false (.s 20) (.s 27)),oo 29 (.pick (.s 19) (.c (.bool true)) (.s 28))]) [1,2,3,4,29] (
 .cond (.s 29) (.seq (.region false [oo 8 (.mov (.c (.fsl []))),oo 9 (.mov (.c (.bool false)))]) [8,9] (.ret)) (.skip))) [1,2,3,4] (.seq (.region false [oo 30 (.mov (.s 3)),oo 31 (.bin .add false (.s 30) (.c (.int .i64 1))),oo 32 (.bin .shl false (.c (.int .i64 1)) (.s 31)),
 oo 10 (.mov (.s 32))]) [1,2,4,10] (.seq (.seq (.region false [oo 33 (.load true 1 (.s 4)),oo 34 (.mov (.s 1)),oo 35 (.mov (.s 2)),oo 36 (.call 51 [(.s 33),(.s 34),(.s 35)]),oo 37 (.mov (.s 10)),oo 38 (.bin .and false (.s 36) (.s 37)),oo 39 (.bin .eql false (.s 38) (.c (.int .i64 0))),
 oo 40 (.mov (.s 39)),oF 41 40 (.mov (.s 1)),oF 42 40 (.mov (.s 2)),oF 43 40 (.call 61 [(.s 41),(.s 42)]),oo 44 (.pick (.s 40) (.c (.bool true)) (.s 43))]) [1,2,10,44] (.cond (.s 44) (.seq (.region false [oo 8 (.mov (.c (.fsl []))),oo 9 (.mov (.c (.bool false)))]) [8,9] (.ret)) (.skip))) [1,2,10] (
 .seq (.region false [oo 45 (.mov (.s 1)),oo 46 (.mov (.s 2)),oo 47 (.mov (.s 10)),oo 48 (.mov (.s 1)),oo 49 (.call 17 [(.s 48)]),oo 50 (.bin .add false (.s 49) (.c (.int .i64 1))),
 oo 51 (.build [(.int .i64 0),(.int .i64 0),(.int .i64 0),(.int .i64 0)] [(0,1,(.s 46)),(1,1,(.s 47)),(2,1,(.s 50)),(3,1,(.c (.int .i64 (-1))))]),oo 52 (.call 49 [(.s 45),(.s 51)]),oo 8 (.mov (.s 52)),oo 9 (.mov (.c (.bool true)))]) [8,9] (.ret)))))⟩
def tf34 : TFn := ⟨53,[.tmp 8,.tmp 9],.seq (.region false [oo 4 (.box 26 (.s 0)),oo 8 (.mov (.c (.fsl []))),oo 9 (.mov (.c (.bool false)))]) [1,2,3,4] (.seq (.seq (.region false [oo 11 (.mov (.s 2)),oo 12 (.bin .lss false (.s 11) (.c (.int .i64 0))),oo 13 (.mov (.s 12)),oF 14 13 (.mov (.s 2)),
 oF 15 13 (.fieldAddr 0 (.s 4)),oF 16 13 (.load false 1 (.s 15)),oF 17 13 (.len (.s 16)),oF 18 13 (.bin .geq false (.s 14) (.s 17)),oo 19 (.pick (.s 13) (.c (.bool true)) (.s 18)),oo 20 (.mov (.s 19)),oF 21 20 (.mov (.s 3)),oF 22 20 (.bin .lss false (.s 21) (.c (.int .i64 0))),
 oo 23 (.pick (.s 20) (.c (.bool true)) (.s 22)),oo 24 (.mov (.s 23)),oF 25 24 (.mov (.s 3)),oF 26 24 (.fieldAddr 0 (.s 4)),oF 27 24 (.load false 1 (.s 26)),oF 28 24 (.mov (.s 2)),oF 29 24 (.indexAddr 3 (.s 27) (.s 28)),oF 30 24 (.fieldAddr 2 (.s 29)),oF 31 24 (.load false 1 (.s 30)),
 oF 32 24 (.len (.s 31)),oF 33 24 (.bin .geq false (.s 25) (.s 32)),oo 34 (.pick (.s 24) (.c (.bool true)) (.s 33))]) [1,2,3,4,34] (.cond (.s 34) (.seq (.region false [oo 8 (.mov (.c (.fsl []))),oo 9 (.mov (.c (.bool false)))]) [8,9] (.ret)) (.skip))) [1,2,3,4] (.seq (
 .region false [oo 35 (.mov (.s 2)),oo 36 (.mov (.s 3)),oo 37 (.conv .u64 (.s 36)),oo 38 (.bin .shl false (.c (.int .i64 2)) (.s 37)),oo 39 (.mov (.s 1)),oo 40 (.call 27 [(.s 39)]),oo 41 (.bin .add false (.s 40) (.c (.int .i64 1))),
 oo 42 (.build [(.int .i64 0),(.int .i64 0),(.int .i64 0),(.int .i64 0)] [(0,1,(.s 35)),(1,1,(.s 38)),(2,1,(.s 41)),(3,1,(.c (.int .i64 (-1))))]),oo 10 (.alloc 60 [(.int .i64 0),(.int .i64 0),(.int .i64 0),(.int .i64 0)]),⟨none,.store 4 (.s 10) (.s 42),none⟩]) [1,4,10] (.seq (.seq (
 .region false [oo 43 (.load true 1 (.s 4)),oo 44 (.mov (.s 1)),oo 45 (.load true 4 (.s 10)),oo 46 (.call 62 [(.s 43),(.s 44),(.s 45)]),oo 47 (.un .not (.s 46))]) [1,10,47] (.cond (.s 47) (.seq (.region false [oo 8 (.mov (.c (.fsl []))),oo 9 (.mov (.c (.bool false)))]) [8,9] (.ret)) (
 .skip))) [1,10] (.seq (.region true [oo 48 (.mov (.s 1)),oo 49 (.append 4 60 32 (.c (.fsl [])) (.s 48)),oo 50 (.load true 4 (.s 10)),oo 51 (.buildSlice 4 60 [(.s 50)]),oo 52 (.append 4 60 32 (.s 49) (.s 51)),oo 8 (.mov (.s 52)),oo 9 (.mov (.c (.bool true)))]) [8,9] (.ret)))))⟩
def tf35 : TFn := ⟨58,[.tmp 8,.tmp 9],.seq (.region false [oo 4 (.box 26 (.s 0)),oo 6 (.box 35 (.s 2)),oo 8 (.mov (.c (.fsl []))),oo 9 (.mov (.c (.bool false)))]) [1,3,4,6] (.seq (.seq (.region false [oo 12 (.mov (.s 3)),oo 13 (.bin .lss false (.s 12) (.c (.int .i64 0))),oo 14 (.mov (.s 13)),
 oF 15 14 (.fieldAddr 0 (.s 6)),oF 16 14 (.load false 1 (.s 15)),oF 17 14 (.bin .lss false (.s 16) (.c (.int .i64 0))),oo 18 (.pick (.s 14) (.c (.bool true)) (.s 17)),oo 19 (.mov (.s 18)),oF 20 19 (.fieldAddr 0 (.s 6)),oF 21 19 (.load false 1 (.s 20)),oF 22 19 (.fieldAddr 0 (.s 4)),
 oF 23 19 (.load false 1 (.s 22)),oF 24 19 (.len (.s 23)),oF 25 19 (.bin .geq false (.s 21) (.s 24)),oo 26 (.pick (.s 19) (.c (.bool true)) (.s 25))]) [1,3,4,6,26] (.cond (.s 26) (.seq (.region false [oo 8 (.mov (.c (.fsl []))),oo 9 (.mov (.c (.bool false)))]) [8,9] (.ret)) (.skip))) [1,3,4,6] (
 .seq (.region false [oo 27 (.load true 1 (.s 4)),oo 28 (.mov (.s 1)),oo 29 (.fieldAddr 0 (.s 6)),oo 30 (.load false 1 (.s 29)),oo 31 (.call 14 [(.s 27),(.s 28),(.s 30)]),oo 10 (.mov (.s 31))]) [1,3,6,10] (.seq (.region true [oo 32 (.fieldAddr 0 (.s 6)),oo 33 (.load false 1 (.s 32)),
 oo 34 (.mov (.s 10)),oo 35 (.mov (.s 10)),oo 36 (.fieldAddr 1 (.s 6)),oo 37 (.load false 1 (.s 36)),oo 38 (.bin .and false (.s 35) (.s 37)),oo 39 (.bin .sub false (.s 34) (.s 38)),oo 40 (.mov (.s 1)),oo 41 (.call 27 [(.s 40)]),oo 42 (.mov (.s 3)),
 oo 43 (.build [(.int .i64 0),(.int .i64 0),(.int .i64 0),(.int .i64 0)] [(0,1,(.s 33)),(1,1,(.s 39)),(2,1,(.s 41)),(3,1,(.s 42))]),oo 11 (.alloc 60 [(.int .i64 0),(.int .i64 0),(.int .i64 0),(.int .i64 0)]),⟨none,.store 4 (.s 11) (.s 43),none⟩]) [1,10,11] (.seq (.seq (
 .region false [oo 44 (.fieldAddr 1 (.s 11)),oo 45 (.load false 1 (.s 44)),oo 46 (.bin .eql false (.s 45) (.c (.int .i64 0))),oo 47 (.mov (.s 46)),oF 48 47 (.fieldAddr 1 (.s 11)),oF 49 47 (.load false 1 (.s 48)),oF 50 47 (.mov (.s 10)),oF 51 47 (.bin .eql false (.s 49) (.s 50)),
 oo 52 (.pick (.s 47) (.c (.bool true)) (.s 51))]) [1,11,52] (.cond (.s 52) (.seq (.region false [oo 8 (.mov (.c (.fsl []))),oo 9 (.mov (.c (.bool false)))]) [8,9] (.ret)) (.skip))) [1,11] (.seq (.region true [oo 53 (.mov (.s 1)),oo 54 (.append 4 60 32 (.c (.fsl [])) (.s 53)),
 oo 55 (.load true 4 (.s 11)),oo 56 (.buildSlice 4 60 [(.s 55)]),oo 57 (.append 4 60 32 (.s 54) (.s 56)),oo 8 (.mov (.s 57)),oo 9 (.mov (.c (.bool true)))]) [8,9] (.ret))))))⟩
def tf38 : TFn := ⟨18,[.cell 0 true 1],.seq (.region false [oo 0 (.alloc 26 [(.fsl [])])]) [0] (.seq (.region false [oo 2 (.call 66 []),oo 1 (.mov (.s 2))]) [0,1] (.seq (
 .region true [oo 3 (.build [(.int .i64 0),(.int .i64 0),(.int .i64 0),(.str []),(.str []),(.int .i64 0),(.fsl []),(.fsl [])] [(5,1,(.c (.int .i64 (-1))))]),oo 4 (.buildSlice 8 71 [(.s 3)]),oo 5 (.build [(.str []),(.str []),(.fsl [])] [(2,1,(.s 4))]),oo 6 (.mov (.s 1)),
 oo 7 (.indexAddr 5 (.s 6) (.c (.int .i64 0))),oo 8 (.load true 5 (.s 7)),oo 9 (.build [(.int .i64 0),(.int .i64 0),(.int .i64 0),(.str []),(.str []),(.int .i64 0),(.fsl []),(.fsl [])] [(0,5,(.s 8))]),oo 10 (.mov (.s 1)),oo 11 (.indexAddr 5 (.s 10) (.c (.int .i64 1))),oo 12 (.load true 5 (.s 11)),
 oo 13 (.build [(.int .i64 0),(.int .i64 0),(.int .i64 0),(.str []),(.str []),(.int .i64 0),(.fsl []),(.fsl [])] [(0,5,(.s 12))]),oo 14 (.buildSlice 8 71 [(.s 9),(.s 13)]),oo 15 (.build [(.str []),(.str []),(.fsl [])] [(0,1,(.c (.str [97,110,116]))),(2,1,(.s 14))]),
 oo 16 (.buildSlice 3 74 [(.s 5),(.s 15)]),oo 17 (.build [(.fsl [])] [(0,1,(.s 16))]),⟨none,.store 1 (.s 0) (.s 17),none⟩]) [0] (.ret)))⟩
def tf39 : TFn := ⟨100,[.tmp 4],.seq (.region false [oo 4 (.mov (.c (.fsl [])))]) [0,1] (.seq (.region false [oo 14 (.buildSlice 1 9 [(.c (.str [97,110,116])),(.c (.str [98,101,101])),(.c (.str [99,111,119])),(.c (.str [100,111,103])),(.c (.str [101,108,107]))]),oo 5 (.mov (.s 14))]) [0,1,5] (
 .seq (.region false [oo 15 (.build [(.int .i64 0),(.int .i64 0),(.int .i64 0),(.str []),(.str []),(.int .i64 0),(.fsl []),(.fsl [])] [(5,1,(.c (.int .i64 (-1))))]),oo 16 (.buildSlice 8 71 [(.s 15)]),oo 17 (.build [(.str []),(.str []),(.fsl [])] [(2,1,(.s 16))]),oo 18 (.buildSlice 3 74 [(.s 17)]),
 oo 6 (.mov (.s 18))]) [0,1,5,6] (.seq (.region false [oo 19 (.call 66 []),oo 7 (.mov (.s 19))]) [0,1,5,6,7] (.seq (.seq (.region false [oo 8 (.mov (.c (.int .i64 0)))]) [0,1,5,6,7,8] (.block 0 (.loop (.seq (.seq (.region false [oo 20 (.mov (.s 8)),oo 21 (.mov (.s 0)),oo 22 (.mov (.s 1)),
 oo 23 (.call 42 [(.s 21),(.s 22)]),oo 24 (.bin .add false (.c (.int .i64 1)) (.s 23)),oo 25 (.bin .lss false (.s 20) (.s 24)),oo 26 (.mov (.s 25)),oT 27 26 (.mov (.s 8)),oT 28 26 (.mov (.s 5)),oT 29 26 (.len (.s 28)),oT 30 26 (.bin .lss false (.s 27) (.s 29)),
 oo 31 (.pick (.s 26) (.s 30) (.c (.bool false)))]) [0,1,5,6,7,8,31] (.cond (.s 31) (.skip) (.exit 0))) [0,1,5,6,7,8] (.seq (.block 1 (.seq (.region false [oo 9 (.mov (.c (.fsl [])))]) [0,1,5,6,7,8,9] (.seq (.region false [oo 34 (.mov (.s 0)),oo 35 (.call 42 [(.s 34),(.c (.int .i64 16))]),
 oo 10 (.mov (.s 35))]) [0,1,5,6,7,8,9,10] (.seq (.seq (.region false [oo 11 (.mov (.c (.int .i64 0)))]) [0,1,5,6,7,8,9,10,11] (.block 2 (.loop (.seq (.seq (.region false [oo 36 (.mov (.s 11)),oo 37 (.mov (.s 7)),oo 38 (.len (.s 37)),
 oo 39 (.bin .lss false (.s 36) (.s 38))]) [0,1,5,6,7,8,9,10,11,39] (.cond (.s 39) (.skip) (.exit 2))) [0,1,5,6,7,8,9,10,11] (.seq (.block 3 (.seq (.region false [oo 42 (.mov (.s 10)),oo 43 (.mov (.s 11)),oo 44 (.conv .u64 (.s 43)),oo 45 (.bin .shr false (.s 42) (.s 44)),
 oo 46 (.bin .and false (.s 45) (.c (.int .i64 1))),oo 47 (.bin .eql false (.s 46) (.c (.int .i64 1)))]) [0,1,5,6,7,8,9,10,11,47] (.cond (.s 47) (.region false [oo 48 (.mov (.s 9)),oo 49 (.mov (.s 7)),oo 50 (.mov (.s 11)),oo 51 (.indexAddr 5 (.s 49) (.s 50)),oo 52 (.load true 5 (.s 51)),
 oo 53 (.build [(.int .i64 0),(.int .i64 0),(.int .i64 0),(.str []),(.str []),(.int .i64 0),(.fsl []),(.fsl [])] [(0,5,(.s 52))]),oo 54 (.buildSlice 8 71 [(.s 53)]),oo 55 (.append 8 71 112 (.s 48) (.s 54)),oo 9 (.mov (.s 55))]) (.skip)))) [0,1,5,6,7,8,9,10,11] (.region false [oo 40 (.mov (.s 11)),
 oo 41 (.bin .add false (.s 40) (.c (.int .i64 1))),oo 11 (.mov (.s 41))])))))) [0,1,5,6,7,8,9] (.seq (.region false [oo 56 (.mov (.s 6)),oo 57 (.mov (.s 5)),oo 58 (.mov (.s 8)),oo 59 (.indexAddr 1 (.s 57) (.s 58)),oo 60 (.load false 1 (.s 59)),oo 61 (.mov (.s 9)),
 oo 62 (.build [(.str []),(.str []),(.fsl [])] [(0,1,(.s 60)),(2,1,(.s 61))]),oo 63 (.buildSlice 3 74 [(.s 62)]),oo 64 (.append 3 74 56 (.s 56) (.s 63)),oo 6 (.mov (.s 64))]) [0,1,5,6,7,8,9] (.seq (.region false [oo 65 (.mov (.s 8)),oo 66 (.bin .lss false (.s 65) (.c (.int .i64 2))),
 oo 67 (.mov (.s 66)),oT 68 67 (.mov (.s 0)),oT 69 67 (.call 42 [(.s 68),(.c (.int .i64 3))]),oT 70 67 (.bin .eql false (.s 69) (.c (.int .i64 0))),oo 71 (.pick (.s 67) (.s 70) (.c (.bool false)))]) [0,1,5,6,7,8,9,71] (.cond (.s 71) (.seq (
 .region false [oo 12 (.mov (.c (.fsl [])))]) [0,1,5,6,7,8,9,12] (.seq (.seq (.region false [oo 13 (.mov (.c (.int .i64 0)))]) [0,1,5,6,7,8,9,12,13] (.block 4 (.loop (.seq (.seq (.region false [oo 72 (.mov (.s 13)),oo 73 (.mov (.s 9)),oo 74 (.len (.s 73)),
 oo 75 (.bin .lss false (.s 72) (.s 74))]) [0,1,5,6,7,8,9,12,13,75] (.cond (.s 75) (.skip) (.exit 4))) [0,1,5,6,7,8,9,12,13] (.seq (.block 5 (.seq (.region false [oo 78 (.mov (.s 0)),oo 79 (.call 42 [(.s 78),(.c (.int .i64 3))]),
 oo 80 (.bin .gtr false (.s 79) (.c (.int .i64 0)))]) [0,1,5,6,7,8,9,12,13,80] (.cond (.s 80) (.region false [oo 81 (.mov (.s 12)),oo 82 (.mov (.s 9)),oo 83 (.mov (.s 13)),oo 84 (.indexAddr 8 (.s 82) (.s 83)),oo 85 (.fieldAddr 0 (.s 84)),oo 86 (.load true 5 (.s 85)),
 oo 87 (.build [(.int .i64 0),(.int .i64 0),(.int .i64 0),(.str []),(.str []),(.int .i64 0),(.fsl []),(.fsl [])] [(0,5,(.s 86))]),oo 88 (.buildSlice 8 71 [(.s 87)]),oo 89 (.append 8 71 112 (.s 81) (.s 88)),oo 12 (.mov (.s 89))]) (.skip)))) [0,1,5,6,7,8,9,12,13] (.region false [oo 76 (.mov (.s 13)),
 oo 77 (.bin .add false (.s 76) (.c (.int .i64 1))),oo 13 (.mov (.s 77))])))))) [0,1,5,6,7,8,12] (.region false [oo 90 (.mov (.s 6)),oo 91 (.mov (.s 5)),oo 92 (.mov (.s 8)),oo 93 (.indexAddr 1 (.s 91) (.s 92)),oo 94 (.load false 1 (.s 93)),oo 95 (.mov (.s 12)),
 oo 96 (.build [(.str []),(.str []),(.fsl [])] [(0,1,(.s 94)),(1,1,(.c (.str [102]))),(2,1,(.s 95))]),oo 97 (.buildSlice 3 74 [(.s 96)]),oo 98 (.append 3 74 56 (.s 90) (.s 97)),oo 6 (.mov (.s 98))]))) (.skip)))))))) [0,1,5,6,7,8] (.region false [oo 32 (.mov (.s 8)),
 oo 33 (.bin .add false (.s 32) (.c (.int .i64 1))),oo 8 (.mov (.s 33))])))))) [6] (.seq (.region false [oo 99 (.mov (.s 6)),oo 4 (.mov (.s 99))]) [4] (.ret))))))⟩
def tf40 : TFn := ⟨36,[.tmp 6],.seq (.region false [oo 6 (.mov (.c (.fsl [])))]) [0,1,2] (.seq (.region false [oo 7 (.mov (.c (.fsl [])))]) [0,1,2,7] (.seq (.seq (.region false [oo 10 (.mov (.s 0)),oo 11 (.mov (.s 2)),oo 12 (.bin .add false (.s 11) (.c (.int .i64 1))),
 oo 13 (.call 42 [(.s 10),(.s 12)]),oo 8 (.mov (.s 13))]) [0,1,7,8] (.block 0 (.loop (.seq (.seq (.region false [oo 14 (.mov (.s 8)),oo 15 (.bin .gtr false (.s 14) (.c (.int .i64 0)))]) [0,1,7,8,15] (.cond (.s 15) (.skip) (.exit 0))) [0,1,7,8] (.seq (.block 1 (.seq (
 .region false [oo 18 (.mov (.s 0)),oo 19 (.mov (.s 1)),oo 20 (.call 43 [(.s 18),(.s 19)]),oo 21 (.buildSlice 3 81 [(.s 20)]),oo 9 (.mov (.s 21))]) [0,1,7,8,9] (.seq (.seq (.region false [oo 22 (.mov (.s 0)),oo 23 (.call 42 [(.s 22),(.c (.int .i64 3))]),
 oo 24 (.bin .eql false (.s 23) (.c (.int .i64 0)))]) [0,1,7,8,9,24] (.cond (.s 24) (.region false [oo 25 (.mov (.s 9)),oo 26 (.mov (.s 0)),oo 27 (.mov (.s 1)),oo 28 (.call 43 [(.s 26),(.s 27)]),oo 29 (.buildSlice 3 81 [(.s 28)]),oo 30 (.append 3 81 56 (.s 25) (.s 29)),oo 9 (.mov (.s 30))]) (
 .skip))) [0,1,7,8,9] (.region false [oo 31 (.mov (.s 7)),oo 32 (.mov (.s 9)),oo 33 (.buildSlice 1 69 [(.s 32)]),oo 34 (.append 1 69 24 (.s 31) (.s 33)),oo 7 (.mov (.s 34))])))) [0,1,7,8] (.region false [oo 16 (.mov (.s 8)),oo 17 (.bin .sub false (.s 16) (.c (.int .i64 1))),
 oo 8 (.mov (.s 17))])))))) [7] (.seq (.region false [oo 35 (.mov (.s 7)),oo 6 (.mov (.s 35))]) [6] (.ret))))⟩
def tf41 : TFn := ⟨24,[.cell 2 true 2],.seq (.region false [oo 1 (.box 68 (.s 0)),oo 2 (.alloc 78 [(.fsl []),(.fsl [])])]) [1,2] (.seq (.seq (.region false [oo 3 (.load true 5 (.s 1)),oo 4 (.call 67 [(.s 3)]),oo 5 (.un .not (.s 4))]) [1,2,5] (.cond (.s 5) (.seq (.region false [oo 6 (.call 68 []),
 ⟨none,.store 2 (.s 2) (.s 6),none⟩]) [2] (.ret)) (.skip))) [1,2] (.seq (.seq (.region false [oo 7 (.fieldAddr 3 (.s 1)),oo 8 (.load false 1 (.s 7)),oo 9 (.bin .neq false (.s 8) (.c (.str [])))]) [1,2,9] (.cond (.s 9) (.seq (.region true [oo 10 (.load true 5 (.s 1)),oo 11 (.call 69 [(.s 10)]),
 oo 12 (.load true 5 (.s 1)),oo 13 (.call 70 [(.s 12)]),oo 14 (.build [(.int .i64 0),(.int .i64 0),(.int .i64 0),(.int .i64 0),(.str []),(.str []),(.bool false),(.int .i64 0),(.int .i64 0),(.int .i64 0),(.int .i64 0),(.str []),(.str []),(.bool false)] [(0,7,(.s 11)),(7,7,(.s 13))]),
 oo 15 (.buildSlice 14 115 [(.s 14)]),oo 16 (.build [(.fsl []),(.fsl [])] [(1,1,(.s 15))]),⟨none,.store 2 (.s 2) (.s 16),none⟩]) [2] (.ret)) (.skip))) [1,2] (.seq (.region true [oo 17 (.load true 5 (.s 1)),oo 18 (.call 71 [(.s 17)]),oo 19 (.load true 5 (.s 1)),oo 20 (.call 72 [(.s 19)]),
 oo 21 (.build [(.int .i64 0),(.int .i64 0),(.int .i64 0),(.int .i64 0),(.str []),(.str []),(.bool false),(.int .i64 0),(.int .i64 0),(.int .i64 0),(.int .i64 0),(.str []),(.str []),(.bool false)] [(0,7,(.s 18)),(7,7,(.s 20))]),oo 22 (.buildSlice 14 115 [(.s 21)]),
 oo 23 (.build [(.fsl []),(.fsl [])] [(0,1,(.s 22))]),⟨none,.store 2 (.s 2) (.s 23),none⟩]) [2] (.ret))))⟩
def tf42 : TFn := ⟨24,[.tmp 4],.seq (.region false [oo 4 (.mov (.c (.int .i64 0)))]) [0,1] (.seq (.region false [oo 5 (.mov (.s 0)),oo 6 (.nilCheck (.s 5)),oo 7 (.fieldAddr 1 (.s 6)),oo 8 (.load false 1 (.s 7)),oo 9 (.bin .add false (.s 8) (.c (.int .i64 1))),oo 10 (.nilCheck (.s 5)),
 oo 11 (.fieldAddr 1 (.s 10)),⟨none,.store 1 (.s 11) (.s 9),none⟩]) [0,1] (.seq (.region true [oo 12 (.mov (.s 0)),oo 13 (.nilCheck (.s 12)),oo 14 (.fieldAddr 0 (.s 13)),oo 15 (.load false 1 (.s 14)),oo 16 (.mov (.s 0)),oo 17 (.nilCheck (.s 16)),oo 18 (.fieldAddr 1 (.s 17)),
 oo 19 (.load false 1 (.s 18)),oo 20 (.bin .sub false (.s 19) (.c (.int .i64 1))),oo 21 (.call 73 [(.s 15),(.s 20)]),oo 22 (.mov (.s 1)),oo 23 (.call 13 [(.s 21),(.s 22)]),oo 4 (.mov (.s 23))]) [4] (.ret)))⟩
def tf43 : TFn := ⟨21,[.cell 4 true 3],.seq (.region false [oo 4 (.alloc 81 [(.int .i64 0),(.fsl []),(.fsl [])])]) [0,1,4] (.seq (.region false [oo 6 (.mov (.s 0)),oo 7 (.mov (.s 1)),oo 8 (.len (.s 7)),oo 9 (.bin .sub false (.s 8) (.c (.int .i64 1))),oo 10 (.call 42 [(.s 6),(.s 9)]),
 oo 11 (.bin .add false (.c (.int .i64 1)) (.s 10)),oo 5 (.mov (.s 11))]) [0,1,4,5] (.seq (.region false [oo 12 (.mov (.s 5)),oo 13 (.mov (.s 0)),oo 14 (.mov (.s 1)),oo 15 (.mov (.s 5)),oo 16 (.indexAddr 3 (.s 14) (.s 15)),oo 17 (.fieldAddr 2 (.s 16)),oo 18 (.load false 1 (.s 17)),
 oo 19 (.call 74 [(.s 13),(.s 18)]),oo 20 (.build [(.int .i64 0),(.fsl []),(.fsl [])] [(0,1,(.s 12)),(1,2,(.s 19))]),⟨none,.store 3 (.s 4) (.s 20),none⟩]) [4] (.ret)))⟩
def tf44 : TFn := ⟨50,[.tmp 6,.tmp 7],.seq (.region false [oo 3 (.box 26 (.s 0)),oo 6 (.mov (.c (.fsl []))),oo 7 (.mov (.c (.int .i64 0)))]) [1,2,3] (.seq (.region false [oo 12 (.mov (.s 2)),oo 13 (.append 4 60 32 (.c (.fsl [])) (.s 12)),oo 8 (.mov (.s 13))]) [1,3,8] (.seq (.seq (
 .region false [oo 9 (.mov (.c (.int .i64 0)))]) [1,3,8,9] (.block 0 (.loop (.seq (.seq (.region false [oo 14 (.mov (.s 9)),oo 15 (.fieldAddr 0 (.s 3)),oo 16 (.load false 1 (.s 15)),oo 17 (.len (.s 16)),oo 18 (.bin .mul false (.s 17) (.c (.int .i64 18))),
 oo 19 (.bin .leq false (.s 14) (.s 18))]) [1,3,8,9,19] (.cond (.s 19) (.skip) (.exit 0))) [1,3,8,9] (.seq (.block 1 (.seq (.region false [oo 23 (.load true 1 (.s 3)),oo 24 (.mov (.s 1)),oo 25 (.mov (.s 8)),oo 26 (.call 75 [(.s 23),(.s 24),(.s 25)]),oo 22 (.mov (.s 26)),oo 27 (.extract 0 (.s 22)),
 oo 28 (.extract 1 (.s 22)),oo 10 (.mov (.s 27)),oo 11 (.mov (.s 28))]) [1,3,8,9,10,11] (.seq (.seq (.region false [oo 29 (.mov (.s 11)),oo 30 (.bin .lss false (.s 29) (.c (.int .i64 0)))]) [1,3,8,9,10,11,30] (.cond (.s 30) (.seq (.region false [oo 31 (.mov (.s 8)),oo 32 (.mov (.s 10)),
 oo 6 (.mov (.s 31)),oo 7 (.mov (.s 32))]) [6,7] (.ret)) (.skip))) [1,3,8,9,10,11] (.region true [oo 34 (.load true 1 (.s 3)),oo 35 (.mov (.s 8)),oo 36 (.mov (.s 11)),oo 37 (.load true 1 (.s 3)),oo 38 (.mov (.s 1)),oo 39 (.mov (.s 10)),oo 40 (.indexAddr 1 (.s 38) (.s 39)),
 oo 41 (.load false 1 (.s 40)),oo 42 (.mov (.s 11)),oo 43 (.call 76 [(.s 37),(.s 41),(.s 42)]),oo 44 (.build [(.int .i64 0),(.int .i64 0)] [(0,1,(.s 36)),(1,1,(.s 43))]),oo 45 (.mov (.s 10)),oo 46 (.call 35 [(.s 34),(.s 35),(.s 44),(.s 45)]),oo 33 (.mov (.s 46)),oo 47 (.extract 0 (.s 33)),
 oo 48 (.extract 1 (.s 33)),oo 8 (.mov (.s 47))])))) [1,3,8,9] (.region false [oo 20 (.mov (.s 9)),oo 21 (.bin .add false (.s 20) (.c (.int .i64 1))),oo 9 (.mov (.s 21))])))))) [8] (.seq (.region false [oo 49 (.mov (.s 8)),oo 6 (.mov (.s 49)),oo 7 (.mov (.c (.int .i64 (-1))))]) [6,7] (.ret))))⟩
def tf45 : TFn := ⟨20,[.tmp 2],.seq (.region false [oo 2 (.mov (.c (.fsl [])))]) [0] (.seq (.region false [oo 3 (.mov (.c (.fsl [])))]) [0,3] (.seq (.seq (.region false [oo 4 (.mov (.c (.int .i64 0)))]) [0,3,4] (.block 0 (.loop (.seq (.seq (.region false [oo 5 (.mov (.s 4)),
 oo 6 (.bin .leq false (.s 5) (.c (.int .i64 16)))]) [0,3,4,6] (.cond (.s 6) (.skip) (.exit 0))) [0,3,4] (.seq (.block 1 (.seq (.region false [oo 9 (.mov (.s 0)),oo 10 (.mov (.s 4)),oo 11 (.call 55 [(.s 10)]),oo 12 (.bin .and false (.s 9) (.s 11)),
 oo 13 (.bin .neq false (.s 12) (.c (.int .i64 0)))]) [0,3,4,13] (.cond (.s 13) (.region false [oo 14 (.mov (.s 3)),oo 15 (.mov (.s 4)),oo 16 (.bin .sub false (.s 15) (.c (.int .i64 1))),oo 17 (.buildSlice 1 3 [(.s 16)]),oo 18 (.append 1 3 8 (.s 14) (.s 17)),oo 3 (.mov (.s 18))]) (
 .skip)))) [0,3,4] (.region false [oo 7 (.mov (.s 4)),oo 8 (.bin .add false (.s 7) (.c (.int .i64 1))),oo 4 (.mov (.s 8))])))))) [3] (.seq (.region false [oo 19 (.mov (.s 3)),oo 2 (.mov (.s 19))]) [2] (.ret))))⟩
def tf46 : TFn := ⟨98,[.tmp 2],.seq (.region false [oo 1 (.box 26 (.s 0)),oo 2 (.mov (.c (.fsl [])))]) [1] (.seq (.region false [oo 13 (.build [(.int .i64 0),(.int .i64 0)] [(0,1,(.c (.int .i64 0))),(1,1,(.c (.int .i64 1)))]),oo 14 (.buildSlice 2 35 [(.s 13)]),
 oo 15 (.build [(.int .i64 0),(.int .i64 0),(.int .i64 0),(.int .i64 0),(.fsl [])] [(0,1,(.c (.int .i64 1))),(4,1,(.s 14))]),oo 16 (.buildSlice 5 89 [(.s 15)]),oo 3 (.mov (.s 16))]) [1,3] (.seq (.seq (.region false [oo 4 (.mov (.c (.int .i64 0)))]) [1,3,4] (.block 0 (.loop (.seq (.seq (
 .region false [oo 17 (.mov (.s 4)),oo 18 (.fieldAddr 0 (.s 1)),oo 19 (.load false 1 (.s 18)),oo 20 (.len (.s 19)),oo 21 (.bin .lss false (.s 17) (.s 20))]) [1,3,4,21] (.cond (.s 21) (.skip) (.exit 0))) [1,3,4] (.seq (.block 1 (.seq (.region false [oo 5 (.mov (.c (.int .i64 0)))]) [1,3,4,5] (
 .block 2 (.loop (.seq (.seq (.region false [oo 24 (.mov (.s 5)),oo 25 (.fieldAddr 0 (.s 1)),oo 26 (.load false 1 (.s 25)),oo 27 (.mov (.s 4)),oo 28 (.indexAddr 3 (.s 26) (.s 27)),oo 29 (.fieldAddr 2 (.s 28)),oo 30 (.load false 1 (.s 29)),oo 31 (.len (.s 30)),
 oo 32 (.bin .lss false (.s 24) (.s 31))]) [1,3,4,5,32] (.cond (.s 32) (.skip) (.exit 2))) [1,3,4,5] (.seq (.block 3 (.seq (.region false [oo 35 (.fieldAddr 0 (.s 1)),oo 36 (.load false 1 (.s 35)),oo 37 (.mov (.s 4)),oo 38 (.indexAddr 3 (.s 36) (.s 37)),oo 39 (.fieldAddr 2 (.s 38)),
 oo 40 (.load false 1 (.s 39)),oo 41 (.mov (.s 5)),oo 42 (.indexAddr 8 (.s 40) (.s 41)),oo 43 (.load true 8 (.s 42)),oo 6 (.alloc 71 [(.int .i64 0),(.int .i64 0),(.int .i64 0),(.str []),(.str []),(.int .i64 0),(.fsl []),(.fsl [])]),⟨none,.store 8 (.s 6) (.s 43),none⟩]) [1,3,4,5,6] (.seq (.seq (
 .region false [oo 7 (.mov (.c (.int .i64 0)))]) [1,3,4,5,6,7] (.block 4 (.loop (.seq (.seq (.region false [oo 44 (.mov (.s 7)),oo 45 (.fieldAddr 6 (.s 6)),oo 46 (.load false 1 (.s 45)),oo 47 (.len (.s 46)),oo 48 (.bin .lss false (.s 44) (.s 47))]) [1,3,4,5,6,7,48] (.cond (.s 48) (.skip) (
 .exit 4))) [1,3,4,5,6,7] (.seq (.block 5 (.seq (.region true [oo 52 (.load true 1 (.s 1)),oo 53 (.mov (.s 4)),oo 54 (.mov (.s 5)),oo 55 (.fieldAddr 6 (.s 6)),oo 56 (.load false 1 (.s 55)),oo 57 (.mov (.s 7)),oo 58 (.indexAddr 1 (.s 56) (.s 57)),oo 59 (.load false 1 (.s 58)),
 oo 60 (.call 77 [(.s 52),(.s 53),(.s 54),(.s 59),(.c (.bool false))]),oo 51 (.mov (.s 60)),oo 61 (.extract 0 (.s 51)),oo 62 (.extract 1 (.s 51)),oo 8 (.mov (.s 61)),oo 9 (.mov (.s 62))]) [1,3,4,5,6,7,8,9] (.seq (.region false [oo 63 (.mov (.s 9))]) [1,3,4,5,6,7,8,63] (.cond (.s 63) (
 .region false [oo 64 (.load true 1 (.s 1)),oo 65 (.mov (.s 3)),oo 66 (.mov (.s 4)),oo 67 (.mov (.s 8)),oo 68 (.build [(.int .i64 0),(.int .i64 0),(.int .i64 0),(.int .i64 0),(.fsl [])] [(0,1,(.c (.int .i64 2))),(1,1,(.s 66)),(4,1,(.s 67))]),oo 69 (.call 78 [(.s 64),(.s 65),(.s 68)]),
 oo 3 (.mov (.s 69))]) (.skip))))) [1,3,4,5,6,7] (.region false [oo 49 (.mov (.s 7)),oo 50 (.bin .add false (.s 49) (.c (.int .i64 1))),oo 7 (.mov (.s 50))])))))) [1,3,4,5,6] (.seq (.region false [oo 10 (.mov (.c (.int .i64 0)))]) [1,3,4,5,6,10] (.block 6 (.loop (.seq (.seq (
 .region false [oo 70 (.mov (.s 10)),oo 71 (.fieldAddr 7 (.s 6)),oo 72 (.load false 1 (.s 71)),oo 73 (.len (.s 72)),oo 74 (.bin .lss false (.s 70) (.s 73))]) [1,3,4,5,6,10,74] (.cond (.s 74) (.skip) (.exit 6))) [1,3,4,5,6,10] (.seq (.block 7 (.seq (.region true [oo 78 (.load true 1 (.s 1)),
 oo 79 (.mov (.s 4)),oo 80 (.mov (.s 5)),oo 81 (.fieldAddr 7 (.s 6)),oo 82 (.load false 1 (.s 81)),oo 83 (.mov (.s 10)),oo 84 (.mov (.s 10)),oo 85 (.bin .add false (.s 84) (.c (.int .i64 1))),oo 86 (.slice 3 (.s 82) (some (.s 83)) (some (.s 85)) none),
 oo 87 (.call 77 [(.s 78),(.s 79),(.s 80),(.s 86),(.c (.bool true))]),oo 77 (.mov (.s 87)),oo 88 (.extract 0 (.s 77)),oo 89 (.extract 1 (.s 77)),oo 11 (.mov (.s 88)),oo 12 (.mov (.s 89))]) [1,3,4,5,6,10,11,12] (.seq (.region false [oo 90 (.mov (.s 12))]) [1,3,4,5,6,10,11,90] (.cond (.s 90) (
 .region false [oo 91 (.load true 1 (.s 1)),oo 92 (.mov (.s 3)),oo 93 (.mov (.s 4)),oo 94 (.mov (.s 11)),oo 95 (.build [(.int .i64 0),(.int .i64 0),(.int .i64 0),(.int .i64 0),(.fsl [])] [(0,1,(.c (.int .i64 3))),(1,1,(.s 93)),(4,1,(.s 94))]),oo 96 (.call 78 [(.s 91),(.s 92),(.s 95)]),
 oo 3 (.mov (.s 96))]) (.skip))))) [1,3,4,5,6,10] (.region false [oo 75 (.mov (.s 10)),oo 76 (.bin .add false (.s 75) (.c (.int .i64 1))),oo 10 (.mov (.s 76))]))))))))) [1,3,4,5] (.region false [oo 33 (.mov (.s 5)),oo 34 (.bin .add false (.s 33) (.c (.int .i64 1))),
 oo 5 (.mov (.s 34))]))))))) [1,3,4] (.region false [oo 22 (.mov (.s 4)),oo 23 (.bin .add false (.s 22) (.c (.int .i64 1))),oo 4 (.mov (.s 23))])))))) [3] (.seq (.region false [oo 97 (.mov (.s 3)),oo 2 (.mov (.s 97))]) [2] (.ret))))⟩
def tf47 : TFn := ⟨58,[.tmp 4,.tmp 5],.seq (.region false [oo 2 (.box 26 (.s 0)),oo 4 (.mov (.c (.fsl []))),oo 5 (.mov (.c (.bool false)))]) [1,2] (.seq (.region false [oo 8 (.load true 1 (.s 2)),oo 9 (.call 79 [(.s 8)]),oo 6 (.mov (.s 9))]) [1,2,6] (.seq (.seq (
 .region false [oo 7 (.mov (.c (.int .i64 0)))]) [1,2,6,7] (.block 0 (.loop (.seq (.seq (.region false [oo 10 (.mov (.s 7)),oo 11 (.mov (.s 1)),oo 12 (.len (.s 11)),oo 13 (.bin .lss false (.s 10) (.s 12))]) [1,2,6,7,13] (.cond (.s 13) (.skip) (.exit 0))) [1,2,6,7] (.seq (.block 1 (.seq (.seq (
 .region false [oo 16 (.mov (.s 1)),oo 17 (.mov (.s 7)),oo 18 (.indexAddr 2 (.s 16) (.s 17)),oo 19 (.fieldAddr 0 (.s 18)),oo 20 (.load false 1 (.s 19)),oo 21 (.bin .lss false (.s 20) (.c (.int .i64 0))),oo 22 (.mov (.s 21)),oF 23 22 (.mov (.s 1)),oF 24 22 (.mov (.s 7)),
 oF 25 22 (.indexAddr 2 (.s 23) (.s 24)),oF 26 22 (.fieldAddr 0 (.s 25)),oF 27 22 (.load false 1 (.s 26)),oF 28 22 (.mov (.s 6)),oF 29 22 (.len (.s 28)),oF 30 22 (.bin .geq false (.s 27) (.s 29)),oo 31 (.pick (.s 22) (.c (.bool true)) (.s 30))]) [1,2,6,7,31] (.cond (.s 31) (.seq (
 .region false [oo 4 (.mov (.c (.fsl []))),oo 5 (.mov (.c (.bool false)))]) [4,5] (.ret)) (.skip))) [1,2,6,7] (.region true [oo 32 (.mov (.s 6)),oo 33 (.mov (.s 1)),oo 34 (.mov (.s 7)),oo 35 (.indexAddr 2 (.s 33) (.s 34)),oo 36 (.fieldAddr 0 (.s 35)),oo 37 (.load false 1 (.s 36)),
 oo 38 (.mov (.s 6)),oo 39 (.mov (.s 1)),oo 40 (.mov (.s 7)),oo 41 (.indexAddr 2 (.s 39) (.s 40)),oo 42 (.fieldAddr 0 (.s 41)),oo 43 (.load false 1 (.s 42)),oo 44 (.indexAddr 1 (.s 38) (.s 43)),oo 45 (.load false 1 (.s 44)),oo 46 (.mov (.s 1)),oo 47 (.mov (.s 7)),
 oo 48 (.indexAddr 2 (.s 46) (.s 47)),oo 49 (.fieldAddr 1 (.s 48)),oo 50 (.load false 1 (.s 49)),oo 51 (.bin .and false (.s 45) (.s 50)),oo 52 (.indexAddr 1 (.s 32) (.s 37)),⟨none,.store 1 (.s 52) (.s 51),none⟩]))) [1,2,6,7] (.region false [oo 14 (.mov (.s 7)),
 oo 15 (.bin .add false (.s 14) (.c (.int .i64 1))),oo 7 (.mov (.s 15))])))))) [2,6] (.seq (.region false [oo 53 (.load true 1 (.s 2)),oo 54 (.mov (.s 6)),oo 55 (.call 80 [(.s 53),(.s 54)]),oo 56 (.extract 0 (.s 55)),oo 57 (.extract 1 (.s 55)),oo 4 (.mov (.s 56)),oo 5 (.mov (.s 57))]) [4,5] (
 .ret))))⟩
def tf48 : TFn := ⟨25,[.tmp 4],.seq (.region false [oo 2 (.box 26 (.s 0)),oo 4 (.mov (.c (.int .i64 0)))]) [1,2] (.seq (.seq (.region false [oo 5 (.mov (.s 1)),oo 6 (.bin .lss false (.s 5) (.c (.int .i64 0))),oo 7 (.mov (.s 6)),oF 8 7 (.mov (.s 1)),oF 9 7 (.fieldAddr 0 (.s 2)),
 oF 10 7 (.load false 1 (.s 9)),oF 11 7 (.len (.s 10)),oF 12 7 (.bin .geq false (.s 8) (.s 11)),oo 13 (.pick (.s 7) (.c (.bool true)) (.s 12))]) [1,2,13] (.cond (.s 13) (.seq (.region false [oo 4 (.mov (.c (.int .i64 0)))]) [4] (.ret)) (.skip))) [1,2] (.seq (
 .region false [oo 14 (.fieldAddr 0 (.s 2)),oo 15 (.load false 1 (.s 14)),oo 16 (.mov (.s 1)),oo 17 (.indexAddr 3 (.s 15) (.s 16)),oo 18 (.fieldAddr 2 (.s 17)),oo 19 (.load false 1 (.s 18)),oo 20 (.len (.s 19)),oo 21 (.min (.s 20) (.c (.int .i64 16))),
 oo 22 (.bin .add false (.s 21) (.c (.int .i64 1))),oo 23 (.call 55 [(.s 22)]),oo 24 (.bin .sub false (.s 23) (.c (.int .i64 1))),oo 4 (.mov (.s 24))]) [4] (.ret)))⟩
def tf49 : TFn := ⟨14,[.tmp 4],.seq (.region false [oo 3 (.box 60 (.s 1)),oo 4 (.mov (.c (.fsl [])))]) [0,3] (.seq (.region true [oo 5 (.mov (.s 0)),oo 6 (.mov (.s 0)),oo 7 (.len (.s 6)),oo 8 (.mov (.s 0)),oo 9 (.len (.s 8)),oo 10 (.slice 4 (.s 5) none (some (.s 7)) (some (.s 9))),
 oo 11 (.load true 4 (.s 3)),oo 12 (.buildSlice 4 60 [(.s 11)]),oo 13 (.append 4 60 32 (.s 10) (.s 12)),oo 4 (.mov (.s 13))]) [4] (.ret))⟩
def tf50 : TFn := ⟨18,[.tmp 4],.seq (.region false [oo 2 (.box 26 (.s 0)),oo 4 (.mov (.c (.int .i64 0)))]) [1,2] (.seq (.seq (.region false [oo 5 (.load true 1 (.s 2)),oo 6 (.mov (.s 1)),oo 7 (.call 81 [(.s 5),(.s 6)]),oo 8 (.un .not (.s 7))]) [1,2,8] (.cond (.s 8) (.seq (
 .region false [oo 4 (.mov (.c (.int .i64 0)))]) [4] (.ret)) (.skip))) [1,2] (.seq (.region false [oo 9 (.fieldAddr 0 (.s 2)),oo 10 (.load false 1 (.s 9)),oo 11 (.mov (.s 1)),oo 12 (.indexAddr 3 (.s 10) (.s 11)),oo 13 (.fieldAddr 2 (.s 12)),oo 14 (.load false 1 (.s 13)),oo 15 (.len (.s 14)),
 oo 16 (.call 82 [(.s 15)]),oo 17 (.bin .sub false (.s 16) (.c (.int .i64 1))),oo 4 (.mov (.s 17))]) [4] (.ret)))⟩
def tf51 : TFn := ⟨30,[.tmp 6],.seq (.region false [oo 3 (.box 26 (.s 0)),oo 6 (.mov (.c (.int .i64 0)))]) [1,2,3] (.seq (.seq (.region false [oo 8 (.mov (.s 1)),oo 9 (.len (.s 8)),oo 10 (.bin .sub false (.s 9) (.c (.int .i64 1))),oo 7 (.mov (.s 10))]) [1,2,3,7] (.block 0 (.loop (.seq (.seq (
 .region false [oo 11 (.mov (.s 7)),oo 12 (.bin .geq false (.s 11) (.c (.int .i64 0)))]) [1,2,3,7,12] (.cond (.s 12) (.skip) (.exit 0))) [1,2,3,7] (.seq (.block 1 (.seq (.region false [oo 15 (.mov (.s 1)),oo 16 (.mov (.s 7)),oo 17 (.indexAddr 4 (.s 15) (.s 16)),oo 18 (.fieldAddr 0 (.s 17)),
 oo 19 (.load false 1 (.s 18)),oo 20 (.mov (.s 2)),oo 21 (.bin .eql false (.s 19) (.s 20))]) [1,2,3,7,21] (.cond (.s 21) (.seq (.region false [oo 22 (.mov (.s 1)),oo 23 (.mov (.s 7)),oo 24 (.indexAddr 4 (.s 22) (.s 23)),oo 25 (.fieldAddr 1 (.s 24)),oo 26 (.load false 1 (.s 25)),
 oo 6 (.mov (.s 26))]) [6] (.ret)) (.skip)))) [1,2,3,7] (.region false [oo 13 (.mov (.s 7)),oo 14 (.bin .sub false (.s 13) (.c (.int .i64 1))),oo 7 (.mov (.s 14))])))))) [2,3] (.seq (.region false [oo 27 (.load true 1 (.s 3)),oo 28 (.mov (.s 2)),oo 29 (.call 50 [(.s 27),(.s 28)]),
 oo 6 (.mov (.s 29))]) [6] (.ret)))⟩
def tf52 : TFn := ⟨15,[.tmp 4],.seq (.region false [oo 4 (.mov (.c (.int .i64 0)))]) [0,1] (.seq (.block 0 (.seq (.region false [oo 6 (.mov (.s 0)),oo 7 (.mov (.s 1)),oo 8 (.bin .andNot false (.s 6) (.s 7)),oo 9 (.bin .eql false (.s 8) (.c (.int .i64 0))),oo 5 (.mov (.s 9))]) [0,1,5] (
 .cond (.s 5) (.seq (.region false [oo 4 (.mov (.c (.int .i64 2)))]) [4] (.ret)) (.seq (.region false [oo 11 (.mov (.s 0)),oo 12 (.mov (.s 1)),oo 13 (.bin .and false (.s 11) (.s 12)),oo 14 (.bin .eql false (.s 13) (.c (.int .i64 0))),oo 10 (.mov (.s 14))]) [10] (.cond (.s 10) (.seq (
 .region false [oo 4 (.mov (.c (.int .i64 0)))]) [4] (.ret)) (.skip)))))) [] (.seq (.region false [oo 4 (.mov (.c (.int .i64 1)))]) [4] (.ret)))⟩
def tf53 : TFn := ⟨9,[.tmp 4],.seq (.region false [oo 4 (.mov (.c (.bool false)))]) [0,1] (.seq (.region false [oo 5 (.mov (.s 0)),oo 6 (.mov (.s 1)),oo 7 (.call 83 [(.s 5),(.s 6)]),oo 8 (.bin .geq false (.s 7) (.c (.int .i64 0))),oo 4 (.mov (.s 8))]) [4] (.ret))⟩
def tf54 : TFn := ⟨14,[.tmp 4],.seq (.region false [oo 3 (.box 35 (.s 0)),oo 4 (.mov (.c (.bool false)))]) [1,2,3] (.seq (.region true [oo 5 (.load true 1 (.s 1)),oo 6 (.load false 1 (.s 2)),oo 7 (.fieldAddr 0 (.s 3)),oo 8 (.load false 1 (.s 7)),oo 9 (.call 16 [(.s 5),(.s 6),(.s 8)]),
 oo 10 (.fieldAddr 1 (.s 3)),oo 11 (.load false 1 (.s 10)),oo 12 (.call 52 [(.s 9),(.s 11)]),oo 13 (.bin .neq false (.s 12) (.c (.int .i64 2))),oo 4 (.mov (.s 13))]) [4] (.ret))⟩
def tf55 : TFn := ⟨13,[.tmp 2],.seq (.region false [oo 2 (.mov (.c (.int .i64 0)))]) [0] (.seq (.region false [oo 3 (.mov (.c (.int .i64 1)))]) [0,3] (.seq (.seq (.region false [oo 4 (.mov (.c (.int .i64 0)))]) [0,3,4] (.block 0 (.loop (.seq (.seq (.region false [oo 5 (.mov (.s 4)),
 oo 6 (.mov (.s 0)),oo 7 (.bin .lss false (.s 5) (.s 6))]) [0,3,4,7] (.cond (.s 7) (.skip) (.exit 0))) [0,3,4] (.seq (.block 1 (.region false [oo 10 (.mov (.s 3)),oo 11 (.bin .mul false (.s 10) (.c (.int .i64 2))),oo 3 (.mov (.s 11))])) [0,3,4] (.region false [oo 8 (.mov (.s 4)),
 oo 9 (.bin .add false (.s 8) (.c (.int .i64 1))),oo 4 (.mov (.s 9))])))))) [3] (.seq (.region false [oo 12 (.mov (.s 3)),oo 2 (.mov (.s 12))]) [2] (.ret))))⟩
def tf56 : TFn := ⟨16,[.tmp 6],.seq (.region false [oo 3 (.box 26 (.s 0)),oo 4 (.box 35 (.s 1)),oo 6 (.mov (.c (.bool false)))]) [2,3,4] (.seq (.region true [oo 7 (.load true 1 (.s 3)),oo 8 (.mov (.s 2)),oo 9 (.fieldAddr 0 (.s 4)),oo 10 (.load false 1 (.s 9)),
 oo 11 (.call 23 [(.s 7),(.s 8),(.s 10)]),oo 12 (.fieldAddr 1 (.s 4)),oo 13 (.load false 1 (.s 12)),oo 14 (.bin .and false (.s 11) (.s 13)),oo 15 (.bin .neq false (.s 14) (.c (.int .i64 0))),oo 6 (.mov (.s 15))]) [6] (.ret))⟩
def tf58 : TFn := ⟨69,[.tmp 6],.seq (.region false [oo 3 (.box 26 (.s 0)),oo 5 (.box 60 (.s 2)),oo 6 (.mov (.c (.bool false)))]) [1,3,5] (.seq (.region false [oo 8 (.load true 1 (.s 3)),oo 9 (.mov (.s 1)),oo 10 (.fieldAddr 0 (.s 5)),oo 11 (.load false 1 (.s 10)),
 oo 12 (.call 51 [(.s 8),(.s 9),(.s 11)]),oo 7 (.mov (.s 12))]) [1,3,5,7] (.seq (.block 0 (.seq (.region false [oo 14 (.load true 1 (.s 3)),oo 15 (.fieldAddr 0 (.s 5)),oo 16 (.load false 1 (.s 15)),oo 17 (.call 50 [(.s 14),(.s 16)]),oo 18 (.bin .eql false (.s 17) (.c (.int .i64 0))),
 oo 19 (.mov (.s 18)),oF 20 19 (.fieldAddr 3 (.s 5)),oF 21 19 (.load false 1 (.s 20)),oF 22 19 (.bin .lss false (.s 21) (.c (.int .i64 (-1)))),oo 23 (.pick (.s 19) (.c (.bool true)) (.s 22)),oo 24 (.mov (.s 23)),oF 25 24 (.fieldAddr 1 (.s 5)),oF 26 24 (.load false 1 (.s 25)),
 oF 27 24 (.bin .eql false (.s 26) (.c (.int .i64 0))),oo 28 (.pick (.s 24) (.c (.bool true)) (.s 27)),oo 29 (.mov (.s 28)),oF 30 29 (.fieldAddr 1 (.s 5)),oF 31 29 (.load false 1 (.s 30)),oF 32 29 (.mov (.s 7)),oF 33 29 (.bin .andNot false (.s 31) (.s 32)),
 oF 34 29 (.bin .neq false (.s 33) (.c (.int .i64 0))),oo 35 (.pick (.s 29) (.c (.bool true)) (.s 34)),oo 13 (.mov (.s 35))]) [1,5,7,13] (.cond (.s 13) (.seq (.region false [oo 6 (.mov (.c (.bool false)))]) [6] (.ret)) (.seq (.region false [oo 37 (.fieldAddr 3 (.s 5)),oo 38 (.load false 1 (.s 37)),
 oo 39 (.bin .eql false (.s 38) (.c (.int .i64 (-1)))),oo 36 (.mov (.s 39))]) [1,5,7,36] (.cond (.s 36) (.seq (.region true [oo 40 (.fieldAddr 1 (.s 5)),oo 41 (.load false 1 (.s 40)),oo 42 (.call 85 [(.s 41)]),oo 43 (.mov (.s 42)),oT 44 43 (.mov (.s 1)),oT 45 43 (.fieldAddr 0 (.s 5)),
 oT 46 43 (.load false 1 (.s 45)),oT 47 43 (.call 61 [(.s 44),(.s 46)]),oT 48 43 (.un .not (.s 47)),oo 49 (.pick (.s 43) (.s 48) (.c (.bool false))),oo 50 (.mov (.s 49)),oT 51 50 (.fieldAddr 2 (.s 5)),oT 52 50 (.load false 1 (.s 51)),oT 53 50 (.mov (.s 1)),oT 54 50 (.call 17 [(.s 53)]),
 oT 55 50 (.bin .add false (.s 54) (.c (.int .i64 1))),oT 56 50 (.bin .eql false (.s 52) (.s 55)),oo 57 (.pick (.s 50) (.s 56) (.c (.bool false))),oo 6 (.mov (.s 57))]) [6] (.ret)) (.skip)))))) [1,5,7] (.seq (.region true [oo 58 (.fieldAddr 1 (.s 5)),oo 59 (.load false 1 (.s 58)),
 oo 60 (.mov (.s 7)),oo 61 (.bin .neq false (.s 59) (.s 60)),oo 62 (.mov (.s 61)),oT 63 62 (.fieldAddr 2 (.s 5)),oT 64 62 (.load false 1 (.s 63)),oT 65 62 (.mov (.s 1)),oT 66 62 (.call 17 [(.s 65)]),oT 67 62 (.bin .eql false (.s 64) (.s 66)),oo 68 (.pick (.s 62) (.s 67) (.c (.bool false))),
 oo 6 (.mov (.s 68))]) [6] (.ret))))⟩
def tf59 : TFn := ⟨12,[.tmp 2],.seq (.region false [oo 2 (.mov (.c (.int .i64 0)))]) [0] (.seq (.region false [oo 4 (.mov (.s 0)),oo 5 (.call 45 [(.s 4)]),oo 3 (.mov (.s 5))]) [3] (.seq (.seq (.region false [oo 6 (.mov (.s 3)),oo 7 (.len (.s 6)),
 oo 8 (.bin .neq false (.s 7) (.c (.int .i64 1)))]) [3,8] (.cond (.s 8) (.seq (.region false [oo 2 (.mov (.c (.int .i64 (-1))))]) [2] (.ret)) (.skip))) [3] (.seq (.region false [oo 9 (.mov (.s 3)),oo 10 (.indexAddr 1 (.s 9) (.c (.int .i64 0))),oo 11 (.load false 1 (.s 10)),
 oo 2 (.mov (.s 11))]) [2] (.ret))))⟩
def tf60 : TFn := ⟨16,[.tmp 4],.seq (.region false [oo 4 (.mov (.c (.int .i64 0)))]) [0,1] (.seq (.block 0 (.seq (.region false [oo 6 (.mov (.s 0)),oo 7 (.mov (.s 1)),oo 8 (.bin .and false (.s 6) (.s 7)),oo 9 (.mov (.s 0)),oo 10 (.bin .eql false (.s 8) (.s 9)),oo 5 (.mov (.s 10))]) [0,1,5] (
 .cond (.s 5) (.seq (.region false [oo 4 (.mov (.c (.int .i64 2)))]) [4] (.ret)) (.seq (.region false [oo 12 (.mov (.s 0)),oo 13 (.mov (.s 1)),oo 14 (.bin .and false (.s 12) (.s 13)),oo 15 (.bin .eql false (.s 14) (.c (.int .i64 0))),oo 11 (.mov (.s 15))]) [11] (.cond (.s 11) (.seq (
 .region false [oo 4 (.mov (.c (.int .i64 0)))]) [4] (.ret)) (.skip)))))) [] (.seq (.region false [oo 4 (.mov (.c (.int .i64 1)))]) [4] (.ret)))⟩
def tf61 : TFn := ⟨8,[.tmp 4],.seq (.region false [oo 3 (.box 3 (.s 1)),oo 4 (.mov (.c (.bool false)))]) [0,3] (.seq (.region false [oo 5 (.mov (.s 0)),oo 6 (.mkfn 87 [(.s 3)]),oo 7 (.call 86 [(.s 5),(.s 6)]),oo 4 (.mov (.s 7))]) [4] (.ret))⟩
def tf62 : TFn := ⟨85,[.tmp 6],.seq (.region false [oo 3 (.box 26 (.s 0)),oo 5 (.box 60 (.s 2)),oo 6 (.mov (.c (.bool false)))]) [1,3,5] (.seq (.seq (.region false [oo 8 (.fieldAddr 0 (.s 5)),oo 9 (.load false 1 (.s 8)),oo 10 (.bin .lss false (.s 9) (.c (.int .i64 0))),oo 11 (.mov (.s 10)),
 oF 12 11 (.fieldAddr 0 (.s 5)),oF 13 11 (.load false 1 (.s 12)),oF 14 11 (.fieldAddr 0 (.s 3)),oF 15 11 (.load false 1 (.s 14)),oF 16 11 (.len (.s 15)),oF 17 11 (.bin .geq false (.s 13) (.s 16)),oo 18 (.pick (.s 11) (.c (.bool true)) (.s 17)),oo 19 (.mov (.s 18)),oF 20 19 (.fieldAddr 3 (.s 5)),
 oF 21 19 (.load false 1 (.s 20)),oF 22 19 (.bin .lss false (.s 21) (.c (.int .i64 (-1)))),oo 23 (.pick (.s 19) (.c (.bool true)) (.s 22))]) [1,3,5,23] (.cond (.s 23) (.seq (.region false [oo 6 (.mov (.c (.bool false)))]) [6] (.ret)) (.skip))) [1,3,5] (.seq (
 .region false [oo 24 (.load true 1 (.s 3)),oo 25 (.mov (.s 1)),oo 26 (.fieldAddr 0 (.s 5)),oo 27 (.load false 1 (.s 26)),oo 28 (.call 14 [(.s 24),(.s 25),(.s 27)]),oo 7 (.mov (.s 28))]) [1,5,7] (.seq (.seq (.region false [oo 29 (.fieldAddr 3 (.s 5)),oo 30 (.load false 1 (.s 29)),
 oo 31 (.bin .eql false (.s 30) (.c (.int .i64 (-1))))]) [1,5,7,31] (.cond (.s 31) (.seq (.region true [oo 32 (.fieldAddr 1 (.s 5)),oo 33 (.load false 1 (.s 32)),oo 34 (.call 59 [(.s 33)]),oo 35 (.bin .geq false (.s 34) (.c (.int .i64 0))),oo 36 (.mov (.s 35)),oT 37 36 (.fieldAddr 1 (.s 5)),
 oT 38 36 (.load false 1 (.s 37)),oT 39 36 (.mov (.s 7)),oT 40 36 (.bin .and false (.s 38) (.s 39)),oT 41 36 (.fieldAddr 1 (.s 5)),oT 42 36 (.load false 1 (.s 41)),oT 43 36 (.bin .eql false (.s 40) (.s 42)),oo 44 (.pick (.s 36) (.s 43) (.c (.bool false))),oo 45 (.mov (.s 44)),
 oT 46 45 (.mov (.s 1)),oT 47 45 (.fieldAddr 0 (.s 5)),oT 48 45 (.load false 1 (.s 47)),oT 49 45 (.call 88 [(.s 46),(.s 48)]),oT 50 45 (.un .not (.s 49)),oo 51 (.pick (.s 45) (.s 50) (.c (.bool false))),oo 52 (.mov (.s 51)),oT 53 52 (.fieldAddr 2 (.s 5)),oT 54 52 (.load false 1 (.s 53)),
 oT 55 52 (.mov (.s 1)),oT 56 52 (.call 27 [(.s 55)]),oT 57 52 (.bin .add false (.s 56) (.c (.int .i64 1))),oT 58 52 (.bin .eql false (.s 54) (.s 57)),oo 59 (.pick (.s 52) (.s 58) (.c (.bool false))),oo 6 (.mov (.s 59))]) [6] (.ret)) (.skip))) [1,5,7] (.seq (
 .region true [oo 60 (.fieldAddr 1 (.s 5)),oo 61 (.load false 1 (.s 60)),oo 62 (.bin .neq false (.s 61) (.c (.int .i64 0))),oo 63 (.mov (.s 62)),oT 64 63 (.fieldAddr 1 (.s 5)),oT 65 63 (.load false 1 (.s 64)),oT 66 63 (.mov (.s 7)),oT 67 63 (.bin .and false (.s 65) (.s 66)),
 oT 68 63 (.fieldAddr 1 (.s 5)),oT 69 63 (.load false 1 (.s 68)),oT 70 63 (.bin .eql false (.s 67) (.s 69)),oo 71 (.pick (.s 63) (.s 70) (.c (.bool false))),oo 72 (.mov (.s 71)),oT 73 72 (.fieldAddr 1 (.s 5)),oT 74 72 (.load false 1 (.s 73)),oT 75 72 (.mov (.s 7)),
 oT 76 72 (.bin .neq false (.s 74) (.s 75)),oo 77 (.pick (.s 72) (.s 76) (.c (.bool false))),oo 78 (.mov (.s 77)),oT 79 78 (.fieldAddr 2 (.s 5)),oT 80 78 (.load false 1 (.s 79)),oT 81 78 (.mov (.s 1)),oT 82 78 (.call 27 [(.s 81)]),oT 83 78 (.bin .eql false (.s 80) (.s 82)),
 oo 84 (.pick (.s 78) (.s 83) (.c (.bool false))),oo 6 (.mov (.s 84))]) [6] (.ret)))))⟩
def tf63 : TFn := ⟨19,[.tmp 4],.seq (.region false [oo 4 (.mov (.c (.int .i64 0)))]) [0,1] (.seq (.seq (.region false [oo 6 (.mov (.s 0)),oo 7 (.len (.s 6)),oo 8 (.mov (.c (.int .i64 0)))]) [0,1,7,8] (.block 0 (.loop (.seq (.region false [oo 9 (.bin .lss false (.s 8) (.s 7))]) [0,1,7,8,9] (.seq (
 .cond (.s 9) (.skip) (.exit 0)) [0,1,7,8] (.seq (.block 1 (.seq (.region false [oo 10 (.mov (.s 8)),oo 5 (.mov (.s 10))]) [0,1,5,7,8] (.seq (.region false [oo 11 (.mov (.s 1)),oo 12 (.mov (.s 0)),oo 13 (.mov (.s 5)),oo 14 (.indexAddr 4 (.s 12) (.s 13)),oo 15 (.load true 4 (.s 14)),
 oo 16 (.callV (.s 11) [(.s 15)])]) [0,1,5,7,8,16] (.cond (.s 16) (.seq (.region false [oo 17 (.mov (.s 5)),oo 4 (.mov (.s 17))]) [4] (.ret)) (.skip))))) [0,1,7,8] (.region false [oo 18 (.bin .add false (.s 8) (.c (.int .i64 1))),oo 8 (.mov (.s 18))]))))))) [] (.seq (
 .region false [oo 4 (.mov (.c (.int .i64 (-1))))]) [4] (.ret)))⟩
def tf66 : TFn := ⟨6,[.tmp 0],.seq (.region false [oo 0 (.mov (.c (.fsl [])))]) [] (.seq (.region false [oo 1 (.build [(.int .i64 0),(.int .i64 0),(.int .i64 0),(.str []),(.str [])] [(0,1,(.c (.int .i64 1)))]),
 oo 2 (.build [(.int .i64 0),(.int .i64 0),(.int .i64 0),(.str []),(.str [])] [(0,1,(.c (.int .i64 1))),(1,1,(.c (.int .i64 2)))]),oo 3 (.build [(.int .i64 0),(.int .i64 0),(.int .i64 0),(.str []),(.str [])] [(0,1,(.c (.int .i64 2))),(3,1,(.c (.str [97,46,49])))]),
 oo 4 (.build [(.int .i64 0),(.int .i64 0),(.int .i64 0),(.str []),(.str [])] [(0,1,(.c (.int .i64 2)))]),oo 5 (.buildSlice 5 68 [(.s 1),(.s 2),(.s 3),(.s 4)]),oo 0 (.mov (.s 5))]) [0] (.ret))⟩
def tf67 : TFn := ⟨26,[.tmp 2],.seq (.region false [oo 1 (.box 68 (.s 0)),oo 2 (.mov (.c (.bool false)))]) [1] (.seq (.region false [oo 3 (.fieldAddr 0 (.s 1)),oo 4 (.load false 1 (.s 3)),oo 5 (.call 90 [(.s 4)]),oo 6 (.mov (.s 5)),oT 7 6 (.fieldAddr 1 (.s 1)),oT 8 6 (.load false 1 (.s 7)),
 oT 9 6 (.call 90 [(.s 8)]),oo 10 (.pick (.s 6) (.s 9) (.c (.bool false))),oo 11 (.mov (.s 10)),oT 12 11 (.fieldAddr 2 (.s 1)),oT 13 11 (.load false 1 (.s 12)),oT 14 11 (.call 90 [(.s 13)]),oo 15 (.pick (.s 11) (.s 14) (.c (.bool false))),oo 16 (.mov (.s 15)),oT 17 16 (.fieldAddr 3 (.s 1)),
 oT 18 16 (.load false 1 (.s 17)),oT 19 16 (.call 91 [(.s 18),(.c (.bool true))]),oo 20 (.pick (.s 16) (.s 19) (.c (.bool false))),oo 21 (.mov (.s 20)),oT 22 21 (.fieldAddr 4 (.s 1)),oT 23 21 (.load false 1 (.s 22)),oT 24 21 (.call 91 [(.s 23),(.c (.bool false))]),
 oo 25 (.pick (.s 21) (.s 24) (.c (.bool false))),oo 2 (.mov (.s 25))]) [2] (.ret))⟩
def tf68 : TFn := ⟨2,[.cell 0 true 2],.seq (.region false [oo 0 (.alloc 78 [(.fsl []),(.fsl [])])]) [0] (.seq (.region false [oo 1 (.build [(.fsl []),(.fsl [])] []),⟨none,.store 2 (.s 0) (.s 1),none⟩]) [0] (.ret))⟩
def tf69 : TFn := ⟨6,[.cell 2 true 7],.seq (.region false [oo 1 (.box 68 (.s 0)),oo 2 (.alloc 112 [(.int .i64 0),(.int .i64 0),(.int .i64 0),(.int .i64 0),(.str []),(.str []),(.bool false)])]) [1,2] (.seq (.region false [oo 3 (.load true 5 (.s 1)),oo 4 (.call 92 [(.s 3)]),
 oo 5 (.build [(.int .i64 0),(.int .i64 0),(.int .i64 0),(.int .i64 0),(.str []),(.str []),(.bool false)] [(1,5,(.s 4))]),⟨none,.store 7 (.s 2) (.s 5),none⟩]) [2] (.ret))⟩
def tf70 : TFn := ⟨6,[.cell 2 true 7],.seq (.region false [oo 1 (.box 68 (.s 0)),oo 2 (.alloc 112 [(.int .i64 0),(.int .i64 0),(.int .i64 0),(.int .i64 0),(.str []),(.str []),(.bool false)])]) [1,2] (.seq (.region false [oo 3 (.load true 5 (.s 1)),oo 4 (.call 92 [(.s 3)]),
 oo 5 (.build [(.int .i64 0),(.int .i64 0),(.int .i64 0),(.int .i64 0),(.str []),(.str []),(.bool false)] [(1,5,(.s 4)),(6,1,(.c (.bool true)))]),⟨none,.store 7 (.s 2) (.s 5),none⟩]) [2] (.ret))⟩
def tf71 : TFn := ⟨14,[.cell 2 true 7],.seq (.region false [oo 1 (.box 68 (.s 0)),oo 2 (.alloc 112 [(.int .i64 0),(.int .i64 0),(.int .i64 0),(.int .i64 0),(.str []),(.str []),(.bool false)])]) [1,2] (.seq (.seq (.region false [oo 3 (.load true 5 (.s 1)),oo 4 (.call 93 [(.s 3)])]) [1,2,4] (
 .cond (.s 4) (.seq (.region false [oo 5 (.call 94 []),⟨none,.store 7 (.s 2) (.s 5),none⟩]) [2] (.ret)) (.skip))) [1,2] (.seq (.region false [oo 6 (.fieldAddr 0 (.s 1)),oo 7 (.load false 1 (.s 6)),oo 8 (.fieldAddr 1 (.s 1)),oo 9 (.load false 1 (.s 8)),oo 10 (.fieldAddr 2 (.s 1)),
 oo 11 (.load false 1 (.s 10)),oo 12 (.build [(.int .i64 0),(.int .i64 0),(.int .i64 0),(.str []),(.str [])] [(0,1,(.s 7)),(1,1,(.s 9)),(2,1,(.s 11))]),oo 13 (.call 69 [(.s 12)]),⟨none,.store 7 (.s 2) (.s 13),none⟩]) [2] (.ret)))⟩
def tf72 : TFn := ⟨21,[.cell 2 true 7],.seq (.region false [oo 1 (.box 68 (.s 0)),oo 2 (.alloc 112 [(.int .i64 0),(.int .i64 0),(.int .i64 0),(.int .i64 0),(.str []),(.str []),(.bool false)])]) [1,2] (.seq (.region false [oo 6 (.fieldAddr 0 (.s 1)),oo 7 (.load false 1 (.s 6)),
 oo 8 (.fieldAddr 1 (.s 1)),oo 9 (.load false 1 (.s 8)),oo 10 (.fieldAddr 2 (.s 1)),oo 11 (.load false 1 (.s 10)),oo 12 (.build [(.int .i64 0),(.int .i64 0),(.int .i64 0),(.str []),(.str [])] [(0,1,(.s 7)),(1,1,(.s 9)),(2,1,(.s 11))]),oo 13 (.call 95 [(.s 12)]),oo 5 (.mov (.s 13)),
 oo 14 (.extract 0 (.s 5)),oo 15 (.extract 1 (.s 5)),oo 3 (.alloc 68 [(.int .i64 0),(.int .i64 0),(.int .i64 0),(.str []),(.str [])]),⟨none,.store 5 (.s 3) (.s 14),none⟩,oo 4 (.mov (.s 15))]) [2,3,4] (.seq (.seq (.region false [oo 16 (.mov (.s 4)),oo 17 (.un .not (.s 16))]) [2,3,17] (
 .cond (.s 17) (.seq (.region false [oo 18 (.call 96 []),⟨none,.store 7 (.s 2) (.s 18),none⟩]) [2] (.ret)) (.skip))) [2,3] (.seq (.region false [oo 19 (.load true 5 (.s 3)),oo 20 (.call 69 [(.s 19)]),⟨none,.store 7 (.s 2) (.s 20),none⟩]) [2] (.ret))))⟩
def tf73 : TFn := ⟨19,[.tmp 4],.seq (.region false [oo 4 (.mov (.c (.int .i64 0)))]) [0,1] (.seq (.seq (.region false [oo 5 (.mov (.s 1)),oo 6 (.bin .lss false (.s 5) (.c (.int .i64 0))),oo 7 (.mov (.s 6)),oF 8 7 (.mov (.s 1)),oF 9 7 (.mov (.s 0)),oF 10 7 (.len (.s 9)),
 oF 11 7 (.bin .geq false (.s 8) (.s 10)),oo 12 (.pick (.s 7) (.c (.bool true)) (.s 11))]) [0,1,12] (.cond (.s 12) (.seq (.region false [oo 13 (.mov (.s 1)),oo 14 (.bin .rem false (.s 13) (.c (.int .i64 3))),oo 4 (.mov (.s 14))]) [4] (.ret)) (.skip))) [0,1] (.seq (
 .region false [oo 15 (.mov (.s 0)),oo 16 (.mov (.s 1)),oo 17 (.indexAddr 1 (.s 15) (.s 16)),oo 18 (.load false 1 (.s 17)),oo 4 (.mov (.s 18))]) [4] (.ret)))⟩
def tf74 : TFn := ⟨41,[.cell 4 true 2],.seq (.region false [oo 4 (.alloc 78 [(.fsl []),(.fsl [])])]) [0,1,4] (.seq (.region false [oo 8 (.mov (.s 0)),oo 9 (.call 42 [(.s 8),(.c (.int .i64 8))]),oo 5 (.mov (.s 9))]) [0,1,4,5] (.seq (.region false [oo 10 (.call 68 []),
 oo 6 (.alloc 78 [(.fsl []),(.fsl [])]),⟨none,.store 2 (.s 6) (.s 10),none⟩]) [0,1,4,5,6] (.seq (.seq (.region false [oo 7 (.mov (.c (.int .i64 0)))]) [0,1,4,5,6,7] (.block 0 (.loop (.seq (.seq (.region false [oo 11 (.mov (.s 7)),oo 12 (.mov (.s 1)),oo 13 (.len (.s 12)),
 oo 14 (.bin .lss false (.s 11) (.s 13))]) [0,1,4,5,6,7,14] (.cond (.s 14) (.skip) (.exit 0))) [0,1,4,5,6,7] (.seq (.block 1 (.seq (.region false [oo 17 (.mov (.s 5)),oo 18 (.mov (.s 7)),oo 19 (.conv .u64 (.s 18)),oo 20 (.bin .shr false (.s 17) (.s 19)),
 oo 21 (.bin .and false (.s 20) (.c (.int .i64 1))),oo 22 (.bin .eql false (.s 21) (.c (.int .i64 1)))]) [0,1,4,5,6,7,22] (.cond (.s 22) (.region true [oo 23 (.load true 2 (.s 6)),oo 24 (.mov (.s 1)),oo 25 (.mov (.s 7)),oo 26 (.indexAddr 8 (.s 24) (.s 25)),oo 27 (.fieldAddr 0 (.s 26)),
 oo 28 (.load true 5 (.s 27)),oo 29 (.call 41 [(.s 28)]),oo 30 (.call 97 [(.s 23),(.s 29)]),⟨none,.store 2 (.s 6) (.s 30),none⟩]) (.skip)))) [0,1,4,5,6,7] (.region false [oo 15 (.mov (.s 7)),oo 16 (.bin .add false (.s 15) (.c (.int .i64 1))),oo 7 (.mov (.s 16))])))))) [0,4,6] (.seq (.seq (
 .region false [oo 31 (.mov (.s 0)),oo 32 (.call 42 [(.s 31),(.c (.int .i64 6))])]) [4,6,32] (.block 2 (.seq (.region false [oo 34 (.bin .eql false (.s 32) (.c (.int .i64 0))),oo 33 (.mov (.s 34))]) [4,6,32,33] (.cond (.s 33) (.seq (.region false [oo 35 (.call 98 []),
 ⟨none,.store 2 (.s 4) (.s 35),none⟩]) [4] (.ret)) (.seq (.region false [oo 37 (.bin .eql false (.s 32) (.c (.int .i64 1))),oo 36 (.mov (.s 37))]) [4,6,36] (.cond (.s 36) (.seq (.region false [oo 38 (.load true 2 (.s 6)),oo 39 (.call 99 [(.s 38)]),⟨none,.store 2 (.s 4) (.s 39),none⟩]) [4] (.ret)) (
 .skip))))))) [4,6] (.seq (.region false [oo 40 (.load true 2 (.s 6)),⟨none,.store 2 (.s 4) (.s 40),none⟩]) [4] (.ret))))))⟩
def tf75 : TFn := ⟨35,[.tmp 6,.tmp 7],.seq (.region false [oo 3 (.box 26 (.s 0)),oo 6 (.mov (.c (.int .i64 0))),oo 7 (.mov (.c (.int .i64 0)))]) [1,2,3] (.seq (.seq (.region false [oo 8 (.mov (.c (.int .i64 0)))]) [1,2,3,8] (.block 0 (.loop (.seq (.seq (.region false [oo 10 (.mov (.s 8)),
 oo 11 (.mov (.s 1)),oo 12 (.len (.s 11)),oo 13 (.bin .lss false (.s 10) (.s 12))]) [1,2,3,8,13] (.cond (.s 13) (.skip) (.exit 0))) [1,2,3,8] (.seq (.block 1 (.seq (.seq (.region true [oo 16 (.load true 1 (.s 3)),oo 17 (.mov (.s 2)),oo 18 (.mov (.s 1)),oo 19 (.mov (.s 8)),
 oo 20 (.indexAddr 1 (.s 18) (.s 19)),oo 21 (.load false 1 (.s 20)),oo 22 (.call 30 [(.s 16),(.s 17),(.s 21)])]) [1,2,3,8,22] (.cond (.s 22) (.seq (.region false [oo 23 (.mov (.s 8)),oo 6 (.mov (.s 23)),oo 7 (.mov (.c (.int .i64 (-1))))]) [6,7] (.ret)) (.skip))) [1,2,3,8] (.seq (
 .region true [oo 24 (.load true 1 (.s 3)),oo 25 (.mov (.s 2)),oo 26 (.mov (.s 1)),oo 27 (.mov (.s 8)),oo 28 (.indexAddr 1 (.s 26) (.s 27)),oo 29 (.load false 1 (.s 28)),oo 30 (.call 100 [(.s 24),(.s 25),(.s 29)]),oo 9 (.mov (.s 30))]) [1,2,3,8,9] (.seq (.region false [oo 31 (.mov (.s 9)),
 oo 32 (.bin .geq false (.s 31) (.c (.int .i64 0)))]) [1,2,3,8,9,32] (.cond (.s 32) (.seq (.region false [oo 33 (.mov (.s 8)),oo 34 (.mov (.s 9)),oo 6 (.mov (.s 33)),oo 7 (.mov (.s 34))]) [6,7] (.ret)) (.skip)))))) [1,2,3,8] (.region false [oo 14 (.mov (.s 8)),
 oo 15 (.bin .add false (.s 14) (.c (.int .i64 1))),oo 8 (.mov (.s 15))])))))) [] (.seq (.region false [oo 6 (.mov (.c (.int .i64 (-1)))),oo 7 (.mov (.c (.int .i64 (-1))))]) [6,7] (.ret)))⟩
def tf76 : TFn := ⟨29,[.tmp 6],.seq (.region false [oo 3 (.box 26 (.s 0)),oo 6 (.mov (.c (.int .i64 0)))]) [1,2,3] (.seq (.seq (.region false [oo 7 (.mov (.c (.int .i64 0)))]) [1,2,3,7] (.block 0 (.loop (.seq (.seq (.region false [oo 8 (.mov (.s 7)),oo 9 (.mov (.s 1)),oo 10 (.len (.s 9)),
 oo 11 (.bin .lss false (.s 8) (.s 10))]) [1,2,3,7,11] (.cond (.s 11) (.skip) (.exit 0))) [1,2,3,7] (.seq (.block 1 (.seq (.region false [oo 14 (.mov (.s 1)),oo 15 (.mov (.s 7)),oo 16 (.indexAddr 2 (.s 14) (.s 15)),oo 17 (.fieldAddr 0 (.s 16)),oo 18 (.load false 1 (.s 17)),oo 19 (.mov (.s 2)),
 oo 20 (.bin .eql false (.s 18) (.s 19))]) [1,2,3,7,20] (.cond (.s 20) (.seq (.region false [oo 21 (.mov (.s 1)),oo 22 (.mov (.s 7)),oo 23 (.indexAddr 2 (.s 21) (.s 22)),oo 24 (.fieldAddr 1 (.s 23)),oo 25 (.load false 1 (.s 24)),oo 6 (.mov (.s 25))]) [6] (.ret)) (.skip)))) [1,2,3,7] (
 .region false [oo 12 (.mov (.s 7)),oo 13 (.bin .add false (.s 12) (.c (.int .i64 1))),oo 7 (.mov (.s 13))])))))) [2,3] (.seq (.region false [oo 26 (.load true 1 (.s 3)),oo 27 (.mov (.s 2)),oo 28 (.call 48 [(.s 26),(.s 27)]),oo 6 (.mov (.s 28))]) [6] (.ret)))⟩
def tf77 : TFn := ⟨63,[.tmp 10,.tmp 11],.seq (.region false [oo 5 (.box 26 (.s 0)),oo 10 (.mov (.c (.fsl []))),oo 11 (.mov (.c (.bool false)))]) [1,2,3,4,5] (.seq (.region false [oo 15 (.mov (.s 1)),oo 16 (.load true 1 (.s 5)),oo 17 (.mov (.s 1)),oo 18 (.call 48 [(.s 16),(.s 17)]),
 oo 19 (.mov (.s 2)),oo 20 (.conv .u64 (.s 19)),oo 21 (.bin .shl false (.c (.int .i64 2)) (.s 20)),oo 22 (.bin .and false (.s 18) (.s 21)),oo 23 (.build [(.int .i64 0),(.int .i64 0)] [(0,1,(.s 15)),(1,1,(.s 22))]),oo 24 (.buildSlice 2 35 [(.s 23)]),oo 12 (.mov (.s 24))]) [3,4,5,12] (.seq (.seq (
 .region false [oo 13 (.mov (.c (.int .i64 0)))]) [3,4,5,12,13] (.block 0 (.loop (.seq (.seq (.region false [oo 25 (.mov (.s 13)),oo 26 (.mov (.s 3)),oo 27 (.len (.s 26)),oo 28 (.bin .lss false (.s 25) (.s 27))]) [3,4,5,12,13,28] (.cond (.s 28) (.skip) (.exit 0))) [3,4,5,12,13] (.seq (.block 1 (
 .seq (.region true [oo 31 (.load true 1 (.s 5)),oo 32 (.mov (.s 3)),oo 33 (.mov (.s 13)),oo 34 (.indexAddr 3 (.s 32) (.s 33)),oo 35 (.load true 3 (.s 34)),oo 36 (.call 101 [(.s 31),(.s 35)]),oo 14 (.mov (.s 36))]) [3,4,5,12,13,14] (.seq (.seq (.region false [oo 37 (.mov (.s 4)),
 oo 38 (.un .not (.s 37))]) [3,4,5,12,13,14,38] (.cond (.s 38) (.region true [oo 39 (.load true 1 (.s 5)),oo 40 (.mov (.s 3)),oo 41 (.mov (.s 13)),oo 42 (.indexAddr 3 (.s 40) (.s 41)),oo 43 (.fieldAddr 0 (.s 42)),oo 44 (.load false 1 (.s 43)),oo 45 (.call 48 [(.s 39),(.s 44)]),oo 46 (.mov (.s 14)),
 oo 47 (.bin .sub false (.s 45) (.s 46)),oo 14 (.mov (.s 47))]) (.skip))) [3,4,5,12,13,14] (.region false [oo 48 (.mov (.s 12)),oo 49 (.mov (.s 3)),oo 50 (.mov (.s 13)),oo 51 (.indexAddr 3 (.s 49) (.s 50)),oo 52 (.fieldAddr 0 (.s 51)),oo 53 (.load false 1 (.s 52)),oo 54 (.mov (.s 14)),
 oo 55 (.build [(.int .i64 0),(.int .i64 0)] [(0,1,(.s 53)),(1,1,(.s 54))]),oo 56 (.buildSlice 2 35 [(.s 55)]),oo 57 (.append 2 35 16 (.s 48) (.s 56)),oo 12 (.mov (.s 57))])))) [3,4,5,12,13] (.region false [oo 29 (.mov (.s 13)),oo 30 (.bin .add false (.s 29) (.c (.int .i64 1))),
 oo 13 (.mov (.s 30))])))))) [5,12] (.seq (.region false [oo 58 (.load true 1 (.s 5)),oo 59 (.mov (.s 12)),oo 60 (.call 47 [(.s 58),(.s 59)]),oo 61 (.extract 0 (.s 60)),oo 62 (.extract 1 (.s 60)),oo 10 (.mov (.s 61)),oo 11 (.mov (.s 62))]) [10,11] (.ret))))⟩
def tf78 : TFn := ⟨79,[.tmp 6],.seq (.region false [oo 3 (.box 26 (.s 0)),oo 5 (.box 89 (.s 2)),oo 6 (.mov (.c (.fsl [])))]) [1,3,5] (.seq (.seq (.region false [oo 7 (.mov (.c (.int .i64 0)))]) [1,3,5,7] (.block 0 (.loop (.seq (.seq (.region false [oo 10 (.mov (.s 7)),oo 11 (.mov (.s 1)),
 oo 12 (.len (.s 11)),oo 13 (.bin .lss false (.s 10) (.s 12))]) [1,3,5,7,13] (.cond (.s 13) (.skip) (.exit 0))) [1,3,5,7] (.seq (.block 1 (.seq (.region false [oo 16 (.mov (.s 1)),oo 17 (.mov (.s 7)),oo 18 (.indexAddr 5 (.s 16) (.s 17)),oo 19 (.load true 5 (.s 18)),
 oo 8 (.alloc 89 [(.int .i64 0),(.int .i64 0),(.int .i64 0),(.int .i64 0),(.fsl [])]),⟨none,.store 5 (.s 8) (.s 19),none⟩]) [1,3,5,7,8] (.seq (.region true [oo 20 (.fieldAddr 0 (.s 8)),oo 21 (.load false 1 (.s 20)),oo 22 (.fieldAddr 0 (.s 5)),oo 23 (.load false 1 (.s 22)),
 oo 24 (.bin .eql false (.s 21) (.s 23)),oo 25 (.mov (.s 24)),oT 26 25 (.fieldAddr 1 (.s 8)),oT 27 25 (.load false 1 (.s 26)),oT 28 25 (.fieldAddr 1 (.s 5)),oT 29 25 (.load false 1 (.s 28)),oT 30 25 (.bin .eql false (.s 27) (.s 29)),oo 31 (.pick (.s 25) (.s 30) (.c (.bool false))),
 oo 32 (.mov (.s 31)),oT 33 32 (.fieldAddr 4 (.s 8)),oT 34 32 (.load false 1 (.s 33)),oT 35 32 (.fieldAddr 1 (.s 5)),oT 36 32 (.load false 1 (.s 35)),oT 37 32 (.call 103 [(.s 34),(.s 36)]),oT 38 32 (.fieldAddr 4 (.s 5)),oT 39 32 (.load false 1 (.s 38)),oT 40 32 (.fieldAddr 1 (.s 5)),
 oT 41 32 (.load false 1 (.s 40)),oT 42 32 (.call 103 [(.s 39),(.s 41)]),oT 43 32 (.call 102 [(.s 37),(.s 42)]),oo 44 (.pick (.s 32) (.s 43) (.c (.bool false)))]) [1,3,5,7,8,44] (.cond (.s 44) (.seq (.region true [oo 45 (.fieldAddr 1 (.s 5)),oo 46 (.load false 1 (.s 45)),
 oo 47 (.load true 1 (.s 3)),oo 48 (.fieldAddr 4 (.s 8)),oo 49 (.load false 1 (.s 48)),oo 50 (.fieldAddr 1 (.s 5)),oo 51 (.load false 1 (.s 50)),oo 52 (.call 76 [(.s 47),(.s 49),(.s 51)]),oo 53 (.load true 1 (.s 3)),oo 54 (.fieldAddr 4 (.s 5)),oo 55 (.load false 1 (.s 54)),
 oo 56 (.fieldAddr 1 (.s 5)),oo 57 (.load false 1 (.s 56)),oo 58 (.call 76 [(.s 53),(.s 55),(.s 57)]),oo 59 (.bin .or false (.s 52) (.s 58)),oo 60 (.build [(.int .i64 0),(.int .i64 0)] [(0,1,(.s 46)),(1,1,(.s 59))]),oo 61 (.buildSlice 2 35 [(.s 60)]),oo 62 (.fieldAddr 4 (.s 8)),
 oo 63 (.load false 1 (.s 62)),oo 64 (.fieldAddr 1 (.s 5)),oo 65 (.load false 1 (.s 64)),oo 66 (.call 103 [(.s 63),(.s 65)]),oo 67 (.append 2 35 16 (.s 61) (.s 66)),oo 9 (.mov (.s 67))]) [1,7,9] (.seq (.region false [oo 68 (.mov (.s 1)),oo 69 (.mov (.s 7)),oo 70 (.mov (.s 9)),
 oo 71 (.call 104 [(.s 70)]),oo 72 (.indexAddr 5 (.s 68) (.s 69)),oo 73 (.fieldAddr 4 (.s 72)),⟨none,.store 1 (.s 73) (.s 71),none⟩]) [1] (.seq (.region false [oo 74 (.mov (.s 1)),oo 6 (.mov (.s 74))]) [6] (.ret)))) (.skip))))) [1,3,5,7] (.region false [oo 14 (.mov (.s 7)),
 oo 15 (.bin .add false (.s 14) (.c (.int .i64 1))),oo 7 (.mov (.s 15))])))))) [1,5] (.seq (.region false [oo 75 (.mov (.s 1)),oo 76 (.load true 5 (.s 5)),oo 77 (.buildSlice 5 89 [(.s 76)]),oo 78 (.append 5 89 56 (.s 75) (.s 77)),oo 6 (.mov (.s 78))]) [6] (.ret)))⟩
def tf79 : TFn := ⟨19,[.tmp 2],.seq (.region false [oo 1 (.box 26 (.s 0)),oo 2 (.mov (.c (.fsl [])))]) [1] (.seq (.region false [oo 3 (.mov (.c (.fsl [])))]) [1,3] (.seq (.seq (.region false [oo 4 (.mov (.c (.int .i64 0)))]) [1,3,4] (.block 0 (.loop (.seq (.seq (.region false [oo 5 (.mov (.s 4)),
 oo 6 (.fieldAddr 0 (.s 1)),oo 7 (.load false 1 (.s 6)),oo 8 (.len (.s 7)),oo 9 (.bin .lss false (.s 5) (.s 8))]) [1,3,4,9] (.cond (.s 9) (.skip) (.exit 0))) [1,3,4] (.seq (.block 1 (.region false [oo 12 (.mov (.s 3)),oo 13 (.load true 1 (.s 1)),oo 14 (.mov (.s 4)),
 oo 15 (.call 48 [(.s 13),(.s 14)]),oo 16 (.buildSlice 1 3 [(.s 15)]),oo 17 (.append 1 3 8 (.s 12) (.s 16)),oo 3 (.mov (.s 17))])) [1,3,4] (.region false [oo 10 (.mov (.s 4)),oo 11 (.bin .add false (.s 10) (.c (.int .i64 1))),oo 4 (.mov (.s 11))])))))) [3] (.seq (.region false [oo 18 (.mov (.s 3)),
 oo 2 (.mov (.s 18))]) [2] (.ret))))⟩
def tf80 : TFn := ⟨37,[.tmp 4,.tmp 5],.seq (.region false [oo 2 (.box 26 (.s 0)),oo 4 (.mov (.c (.fsl []))),oo 5 (.mov (.c (.bool false)))]) [1,2] (.seq (.region false [oo 6 (.mov (.c (.fsl [])))]) [1,2,6] (.seq (.seq (.region false [oo 7 (.mov (.c (.int .i64 0)))]) [1,2,6,7] (.block 0 (.loop (
 .seq (.seq (.region false [oo 8 (.mov (.s 7)),oo 9 (.mov (.s 1)),oo 10 (.len (.s 9)),oo 11 (.bin .lss false (.s 8) (.s 10))]) [1,2,6,7,11] (.cond (.s 11) (.skip) (.exit 0))) [1,2,6,7] (.seq (.block 1 (.seq (.seq (.region false [oo 14 (.mov (.s 1)),oo 15 (.mov (.s 7)),
 oo 16 (.indexAddr 1 (.s 14) (.s 15)),oo 17 (.load false 1 (.s 16)),oo 18 (.bin .eql false (.s 17) (.c (.int .i64 0)))]) [1,2,6,7,18] (.cond (.s 18) (.seq (.region false [oo 4 (.mov (.c (.fsl []))),oo 5 (.mov (.c (.bool false)))]) [4,5] (.ret)) (.skip))) [1,2,6,7] (.seq (
 .region true [oo 19 (.mov (.s 1)),oo 20 (.mov (.s 7)),oo 21 (.indexAddr 1 (.s 19) (.s 20)),oo 22 (.load false 1 (.s 21)),oo 23 (.load true 1 (.s 2)),oo 24 (.mov (.s 7)),oo 25 (.call 48 [(.s 23),(.s 24)]),oo 26 (.bin .neq false (.s 22) (.s 25))]) [1,2,6,7,26] (.cond (.s 26) (
 .region false [oo 27 (.mov (.s 6)),oo 28 (.mov (.s 7)),oo 29 (.mov (.s 1)),oo 30 (.mov (.s 7)),oo 31 (.indexAddr 1 (.s 29) (.s 30)),oo 32 (.load false 1 (.s 31)),oo 33 (.build [(.int .i64 0),(.int .i64 0)] [(0,1,(.s 28)),(1,1,(.s 32))]),oo 34 (.buildSlice 2 35 [(.s 33)]),
 oo 35 (.append 2 35 16 (.s 27) (.s 34)),oo 6 (.mov (.s 35))]) (.skip))))) [1,2,6,7] (.region false [oo 12 (.mov (.s 7)),oo 13 (.bin .add false (.s 12) (.c (.int .i64 1))),oo 7 (.mov (.s 13))])))))) [6] (.seq (.region false [oo 36 (.mov (.s 6)),oo 4 (.mov (.s 36)),
 oo 5 (.mov (.c (.bool true)))]) [4,5] (.ret))))⟩
def tf81 : TFn := ⟨14,[.tmp 4],.seq (.region false [oo 2 (.box 26 (.s 0)),oo 4 (.mov (.c (.bool false)))]) [1,2] (.seq (.region false [oo 5 (.mov (.s 1)),oo 6 (.bin .geq false (.s 5) (.c (.int .i64 0))),oo 7 (.mov (.s 6)),oT 8 7 (.mov (.s 1)),oT 9 7 (.fieldAddr 0 (.s 2)),
 oT 10 7 (.load false 1 (.s 9)),oT 11 7 (.len (.s 10)),oT 12 7 (.bin .lss false (.s 8) (.s 11)),oo 13 (.pick (.s 7) (.s 12) (.c (.bool false))),oo 4 (.mov (.s 13))]) [4] (.ret))⟩
def tf82 : TFn := ⟨6,[.tmp 2],.seq (.region false [oo 2 (.mov (.c (.int .i64 0)))]) [0] (.seq (.region false [oo 3 (.mov (.s 0)),oo 4 (.bin .add false (.s 3) (.c (.int .i64 1))),oo 5 (.bin .shl false (.c (.int .i64 1)) (.s 4)),oo 2 (.mov (.s 5))]) [2] (.ret))⟩
def tf83 : TFn := ⟨19,[.tmp 4],.seq (.region false [oo 4 (.mov (.c (.int .i64 0)))]) [0,1] (.seq (.seq (.region false [oo 6 (.mov (.s 0)),oo 7 (.len (.s 6)),oo 8 (.mov (.c (.int .i64 0)))]) [0,1,7,8] (.block 0 (.loop (.seq (.region false [oo 9 (.bin .lss false (.s 8) (.s 7))]) [0,1,7,8,9] (.seq (
 .cond (.s 9) (.skip) (.exit 0)) [0,1,7,8] (.seq (.block 1 (.seq (.region false [oo 10 (.mov (.s 8)),oo 5 (.mov (.s 10))]) [0,1,5,7,8] (.seq (.region false [oo 11 (.mov (.s 1)),oo 12 (.mov (.s 0)),oo 13 (.mov (.s 5)),oo 14 (.indexAddr 2 (.s 12) (.s 13)),oo 15 (.load true 2 (.s 14)),
 oo 16 (.callV (.s 11) [(.s 15)])]) [0,1,5,7,8,16] (.cond (.s 16) (.seq (.region false [oo 17 (.mov (.s 5)),oo 4 (.mov (.s 17))]) [4] (.ret)) (.skip))))) [0,1,7,8] (.region false [oo 18 (.bin .add false (.s 8) (.c (.int .i64 1))),oo 8 (.mov (.s 18))]))))))) [] (.seq (
 .region false [oo 4 (.mov (.c (.int .i64 (-1))))]) [4] (.ret)))⟩
def tf85 : TFn := ⟨12,[.tmp 2],.seq (.region false [oo 2 (.mov (.c (.bool false)))]) [0] (.seq (.region false [oo 3 (.mov (.s 0)),oo 4 (.bin .gtr false (.s 3) (.c (.int .i64 1))),oo 5 (.mov (.s 4)),oT 6 5 (.mov (.s 0)),oT 7 5 (.mov (.s 0)),oT 8 5 (.bin .sub false (.s 7) (.c (.int .i64 1))),
 oT 9 5 (.bin .and false (.s 6) (.s 8)),oT 10 5 (.bin .eql false (.s 9) (.c (.int .i64 0))),oo 11 (.pick (.s 5) (.s 10) (.c (.bool false))),oo 2 (.mov (.s 11))]) [2] (.ret))⟩
def tf86 : TFn := ⟨9,[.tmp 4],.seq (.region false [oo 4 (.mov (.c (.bool false)))]) [0,1] (.seq (.region false [oo 5 (.mov (.s 0)),oo 6 (.mov (.s 1)),oo 7 (.call 63 [(.s 5),(.s 6)]),oo 8 (.bin .geq false (.s 7) (.c (.int .i64 0))),oo 4 (.mov (.s 8))]) [4] (.ret))⟩
def tf87 : TFn := ⟨13,[.tmp 3],.seq (.region false [oo 2 (.box 60 (.s 0)),oo 3 (.mov (.c (.bool false)))]) [1,2] (.seq (.region false [oo 4 (.fieldAddr 3 (.s 2)),oo 5 (.load false 1 (.s 4)),oo 6 (.bin .eql false (.s 5) (.c (.int .i64 (-1)))),oo 7 (.mov (.s 6)),oT 8 7 (.fieldAddr 0 (.s 2)),
 oT 9 7 (.load false 1 (.s 8)),oT 10 7 (.load false 1 (.s 1)),oT 11 7 (.bin .eql false (.s 9) (.s 10)),oo 12 (.pick (.s 7) (.s 11) (.c (.bool false))),oo 3 (.mov (.s 12))]) [3] (.ret))⟩
def tf88 : TFn := ⟨27,[.tmp 4],.seq (.region false [oo 4 (.mov (.c (.bool false)))]) [0,1] (.seq (.seq (.region false [oo 5 (.mov (.c (.int .i64 0)))]) [0,1,5] (.block 0 (.loop (.seq (.seq (.region false [oo 6 (.mov (.s 5)),oo 7 (.mov (.s 0)),oo 8 (.len (.s 7)),
 oo 9 (.bin .lss false (.s 6) (.s 8))]) [0,1,5,9] (.cond (.s 9) (.skip) (.exit 0))) [0,1,5] (.seq (.block 1 (.seq (.region false [oo 12 (.mov (.s 0)),oo 13 (.mov (.s 5)),oo 14 (.indexAddr 4 (.s 12) (.s 13)),oo 15 (.fieldAddr 0 (.s 14)),oo 16 (.load false 1 (.s 15)),oo 17 (.mov (.s 1)),
 oo 18 (.bin .eql false (.s 16) (.s 17)),oo 19 (.mov (.s 18)),oT 20 19 (.mov (.s 0)),oT 21 19 (.mov (.s 5)),oT 22 19 (.indexAddr 4 (.s 20) (.s 21)),oT 23 19 (.fieldAddr 3 (.s 22)),oT 24 19 (.load false 1 (.s 23)),oT 25 19 (.bin .eql false (.s 24) (.c (.int .i64 (-1)))),
 oo 26 (.pick (.s 19) (.s 25) (.c (.bool false)))]) [0,1,5,26] (.cond (.s 26) (.seq (.region false [oo 4 (.mov (.c (.bool true)))]) [4] (.ret)) (.skip)))) [0,1,5] (.region false [oo 10 (.mov (.s 5)),oo 11 (.bin .add false (.s 10) (.c (.int .i64 1))),oo 5 (.mov (.s 11))])))))) [] (.seq (
 .region false [oo 4 (.mov (.c (.bool false)))]) [4] (.ret)))⟩
def tf90 : TFn := ⟨9,[.tmp 2],.seq (.region false [oo 2 (.mov (.c (.bool false)))]) [0] (.seq (.region false [oo 3 (.mov (.s 0)),oo 4 (.bin .geq false (.s 3) (.c (.int .i64 0))),oo 5 (.mov (.s 4)),oT 6 5 (.mov (.s 0)),oT 7 5 (.bin .leq false (.s 6) (.c (.int .i64 9999))),
 oo 8 (.pick (.s 5) (.s 7) (.c (.bool false))),oo 2 (.mov (.s 8))]) [2] (.ret))⟩
def tf91 : TFn := ⟨48,[.tmp 4],.seq (.region false [oo 4 (.mov (.c (.bool false)))]) [0,1] (.seq (.seq (.region false [oo 9 (.mov (.s 0)),oo 10 (.bin .eql false (.s 9) (.c (.str [])))]) [0,1,10] (.cond (.s 10) (.seq (.region false [oo 4 (.mov (.c (.bool true)))]) [4] (.ret)) (.skip))) [0,1] (.seq (
 .region false [oo 11 (.mov (.s 0)),oo 12 (.call 105 [(.s 11),(.c (.int .u8 46))]),oo 5 (.mov (.s 12))]) [1,5] (.seq (.seq (.region false [oo 13 (.mov (.s 5)),oo 14 (.len (.s 13)),oo 15 (.bin .gtr false (.s 14) (.c (.int .i64 4)))]) [1,5,15] (.cond (.s 15) (.seq (
 .region false [oo 4 (.mov (.c (.bool false)))]) [4] (.ret)) (.skip))) [1,5] (.seq (.seq (.region false [oo 6 (.mov (.c (.int .i64 0)))]) [1,5,6] (.block 0 (.loop (.seq (.seq (.region false [oo 16 (.mov (.s 6)),oo 17 (.mov (.s 5)),oo 18 (.len (.s 17)),
 oo 19 (.bin .lss false (.s 16) (.s 18))]) [1,5,6,19] (.cond (.s 19) (.skip) (.exit 0))) [1,5,6] (.seq (.block 1 (.seq (.seq (.region false [oo 22 (.mov (.s 5)),oo 23 (.mov (.s 6)),oo 24 (.indexAddr 1 (.s 22) (.s 23)),oo 25 (.load false 1 (.s 24)),oo 26 (.call 106 [(.s 25)]),
 oo 27 (.un .not (.s 26))]) [1,5,6,27] (.cond (.s 27) (.seq (.region false [oo 4 (.mov (.c (.bool false)))]) [4] (.ret)) (.skip))) [1,5,6] (.seq (.region false [oo 29 (.mov (.s 5)),oo 30 (.mov (.s 6)),oo 31 (.indexAddr 1 (.s 29) (.s 30)),oo 32 (.load false 1 (.s 31)),oo 33 (.call 107 [(.s 32)]),
 oo 28 (.mov (.s 33)),oo 34 (.extract 0 (.s 28)),oo 35 (.extract 1 (.s 28)),oo 7 (.mov (.s 34)),oo 8 (.mov (.s 35))]) [1,5,6,8] (.seq (.region false [oo 36 (.mov (.s 1)),oo 37 (.mov (.s 36)),oT 38 37 (.mov (.s 5)),oT 39 37 (.mov (.s 6)),oT 40 37 (.indexAddr 1 (.s 38) (.s 39)),
 oT 41 37 (.load false 1 (.s 40)),oT 42 37 (.call 108 [(.s 41)]),oo 43 (.pick (.s 37) (.s 42) (.c (.bool false))),oo 44 (.mov (.s 43)),oT 45 44 (.mov (.s 8)),oT 46 44 (.un .not (.s 45)),oo 47 (.pick (.s 44) (.s 46) (.c (.bool false)))]) [1,5,6,47] (.cond (.s 47) (.seq (
 .region false [oo 4 (.mov (.c (.bool false)))]) [4] (.ret)) (.skip)))))) [1,5,6] (.region false [oo 20 (.mov (.s 6)),oo 21 (.bin .add false (.s 20) (.c (.int .i64 1))),oo 6 (.mov (.s 21))])))))) [] (.seq (.region false [oo 4 (.mov (.c (.bool true)))]) [4] (.ret))))))⟩
def tf92 : TFn := ⟨5,[.cell 2 true 5],.seq (.region false [oo 1 (.box 68 (.s 0)),oo 2 (.alloc 68 [(.int .i64 0),(.int .i64 0),(.int .i64 0),(.str []),(.str [])])]) [1,2] (.seq (.region false [oo 3 (.fieldAddr 4 (.s 1)),⟨none,.store 1 (.s 3) (.c (.str [])),none⟩]) [1,2] (.seq (
 .region false [oo 4 (.load true 5 (.s 1)),⟨none,.store 5 (.s 2) (.s 4),none⟩]) [2] (.ret)))⟩
def tf93 : TFn := ⟨16,[.tmp 2],.seq (.region false [oo 1 (.box 68 (.s 0)),oo 2 (.mov (.c (.bool false)))]) [1] (.seq (.region false [oo 3 (.fieldAddr 0 (.s 1)),oo 4 (.load false 1 (.s 3)),oo 5 (.bin .eql false (.s 4) (.c (.int .i64 0))),oo 6 (.mov (.s 5)),oT 7 6 (.fieldAddr 1 (.s 1)),
 oT 8 6 (.load false 1 (.s 7)),oT 9 6 (.bin .eql false (.s 8) (.c (.int .i64 0))),oo 10 (.pick (.s 6) (.s 9) (.c (.bool false))),oo 11 (.mov (.s 10)),oT 12 11 (.fieldAddr 2 (.s 1)),oT 13 11 (.load false 1 (.s 12)),oT 14 11 (.bin .eql false (.s 13) (.c (.int .i64 0))),
 oo 15 (.pick (.s 11) (.s 14) (.c (.bool false))),oo 2 (.mov (.s 15))]) [2] (.ret))⟩
def tf94 : TFn := ⟨2,[.cell 0 true 7],.seq (.region false [oo 0 (.alloc 112 [(.int .i64 0),(.int .i64 0),(.int .i64 0),(.int .i64 0),(.str []),(.str []),(.bool false)])]) [0] (.seq (
 .region false [oo 1 (.build [(.int .i64 0),(.int .i64 0),(.int .i64 0),(.int .i64 0),(.str []),(.str []),(.bool false)] [(0,1,(.c (.int .i64 (-1))))]),⟨none,.store 7 (.s 0) (.s 1),none⟩]) [0] (.ret))⟩
def tf95 : TFn := ⟨34,[.cell 2 true 5,.tmp 3],.seq (.region false [oo 1 (.box 68 (.s 0)),oo 2 (.alloc 68 [(.int .i64 0),(.int .i64 0),(.int .i64 0),(.str []),(.str [])]),oo 3 (.mov (.c (.bool false)))]) [1,2] (.seq (.seq (.region false [oo 7 (.load true 5 (.s 1)),oo 8 (.call 67 [(.s 7)]),
 oo 9 (.un .not (.s 8))]) [1,2,9] (.cond (.s 9) (.seq (.region false [oo 10 (.build [(.int .i64 0),(.int .i64 0),(.int .i64 0),(.str []),(.str [])] []),⟨none,.store 5 (.s 2) (.s 10),none⟩,oo 3 (.mov (.c (.bool false)))]) [2,3] (.ret)) (.skip))) [1,2] (.seq (.seq (
 .region false [oo 11 (.fieldAddr 3 (.s 1)),oo 12 (.load false 1 (.s 11)),oo 13 (.bin .neq false (.s 12) (.c (.str [])))]) [1,2,13] (.cond (.s 13) (.seq (.region false [oo 14 (.fieldAddr 0 (.s 1)),oo 15 (.load false 1 (.s 14)),oo 16 (.fieldAddr 1 (.s 1)),oo 17 (.load false 1 (.s 16)),
 oo 18 (.fieldAddr 2 (.s 1)),oo 19 (.load false 1 (.s 18)),oo 20 (.build [(.int .i64 0),(.int .i64 0),(.int .i64 0),(.str []),(.str [])] [(0,1,(.s 15)),(1,1,(.s 17)),(2,1,(.s 19))]),⟨none,.store 5 (.s 2) (.s 20),none⟩,oo 3 (.mov (.c (.bool true)))]) [2,3] (.ret)) (.skip))) [1,2] (.seq (.seq (
 .region false [oo 4 (.mov (.c (.int .i64 2)))]) [1,2,4] (.block 0 (.loop (.seq (.seq (.region false [oo 21 (.mov (.s 4)),oo 22 (.bin .geq false (.s 21) (.c (.int .i64 0)))]) [1,2,4,22] (.cond (.s 22) (.skip) (.exit 0))) [1,2,4] (.seq (.block 1 (.seq (.region false [oo 26 (.load true 5 (.s 1)),
 oo 27 (.mov (.s 4)),oo 28 (.call 109 [(.s 26),(.s 27)]),oo 25 (.mov (.s 28)),oo 29 (.extract 0 (.s 25)),oo 30 (.extract 1 (.s 25)),oo 5 (.alloc 68 [(.int .i64 0),(.int .i64 0),(.int .i64 0),(.str []),(.str [])]),⟨none,.store 5 (.s 5) (.s 29),none⟩,oo 6 (.mov (.s 30))]) [1,2,4,5,6] (.seq (
 .region false [oo 31 (.mov (.s 6))]) [1,2,4,5,31] (.cond (.s 31) (.seq (.region false [oo 32 (.load true 5 (.s 5)),⟨none,.store 5 (.s 2) (.s 32),none⟩,oo 3 (.mov (.c (.bool true)))]) [2,3] (.ret)) (.skip))))) [1,2,4] (.region false [oo 23 (.mov (.s 4)),
 oo 24 (.bin .sub false (.s 23) (.c (.int .i64 1))),oo 4 (.mov (.s 24))])))))) [2] (.seq (.region false [oo 33 (.build [(.int .i64 0),(.int .i64 0),(.int .i64 0),(.str []),(.str [])] []),⟨none,.store 5 (.s 2) (.s 33),none⟩,oo 3 (.mov (.c (.bool false)))]) [2,3] (.ret)))))⟩
def tf96 : TFn := ⟨2,[.cell 0 true 7],.seq (.region false [oo 0 (.alloc 112 [(.int .i64 0),(.int .i64 0),(.int .i64 0),(.int .i64 0),(.str []),(.str []),(.bool false)])]) [0] (.seq (
 .region false [oo 1 (.build [(.int .i64 0),(.int .i64 0),(.int .i64 0),(.int .i64 0),(.str []),(.str []),(.bool false)] [(0,1,(.c (.int .i64 1)))]),⟨none,.store 7 (.s 0) (.s 1),none⟩]) [0] (.ret))⟩
def tf97 : TFn := ⟨25,[.cell 4 true 2],.seq (.region false [oo 2 (.box 78 (.s 0)),oo 3 (.box 78 (.s 1)),oo 4 (.alloc 78 [(.fsl []),(.fsl [])])]) [2,3,4] (.seq (.seq (.region false [oo 5 (.load true 2 (.s 2)),oo 6 (.call 110 [(.s 5)]),oo 7 (.un .not (.s 6)),oo 8 (.mov (.s 7)),
 oF 9 8 (.load true 2 (.s 3)),oF 10 8 (.call 110 [(.s 9)]),oF 11 8 (.un .not (.s 10)),oo 12 (.pick (.s 8) (.c (.bool true)) (.s 11))]) [2,3,4,12] (.cond (.s 12) (.seq (.region false [oo 13 (.call 68 []),⟨none,.store 2 (.s 4) (.s 13),none⟩]) [4] (.ret)) (.skip))) [2,3,4] (.seq (
 .region true [oo 14 (.fieldAddr 0 (.s 2)),oo 15 (.load false 1 (.s 14)),oo 16 (.fieldAddr 0 (.s 3)),oo 17 (.load false 1 (.s 16)),oo 18 (.call 111 [(.s 15),(.s 17)]),oo 19 (.fieldAddr 1 (.s 2)),oo 20 (.load false 1 (.s 19)),oo 21 (.fieldAddr 1 (.s 3)),oo 22 (.load false 1 (.s 21)),
 oo 23 (.call 111 [(.s 20),(.s 22)]),oo 24 (.build [(.fsl []),(.fsl [])] [(0,1,(.s 18)),(1,1,(.s 23))]),⟨none,.store 2 (.s 4) (.s 24),none⟩]) [4] (.ret)))⟩
def tf98 : TFn := ⟨4,[.cell 0 true 2],.seq (.region false [oo 0 (.alloc 78 [(.fsl []),(.fsl [])])]) [0] (.seq (.region false [oo 1 (.call 112 []),oo 2 (.call 112 []),oo 3 (.build [(.fsl []),(.fsl [])] [(0,1,(.s 1)),(1,1,(.s 2))]),⟨none,.store 2 (.s 0) (.s 3),none⟩]) [0] (.ret))⟩
def tf99 : TFn := ⟨14,[.cell 2 true 2],.seq (.region false [oo 1 (.box 78 (.s 0)),oo 2 (.alloc 78 [(.fsl []),(.fsl [])])]) [1,2] (.seq (.seq (.region false [oo 3 (.load true 2 (.s 1)),oo 4 (.call 110 [(.s 3)]),oo 5 (.un .not (.s 4))]) [1,2,5] (.cond (.s 5) (.seq (.region false [oo 6 (.call 68 []),
 ⟨none,.store 2 (.s 2) (.s 6),none⟩]) [2] (.ret)) (.skip))) [1,2] (.seq (.region true [oo 7 (.fieldAddr 0 (.s 1)),oo 8 (.load false 1 (.s 7)),oo 9 (.call 113 [(.s 8)]),oo 10 (.fieldAddr 1 (.s 1)),oo 11 (.load false 1 (.s 10)),oo 12 (.call 113 [(.s 11)]),
 oo 13 (.build [(.fsl []),(.fsl [])] [(0,1,(.s 9)),(1,1,(.s 12))]),⟨none,.store 2 (.s 2) (.s 13),none⟩]) [2] (.ret)))⟩
def tf100 : TFn := ⟨41,[.tmp 6],.seq (.region false [oo 3 (.box 26 (.s 0)),oo 6 (.mov (.c (.int .i64 0)))]) [1,2,3] (.seq (.region false [oo 7 (.mov (.c (.int .i64 (-1))))]) [1,2,3,7] (.seq (.seq (.region false [oo 8 (.mov (.c (.int .i64 0)))]) [1,2,3,7,8] (.block 0 (.loop (.seq (.seq (
 .region false [oo 9 (.mov (.s 8)),oo 10 (.mov (.s 2)),oo 11 (.len (.s 10)),oo 12 (.bin .lss false (.s 9) (.s 11))]) [1,2,3,7,8,12] (.cond (.s 12) (.skip) (.exit 0))) [1,2,3,7,8] (.seq (.block 1 (.seq (.region true [oo 15 (.load true 1 (.s 3)),oo 16 (.mov (.s 1)),oo 17 (.mov (.s 2)),
 oo 18 (.mov (.s 8)),oo 19 (.indexAddr 2 (.s 17) (.s 18)),oo 20 (.fieldAddr 0 (.s 19)),oo 21 (.load false 1 (.s 20)),oo 22 (.call 14 [(.s 15),(.s 16),(.s 21)]),oo 23 (.mov (.s 2)),oo 24 (.mov (.s 8)),oo 25 (.indexAddr 2 (.s 23) (.s 24)),oo 26 (.fieldAddr 1 (.s 25)),oo 27 (.load false 1 (.s 26)),
 oo 28 (.call 60 [(.s 22),(.s 27)])]) [1,2,3,7,8,28] (.block 2 (.seq (.region false [oo 30 (.bin .eql false (.s 28) (.c (.int .i64 0))),oo 29 (.mov (.s 30))]) [1,2,3,7,8,28,29] (.cond (.s 29) (.seq (.region false [oo 6 (.mov (.c (.int .i64 (-1))))]) [6] (.ret)) (.seq (
 .region false [oo 32 (.bin .eql false (.s 28) (.c (.int .i64 1))),oo 31 (.mov (.s 32))]) [1,2,3,7,8,31] (.cond (.s 31) (.seq (.seq (.region false [oo 33 (.mov (.s 7)),oo 34 (.bin .geq false (.s 33) (.c (.int .i64 0)))]) [1,2,3,8,34] (.cond (.s 34) (.seq (
 .region false [oo 6 (.mov (.c (.int .i64 (-1))))]) [6] (.ret)) (.skip))) [1,2,3,8] (.region false [oo 35 (.mov (.s 2)),oo 36 (.mov (.s 8)),oo 37 (.indexAddr 2 (.s 35) (.s 36)),oo 38 (.fieldAddr 0 (.s 37)),oo 39 (.load false 1 (.s 38)),oo 7 (.mov (.s 39))])) (.skip)))))))) [1,2,3,7,8] (
 .region false [oo 13 (.mov (.s 8)),oo 14 (.bin .add false (.s 13) (.c (.int .i64 1))),oo 8 (.mov (.s 14))])))))) [7] (.seq (.region false [oo 40 (.mov (.s 7)),oo 6 (.mov (.s 40))]) [6] (.ret))))⟩
def tf101 : TFn := ⟨50,[.tmp 4],.seq (.region false [oo 2 (.box 26 (.s 0)),oo 3 (.box 81 (.s 1)),oo 4 (.mov (.c (.int .i64 0)))]) [2,3] (.seq (.seq (.region false [oo 8 (.fieldAddr 0 (.s 3)),oo 9 (.load false 1 (.s 8)),oo 10 (.bin .lss false (.s 9) (.c (.int .i64 0))),oo 11 (.mov (.s 10)),
 oF 12 11 (.fieldAddr 0 (.s 3)),oF 13 11 (.load false 1 (.s 12)),oF 14 11 (.fieldAddr 0 (.s 2)),oF 15 11 (.load false 1 (.s 14)),oF 16 11 (.len (.s 15)),oF 17 11 (.bin .geq false (.s 13) (.s 16)),oo 18 (.pick (.s 11) (.c (.bool true)) (.s 17))]) [2,3,18] (.cond (.s 18) (.seq (
 .region false [oo 4 (.mov (.c (.int .i64 0)))]) [4] (.ret)) (.skip))) [2,3] (.seq (.region false [oo 5 (.mov (.c (.int .i64 0)))]) [2,3,5] (.seq (.region false [oo 19 (.fieldAddr 0 (.s 2)),oo 20 (.load false 1 (.s 19)),oo 21 (.fieldAddr 0 (.s 3)),oo 22 (.load false 1 (.s 21)),
 oo 23 (.indexAddr 3 (.s 20) (.s 22)),oo 24 (.fieldAddr 2 (.s 23)),oo 25 (.load false 1 (.s 24)),oo 6 (.mov (.s 25))]) [3,5,6] (.seq (.seq (.region false [oo 7 (.mov (.c (.int .i64 0)))]) [3,5,6,7] (.block 0 (.loop (.seq (.seq (.region false [oo 26 (.mov (.s 7)),oo 27 (.mov (.s 6)),
 oo 28 (.len (.s 27)),oo 29 (.bin .lss false (.s 26) (.s 28)),oo 30 (.mov (.s 29)),oT 31 30 (.mov (.s 7)),oT 32 30 (.bin .lss false (.s 31) (.c (.int .i64 16))),oo 33 (.pick (.s 30) (.s 32) (.c (.bool false)))]) [3,5,6,7,33] (.cond (.s 33) (.skip) (.exit 0))) [3,5,6,7] (.seq (.block 1 (.seq (
 .region true [oo 36 (.fieldAddr 1 (.s 3)),oo 37 (.load true 2 (.s 36)),oo 38 (.mov (.s 6)),oo 39 (.mov (.s 7)),oo 40 (.indexAddr 8 (.s 38) (.s 39)),oo 41 (.fieldAddr 0 (.s 40)),oo 42 (.load true 5 (.s 41)),oo 43 (.call 114 [(.s 37),(.s 42)])]) [3,5,6,7,43] (.cond (.s 43) (
 .region false [oo 44 (.mov (.s 5)),oo 45 (.mov (.s 7)),oo 46 (.bin .add false (.s 45) (.c (.int .i64 1))),oo 47 (.call 55 [(.s 46)]),oo 48 (.bin .add false (.s 44) (.s 47)),oo 5 (.mov (.s 48))]) (.skip)))) [3,5,6,7] (.region false [oo 34 (.mov (.s 7)),
 oo 35 (.bin .add false (.s 34) (.c (.int .i64 1))),oo 7 (.mov (.s 35))])))))) [5] (.seq (.region false [oo 49 (.mov (.s 5)),oo 4 (.mov (.s 49))]) [4] (.ret))))))⟩
def tf102 : TFn := ⟨26,[.tmp 4],.seq (.region false [oo 4 (.mov (.c (.bool false)))]) [0,1] (.seq (.seq (.region false [oo 6 (.mov (.s 0)),oo 7 (.len (.s 6)),oo 8 (.mov (.s 1)),oo 9 (.len (.s 8)),oo 10 (.bin .neq false (.s 7) (.s 9))]) [0,1,10] (.cond (.s 10) (.seq (
 .region false [oo 4 (.mov (.c (.bool false)))]) [4] (.ret)) (.skip))) [0,1] (.seq (.seq (.region false [oo 5 (.mov (.c (.int .i64 0)))]) [0,1,5] (.block 0 (.loop (.seq (.seq (.region false [oo 11 (.mov (.s 5)),oo 12 (.mov (.s 0)),oo 13 (.len (.s 12)),
 oo 14 (.bin .lss false (.s 11) (.s 13))]) [0,1,5,14] (.cond (.s 14) (.skip) (.exit 0))) [0,1,5] (.seq (.block 1 (.seq (.region true [oo 17 (.mov (.s 0)),oo 18 (.mov (.s 5)),oo 19 (.indexAddr 2 (.s 17) (.s 18)),oo 20 (.load true 2 (.s 19)),oo 21 (.mov (.s 1)),oo 22 (.mov (.s 5)),
 oo 23 (.indexAddr 2 (.s 21) (.s 22)),oo 24 (.load true 2 (.s 23)),oo 25 (.eqs true [0,0] (.s 20) (.s 24))]) [0,1,5,25] (.cond (.s 25) (.seq (.region false [oo 4 (.mov (.c (.bool false)))]) [4] (.ret)) (.skip)))) [0,1,5] (.region false [oo 15 (.mov (.s 5)),
 oo 16 (.bin .add false (.s 15) (.c (.int .i64 1))),oo 5 (.mov (.s 16))])))))) [] (.seq (.region false [oo 4 (.mov (.c (.bool true)))]) [4] (.ret))))⟩
def tf103 : TFn := ⟨28,[.tmp 4],.seq (.region false [oo 4 (.mov (.c (.fsl [])))]) [0,1] (.seq (.region false [oo 5 (.mov (.c (.fsl [])))]) [0,1,5] (.seq (.seq (.region false [oo 6 (.mov (.c (.int .i64 0)))]) [0,1,5,6] (.block 0 (.loop (.seq (.seq (.region false [oo 7 (.mov (.s 6)),
 oo 8 (.mov (.s 0)),oo 9 (.len (.s 8)),oo 10 (.bin .lss false (.s 7) (.s 9))]) [0,1,5,6,10] (.cond (.s 10) (.skip) (.exit 0))) [0,1,5,6] (.seq (.block 1 (.seq (.region false [oo 13 (.mov (.s 0)),oo 14 (.mov (.s 6)),oo 15 (.indexAddr 2 (.s 13) (.s 14)),oo 16 (.fieldAddr 0 (.s 15)),
 oo 17 (.load false 1 (.s 16)),oo 18 (.mov (.s 1)),oo 19 (.bin .neq false (.s 17) (.s 18))]) [0,1,5,6,19] (.cond (.s 19) (.region false [oo 20 (.mov (.s 5)),oo 21 (.mov (.s 0)),oo 22 (.mov (.s 6)),oo 23 (.indexAddr 2 (.s 21) (.s 22)),oo 24 (.load true 2 (.s 23)),oo 25 (.buildSlice 2 35 [(.s 24)]),
 oo 26 (.append 2 35 16 (.s 20) (.s 25)),oo 5 (.mov (.s 26))]) (.skip)))) [0,1,5,6] (.region false [oo 11 (.mov (.s 6)),oo 12 (.bin .add false (.s 11) (.c (.int .i64 1))),oo 6 (.mov (.s 12))])))))) [5] (.seq (.region false [oo 27 (.mov (.s 5)),oo 4 (.mov (.s 27))]) [4] (.ret))))⟩
def tf104 : TFn := ⟨31,[.tmp 2],.seq (.region false [oo 2 (.mov (.c (.fsl [])))]) [0] (.seq (.region false [oo 3 (.mov (.c (.fsl [])))]) [0,3] (.seq (.seq (.region false [oo 4 (.mov (.c (.int .i64 0)))]) [0,3,4] (.block 0 (.loop (.seq (.seq (.region false [oo 6 (.mov (.s 4)),
 oo 7 (.bin .lss false (.s 6) (.c (.int .i64 48)))]) [0,3,4,7] (.cond (.s 7) (.skip) (.exit 0))) [0,3,4] (.seq (.block 1 (.seq (.region false [oo 5 (.mov (.c (.int .i64 0)))]) [0,3,4,5] (.block 2 (.loop (.seq (.seq (.region false [oo 10 (.mov (.s 5)),oo 11 (.mov (.s 0)),oo 12 (.len (.s 11)),
 oo 13 (.bin .lss false (.s 10) (.s 12))]) [0,3,4,5,13] (.cond (.s 13) (.skip) (.exit 2))) [0,3,4,5] (.seq (.block 3 (.seq (.region false [oo 16 (.mov (.s 0)),oo 17 (.mov (.s 5)),oo 18 (.indexAddr 2 (.s 16) (.s 17)),oo 19 (.fieldAddr 0 (.s 18)),oo 20 (.load false 1 (.s 19)),oo 21 (.mov (.s 4)),
 oo 22 (.bin .eql false (.s 20) (.s 21))]) [0,3,4,5,22] (.cond (.s 22) (.region false [oo 23 (.mov (.s 3)),oo 24 (.mov (.s 0)),oo 25 (.mov (.s 5)),oo 26 (.indexAddr 2 (.s 24) (.s 25)),oo 27 (.load true 2 (.s 26)),oo 28 (.buildSlice 2 35 [(.s 27)]),oo 29 (.append 2 35 16 (.s 23) (.s 28)),
 oo 3 (.mov (.s 29))]) (.skip)))) [0,3,4,5] (.region false [oo 14 (.mov (.s 5)),oo 15 (.bin .add false (.s 14) (.c (.int .i64 1))),oo 5 (.mov (.s 15))]))))))) [0,3,4] (.region false [oo 8 (.mov (.s 4)),oo 9 (.bin .add false (.s 8) (.c (.int .i64 1))),oo 4 (.mov (.s 9))])))))) [3] (.seq (
 .region false [oo 30 (.mov (.s 3)),oo 2 (.mov (.s 30))]) [2] (.ret))))⟩
def tf105 : TFn := ⟨34,[.tmp 4],.seq (.region false [oo 4 (.mov (.c (.fsl [])))]) [0,1] (.seq (.region false [oo 5 (.mov (.c (.fsl [])))]) [0,1,5] (.seq (.region false [oo 6 (.mov (.c (.int .i64 0)))]) [0,1,5,6] (.seq (.seq (.region false [oo 7 (.mov (.c (.int .i64 0)))]) [0,1,5,6,7] (.block 0 (
 .loop (.seq (.seq (.region false [oo 8 (.mov (.s 7)),oo 9 (.mov (.s 0)),oo 10 (.lenStr (.s 9)),oo 11 (.bin .lss false (.s 8) (.s 10))]) [0,1,5,6,7,11] (.cond (.s 11) (.skip) (.exit 0))) [0,1,5,6,7] (.seq (.block 1 (.seq (.region false [oo 14 (.mov (.s 0)),oo 15 (.mov (.s 7)),
 oo 16 (.indexStr (.s 14) (.s 15)),oo 17 (.mov (.s 1)),oo 18 (.bin .eql false (.s 16) (.s 17))]) [0,1,5,6,7,18] (.cond (.s 18) (.seq (.region false [oo 19 (.mov (.s 5)),oo 20 (.mov (.s 0)),oo 21 (.mov (.s 6)),oo 22 (.mov (.s 7)),oo 23 (.sliceStr (.s 20) (some (.s 21)) (some (.s 22))),
 oo 24 (.buildSlice 1 9 [(.s 23)]),oo 25 (.append 1 9 16 (.s 19) (.s 24)),oo 5 (.mov (.s 25))]) [0,1,5,7] (.region false [oo 26 (.mov (.s 7)),oo 27 (.bin .add false (.s 26) (.c (.int .i64 1))),oo 6 (.mov (.s 27))])) (.skip)))) [0,1,5,6,7] (.region false [oo 12 (.mov (.s 7)),
 oo 13 (.bin .add false (.s 12) (.c (.int .i64 1))),oo 7 (.mov (.s 13))])))))) [0,5,6] (.seq (.region false [oo 28 (.mov (.s 5)),oo 29 (.mov (.s 0)),oo 30 (.mov (.s 6)),oo 31 (.sliceStr (.s 29) (some (.s 30)) none),oo 32 (.buildSlice 1 9 [(.s 31)]),oo 33 (.append 1 9 16 (.s 28) (.s 32)),
 oo 4 (.mov (.s 33))]) [4] (.ret)))))⟩
def tf106 : TFn := ⟨40,[.tmp 2],.seq (.region false [oo 2 (.mov (.c (.bool false)))]) [0] (.seq (.seq (.region false [oo 5 (.mov (.s 0)),oo 6 (.lenStr (.s 5)),oo 7 (.bin .lss false (.s 6) (.c (.int .i64 1))),oo 8 (.mov (.s 7)),oF 9 8 (.mov (.s 0)),oF 10 8 (.lenStr (.s 9)),
 oF 11 8 (.bin .gtr false (.s 10) (.c (.int .i64 8))),oo 12 (.pick (.s 8) (.c (.bool true)) (.s 11))]) [0,12] (.cond (.s 12) (.seq (.region false [oo 2 (.mov (.c (.bool false)))]) [2] (.ret)) (.skip))) [0] (.seq (.seq (.region false [oo 3 (.mov (.c (.int .i64 0)))]) [0,3] (.block 0 (.loop (.seq (
 .seq (.region false [oo 13 (.mov (.s 3)),oo 14 (.mov (.s 0)),oo 15 (.lenStr (.s 14)),oo 16 (.bin .lss false (.s 13) (.s 15))]) [0,3,16] (.cond (.s 16) (.skip) (.exit 0))) [0,3] (.seq (.block 1 (.seq (.region false [oo 19 (.mov (.s 0)),oo 20 (.mov (.s 3)),oo 21 (.indexStr (.s 19) (.s 20)),
 oo 4 (.mov (.s 21))]) [0,3,4] (.seq (.region false [oo 22 (.mov (.s 4)),oo 23 (.bin .lss false (.s 22) (.c (.int .u8 97))),oo 24 (.mov (.s 23)),oF 25 24 (.mov (.s 4)),oF 26 24 (.bin .gtr false (.s 25) (.c (.int .u8 122))),oo 27 (.pick (.s 24) (.c (.bool true)) (.s 26)),oo 28 (.mov (.s 27)),
 oT 29 28 (.mov (.s 4)),oT 30 28 (.bin .lss false (.s 29) (.c (.int .u8 48))),oT 31 28 (.mov (.s 30)),oF 32 31 (.mov (.s 4)),oF 33 31 (.bin .gtr false (.s 32) (.c (.int .u8 57))),oT 34 28 (.pick (.s 31) (.c (.bool true)) (.s 33)),oo 35 (.pick (.s 28) (.s 34) (.c (.bool false))),
 oo 36 (.mov (.s 35)),oT 37 36 (.mov (.s 4)),oT 38 36 (.bin .neq false (.s 37) (.c (.int .u8 45))),oo 39 (.pick (.s 36) (.s 38) (.c (.bool false)))]) [0,3,39] (.cond (.s 39) (.seq (.region false [oo 2 (.mov (.c (.bool false)))]) [2] (.ret)) (.skip))))) [0,3] (.region false [oo 17 (.mov (.s 3)),
 oo 18 (.bin .add false (.s 17) (.c (.int .i64 1))),oo 3 (.mov (.s 18))])))))) [] (.seq (.region false [oo 2 (.mov (.c (.bool true)))]) [2] (.ret))))⟩
def tf107 : TFn := ⟨46,[.tmp 2,.tmp 3],.seq (.region false [oo 2 (.mov (.c (.int .i64 0))),oo 3 (.mov (.c (.bool false)))]) [0] (.seq (.seq (.region false [oo 6 (.mov (.s 0)),oo 7 (.lenStr (.s 6)),oo 8 (.bin .lss false (.s 7) (.c (.int .i64 1))),oo 9 (.mov (.s 8)),oF 10 9 (.mov (.s 0)),
 oF 11 9 (.lenStr (.s 10)),oF 12 9 (.bin .gtr false (.s 11) (.c (.int .i64 9))),oo 13 (.pick (.s 9) (.c (.bool true)) (.s 12)),oo 14 (.mov (.s 13)),oF 15 14 (.mov (.s 0)),oF 16 14 (.lenStr (.s 15)),oF 17 14 (.bin .gtr false (.s 16) (.c (.int .i64 1))),oF 18 14 (.mov (.s 17)),oT 19 18 (.mov (.s 0)),
 oT 20 18 (.indexStr (.s 19) (.c (.int .i64 0))),oT 21 18 (.bin .eql false (.s 20) (.c (.int .u8 48))),oF 22 14 (.pick (.s 18) (.s 21) (.c (.bool false))),oo 23 (.pick (.s 14) (.c (.bool true)) (.s 22))]) [0,23] (.cond (.s 23) (.seq (.region false [oo 2 (.mov (.c (.int .i64 0))),
 oo 3 (.mov (.c (.bool false)))]) [2,3] (.ret)) (.skip))) [0] (.seq (.region false [oo 4 (.mov (.c (.int .i64 0)))]) [0,4] (.seq (.seq (.region false [oo 5 (.mov (.c (.int .i64 0)))]) [0,4,5] (.block 0 (.loop (.seq (.seq (.region false [oo 24 (.mov (.s 5)),oo 25 (.mov (.s 0)),
 oo 26 (.lenStr (.s 25)),oo 27 (.bin .lss false (.s 24) (.s 26))]) [0,4,5,27] (.cond (.s 27) (.skip) (.exit 0))) [0,4,5] (.seq (.block 1 (.seq (.seq (.region false [oo 30 (.mov (.s 0)),oo 31 (.mov (.s 5)),oo 32 (.indexStr (.s 30) (.s 31)),oo 33 (.call 115 [(.s 32)]),
 oo 34 (.un .not (.s 33))]) [0,4,5,34] (.cond (.s 34) (.seq (.region false [oo 2 (.mov (.c (.int .i64 0))),oo 3 (.mov (.c (.bool false)))]) [2,3] (.ret)) (.skip))) [0,4,5] (.region false [oo 35 (.mov (.s 4)),oo 36 (.bin .mul false (.s 35) (.c (.int .i64 10))),oo 37 (.mov (.s 0)),
 oo 38 (.mov (.s 5)),oo 39 (.indexStr (.s 37) (.s 38)),oo 40 (.bin .sub false (.s 39) (.c (.int .u8 48))),oo 41 (.conv .i64 (.s 40)),oo 42 (.bin .add false (.s 36) (.s 41)),oo 4 (.mov (.s 42))]))) [0,4,5] (.region false [oo 28 (.mov (.s 5)),oo 29 (.bin .add false (.s 28) (.c (.int .i64 1))),
 oo 5 (.mov (.s 29))])))))) [4] (.seq (.seq (.region false [oo 43 (.mov (.s 4)),oo 44 (.bin .gtr false (.s 43) (.c (.int .i64 9999)))]) [4,44] (.cond (.s 44) (.seq (.region false [oo 2 (.mov (.c (.int .i64 0))),oo 3 (.mov (.c (.bool false)))]) [2,3] (.ret)) (.skip))) [4] (.seq (
 .region false [oo 45 (.mov (.s 4)),oo 2 (.mov (.s 45)),oo 3 (.mov (.c (.bool true)))]) [2,3] (.ret))))))⟩
def tf108 : TFn := ⟨23,[.tmp 2],.seq (.region false [oo 2 (.mov (.c (.bool false)))]) [0] (.seq (.seq (.region false [oo 3 (.mov (.c (.int .i64 0)))]) [0,3] (.block 0 (.loop (.seq (.seq (.region false [oo 4 (.mov (.s 3)),oo 5 (.mov (.s 0)),oo 6 (.lenStr (.s 5)),
 oo 7 (.bin .lss false (.s 4) (.s 6))]) [0,3,7] (.cond (.s 7) (.skip) (.exit 0))) [0,3] (.seq (.block 1 (.seq (.region false [oo 10 (.mov (.s 0)),oo 11 (.mov (.s 3)),oo 12 (.indexStr (.s 10) (.s 11)),oo 13 (.bin .lss false (.s 12) (.c (.int .u8 48))),oo 14 (.mov (.s 13)),oF 15 14 (.mov (.s 0)),
 oF 16 14 (.mov (.s 3)),oF 17 14 (.indexStr (.s 15) (.s 16)),oF 18 14 (.bin .gtr false (.s 17) (.c (.int .u8 57))),oo 19 (.pick (.s 14) (.c (.bool true)) (.s 18))]) [0,3,19] (.cond (.s 19) (.seq (.region false [oo 2 (.mov (.c (.bool false)))]) [2] (.ret)) (.skip)))) [0,3] (
 .region false [oo 8 (.mov (.s 3)),oo 9 (.bin .add false (.s 8) (.c (.int .i64 1))),oo 3 (.mov (.s 9))])))))) [0] (.seq (.region false [oo 20 (.mov (.s 0)),oo 21 (.lenStr (.s 20)),oo 22 (.bin .gtr false (.s 21) (.c (.int .i64 0))),oo 2 (.mov (.s 22))]) [2] (.ret)))⟩
def tf109 : TFn := ⟨47,[.cell 4 true 5,.tmp 5],.seq (.region false [oo 2 (.box 68 (.s 0)),oo 4 (.alloc 68 [(.int .i64 0),(.int .i64 0),(.int .i64 0),(.str []),(.str [])]),oo 5 (.mov (.c (.bool false)))]) [1,2,4] (.seq (.seq (.region false [oo 7 (.load true 5 (.s 2)),oo 8 (.call 67 [(.s 7)]),
 oo 9 (.un .not (.s 8)),oo 10 (.mov (.s 9)),oF 11 10 (.mov (.s 1)),oF 12 10 (.bin .lss false (.s 11) (.c (.int .i64 0))),oo 13 (.pick (.s 10) (.c (.bool true)) (.s 12)),oo 14 (.mov (.s 13)),oF 15 14 (.mov (.s 1)),oF 16 14 (.bin .gtr false (.s 15) (.c (.int .i64 2))),
 oo 17 (.pick (.s 14) (.c (.bool true)) (.s 16))]) [1,2,4,17] (.cond (.s 17) (.seq (.region false [oo 18 (.build [(.int .i64 0),(.int .i64 0),(.int .i64 0),(.str []),(.str [])] []),⟨none,.store 5 (.s 4) (.s 18),none⟩,oo 5 (.mov (.c (.bool false)))]) [4,5] (.ret)) (.skip))) [1,2,4] (.seq (
 .region false [oo 6 (.alloc 68 [(.int .i64 0),(.int .i64 0),(.int .i64 0),(.str []),(.str [])])]) [1,2,4,6] (.seq (.seq (.region false [oo 19 (.mov (.s 1))]) [2,4,6,19] (.block 0 (.seq (.region false [oo 29 (.bin .eql false (.s 19) (.c (.int .i64 0))),oo 28 (.mov (.s 29))]) [2,4,6,19,28] (
 .cond (.s 28) (.region false [oo 30 (.fieldAddr 0 (.s 2)),oo 31 (.load false 1 (.s 30)),oo 32 (.bin .add false (.s 31) (.c (.int .i64 1))),oo 33 (.build [(.int .i64 0),(.int .i64 0),(.int .i64 0),(.str []),(.str [])] [(0,1,(.s 32))]),⟨none,.store 5 (.s 6) (.s 33),none⟩]) (.seq (
 .region false [oo 35 (.bin .eql false (.s 19) (.c (.int .i64 1))),oo 34 (.mov (.s 35))]) [2,4,6,34] (.cond (.s 34) (.region false [oo 36 (.fieldAddr 0 (.s 2)),oo 37 (.load false 1 (.s 36)),oo 38 (.fieldAddr 1 (.s 2)),oo 39 (.load false 1 (.s 38)),oo 40 (.bin .add false (.s 39) (.c (.int .i64 1))),
 oo 41 (.build [(.int .i64 0),(.int .i64 0),(.int .i64 0),(.str []),(.str [])] [(0,1,(.s 37)),(1,1,(.s 40))]),⟨none,.store 5 (.s 6) (.s 41),none⟩]) (.region false [oo 20 (.fieldAddr 0 (.s 2)),oo 21 (.load false 1 (.s 20)),oo 22 (.fieldAddr 1 (.s 2)),oo 23 (.load false 1 (.s 22)),
 oo 24 (.fieldAddr 2 (.s 2)),oo 25 (.load false 1 (.s 24)),oo 26 (.bin .add false (.s 25) (.c (.int .i64 1))),oo 27 (.build [(.int .i64 0),(.int .i64 0),(.int .i64 0),(.str []),(.str [])] [(0,1,(.s 21)),(1,1,(.s 23)),(2,1,(.s 26))]),⟨none,.store 5 (.s 6) (.s 27),none⟩]))))))) [4,6] (.seq (.seq (
 .region false [oo 42 (.load true 5 (.s 6)),oo 43 (.call 67 [(.s 42)]),oo 44 (.un .not (.s 43))]) [4,6,44] (.cond (.s 44) (.seq (.region false [oo 45 (.build [(.int .i64 0),(.int .i64 0),(.int .i64 0),(.str []),(.str [])] []),⟨none,.store 5 (.s 4) (.s 45),none⟩,
 oo 5 (.mov (.c (.bool false)))]) [4,5] (.ret)) (.skip))) [4,6] (.seq (.region false [oo 46 (.load true 5 (.s 6)),⟨none,.store 5 (.s 4) (.s 46),none⟩,oo 5 (.mov (.c (.bool true)))]) [4,5] (.ret))))))⟩
def tf110 : TFn := ⟨39,[.tmp 2],.seq (.region false [oo 1 (.box 78 (.s 0)),oo 2 (.mov (.c (.bool false)))]) [1] (.seq (.seq (.region false [oo 4 (.fieldAddr 0 (.s 1)),oo 5 (.load false 1 (.s 4)),oo 6 (.call 116 [(.s 5)]),oo 7 (.un .not (.s 6)),oo 8 (.mov (.s 7)),oF 9 8 (.fieldAddr 1 (.s 1)),
 oF 10 8 (.load false 1 (.s 9)),oF 11 8 (.call 116 [(.s 10)]),oF 12 8 (.un .not (.s 11)),oo 13 (.pick (.s 8) (.c (.bool true)) (.s 12))]) [1,13] (.cond (.s 13) (.seq (.region false [oo 2 (.mov (.c (.bool false)))]) [2] (.ret)) (.skip))) [1] (.seq (.seq (
 .region false [oo 3 (.mov (.c (.int .i64 0)))]) [1,3] (.block 0 (.loop (.seq (.seq (.region false [oo 14 (.mov (.s 3)),oo 15 (.fieldAddr 0 (.s 1)),oo 16 (.load false 1 (.s 15)),oo 17 (.len (.s 16)),oo 18 (.bin .lss false (.s 14) (.s 17))]) [1,3,18] (.cond (.s 18) (.skip) (.exit 0))) [1,3] (.seq (
 .block 1 (.seq (.region false [oo 21 (.fieldAddr 0 (.s 1)),oo 22 (.load false 1 (.s 21)),oo 23 (.mov (.s 3)),oo 24 (.indexAddr 14 (.s 22) (.s 23)),oo 25 (.fieldAddr 0 (.s 24)),oo 26 (.load true 7 (.s 25)),oo 27 (.call 117 [(.s 26)]),oo 28 (.un .not (.s 27)),oo 29 (.mov (.s 28)),
 oF 30 29 (.fieldAddr 0 (.s 1)),oF 31 29 (.load false 1 (.s 30)),oF 32 29 (.mov (.s 3)),oF 33 29 (.indexAddr 14 (.s 31) (.s 32)),oF 34 29 (.fieldAddr 7 (.s 33)),oF 35 29 (.load true 7 (.s 34)),oF 36 29 (.call 117 [(.s 35)]),oF 37 29 (.un .not (.s 36)),
 oo 38 (.pick (.s 29) (.c (.bool true)) (.s 37))]) [1,3,38] (.cond (.s 38) (.seq (.region false [oo 2 (.mov (.c (.bool false)))]) [2] (.ret)) (.skip)))) [1,3] (.region false [oo 19 (.mov (.s 3)),oo 20 (.bin .add false (.s 19) (.c (.int .i64 1))),oo 3 (.mov (.s 20))])))))) [] (.seq (
 .region false [oo 2 (.mov (.c (.bool true)))]) [2] (.ret))))⟩
def tf111 : TFn := ⟨24,[.tmp 4],.seq (.region false [oo 4 (.mov (.c (.fsl [])))]) [0,1] (.seq (.seq (.region false [oo 7 (.mov (.s 0)),oo 8 (.call 116 [(.s 7)]),oo 9 (.un .not (.s 8)),oo 10 (.mov (.s 9)),oF 11 10 (.mov (.s 1)),oF 12 10 (.call 116 [(.s 11)]),oF 13 10 (.un .not (.s 12)),
 oo 14 (.pick (.s 10) (.c (.bool true)) (.s 13))]) [0,1,14] (.cond (.s 14) (.seq (.region false [oo 4 (.mov (.c (.fsl [])))]) [4] (.ret)) (.skip))) [0,1] (.seq (.region false [oo 16 (.mov (.s 0)),oo 17 (.append 14 115 144 (.c (.fsl [])) (.s 16)),oo 18 (.mov (.s 1)),
 oo 19 (.append 14 115 144 (.s 17) (.s 18)),oo 20 (.call 118 [(.s 19)]),oo 15 (.mov (.s 20)),oo 21 (.extract 0 (.s 15)),oo 22 (.extract 1 (.s 15)),oo 5 (.mov (.s 21)),oo 6 (.mov (.s 22))]) [5] (.seq (.region false [oo 23 (.mov (.s 5)),oo 4 (.mov (.s 23))]) [4] (.ret))))⟩
def tf112 : TFn := ⟨5,[.tmp 0],.seq (.region false [oo 0 (.mov (.c (.fsl [])))]) [] (.seq (.region false [oo 1 (.call 94 []),oo 2 (.call 96 []),
 oo 3 (.build [(.int .i64 0),(.int .i64 0),(.int .i64 0),(.int .i64 0),(.str []),(.str []),(.bool false),(.int .i64 0),(.int .i64 0),(.int .i64 0),(.int .i64 0),(.str []),(.str []),(.bool false)] [(0,7,(.s 1)),(7,7,(.s 2))]),oo 4 (.buildSlice 14 115 [(.s 3)]),oo 0 (.mov (.s 4))]) [0] (.ret))⟩
def tf113 : TFn := ⟨42,[.tmp 2],.seq (.region false [oo 2 (.mov (.c (.fsl [])))]) [0] (.seq (.seq (.region false [oo 6 (.mov (.s 0)),oo 7 (.call 116 [(.s 6)]),oo 8 (.un .not (.s 7))]) [0,8] (.cond (.s 8) (.seq (.region false [oo 2 (.mov (.c (.fsl [])))]) [2] (.ret)) (.skip))) [0] (.seq (
 .region false [oo 3 (.mov (.c (.fsl [])))]) [0,3] (.seq (.region false [oo 9 (.mov (.s 0)),oo 10 (.call 119 [(.s 9)]),oo 4 (.mov (.s 10))]) [0,3,4] (.seq (.seq (.region false [oo 5 (.mov (.c (.int .i64 0)))]) [0,3,4,5] (.block 0 (.loop (.seq (.seq (.region false [oo 11 (.mov (.s 5)),
 oo 12 (.bin .add false (.s 11) (.c (.int .i64 1))),oo 13 (.mov (.s 4)),oo 14 (.len (.s 13)),oo 15 (.bin .lss false (.s 12) (.s 14))]) [0,3,4,5,15] (.cond (.s 15) (.skip) (.exit 0))) [0,3,4,5] (.seq (.block 1 (.seq (.region true [oo 18 (.mov (.s 0)),oo 19 (.mov (.s 4)),oo 20 (.mov (.s 5)),
 oo 21 (.indexAddr 7 (.s 19) (.s 20)),oo 22 (.load true 7 (.s 21)),oo 23 (.mov (.s 4)),oo 24 (.mov (.s 5)),oo 25 (.bin .add false (.s 24) (.c (.int .i64 1))),oo 26 (.indexAddr 7 (.s 23) (.s 25)),oo 27 (.load true 7 (.s 26)),oo 28 (.call 120 [(.s 18),(.s 22),(.s 27)]),
 oo 29 (.un .not (.s 28))]) [0,3,4,5,29] (.cond (.s 29) (.region true [oo 30 (.mov (.s 3)),oo 31 (.mov (.s 4)),oo 32 (.mov (.s 5)),oo 33 (.indexAddr 7 (.s 31) (.s 32)),oo 34 (.load true 7 (.s 33)),oo 35 (.mov (.s 4)),oo 36 (.mov (.s 5)),oo 37 (.bin .add false (.s 36) (.c (.int .i64 1))),
 oo 38 (.indexAddr 7 (.s 35) (.s 37)),oo 39 (.load true 7 (.s 38)),oo 40 (.call 121 [(.s 30),(.s 34),(.s 39)]),oo 3 (.mov (.s 40))]) (.skip)))) [0,3,4,5] (.region false [oo 16 (.mov (.s 5)),oo 17 (.bin .add false (.s 16) (.c (.int .i64 1))),oo 5 (.mov (.s 17))])))))) [3] (.seq (
 .region false [oo 41 (.mov (.s 3)),oo 2 (.mov (.s 41))]) [2] (.ret))))))⟩
def tf114 : TFn := ⟨24,[.tmp 4],.seq (.region false [oo 2 (.box 78 (.s 0)),oo 3 (.box 68 (.s 1)),oo 4 (.mov (.c (.bool false)))]) [2,3] (.seq (.seq (.region false [oo 5 (.load true 2 (.s 2)),oo 6 (.call 110 [(.s 5)]),oo 7 (.un .not (.s 6)),oo 8 (.mov (.s 7)),oF 9 8 (.load true 5 (.s 3)),
 oF 10 8 (.call 67 [(.s 9)]),oF 11 8 (.un .not (.s 10)),oo 12 (.pick (.s 8) (.c (.bool true)) (.s 11))]) [2,3,12] (.cond (.s 12) (.seq (.region false [oo 4 (.mov (.c (.bool false)))]) [4] (.ret)) (.skip))) [2,3] (.seq (.seq (.region false [oo 13 (.fieldAddr 3 (.s 3)),oo 14 (.load false 1 (.s 13)),
 oo 15 (.bin .eql false (.s 14) (.c (.str [])))]) [2,3,15] (.cond (.s 15) (.seq (.region false [oo 16 (.fieldAddr 0 (.s 2)),oo 17 (.load false 1 (.s 16)),oo 18 (.load true 5 (.s 3)),oo 19 (.call 122 [(.s 17),(.s 18)]),oo 4 (.mov (.s 19))]) [4] (.ret)) (.skip))) [2,3] (.seq (
 .region false [oo 20 (.fieldAddr 1 (.s 2)),oo 21 (.load false 1 (.s 20)),oo 22 (.load true 5 (.s 3)),oo 23 (.call 122 [(.s 21),(.s 22)]),oo 4 (.mov (.s 23))]) [4] (.ret))))⟩
def tf115 : TFn := ⟨9,[.tmp 2],.seq (.region false [oo 2 (.mov (.c (.bool false)))]) [0] (.seq (.region false [oo 3 (.mov (.s 0)),oo 4 (.bin .geq false (.s 3) (.c (.int .u8 48))),oo 5 (.mov (.s 4)),oT 6 5 (.mov (.s 0)),oT 7 5 (.bin .leq false (.s 6) (.c (.int .u8 57))),
 oo 8 (.pick (.s 5) (.s 7) (.c (.bool false))),oo 2 (.mov (.s 8))]) [2] (.ret))⟩
def tf116 : TFn := ⟨35,[.tmp 2],.seq (.region false [oo 2 (.mov (.c (.bool false)))]) [0] (.seq (.seq (.region false [oo 3 (.mov (.c (.int .i64 0)))]) [0,3] (.block 0 (.loop (.seq (.seq (.region false [oo 4 (.mov (.s 3)),oo 5 (.mov (.s 0)),oo 6 (.len (.s 5)),
 oo 7 (.bin .lss false (.s 4) (.s 6))]) [0,3,7] (.cond (.s 7) (.skip) (.exit 0))) [0,3] (.seq (.block 1 (.seq (.region true [oo 10 (.mov (.s 0)),oo 11 (.mov (.s 3)),oo 12 (.indexAddr 14 (.s 10) (.s 11)),oo 13 (.load true 14 (.s 12)),oo 14 (.call 123 [(.s 13)]),oo 15 (.un .not (.s 14)),
 oo 16 (.mov (.s 15)),oF 17 16 (.mov (.s 3)),oF 18 16 (.bin .gtr false (.s 17) (.c (.int .i64 0))),oF 19 16 (.mov (.s 18)),oT 20 19 (.mov (.s 0)),oT 21 19 (.mov (.s 3)),oT 22 19 (.bin .sub false (.s 21) (.c (.int .i64 1))),oT 23 19 (.indexAddr 14 (.s 20) (.s 22)),oT 24 19 (.fieldAddr 7 (.s 23)),
 oT 25 19 (.load true 7 (.s 24)),oT 26 19 (.mov (.s 0)),oT 27 19 (.mov (.s 3)),oT 28 19 (.indexAddr 14 (.s 26) (.s 27)),oT 29 19 (.fieldAddr 0 (.s 28)),oT 30 19 (.load true 7 (.s 29)),oT 31 19 (.call 124 [(.s 25),(.s 30)]),oT 32 19 (.bin .geq false (.s 31) (.c (.int .i64 0))),
 oF 33 16 (.pick (.s 19) (.s 32) (.c (.bool false))),oo 34 (.pick (.s 16) (.c (.bool true)) (.s 33))]) [0,3,34] (.cond (.s 34) (.seq (.region false [oo 2 (.mov (.c (.bool false)))]) [2] (.ret)) (.skip)))) [0,3] (.region false [oo 8 (.mov (.s 3)),oo 9 (.bin .add false (.s 8) (.c (.int .i64 1))),
 oo 3 (.mov (.s 9))])))))) [] (.seq (.region false [oo 2 (.mov (.c (.bool true)))]) [2] (.ret)))⟩
def tf117 : TFn := ⟨23,[.tmp 2],.seq (.region false [oo 1 (.box 112 (.s 0)),oo 2 (.mov (.c (.bool false)))]) [1] (.seq (.region false [oo 3 (.fieldAddr 0 (.s 1)),oo 4 (.load false 1 (.s 3)),oo 5 (.bin .neq false (.s 4) (.c (.int .i64 0))),oo 6 (.mov (.s 5)),oF 7 6 (.fieldAddr 6 (.s 1)),
 oF 8 6 (.load false 1 (.s 7)),oF 9 6 (.un .not (.s 8)),oF 10 6 (.mov (.s 9)),oT 11 10 (.fieldAddr 1 (.s 1)),oT 12 10 (.fieldAddr 3 (.s 11)),oT 13 10 (.load false 1 (.s 12)),oT 14 10 (.bin .eql false (.s 13) (.c (.str []))),oF 15 6 (.pick (.s 10) (.s 14) (.c (.bool false))),oF 16 6 (.mov (.s 15)),
 oT 17 16 (.fieldAddr 1 (.s 1)),oT 18 16 (.load true 5 (.s 17)),oT 19 16 (.call 93 [(.s 18)]),oT 20 16 (.un .not (.s 19)),oF 21 6 (.pick (.s 16) (.s 20) (.c (.bool false))),oo 22 (.pick (.s 6) (.c (.bool true)) (.s 21)),oo 2 (.mov (.s 22))]) [2] (.ret))⟩
def tf118 : TFn := ⟨52,[.tmp 2,.tmp 3],.seq (.region false [oo 2 (.mov (.c (.fsl []))),oo 3 (.mov (.c (.bool false)))]) [0] (.seq (.seq (.region false [oo 4 (.mov (.c (.int .i64 0)))]) [0,4] (.block 0 (.loop (.seq (.seq (.region false [oo 8 (.mov (.s 4)),oo 9 (.mov (.s 0)),oo 10 (.len (.s 9)),
 oo 11 (.bin .lss false (.s 8) (.s 10))]) [0,4,11] (.cond (.s 11) (.skip) (.exit 0))) [0,4] (.seq (.block 1 (.seq (.region false [oo 14 (.mov (.s 0)),oo 15 (.mov (.s 4)),oo 16 (.indexAddr 14 (.s 14) (.s 15)),oo 17 (.load true 14 (.s 16)),oo 18 (.call 123 [(.s 17)]),
 oo 19 (.un .not (.s 18))]) [0,4,19] (.cond (.s 19) (.seq (.region false [oo 2 (.mov (.c (.fsl []))),oo 3 (.mov (.c (.bool false)))]) [2,3] (.ret)) (.skip)))) [0,4] (.region false [oo 12 (.mov (.s 4)),oo 13 (.bin .add false (.s 12) (.c (.int .i64 1))),oo 4 (.mov (.s 13))])))))) [0] (.seq (
 .region false [oo 5 (.mov (.c (.fsl [])))]) [0,5] (.seq (.region false [oo 20 (.mov (.s 0)),oo 21 (.call 119 [(.s 20)]),oo 6 (.mov (.s 21))]) [0,5,6] (.seq (.seq (.region false [oo 7 (.mov (.c (.int .i64 0)))]) [0,5,6,7] (.block 2 (.loop (.seq (.seq (.region false [oo 22 (.mov (.s 7)),
 oo 23 (.bin .add false (.s 22) (.c (.int .i64 1))),oo 24 (.mov (.s 6)),oo 25 (.len (.s 24)),oo 26 (.bin .lss false (.s 23) (.s 25))]) [0,5,6,7,26] (.cond (.s 26) (.skip) (.exit 2))) [0,5,6,7] (.seq (.block 3 (.seq (.region true [oo 29 (.mov (.s 0)),oo 30 (.mov (.s 6)),oo 31 (.mov (.s 7)),
 oo 32 (.indexAddr 7 (.s 30) (.s 31)),oo 33 (.load true 7 (.s 32)),oo 34 (.mov (.s 6)),oo 35 (.mov (.s 7)),oo 36 (.bin .add false (.s 35) (.c (.int .i64 1))),oo 37 (.indexAddr 7 (.s 34) (.s 36)),oo 38 (.load true 7 (.s 37)),oo 39 (.call 120 [(.s 29),(.s 33),(.s 38)])]) [0,5,6,7,39] (.cond (.s 39) (
 .region true [oo 40 (.mov (.s 5)),oo 41 (.mov (.s 6)),oo 42 (.mov (.s 7)),oo 43 (.indexAddr 7 (.s 41) (.s 42)),oo 44 (.load true 7 (.s 43)),oo 45 (.mov (.s 6)),oo 46 (.mov (.s 7)),oo 47 (.bin .add false (.s 46) (.c (.int .i64 1))),oo 48 (.indexAddr 7 (.s 45) (.s 47)),oo 49 (.load true 7 (.s 48)),
 oo 50 (.call 121 [(.s 40),(.s 44),(.s 49)]),oo 5 (.mov (.s 50))]) (.skip)))) [0,5,6,7] (.region false [oo 27 (.mov (.s 7)),oo 28 (.bin .add false (.s 27) (.c (.int .i64 1))),oo 7 (.mov (.s 28))])))))) [5] (.seq (.region false [oo 51 (.mov (.s 5)),oo 2 (.mov (.s 51)),
 oo 3 (.mov (.c (.bool true)))]) [2,3] (.ret))))))⟩
def tf119 : TFn := ⟨28,[.tmp 2],.seq (.region false [oo 2 (.mov (.c (.fsl [])))]) [0] (.seq (.region false [oo 5 (.call 94 []),oo 6 (.call 96 []),oo 7 (.buildSlice 7 112 [(.s 5),(.s 6)]),oo 3 (.mov (.s 7))]) [0,3] (.seq (.seq (.region false [oo 4 (.mov (.c (.int .i64 0)))]) [0,3,4] (.block 0 (
 .loop (.seq (.seq (.region false [oo 8 (.mov (.s 4)),oo 9 (.mov (.s 0)),oo 10 (.len (.s 9)),oo 11 (.bin .lss false (.s 8) (.s 10))]) [0,3,4,11] (.cond (.s 11) (.skip) (.exit 0))) [0,3,4] (.seq (.block 1 (.region true [oo 14 (.mov (.s 3)),oo 15 (.mov (.s 0)),oo 16 (.mov (.s 4)),
 oo 17 (.indexAddr 14 (.s 15) (.s 16)),oo 18 (.fieldAddr 0 (.s 17)),oo 19 (.load true 7 (.s 18)),oo 20 (.call 125 [(.s 14),(.s 19)]),oo 21 (.mov (.s 0)),oo 22 (.mov (.s 4)),oo 23 (.indexAddr 14 (.s 21) (.s 22)),oo 24 (.fieldAddr 7 (.s 23)),oo 25 (.load true 7 (.s 24)),
 oo 26 (.call 125 [(.s 20),(.s 25)]),oo 3 (.mov (.s 26))])) [0,3,4] (.region false [oo 12 (.mov (.s 4)),oo 13 (.bin .add false (.s 12) (.c (.int .i64 1))),oo 4 (.mov (.s 13))])))))) [3] (.seq (.region false [oo 27 (.mov (.s 3)),oo 2 (.mov (.s 27))]) [2] (.ret))))⟩
def tf120 : TFn := ⟨32,[.tmp 6],.seq (.region false [oo 4 (.box 112 (.s 1)),oo 5 (.box 112 (.s 2)),oo 6 (.mov (.c (.bool false)))]) [0,4,5] (.seq (.seq (.region false [oo 7 (.mov (.c (.int .i64 0)))]) [0,4,5,7] (.block 0 (.loop (.seq (.seq (.region false [oo 8 (.mov (.s 7)),oo 9 (.mov (.s 0)),
 oo 10 (.len (.s 9)),oo 11 (.bin .lss false (.s 8) (.s 10))]) [0,4,5,7,11] (.cond (.s 11) (.skip) (.exit 0))) [0,4,5,7] (.seq (.block 1 (.seq (.region true [oo 14 (.mov (.s 0)),oo 15 (.mov (.s 7)),oo 16 (.indexAddr 14 (.s 14) (.s 15)),oo 17 (.fieldAddr 0 (.s 16)),oo 18 (.load true 7 (.s 17)),
 oo 19 (.load true 7 (.s 4)),oo 20 (.call 124 [(.s 18),(.s 19)]),oo 21 (.bin .leq false (.s 20) (.c (.int .i64 0))),oo 22 (.mov (.s 21)),oT 23 22 (.load true 7 (.s 5)),oT 24 22 (.mov (.s 0)),oT 25 22 (.mov (.s 7)),oT 26 22 (.indexAddr 14 (.s 24) (.s 25)),oT 27 22 (.fieldAddr 7 (.s 26)),
 oT 28 22 (.load true 7 (.s 27)),oT 29 22 (.call 124 [(.s 23),(.s 28)]),oT 30 22 (.bin .leq false (.s 29) (.c (.int .i64 0))),oo 31 (.pick (.s 22) (.s 30) (.c (.bool false)))]) [0,4,5,7,31] (.cond (.s 31) (.seq (.region false [oo 6 (.mov (.c (.bool true)))]) [6] (.ret)) (.skip)))) [0,4,5,7] (
 .region false [oo 12 (.mov (.s 7)),oo 13 (.bin .add false (.s 12) (.c (.int .i64 1))),oo 7 (.mov (.s 13))])))))) [] (.seq (.region false [oo 6 (.mov (.c (.bool false)))]) [6] (.ret)))⟩
def tf121 : TFn := ⟨35,[.tmp 6],.seq (.region false [oo 4 (.box 112 (.s 1)),oo 5 (.box 112 (.s 2)),oo 6 (.mov (.c (.fsl [])))]) [0,4,5] (.seq (.seq (.region false [oo 8 (.mov (.s 0)),oo 9 (.len (.s 8)),oo 10 (.bin .sub false (.s 9) (.c (.int .i64 1))),oo 7 (.mov (.s 10))]) [0,4,5,7] (.seq (
 .region true [oo 11 (.mov (.s 7)),oo 12 (.bin .geq false (.s 11) (.c (.int .i64 0))),oo 13 (.mov (.s 12)),oT 14 13 (.mov (.s 0)),oT 15 13 (.mov (.s 7)),oT 16 13 (.indexAddr 14 (.s 14) (.s 15)),oT 17 13 (.fieldAddr 7 (.s 16)),oT 18 13 (.load true 7 (.s 17)),oT 19 13 (.load true 7 (.s 4)),
 oT 20 13 (.call 124 [(.s 18),(.s 19)]),oT 21 13 (.bin .eql false (.s 20) (.c (.int .i64 0))),oo 22 (.pick (.s 13) (.s 21) (.c (.bool false)))]) [0,4,5,7,22] (.cond (.s 22) (.seq (.region false [oo 23 (.mov (.s 0)),oo 24 (.mov (.s 7)),oo 25 (.load true 7 (.s 5)),
 oo 26 (.indexAddr 14 (.s 23) (.s 24)),oo 27 (.fieldAddr 7 (.s 26)),⟨none,.store 7 (.s 27) (.s 25),none⟩]) [0] (.seq (.region false [oo 28 (.mov (.s 0)),oo 6 (.mov (.s 28))]) [6] (.ret))) (.skip)))) [0,4,5] (.seq (.region false [oo 29 (.mov (.s 0)),oo 30 (.load true 7 (.s 4)),
 oo 31 (.load true 7 (.s 5)),oo 32 (.build [(.int .i64 0),(.int .i64 0),(.int .i64 0),(.int .i64 0),(.str []),(.str []),(.bool false),(.int .i64 0),(.int .i64 0),(.int .i64 0),(.int .i64 0),(.str []),(.str []),(.bool false)] [(0,7,(.s 30)),(7,7,(.s 31))]),oo 33 (.buildSlice 14 115 [(.s 32)]),
 oo 34 (.append 14 115 144 (.s 29) (.s 33)),oo 6 (.mov (.s 34))]) [6] (.ret)))⟩
def tf122 : TFn := ⟨22,[.tmp 4],.seq (.region false [oo 3 (.box 68 (.s 1)),oo 4 (.mov (.c (.bool false)))]) [0,3] (.seq (.seq (.region false [oo 5 (.mov (.c (.int .i64 0)))]) [0,3,5] (.block 0 (.loop (.seq (.seq (.region false [oo 6 (.mov (.s 5)),oo 7 (.mov (.s 0)),oo 8 (.len (.s 7)),
 oo 9 (.bin .lss false (.s 6) (.s 8)),oo 10 (.mov (.s 9)),oT 11 10 (.mov (.s 0)),oT 12 10 (.call 116 [(.s 11)]),oo 13 (.pick (.s 10) (.s 12) (.c (.bool false)))]) [0,3,5,13] (.cond (.s 13) (.skip) (.exit 0))) [0,3,5] (.seq (.block 1 (.seq (.region true [oo 16 (.mov (.s 0)),oo 17 (.mov (.s 5)),
 oo 18 (.indexAddr 14 (.s 16) (.s 17)),oo 19 (.load true 14 (.s 18)),oo 20 (.load true 5 (.s 3)),oo 21 (.call 126 [(.s 19),(.s 20)])]) [0,3,5,21] (.cond (.s 21) (.seq (.region false [oo 4 (.mov (.c (.bool true)))]) [4] (.ret)) (.skip)))) [0,3,5] (.region false [oo 14 (.mov (.s 5)),
 oo 15 (.bin .add false (.s 14) (.c (.int .i64 1))),oo 5 (.mov (.s 15))])))))) [] (.seq (.region false [oo 4 (.mov (.c (.bool false)))]) [4] (.ret)))⟩
def tf123 : TFn := ⟨19,[.tmp 2],.seq (.region false [oo 1 (.box 115 (.s 0)),oo 2 (.mov (.c (.bool false)))]) [1] (.seq (.region false [oo 3 (.fieldAddr 0 (.s 1)),oo 4 (.load true 7 (.s 3)),oo 5 (.call 127 [(.s 4)]),oo 6 (.mov (.s 5)),oT 7 6 (.fieldAddr 7 (.s 1)),oT 8 6 (.load true 7 (.s 7)),
 oT 9 6 (.call 127 [(.s 8)]),oo 10 (.pick (.s 6) (.s 9) (.c (.bool false))),oo 11 (.mov (.s 10)),oT 12 11 (.fieldAddr 0 (.s 1)),oT 13 11 (.load true 7 (.s 12)),oT 14 11 (.fieldAddr 7 (.s 1)),oT 15 11 (.load true 7 (.s 14)),oT 16 11 (.call 124 [(.s 13),(.s 15)]),
 oT 17 11 (.bin .lss false (.s 16) (.c (.int .i64 0))),oo 18 (.pick (.s 11) (.s 17) (.c (.bool false))),oo 2 (.mov (.s 18))]) [2] (.ret))⟩
def tf124 : TFn := ⟨46,[.tmp 4],.seq (.region false [oo 2 (.box 112 (.s 0)),oo 3 (.box 112 (.s 1)),oo 4 (.mov (.c (.int .i64 0)))]) [2,3] (.seq (.seq (.region false [oo 6 (.load true 7 (.s 2)),oo 7 (.call 127 [(.s 6)]),oo 8 (.un .not (.s 7)),oo 9 (.mov (.s 8)),oF 10 9 (.load true 7 (.s 3)),
 oF 11 9 (.call 127 [(.s 10)]),oF 12 9 (.un .not (.s 11)),oo 13 (.pick (.s 9) (.c (.bool true)) (.s 12))]) [2,3,13] (.cond (.s 13) (.seq (.region false [oo 4 (.mov (.c (.int .i64 0)))]) [4] (.ret)) (.skip))) [2,3] (.seq (.seq (.region false [oo 14 (.fieldAddr 0 (.s 2)),
 oo 15 (.load false 1 (.s 14)),oo 16 (.fieldAddr 0 (.s 3)),oo 17 (.load false 1 (.s 16)),oo 18 (.bin .neq false (.s 15) (.s 17)),oo 19 (.mov (.s 18)),oF 20 19 (.fieldAddr 0 (.s 2)),oF 21 19 (.load false 1 (.s 20)),oF 22 19 (.bin .neq false (.s 21) (.c (.int .i64 0))),
 oo 23 (.pick (.s 19) (.c (.bool true)) (.s 22))]) [2,3,23] (.cond (.s 23) (.seq (.region false [oo 24 (.fieldAddr 0 (.s 2)),oo 25 (.load false 1 (.s 24)),oo 26 (.fieldAddr 0 (.s 3)),oo 27 (.load false 1 (.s 26)),oo 28 (.call 128 [(.s 25),(.s 27)]),oo 4 (.mov (.s 28))]) [4] (.ret)) (
 .skip))) [2,3] (.seq (.seq (.region false [oo 29 (.fieldAddr 1 (.s 2)),oo 30 (.load true 5 (.s 29)),oo 31 (.fieldAddr 1 (.s 3)),oo 32 (.load true 5 (.s 31)),oo 33 (.call 129 [(.s 30),(.s 32)]),oo 5 (.mov (.s 33))]) [2,3,5] (.seq (.region false [oo 34 (.mov (.s 5)),
 oo 35 (.bin .neq false (.s 34) (.c (.int .i64 0)))]) [2,3,5,35] (.cond (.s 35) (.seq (.region false [oo 36 (.mov (.s 5)),oo 4 (.mov (.s 36))]) [4] (.ret)) (.skip)))) [2,3] (.seq (.block 0 (.seq (.region false [oo 38 (.fieldAddr 6 (.s 2)),oo 39 (.load false 1 (.s 38)),oo 40 (.fieldAddr 6 (.s 3)),
 oo 41 (.load false 1 (.s 40)),oo 42 (.bin .eql true (.s 39) (.s 41)),oo 37 (.mov (.s 42))]) [3,37] (.cond (.s 37) (.seq (.region false [oo 4 (.mov (.c (.int .i64 0)))]) [4] (.ret)) (.seq (.region false [oo 44 (.fieldAddr 6 (.s 3)),oo 45 (.load false 1 (.s 44)),oo 43 (.mov (.s 45))]) [43] (
 .cond (.s 43) (.seq (.region false [oo 4 (.mov (.c (.int .i64 (-1))))]) [4] (.ret)) (.skip)))))) [] (.seq (.region false [oo 4 (.mov (.c (.int .i64 1)))]) [4] (.ret))))))⟩
def tf125 : TFn := ⟨46,[.tmp 4],.seq (.region false [oo 3 (.box 112 (.s 1)),oo 4 (.mov (.c (.fsl [])))]) [0,3] (.seq (.region false [oo 5 (.mov (.c (.int .i64 0)))]) [0,3,5] (.seq (.block 0 (.loop (.seq (.seq (.region true [oo 6 (.mov (.s 5)),oo 7 (.mov (.s 0)),oo 8 (.len (.s 7)),
 oo 9 (.bin .lss false (.s 6) (.s 8)),oo 10 (.mov (.s 9)),oT 11 10 (.mov (.s 0)),oT 12 10 (.mov (.s 5)),oT 13 10 (.indexAddr 7 (.s 11) (.s 12)),oT 14 10 (.load true 7 (.s 13)),oT 15 10 (.load true 7 (.s 3)),oT 16 10 (.call 124 [(.s 14),(.s 15)]),
 oT 17 10 (.bin .lss false (.s 16) (.c (.int .i64 0))),oo 18 (.pick (.s 10) (.s 17) (.c (.bool false)))]) [0,3,5,18] (.cond (.s 18) (.skip) (.exit 0))) [0,3,5] (.block 1 (.region false [oo 19 (.mov (.s 5)),oo 20 (.bin .add false (.s 19) (.c (.int .i64 1))),oo 5 (.mov (.s 20))]))))) [0,3,5] (.seq (
 .seq (.region true [oo 21 (.mov (.s 5)),oo 22 (.mov (.s 0)),oo 23 (.len (.s 22)),oo 24 (.bin .lss false (.s 21) (.s 23)),oo 25 (.mov (.s 24)),oT 26 25 (.mov (.s 0)),oT 27 25 (.mov (.s 5)),oT 28 25 (.indexAddr 7 (.s 26) (.s 27)),oT 29 25 (.load true 7 (.s 28)),oT 30 25 (.load true 7 (.s 3)),
 oT 31 25 (.call 124 [(.s 29),(.s 30)]),oT 32 25 (.bin .eql false (.s 31) (.c (.int .i64 0))),oo 33 (.pick (.s 25) (.s 32) (.c (.bool false)))]) [0,3,5,33] (.cond (.s 33) (.seq (.region false [oo 34 (.mov (.s 0)),oo 4 (.mov (.s 34))]) [4] (.ret)) (.skip))) [0,3,5] (.seq (
 .region true [oo 35 (.mov (.s 0)),oo 36 (.mov (.s 5)),oo 37 (.slice 7 (.s 35) none (some (.s 36)) none),oo 38 (.append 7 112 72 (.c (.fsl [])) (.s 37)),oo 39 (.load true 7 (.s 3)),oo 40 (.buildSlice 7 112 [(.s 39)]),oo 41 (.append 7 112 72 (.s 38) (.s 40)),oo 42 (.mov (.s 0)),oo 43 (.mov (.s 5)),
 oo 44 (.slice 7 (.s 42) (some (.s 43)) none none),oo 45 (.append 7 112 72 (.s 41) (.s 44)),oo 4 (.mov (.s 45))]) [4] (.ret)))))⟩
def tf126 : TFn := ⟨24,[.tmp 4],.seq (.region false [oo 2 (.box 115 (.s 0)),oo 3 (.box 68 (.s 1)),oo 4 (.mov (.c (.bool false)))]) [2,3] (.seq (.region false [oo 5 (.load true 14 (.s 2)),oo 6 (.call 123 [(.s 5)]),oo 7 (.mov (.s 6)),oT 8 7 (.load true 5 (.s 3)),oT 9 7 (.call 67 [(.s 8)]),
 oo 10 (.pick (.s 7) (.s 9) (.c (.bool false))),oo 11 (.mov (.s 10)),oT 12 11 (.fieldAddr 0 (.s 2)),oT 13 11 (.load true 7 (.s 12)),oT 14 11 (.load true 5 (.s 3)),oT 15 11 (.call 130 [(.s 13),(.s 14)]),oo 16 (.pick (.s 11) (.s 15) (.c (.bool false))),oo 17 (.mov (.s 16)),
 oT 18 17 (.fieldAddr 7 (.s 2)),oT 19 17 (.load true 7 (.s 18)),oT 20 17 (.load true 5 (.s 3)),oT 21 17 (.call 130 [(.s 19),(.s 20)]),oT 22 17 (.un .not (.s 21)),oo 23 (.pick (.s 17) (.s 22) (.c (.bool false))),oo 4 (.mov (.s 23))]) [4] (.ret))⟩
def tf127 : TFn := ⟨34,[.tmp 2],.seq (.region false [oo 1 (.box 112 (.s 0)),oo 2 (.mov (.c (.bool false)))]) [1] (.seq (.seq (.region false [oo 3 (.fieldAddr 0 (.s 1)),oo 4 (.load false 1 (.s 3)),oo 5 (.bin .eql false (.s 4) (.c (.int .i64 0)))]) [1,5] (.cond (.s 5) (.seq (
 .region false [oo 6 (.fieldAddr 1 (.s 1)),oo 7 (.load true 5 (.s 6)),oo 8 (.call 67 [(.s 7)]),oo 9 (.mov (.s 8)),oT 10 9 (.fieldAddr 1 (.s 1)),oT 11 9 (.fieldAddr 4 (.s 10)),oT 12 9 (.load false 1 (.s 11)),oT 13 9 (.bin .eql false (.s 12) (.c (.str []))),
 oo 14 (.pick (.s 9) (.s 13) (.c (.bool false))),oo 2 (.mov (.s 14))]) [2] (.ret)) (.skip))) [1] (.seq (.region false [oo 15 (.fieldAddr 0 (.s 1)),oo 16 (.load false 1 (.s 15)),oo 17 (.bin .eql false (.s 16) (.c (.int .i64 (-1)))),oo 18 (.mov (.s 17)),oF 19 18 (.fieldAddr 0 (.s 1)),
 oF 20 18 (.load false 1 (.s 19)),oF 21 18 (.bin .eql false (.s 20) (.c (.int .i64 1))),oo 22 (.pick (.s 18) (.c (.bool true)) (.s 21)),oo 23 (.mov (.s 22)),oT 24 23 (.fieldAddr 1 (.s 1)),oT 25 23 (.load true 5 (.s 24)),
 oT 26 23 (.build [(.int .i64 0),(.int .i64 0),(.int .i64 0),(.str []),(.str [])] []),oT 27 23 (.eqs false [0,0,0,2,2] (.s 25) (.s 26)),oo 28 (.pick (.s 23) (.s 27) (.c (.bool false))),oo 29 (.mov (.s 28)),oT 30 29 (.fieldAddr 6 (.s 1)),oT 31 29 (.load false 1 (.s 30)),oT 32 29 (.un .not (.s 31)),
 oo 33 (.pick (.s 29) (.s 32) (.c (.bool false))),oo 2 (.mov (.s 33))]) [2] (.ret)))⟩
def tf128 : TFn := ⟨13,[.tmp 4],.seq (.region false [oo 4 (.mov (.c (.int .i64 0)))]) [0,1] (.seq (.block 0 (.seq (.region false [oo 6 (.mov (.s 0)),oo 7 (.mov (.s 1)),oo 8 (.bin .lss false (.s 6) (.s 7)),oo 5 (.mov (.s 8))]) [0,1,5] (.cond (.s 5) (.seq (
 .region false [oo 4 (.mov (.c (.int .i64 (-1))))]) [4] (.ret)) (.seq (.region false [oo 10 (.mov (.s 0)),oo 11 (.mov (.s 1)),oo 12 (.bin .gtr false (.s 10) (.s 11)),oo 9 (.mov (.s 12))]) [9] (.cond (.s 9) (.seq (.region false [oo 4 (.mov (.c (.int .i64 1)))]) [4] (.ret)) (.skip)))))) [] (.seq (
 .region false [oo 4 (.mov (.c (.int .i64 0)))]) [4] (.ret)))⟩
def tf129 : TFn := ⟨45,[.tmp 4],.seq (.region false [oo 2 (.box 68 (.s 0)),oo 3 (.box 68 (.s 1)),oo 4 (.mov (.c (.int .i64 0)))]) [2,3] (.seq (.seq (.region false [oo 8 (.load true 5 (.s 2)),oo 9 (.call 67 [(.s 8)]),oo 10 (.un .not (.s 9)),oo 11 (.mov (.s 10)),oF 12 11 (.load true 5 (.s 3)),
 oF 13 11 (.call 67 [(.s 12)]),oF 14 11 (.un .not (.s 13)),oo 15 (.pick (.s 11) (.c (.bool true)) (.s 14))]) [2,3,15] (.cond (.s 15) (.seq (.region false [oo 4 (.mov (.c (.int .i64 0)))]) [4] (.ret)) (.skip))) [2,3] (.seq (.seq (.region false [oo 16 (.fieldAddr 0 (.s 2)),
 oo 17 (.load false 1 (.s 16)),oo 18 (.fieldAddr 0 (.s 3)),oo 19 (.load false 1 (.s 18)),oo 20 (.call 128 [(.s 17),(.s 19)]),oo 5 (.mov (.s 20))]) [2,3,5] (.seq (.region false [oo 21 (.mov (.s 5)),oo 22 (.bin .neq false (.s 21) (.c (.int .i64 0)))]) [2,3,5,22] (.cond (.s 22) (.seq (
 .region false [oo 23 (.mov (.s 5)),oo 4 (.mov (.s 23))]) [4] (.ret)) (.skip)))) [2,3] (.seq (.seq (.region false [oo 24 (.fieldAddr 1 (.s 2)),oo 25 (.load false 1 (.s 24)),oo 26 (.fieldAddr 1 (.s 3)),oo 27 (.load false 1 (.s 26)),oo 28 (.call 128 [(.s 25),(.s 27)]),oo 6 (.mov (.s 28))]) [2,3,6] (
 .seq (.region false [oo 29 (.mov (.s 6)),oo 30 (.bin .neq false (.s 29) (.c (.int .i64 0)))]) [2,3,6,30] (.cond (.s 30) (.seq (.region false [oo 31 (.mov (.s 6)),oo 4 (.mov (.s 31))]) [4] (.ret)) (.skip)))) [2,3] (.seq (.seq (.region false [oo 32 (.fieldAddr 2 (.s 2)),
 oo 33 (.load false 1 (.s 32)),oo 34 (.fieldAddr 2 (.s 3)),oo 35 (.load false 1 (.s 34)),oo 36 (.call 128 [(.s 33),(.s 35)]),oo 7 (.mov (.s 36))]) [2,3,7] (.seq (.region false [oo 37 (.mov (.s 7)),oo 38 (.bin .neq false (.s 37) (.c (.int .i64 0)))]) [2,3,7,38] (.cond (.s 38) (.seq (
 .region false [oo 39 (.mov (.s 7)),oo 4 (.mov (.s 39))]) [4] (.ret)) (.skip)))) [2,3] (.seq (.region false [oo 40 (.fieldAddr 3 (.s 2)),oo 41 (.load false 1 (.s 40)),oo 42 (.fieldAddr 3 (.s 3)),oo 43 (.load false 1 (.s 42)),oo 44 (.call 131 [(.s 41),(.s 43)]),oo 4 (.mov (.s 44))]) [4] (.ret))))))⟩
def tf130 : TFn := ⟨35,[.tmp 4],.seq (.region false [oo 2 (.box 112 (.s 0)),oo 3 (.box 68 (.s 1)),oo 4 (.mov (.c (.bool false)))]) [2,3] (.seq (.seq (.region false [oo 6 (.load true 7 (.s 2)),oo 7 (.call 127 [(.s 6)]),oo 8 (.un .not (.s 7)),oo 9 (.mov (.s 8)),oF 10 9 (.load true 5 (.s 3)),
 oF 11 9 (.call 67 [(.s 10)]),oF 12 9 (.un .not (.s 11)),oo 13 (.pick (.s 9) (.c (.bool true)) (.s 12))]) [2,3,13] (.cond (.s 13) (.seq (.region false [oo 4 (.mov (.c (.bool false)))]) [4] (.ret)) (.skip))) [2,3] (.seq (.seq (.region false [oo 14 (.fieldAddr 0 (.s 2)),oo 15 (.load false 1 (.s 14)),
 oo 16 (.bin .neq false (.s 15) (.c (.int .i64 0)))]) [2,3,16] (.cond (.s 16) (.seq (.region false [oo 17 (.fieldAddr 0 (.s 2)),oo 18 (.load false 1 (.s 17)),oo 19 (.bin .lss false (.s 18) (.c (.int .i64 0))),oo 4 (.mov (.s 19))]) [4] (.ret)) (.skip))) [2,3] (.seq (
 .region false [oo 20 (.fieldAddr 1 (.s 2)),oo 21 (.load true 5 (.s 20)),oo 22 (.load true 5 (.s 3)),oo 23 (.call 129 [(.s 21),(.s 22)]),oo 5 (.mov (.s 23))]) [2,5] (.seq (.region false [oo 24 (.mov (.s 5)),oo 25 (.bin .lss false (.s 24) (.c (.int .i64 0))),oo 26 (.mov (.s 25)),
 oF 27 26 (.mov (.s 5)),oF 28 26 (.bin .eql false (.s 27) (.c (.int .i64 0))),oF 29 26 (.mov (.s 28)),oT 30 29 (.fieldAddr 6 (.s 2)),oT 31 29 (.load false 1 (.s 30)),oT 32 29 (.un .not (.s 31)),oF 33 26 (.pick (.s 29) (.s 32) (.c (.bool false))),oo 34 (.pick (.s 26) (.c (.bool true)) (.s 33)),
 oo 4 (.mov (.s 34))]) [4] (.ret)))))⟩
def tf131 : TFn := ⟨52,[.tmp 4],.seq (.region false [oo 4 (.mov (.c (.int .i64 0)))]) [0,1] (.seq (.block 0 (.seq (.region false [oo 10 (.mov (.s 0)),oo 11 (.mov (.s 1)),oo 12 (.bin .eql false (.s 10) (.s 11)),oo 9 (.mov (.s 12))]) [0,1,9] (.cond (.s 9) (.seq (
 .region false [oo 4 (.mov (.c (.int .i64 0)))]) [4] (.ret)) (.seq (.region false [oo 14 (.mov (.s 0)),oo 15 (.bin .eql false (.s 14) (.c (.str []))),oo 13 (.mov (.s 15))]) [0,1,13] (.cond (.s 13) (.seq (.region false [oo 4 (.mov (.c (.int .i64 1)))]) [4] (.ret)) (.seq (
 .region false [oo 17 (.mov (.s 1)),oo 18 (.bin .eql false (.s 17) (.c (.str []))),oo 16 (.mov (.s 18))]) [0,1,16] (.cond (.s 16) (.seq (.region false [oo 4 (.mov (.c (.int .i64 (-1))))]) [4] (.ret)) (.skip)))))))) [0,1] (.seq (.region false [oo 19 (.mov (.s 0)),
 oo 20 (.call 105 [(.s 19),(.c (.int .u8 46))]),oo 21 (.mov (.s 1)),oo 22 (.call 105 [(.s 21),(.c (.int .u8 46))]),oo 5 (.mov (.s 20)),oo 6 (.mov (.s 22))]) [5,6] (.seq (.seq (.region false [oo 7 (.mov (.c (.int .i64 0)))]) [5,6,7] (.block 1 (.loop (.seq (.seq (.region false [oo 23 (.mov (.s 7)),
 oo 24 (.mov (.s 5)),oo 25 (.len (.s 24)),oo 26 (.bin .lss false (.s 23) (.s 25)),oo 27 (.mov (.s 26)),oT 28 27 (.mov (.s 7)),oT 29 27 (.mov (.s 6)),oT 30 27 (.len (.s 29)),oT 31 27 (.bin .lss false (.s 28) (.s 30)),oo 32 (.pick (.s 27) (.s 31) (.c (.bool false)))]) [5,6,7,32] (.cond (.s 32) (
 .skip) (.exit 1))) [5,6,7] (.seq (.block 2 (.seq (.region true [oo 35 (.mov (.s 5)),oo 36 (.mov (.s 7)),oo 37 (.indexAddr 1 (.s 35) (.s 36)),oo 38 (.load false 1 (.s 37)),oo 39 (.mov (.s 6)),oo 40 (.mov (.s 7)),oo 41 (.indexAddr 1 (.s 39) (.s 40)),oo 42 (.load false 1 (.s 41)),
 oo 43 (.call 132 [(.s 38),(.s 42)]),oo 8 (.mov (.s 43))]) [5,6,7,8] (.seq (.region false [oo 44 (.mov (.s 8)),oo 45 (.bin .neq false (.s 44) (.c (.int .i64 0)))]) [5,6,7,8,45] (.cond (.s 45) (.seq (.region false [oo 46 (.mov (.s 8)),oo 4 (.mov (.s 46))]) [4] (.ret)) (.skip))))) [5,6,7] (
 .region false [oo 33 (.mov (.s 7)),oo 34 (.bin .add false (.s 33) (.c (.int .i64 1))),oo 7 (.mov (.s 34))])))))) [5,6] (.seq (.region false [oo 47 (.mov (.s 5)),oo 48 (.len (.s 47)),oo 49 (.mov (.s 6)),oo 50 (.len (.s 49)),oo 51 (.call 128 [(.s 48),(.s 50)]),oo 4 (.mov (.s 51))]) [4] (.ret)))))⟩
def tf132 : TFn := ⟨40,[.tmp 4],.seq (.region false [oo 4 (.mov (.c (.int .i64 0)))]) [0,1] (.seq (.region false [oo 11 (.mov (.s 0)),oo 12 (.call 108 [(.s 11)]),oo 13 (.mov (.s 1)),oo 14 (.call 108 [(.s 13)]),oo 5 (.mov (.s 12)),oo 6 (.mov (.s 14))]) [0,1,5,6] (.seq (.block 0 (.seq (
 .region false [oo 16 (.mov (.s 5)),oo 17 (.mov (.s 16)),oT 18 17 (.mov (.s 6)),oo 19 (.pick (.s 17) (.s 18) (.c (.bool false))),oo 15 (.mov (.s 19))]) [0,1,5,6,15] (.cond (.s 15) (.seq (.region false [oo 21 (.mov (.s 0)),oo 22 (.call 107 [(.s 21)]),oo 20 (.mov (.s 22)),oo 23 (.extract 0 (.s 20)),
 oo 24 (.extract 1 (.s 20)),oo 7 (.mov (.s 23)),oo 8 (.mov (.s 24))]) [1,7] (.seq (.region false [oo 26 (.mov (.s 1)),oo 27 (.call 107 [(.s 26)]),oo 25 (.mov (.s 27)),oo 28 (.extract 0 (.s 25)),oo 29 (.extract 1 (.s 25)),oo 9 (.mov (.s 28)),oo 10 (.mov (.s 29))]) [7,9] (.seq (
 .region false [oo 30 (.mov (.s 7)),oo 31 (.mov (.s 9)),oo 32 (.call 128 [(.s 30),(.s 31)]),oo 4 (.mov (.s 32))]) [4] (.ret)))) (.seq (.region false [oo 34 (.mov (.s 5)),oo 33 (.mov (.s 34))]) [0,1,6,33] (.cond (.s 33) (.seq (.region false [oo 4 (.mov (.c (.int .i64 (-1))))]) [4] (.ret)) (.seq (
 .region false [oo 36 (.mov (.s 6)),oo 35 (.mov (.s 36))]) [0,1,35] (.cond (.s 35) (.seq (.region false [oo 4 (.mov (.c (.int .i64 1)))]) [4] (.ret)) (.skip)))))))) [0,1] (.seq (.region false [oo 37 (.mov (.s 0)),oo 38 (.mov (.s 1)),oo 39 (.call 133 [(.s 37),(.s 38)]),oo 4 (.mov (.s 39))]) [4] (
 .ret))))⟩
def tf133 : TFn := ⟨13,[.tmp 4],.seq (.region false [oo 4 (.mov (.c (.int .i64 0)))]) [0,1] (.seq (.block 0 (.seq (.region false [oo 6 (.mov (.s 0)),oo 7 (.mov (.s 1)),oo 8 (.bin .lss false (.s 6) (.s 7)),oo 5 (.mov (.s 8))]) [0,1,5] (.cond (.s 5) (.seq (
 .region false [oo 4 (.mov (.c (.int .i64 (-1))))]) [4] (.ret)) (.seq (.region false [oo 10 (.mov (.s 0)),oo 11 (.mov (.s 1)),oo 12 (.bin .gtr false (.s 10) (.s 11)),oo 9 (.mov (.s 12))]) [9] (.cond (.s 9) (.seq (.region false [oo 4 (.mov (.c (.int .i64 1)))]) [4] (.ret)) (.skip)))))) [] (.seq (
 .region false [oo 4 (.mov (.c (.int .i64 0)))]) [4] (.ret)))⟩
theorem tp4 : QM Tryz.prog Tryz.f4 = some tf4.erase := by kernel_rfl
theorem tp9 : QM Tryz.prog Tryz.f9 = some tf9.erase := by kernel_rfl
theorem QsZ : QM Tryz.prog Tryz.f10 = some tf10.erase := by kernel_rfl
theorem Qs0 : QM Tryz.prog Tryz.f11 = some tf11.erase := by kernel_rfl
theorem Qs1 : QM Tryz.prog Tryz.f12 = some tf12.erase := by kernel_rfl
theorem Qs2 : QM Tryz.prog Tryz.f13 = some tf13.erase := by kernel_rfl
theorem Qs3 : QM Tryz.prog Tryz.f14 = some tf14.erase := by kernel_rfl
theorem Qs4 : QM Tryz.prog Tryz.f15 = some tf15.erase := by kernel_rfl
theorem Qs5 : QM Tryz.prog Tryz.f16 = some tf16.erase := by kernel_rfl
theorem Qs6 : QM Tryz.prog Tryz.f17 = some tf17.erase := by kernel_rfl
theorem Qs7 : QM Tryz.prog Tryz.f18 = some tf18.erase := by kernel_rfl
theorem Qs8 : QM Tryz.prog Tryz.f19 = some tf19.erase := by kernel_rfl
theorem Qs9 : QM Tryz.prog Tryz.f20 = some tf20.erase := by kernel_rfl
theorem Qta : QM Tryz.prog Tryz.f21 = some tf21.erase := by kernel_rfl
theorem Qtb : QM Tryz.prog Tryz.f22 = some tf22.erase := by kernel_rfl
theorem Qtc : QM Tryz.prog Tryz.f23 = some tf23.erase := by kernel_rfl
theorem Qtd : QM Tryz.prog Tryz.f24 = some tf24.erase := by kernel_rfl
theorem Qte : QM Tryz.prog Tryz.f26 = some tf26.erase := by kernel_rfl
theorem Qtf : QM Tryz.prog Tryz.f27 = some tf27.erase := by kernel_rfl
theorem Qtg : QM Tryz.prog Tryz.f30 = some tf30.erase := by kernel_rfl
theorem Qth : QM Tryz.prog Tryz.f33 = some tf33.erase := by kernel_rfl
theorem Qti : QM Tryz.prog Tryz.f34 = some tf34.erase := by kernel_rfl
theorem Qtj : QM Tryz.prog Tryz.f35 = some tf35.erase := by kernel_rfl
theorem Qtk : QM Tryz.prog Tryz.f38 = some tf38.erase := by kernel_rfl
theorem Qtl : QM Tryz.prog Tryz.f39 = some tf39.erase := by kernel_rfl
theorem Qtm : QM Tryz.prog Tryz.f40 = some tf40.erase := by kernel_rfl
theorem Qtn : QM Tryz.prog Tryz.f41 = some tf41.erase := by kernel_rfl
theorem Qto : QM Tryz.prog Tryz.f42 = some tf42.erase := by kernel_rfl
theorem Qtp : QM Tryz.prog Tryz.f43 = some tf43.erase := by kernel_rfl
theorem Qtq : QM Tryz.prog Tryz.f44 = some tf44.erase := by kernel_rfl
theorem Qtr : QM Tryz.prog Tryz.f45 = some tf45.erase := by kernel_rfl
theorem Qts : QM Tryz.prog Tryz.f46 = some tf46.erase := by kernel_rfl
theorem Qtt : QM Tryz.prog Tryz.f47 = some tf47.erase := by kernel_rfl
theorem Qtu : QM Tryz.prog Tryz.f48 = some tf48.erase := by kernel_rfl
theorem Qtv : QM Tryz.prog Tryz.f49 = some tf49.erase := by kernel_rfl
theorem Qtw : QM Tryz.prog Tryz.f50 = some tf50.erase := by kernel_rfl
theorem Qtx : QM Tryz.prog Tryz.f51 = some tf51.erase := by kernel_rfl
theorem Qty : QM Tryz.prog Tryz.f52 = some tf52.erase := by kernel_rfl
theorem Qtz : QM Tryz.prog Tryz.f53 = some tf53.erase := by kernel_rfl
theorem QtA : QM Tryz.prog Tryz.f54 = some tf54.erase := by kernel_rfl
theorem QtB : QM Tryz.prog Tryz.f55 = some tf55.erase := by kernel_rfl
theorem QtC : QM Tryz.prog Tryz.f56 = some tf56.erase := by kernel_rfl
theorem QtD : QM Tryz.prog Tryz.f58 = some tf58.erase := by kernel_rfl
theorem QtE : QM Tryz.prog Tryz.f59 = some tf59.erase := by kernel_rfl
theorem QtF : QM Tryz.prog Tryz.f60 = some tf60.erase := by kernel_rfl
theorem QtG : QM Tryz.prog Tryz.f61 = some tf61.erase := by kernel_rfl
theorem QtH : QM Tryz.prog Tryz.f62 = some tf62.erase := by kernel_rfl
theorem QtI : QM Tryz.prog Tryz.f63 = some tf63.erase := by kernel_rfl
theorem QtJ : QM Tryz.prog Tryz.f66 = some tf66.erase := by kernel_rfl
theorem QtK : QM Tryz.prog Tryz.f67 = some tf67.erase := by kernel_rfl
theorem QtL : QM Tryz.prog Tryz.f68 = some tf68.erase := by kernel_rfl
theorem QtM : QM Tryz.prog Tryz.f69 = some tf69.erase := by kernel_rfl
theorem QtN : QM Tryz.prog Tryz.f70 = some tf70.erase := by kernel_rfl
theorem QtO : QM Tryz.prog Tryz.f71 = some tf71.erase := by kernel_rfl
theorem QtP : QM Tryz.prog Tryz.f72 = some tf72.erase := by kernel_rfl
theorem QtQ : QM Tryz.prog Tryz.f73 = some tf73.erase := by kernel_rfl
theorem QtR : QM Tryz.prog Tryz.f74 = some tf74.erase := by kernel_rfl
theorem QtS : QM Tryz.prog Tryz.f75 = some tf75.erase := by kernel_rfl
theorem QtT : QM Tryz.prog Tryz.f76 = some tf76.erase := by kernel_rfl
theorem QtU : QM Tryz.prog Tryz.f77 = some tf77.erase := by kernel_rfl
theorem QtV : QM Tryz.prog Tryz.f78 = some tf78.erase := by kernel_rfl
theorem QtW : QM Tryz.prog Tryz.f79 = some tf79.erase := by kernel_rfl
theorem QtX : QM Tryz.prog Tryz.f80 = some tf80.erase := by kernel_rfl
theorem QtY : QM Tryz.prog Tryz.f81 = some tf81.erase := by kernel_rfl
theorem QtZ : QM Tryz.prog Tryz.f82 = some tf82.erase := by kernel_rfl
theorem Qt0 : QM Tryz.prog Tryz.f83 = some tf83.erase := by kernel_rfl
theorem Qt1 : QM Tryz.prog Tryz.f85 = some tf85.erase := by kernel_rfl
theorem Qt2 : QM Tryz.prog Tryz.f86 = some tf86.erase := by kernel_rfl
theorem Qt3 : QM Tryz.prog Tryz.f87 = some tf87.erase := by kernel_rfl
theorem Qt4 : QM Tryz.prog Tryz.f88 = some tf88.erase := by kernel_rfl
theorem Qt5 : QM Tryz.prog Tryz.f90 = some tf90.erase := by kernel_rfl
theorem Qt6 : QM Tryz.prog Tryz.f91 = some tf91.erase := by kernel_rfl
theorem Qt7 : QM Tryz.prog Tryz.f92 = some tf92.erase := by kernel_rfl
theorem Qt8 : QM Tryz.prog Tryz.f93 = some tf93.erase := by kernel_rfl
theorem Qt9 : QM Tryz.prog Tryz.f94 = some tf94.erase := by kernel_rfl
theorem Qua : QM Tryz.prog Tryz.f95 = some tf95.erase := by kernel_rfl
theorem Qub : QM Tryz.prog Tryz.f96 = some tf96.erase := by kernel_rfl
theorem Quc : QM Tryz.prog Tryz.f97 = some tf97.erase := by kernel_rfl
theorem Qud : QM Tryz.prog Tryz.f98 = some tf98.erase := by kernel_rfl
theorem Que : QM Tryz.prog Tryz.f99 = some tf99.erase := by kernel_rfl
theorem Qsf : QM Tryz.prog Tryz.f100 = some tf100.erase := by kernel_rfl
theorem Qsg : QM Tryz.prog Tryz.f101 = some tf101.erase := by kernel_rfl
theorem Qsh : QM Tryz.prog Tryz.f102 = some tf102.erase := by kernel_rfl
theorem Qsi : QM Tryz.prog Tryz.f103 = some tf103.erase := by kernel_rfl
theorem Qsj : QM Tryz.prog Tryz.f104 = some tf104.erase := by kernel_rfl
theorem Qsk : QM Tryz.prog Tryz.f105 = some tf105.erase := by kernel_rfl
theorem Qsl : QM Tryz.prog Tryz.f106 = some tf106.erase := by kernel_rfl
theorem Qsm : QM Tryz.prog Tryz.f107 = some tf107.erase := by kernel_rfl
theorem Qsn : QM Tryz.prog Tryz.f108 = some tf108.erase := by kernel_rfl
theorem Qso : QM Tryz.prog Tryz.f109 = some tf109.erase := by kernel_rfl
theorem Qsp : QM Tryz.prog Tryz.f110 = some tf110.erase := by kernel_rfl
theorem Qsq : QM Tryz.prog Tryz.f111 = some tf111.erase := by kernel_rfl
theorem Qsr : QM Tryz.prog Tryz.f112 = some tf112.erase := by kernel_rfl
theorem Qss : QM Tryz.prog Tryz.f113 = some tf113.erase := by kernel_rfl
theorem Qst : QM Tryz.prog Tryz.f114 = some tf114.erase := by kernel_rfl
theorem Qsu : QM Tryz.prog Tryz.f115 = some tf115.erase := by kernel_rfl
theorem Qsv : QM Tryz.prog Tryz.f116 = some tf116.erase := by kernel_rfl
theorem Qsw : QM Tryz.prog Tryz.f117 = some tf117.erase := by kernel_rfl
theorem Qsx : QM Tryz.prog Tryz.f118 = some tf118.erase := by kernel_rfl
theorem Qsy : QM Tryz.prog Tryz.f119 = some tf119.erase := by kernel_rfl
theorem Qsz : QM Tryz.prog Tryz.f120 = some tf120.erase := by kernel_rfl
theorem QsA : QM Tryz.prog Tryz.f121 = some tf121.erase := by kernel_rfl
theorem QsB : QM Tryz.prog Tryz.f122 = some tf122.erase := by kernel_rfl
theorem QsC : QM Tryz.prog Tryz.f123 = some tf123.erase := by kernel_rfl
theorem QsD : QM Tryz.prog Tryz.f124 = some tf124.erase := by kernel_rfl
theorem QsE : QM Tryz.prog Tryz.f125 = some tf125.erase := by kernel_rfl
theorem QsF : QM Tryz.prog Tryz.f126 = some tf126.erase := by kernel_rfl
theorem QsG : QM Tryz.prog Tryz.f127 = some tf127.erase := by kernel_rfl
theorem QsH : QM Tryz.prog Tryz.f128 = some tf128.erase := by kernel_rfl
theorem QsI : QM Tryz.prog Tryz.f129 = some tf129.erase := by kernel_rfl
theorem QsJ : QM Tryz.prog Tryz.f130 = some tf130.erase := by kernel_rfl
theorem QsK : QM Tryz.prog Tryz.f131 = some tf131.erase := by kernel_rfl
theorem QsL : QM Tryz.prog Tryz.f132 = some tf132.erase := by kernel_rfl
theorem QsM : QM Tryz.prog Tryz.f133 = some tf133.erase := by kernel_rfl
theorem ZQ : Tryz.prog.follows .mixedOrders = true := by kernel_rfl
end Go.Proofs
namespace M3
open Go Go.Abs
def mFits (n : Int) : Bool := decide (0 <= n) && decide (n <= 9999)
def Qc8 (m n : Int) : Int := if m < n then -1 else if n < m then 1 else 0
def QaD (c : UInt8) : Bool := decide (48 <= c.toNat) && decide (c.toNat <= 57)
def XP (s : List UInt8) : Bool := s.all QaD && !decide (s = [])
theorem Qhg {s : List UInt8} {i : Nat} (h : i < s.length) (hd : QaD s[i] = false) : XP s = false := by
 have : s.all QaD = false := by
  rw [Bool.eq_false_iff]
  intro ha
  rw [List.all_eq_true] at ha
  rw [ha _ (List.getElem_mem h)] at hd
  cases hd
 rw [XP, this]; rfl
theorem Qke {s : List UInt8} {i : Nat} (hi : s.length <= i) (h : (s.take i).all QaD = true) : XP s = !decide (s = []) := by
 rw [List.take_of_length_le hi] at h
 rw [XP, h]; rfl
def Qgd (v n : Int) : Int := if v.tmod n < 0 then v.tmod n + n else v.tmod n
def ZC (l : List Int) : D := .sl (l.map fun x => [.int .i64 x])
theorem QoS {v n : Int} (h : 0 < n) : 0 <= Qgd v n := by
 unfold Qgd
 have h1 := Int.tmod_lt_of_pos v h
 have h2 := Int.lt_tmod_of_pos v h
 split <;> omega
theorem QoR {v n : Int} (h : 0 < n) : Qgd v n < n := by
 unfold Qgd
 have h1 := Int.tmod_lt_of_pos v h
 split <;> omega
end M3
namespace M3
open Go Go.Abs
def Qa5 (c : Int) : List UInt8 -> List UInt8 -> List (List UInt8)
 | [], cur => [cur]
 | x :: xs, cur => if (x.toNat : Int) = c then cur :: Qa5 c xs [] else Qa5 c xs (cur ++ [x])
def Ys (s : List UInt8) (c : Int) : List (List UInt8) := Qa5 c s []
def Qbc (l : List (List UInt8)) : List (List D) := l.map fun x => [.str x]
def SplitI (s : List UInt8) (c : Int) (i k : Nat) (acc : List (List UInt8)) : Prop :=
 i <= s.length /\ k <= i /\ acc.length <= i /\ Ys s c = acc ++ Qa5 c (s.drop i) ((s.take i).drop k)
theorem SplitI.zero {s : List UInt8} {c : Int} : SplitI s c 0 0 [] := ⟨Nat.zero_le _, Nat.le_refl _, Nat.le_refl _, by simp [Ys]⟩
theorem SplitI.hit {s : List UInt8} {c : Int} {i k : Nat} {acc : List (List UInt8)} (h : SplitI s c i k acc) (hi : i < s.length) (he : ((s[i]).toNat : Int) = c) : SplitI s c (i + 1) (i + 1) (acc ++ [(s.take i).drop k]) := by
 obtain ⟨h1, h2, h3, h4⟩ := h
 refine ⟨hi, Nat.le_refl _, by simp; omega, ?_⟩
 rw [List.drop_eq_getElem_cons hi] at h4
 simp only [Qa5, he, if_true] at h4
 rw [h4, List.append_assoc]
 simp
theorem SplitI.miss {s : List UInt8} {c : Int} {i k : Nat} {acc : List (List UInt8)} (h : SplitI s c i k acc) (hi : i < s.length) (he : ¬ ((s[i]).toNat : Int) = c) : SplitI s c (i + 1) k acc := by
 obtain ⟨h1, h2, h3, h4⟩ := h
 refine ⟨hi, by omega, by omega, ?_⟩
 rw [List.drop_eq_getElem_cons hi] at h4
 simp only [Qa5, he, if_false] at h4
 rw [h4, List.take_succ_eq_append_getElem hi, List.drop_append_of_le_length (by simp; omega)]
theorem SplitI.done {s : List UInt8} {c : Int} {i k : Nat} {acc : List (List UInt8)} (h : SplitI s c i k acc) (hi : s.length <= i) : Ys s c = acc ++ [s.drop k] := by
 obtain ⟨h1, h2, h3, h4⟩ := h
 rw [h4, List.drop_eq_nil_of_le hi, List.take_of_length_le hi]
 rfl
end M3
namespace M3
open Go Go.Abs
def Qja (a b : List UInt8) : Int := if Op.bytesLess a b = true then -1 else if a = b then 0 else 1
def X0 (c : Int) : Bool := decide (48 <= c) && decide (c <= 57)
def Xk (c : UInt8) : Bool := (decide (97 <= c.toNat) && decide (c.toNat <= 122)) || (decide (48 <= c.toNat) && decide (c.toNat <= 57)) || decide (c.toNat = 45)
def Qgf (s : List UInt8) : Bool := decide (1 <= s.length) && decide (s.length <= 8) && s.all Xk
def val (s : List UInt8) : Nat := s.foldl (fun n c => 10 * n + (c.toNat - 48)) 0
def Xf (s : List UInt8) : Int × Bool :=
 if s.length < 1 \/ 9 < s.length \/ (1 < s.length /\ s.head? = some 48) \/ s.all QaD = false \/ 9999 < val s then (0, false) else ((val s : Int), true)
def mOne (a b : List UInt8) : Int :=
 if XP a = true /\ XP b = true then Qc8 (Xf a).1 (Xf b).1
 else if XP a = true then -1 else if XP b = true then 1 else Qja a b
def Qmb : List (List UInt8) -> List (List UInt8) -> Int
 | [], [] => 0
 | [], _ :: _ => -1
 | _ :: _, [] => 1
 | a :: l, b :: m => if mOne a b ≠ 0 then mOne a b else Qmb l m
def QgG (a b : List UInt8) : Int := if a = b then 0 else if a = [] then 1 else if b = [] then -1 else Qmb (Ys a 46) (Ys b 46)
def Qfb (pre : Bool) (t : List UInt8) : Bool := Qgf t && !(pre && XP t && !(Xf t).2)
def Qcu (s : List UInt8) (pre : Bool) : Bool := decide (s = []) || (decide ((Ys s 46).length <= 4) && (Ys s 46).all (Qfb pre))
def Qix (a b c : Int) (p q : List UInt8) : Bool := mFits a && mFits b && mFits c && Qcu p true && Qcu q false
def Qm9 (a b c : Int) (p q : List UInt8) (a' b' c' : Int) (p' q' : List UInt8) : Int :=
 if Qix a b c p q = false \/ Qix a' b' c' p' q' = false then 0
 else if Qc8 a a' ≠ 0 then Qc8 a a' else if Qc8 b b' ≠ 0 then Qc8 b b' else if Qc8 c c' ≠ 0 then Qc8 c c' else QgG p p'
theorem XA {α : Type} {s : List α} {p : α -> Bool} {i : Nat} (h : i < s.length) (hd : p s[i] = false) : s.all p = false := by
 rw [Bool.eq_false_iff]
 intro ha
 rw [List.all_eq_true] at ha
 rw [ha _ (List.getElem_mem h)] at hd
 cases hd
theorem Xp {α : Type} {s : List α} {p : α -> Bool} {i : Nat} (hi : s.length <= i) (h : (s.take i).all p = true) : s.all p = true := by rwa [List.take_of_length_le hi] at h
theorem Qlv {s : List UInt8} {i : Nat} (h : i < s.length) : val (s.take (i + 1)) = 10 * val (s.take i) + (s[i].toNat - 48) := by
 rw [List.take_succ_eq_append_getElem h]; simp only [val, List.foldl_append, List.foldl_cons, List.foldl_nil]
theorem QrI : ∀ {s : List UInt8}, s.all QaD = true -> val s < 10 ^ s.length := by
 intro s
 rw [<- List.reverse_reverse s]
 generalize s.reverse = r
 induction r with
 | nil => intro _; decide
 | cons c r ih =>
  intro h
  rw [List.reverse_cons, List.all_append, Bool.and_eq_true] at h
  have h1 := ih h.1
  have h2 : QaD c = true := by simpa using h.2
  simp only [QaD, Bool.and_eq_true, decide_eq_true_eq] at h2
  rw [List.reverse_cons]
  simp only [val, List.foldl_append, List.foldl_cons, List.foldl_nil, List.length_append, List.length_cons, List.length_nil] at h1 ⊢
  rw [Nat.pow_succ]
  omega
theorem Qng {l m : List (List UInt8)} {i : Nat} (h1 : i < l.length) (h2 : i < m.length) (h : mOne l[i] m[i] = 0) : Qmb (l.drop i) (m.drop i) = Qmb (l.drop (i + 1)) (m.drop (i + 1)) := by
 rw [List.drop_eq_getElem_cons h1, List.drop_eq_getElem_cons h2]
 simp [Qmb, h]
theorem QcL {l m : List (List UInt8)} {i : Nat} (h1 : i < l.length) (h2 : i < m.length) (h : mOne l[i] m[i] ≠ 0) : Qmb (l.drop i) (m.drop i) = mOne l[i] m[i] := by
 rw [List.drop_eq_getElem_cons h1, List.drop_eq_getElem_cons h2]
 simp [Qmb, h]
theorem QcK {l m : List (List UInt8)} {i : Nat} (hl : i <= l.length) (hm : i <= m.length) (h : l.length <= i \/ m.length <= i) : Qmb (l.drop i) (m.drop i) = Qc8 l.length m.length := by
 rcases Nat.lt_or_ge i l.length with h1 | h1 <;> rcases Nat.lt_or_ge i m.length with h2 | h2
 ·omega
 ·rw [List.drop_eq_getElem_cons h1, List.drop_eq_nil_of_le h2]
  simp only [Qmb, Qc8]
  rw [if_neg (by omega), if_pos (by omega)]
 ·rw [List.drop_eq_getElem_cons h2, List.drop_eq_nil_of_le h1]
  simp only [Qmb, Qc8]
  rw [if_pos (by omega)]
 ·rw [List.drop_eq_nil_of_le h1, List.drop_eq_nil_of_le h2]
  simp only [Qmb, Qc8]
  rw [if_neg (by omega), if_neg (by omega)]
end M3
namespace M3
end M3
namespace M3
theorem Qri {s : List UInt8} (h : 0 < s.length) (e : ((s[0]).toNat : Int) = 48) : s.head? = some 48 := by
 cases s with
 | nil => simp at h
 | cons x r =>
  simp only [List.getElem_cons_zero] at e
  have : x = 48 := UInt8.toNat_inj.1 (by simpa using (by omega : x.toNat = 48))
  simp [this]
theorem QmW {s : List UInt8} (h : 0 < s.length) (e : ¬ ((s[0]).toNat : Int) = 48) : s.head? ≠ some 48 := by
 cases s with
 | nil => simp at h
 | cons x r =>
  simp only [List.getElem_cons_zero] at e
  intro hh
  simp at hh
  subst hh
  exact e rfl
theorem Qhf {s : List UInt8} {i : Nat} (h : ¬ (s.length < 1 \/ 9 < s.length \/ (1 < s.length /\ s.head? = some 48))) (hi : s.length <= i) (ha : (s.take i).all QaD = true) (hv : val (s.take i) <= 9999) : Xf s = ((val (s.take i) : Int), true) := by
 have h1 := Xp hi ha
 rw [List.take_of_length_le hi] at hv ⊢
 rw [Xf, if_neg]
 rintro (q | q | q | q | q)
 ·exact h (.inl q)
 ·exact h (.inr (.inl q))
 ·exact h (.inr (.inr q))
 ·rw [h1] at q; cases q
 ·omega
theorem QeJ {s : List UInt8} {i : Nat} (hi : s.length <= i) (hv : 9999 < val (s.take i)) : Xf s = (0, false) := by
 rw [List.take_of_length_le hi] at hv
 rw [Xf, if_pos (.inr (.inr (.inr (.inr hv))))]
theorem QeK {s : List UInt8} {i : Nat} (h : i < s.length) (hd : QaD s[i] = false) : Xf s = (0, false) := by
 rw [Xf, if_pos (.inr (.inr (.inr (.inl (XA h hd)))))]
theorem QeL {s : List UInt8} (h : s.length < 1 \/ 9 < s.length) : Xf s = (0, false) := by
 rw [Xf, if_pos (by rcases h with h | h; exact .inl h; exact .inr (.inl h))]
theorem QcN {s : List UInt8} (h : 1 < s.length) (e : ((s[0]).toNat : Int) = 48) : Xf s = (0, false) := by
 rw [Xf, if_pos (.inr (.inr (.inl ⟨h, Qri (by omega) e⟩)))]
end M3
namespace M3
open Go Go.Abs
theorem Zg (l : List (List UInt8)) : (Qbc l).length = l.length := by simp [Qbc]
theorem QdU {l : List (List UInt8)} {i : Nat} (h : i < l.length) : (Qbc l)[((i : Nat) : Int).toNat]? = some [.str l[i]] := by simp [Qbc, h]
theorem QbM {c : Int} : ∀ (s cur : List UInt8), (Qa5 c s cur).length <= s.length + 1 /\ ∀ x ∈ Qa5 c s cur, x.length <= s.length + cur.length
 | [], cur => by simp [Qa5]
 | x :: xs, cur => by
  simp only [Qa5]
  split
  ·obtain ⟨h1, h2⟩ := QbM (c := c) xs []
   refine ⟨by simp; omega, fun y hy => ?_⟩
   rcases List.mem_cons.1 hy with rfl | hy
   ·simp <;> omega
   ·have := h2 y hy; simp at this ⊢; omega
  ·obtain ⟨h1, h2⟩ := QbM (c := c) xs (cur ++ [x])
   refine ⟨by simp; omega, fun y hy => ?_⟩
   have := h2 y hy; simp at this ⊢; omega
theorem QnL {s : List UInt8} {c : Int} : (Ys s c).length <= s.length + 1 := (QbM s []).1
theorem Qek {s : List UInt8} {c : Int} {i : Nat} (h : i < (Ys s c).length) (hl : s.length <= 1000000) : ((Ys s c)[i]).length <= 1000000 := by
 have := (QbM (c := c) s []).2 _ (List.getElem_mem h)
 simp only [List.length_nil, Nat.add_zero] at this
 exact Nat.le_trans this hl
end M3
namespace M3
open Go Go.Abs
theorem Qd8 {s : List UInt8} {pre : Bool} {i : Nat} (hs : s ≠ []) (h : i < (Ys s 46).length) (hd : Qfb pre (Ys s 46)[i] = false) : Qcu s pre = false := by
 rw [Qcu, XA h hd]; simp [hs]
theorem Qcv {s : List UInt8} {pre : Bool} {i : Nat} (h4 : (Ys s 46).length <= 4) (hi : (Ys s 46).length <= i) (h : ((Ys s 46).take i).all (Qfb pre) = true) : Qcu s pre = true := by
 rw [Qcu, Xp hi h]; simp [h4]
end M3
namespace M3
open Go Go.Abs
structure Cu where
 e : Int
 a : Int
 b : Int
 c : Int
 p : List UInt8
 q : List UInt8
 f : Bool
def QeG (e a b c : Int) (p q : List UInt8) (f : Bool) : Bool :=
 if e = 0 then Qix a b c p q && decide (q = [])
 else (decide (e = -1) || decide (e = 1)) && (decide (a = 0) && (decide (b = 0) && (decide (c = 0) && (decide (p = []) && (decide (q = []) && true))))) && !f
def QbF (e a b c : Int) (p q : List UInt8) (f : Bool) (e' a' b' c' : Int) (p' q' : List UInt8) (f' : Bool) : Int :=
 if QeG e a b c p q f = false \/ QeG e' a' b' c' p' q' f' = false then 0
 else if e ≠ e' \/ e ≠ 0 then Qc8 e e'
 else if Qm9 a b c p q a' b' c' p' q' ≠ 0 then Qm9 a b c p q a' b' c' p' q'
 else if f = f' then 0 else if f' = true then -1 else 1
def Qaz (e a b c : Int) (p q : List UInt8) (f : Bool) (a' b' c' : Int) (p' q' : List UInt8) : Bool :=
 if QeG e a b c p q f = false \/ Qix a' b' c' p' q' = false then false
 else if e ≠ 0 then decide (e < 0)
 else decide (Qm9 a b c p q a' b' c' p' q' < 0) || (decide (Qm9 a b c p q a' b' c' p' q' = 0) && !f)
end M3
namespace M3
def Qid (e a b c : Int) (p q : List UInt8) (f : Bool) (e' a' b' c' : Int) (p' q' : List UInt8) (f' : Bool) : Bool :=
 QeG e a b c p q f && QeG e' a' b' c' p' q' f' && decide (QbF e a b c p q f e' a' b' c' p' q' f' < 0)
def Qde (e a b c : Int) (p q : List UInt8) (f : Bool) (e' a' b' c' : Int) (p' q' : List UInt8) (f' : Bool) (x y z : Int) (r s : List UInt8) : Bool :=
 Qid e a b c p q f e' a' b' c' p' q' f' && Qix x y z r s && Qaz e a b c p q f x y z r s && !Qaz e' a' b' c' p' q' f' x y z r s
end M3
namespace M3
open Go Go.Abs
end M3
namespace M3
open Go Go.Abs
end M3
namespace M3
open Go Go.Abs
end M3
namespace M3
open Go Go.Abs
end M3
namespace Go.Proofs
open Go Go.Abs M3
set_option linter.unusedVariables false
set_option linter.unusedSimpArgs false
theorem Xs {n : Int} : Ok Tryz.prog 90 [.int .i64 n] (.bool (mFits n)) := by
 refine Ok.ofT ZQ Tryz.func90 Qt5 (Nat.le_of_ble_eq_true rfl) ?_
 show TW _ _ tf90.body _ _
 refine Qe fun K hK => Qa rfl ?_
 refine hK _ _ (Qb (kp1 rfl) ?_)
 refine Qe fun K hK => Qa rfl (Qdx rfl rfl (Qa rfl ?_))
 refine QB (g := 5) rfl (fun h1 => ?_) (fun h1 => ?_)
 ·try rw [h1]
  try simp only [qa, qb, qc, qd, qe] at h1
  refine Qg rfl (Qa rfl (Qg rfl (Qpk rfl rfl (Ql rfl rfl (Qa rfl ?_)))))
  refine hK _ _ (Qb (kp1 rfl) ?_)
  refine Qu (Qs rfl ?_)
  simp_all [mFits] <;> omega
 ·try rw [h1]
  try simp only [qa, qb, qc, qd, qe] at h1
  refine Qq rfl (Qq rfl (Ql rfl rfl (Qa rfl ?_)))
  refine hK _ _ (Qb (kp1 rfl) ?_)
  refine Qu (Qs rfl ?_)
  simp_all [mFits] <;> omega
theorem ZB {m n : Int} : Ok Tryz.prog 128 [.int .i64 m, .int .i64 n] (.int .i64 (Qc8 m n)) := by
 refine Ok.ofT ZQ Tryz.func128 QsH (Nat.le_of_ble_eq_true rfl) ?_
 show TW _ _ tf128.body _ _
 refine Qe fun K hK => Qa rfl ?_
 refine hK _ _ (Qb (kp2 rfl rfl) ?_)
 refine QD ?_ -- 0
 refine Qz (Qe fun K hK => Qa rfl (Qa rfl (Yb rfl rfl (Qa rfl ?_))))
 refine hK _ _ (Qb (kp3 rfl rfl rfl) ?_)
 refine Qw rfl (fun h1 => ?_) (fun h1 => ?_)
 ·try rw [h1]
  try simp only [qa, qb, qc, qd, qe] at h1
  refine Qe fun K hK => Qa rfl ?_
  refine hK _ _ (Qb (kp1 rfl) ?_)
  refine Qu (Qt (Qj (Qy rfl ?_)))
  simp_all [Qc8] <;> omega
 ·try rw [h1]
  try simp only [qa, qb, qc, qd, qe] at h1
  refine Qe fun K hK => Qa rfl (Qa rfl (Qhv rfl rfl (Qa rfl ?_)))
  refine hK _ _ (Qb (kp1 rfl) ?_)
  refine Qw rfl (fun h2 => ?_) (fun h2 => ?_)
  ·try rw [h2]
   try simp only [qa, qb, qc, qd, qe] at h2
   refine Qe fun K hK => Qa rfl ?_
   refine hK _ _ (Qb (kp1 rfl) ?_)
   refine Qu (Qt (Qj (Qy rfl ?_)))
   simp_all [Qc8] <;> omega
  ·try rw [h2]
   try simp only [qa, qb, qc, qd, qe] at h2
   refine Qv (Qh (Qd (Q0) (Qe fun K hK => Qa rfl ?_)))
   refine hK _ _ (Qb (kp1 rfl) ?_)
   refine Qu (Qy rfl ?_)
   simp_all [Qc8] <;> omega
theorem Y0 {s : List UInt8} {c : Int} (hl : s.length <= 1000000) : Ok Tryz.prog 105 [.str s, .int .u8 c] (.sl (Qbc (Ys s c))) := by
 refine Ok.ofT ZQ Tryz.func105 Qsk (Nat.le_of_ble_eq_true rfl) ?_
 show TW _ _ tf105.body _ _
 refine Qe fun K hK => Qa rfl ?_
 refine hK _ _ (Qb (kp2 rfl rfl) ?_)
 refine Qe fun K hK => Qa rfl ?_
 refine hK _ _ (Qb (kp3 rfl rfl rfl) ?_)
 refine Qe fun K hK => Qa rfl ?_
 refine hK _ _ (Qb (kp4 rfl rfl rfl rfl) ?_)
 refine QD ?_ -- 0
 refine Qe fun K hK => Qa rfl ?_
 refine hK _ _ (Qb (kp5 rfl rfl rfl rfl rfl) ?_)
 refine Qz ?_
 refine Zm (ι := Nat × Nat × List (List UInt8)) (fun ⟨i, k, acc⟩ => ⟨[(0, .str s), (1, .int .u8 c), (5, .osl 25 acc.length), (6, .int .i64 k), (7, .int .i64 i)], [(25, ⟨Qbc acc, 1, 9, true⟩)]⟩) (fun ⟨i, k, acc⟩ => SplitI s c i k acc) (fun ⟨i, k, acc⟩ => s.length - i) (0, 0, []) ?_ ?_ ?_
 ·exact le_trans (Yj 5 25 1 9 rfl rfl) (Q2 (l := [0, 1, 5, 6, 7]) (lH := [25]) (kp5 rfl rfl rfl rfl rfl) (Qf rfl Qn) rfl rfl rfl)
 ·exact SplitI.zero
 intro ⟨i, k, acc⟩ hI
 have hI1 := hI.1
 have hI2 := hI.2.1
 have hI3 := hI.2.2.1
 try dsimp only
 refine QD ?_ -- 1
 refine Qe fun K hK => Qa rfl (Qa rfl (XM rfl (Yb rfl rfl ?_)))
 refine hK _ _ (Qb (kp6 rfl rfl rfl rfl rfl rfl) ?_)
 refine Qw rfl (fun h1 => ?_) (fun h1 => ?_)
 ·try rw [h1]
  try simp only [qa, qb, qc, qd, qe] at h1
  refine Qv (Qd (kp5 rfl rfl rfl rfl rfl) ?_)
  refine QD ?_ -- 2
  refine Qz (Qe fun K hK => Qa rfl (Qa rfl (XI rfl rfl (by omega) (Qdc (by omega)) (Qa rfl (ZI rfl rfl ?_)))))
  refine hK _ _ (Qb (kp6 rfl rfl rfl rfl rfl rfl) ?_)
  refine Qw rfl (fun h2 => ?_) (fun h2 => ?_)
  ·try rw [h2]
   try simp only [qa, qb, qc, qd, qe] at h2
   refine Qe fun K hK => Qa rfl (Qa rfl (Qa rfl (Qa rfl (QgK rfl rfl rfl (by omega) (by omega) (by omega) rfl (QH rfl rfl (Xz rfl rfl (fun _ h => Xj rfl rfl rfl h) rfl (by simp [Qbc]) rfl rfl rfl (by simp; omega) (by simp; omega) (Qa rfl ?_)))))))
   refine hK _ _ (Qb (kp4 rfl rfl rfl rfl) ?_)
   refine QN fun K hK => Qa rfl (QY rfl rfl (by first | exact Qr (by omega) (by omega) | exact Zj (by omega) (by omega) | exact Zv (by omega) (by omega) | rfl) (Qa rfl (hK _ ?_)))
   refine Qh (Qd (kp5 rfl rfl rfl rfl rfl) (QN fun K hK => Qa rfl (QY rfl rfl (by first | exact Qr (by omega) (by omega) | exact Zj (by omega) (by omega) | exact Zv (by omega) (by omega) | rfl) (Qa rfl (hK _ ?_)))))
   refine Qk (i + 1, i + 1, acc ++ [(s.take i).drop k]) ?_ ?_ ?_
   ·exact Q2 (l := [0, 1, 5, 6, 7]) (lH := [25]) (kp5 rfl rfl rfl rfl rfl) (Qf rfl Qn) (by simp [Qbc, D.scrub]) (by simp [Qbc, Box.scrub]) rfl
   ·exact hI.hit (by omega) (by assumption)
   ·show s.length - (i + 1) < s.length - i; omega
  ·try rw [h2]
   try simp only [qa, qb, qc, qd, qe] at h2
   refine Qv (Qh (Qd (kp5 rfl rfl rfl rfl rfl) (QN fun K hK => Qa rfl (QY rfl rfl (by first | exact Qr (by omega) (by omega) | exact Zj (by omega) (by omega) | exact Zv (by omega) (by omega) | rfl) (Qa rfl (hK _ ?_))))))
   refine Qk (i + 1, k, acc) ?_ ?_ ?_
   ·exact Q2 (l := [0, 1, 5, 6, 7]) (lH := [25]) (kp5 rfl rfl rfl rfl rfl) (Qf rfl Qn) (by simp [Qbc, D.scrub]) (by simp [Qbc, Box.scrub]) rfl
   ·exact hI.miss (by omega) (by assumption)
   ·show s.length - (i + 1) < s.length - i; omega
 ·try rw [h1]
  try simp only [qa, qb, qc, qd, qe] at h1
  refine Zh (QL (Qx (QE (Qd (kp3 rfl rfl rfl) (Qe fun K hK => Qa rfl (Qa rfl (Qa rfl (QgK rfl rfl rfl (by omega) (by omega) (by omega) rfl (QH rfl rfl (Xz rfl rfl (fun _ h => Xj rfl rfl rfl h) rfl (by simp [Qbc]) rfl rfl rfl (by simp; omega) (by simp; omega) ?_))))))))))
  refine Qa rfl ?_
  refine hK _ _ (Qb (kp1 rfl) ?_)
  refine Qu (Yk rfl ?_)
  rw [hI.done (by omega)]; simp [Qa9, D.fz, D.fzS, Qdy, lk, D.can, D.canS, Qbc]
end Go.Proofs
namespace Go.Proofs
open Go Go.Abs M3
set_option linter.unusedVariables false
set_option linter.unusedSimpArgs false
theorem Qc5 {a b : List UInt8} : Ok Tryz.prog 133 [.str a, .str b] (.int .i64 (Qja a b)) := by
 refine Ok.ofT ZQ Tryz.func133 QsM (Nat.le_of_ble_eq_true rfl) ?_
 show TW _ _ tf133.body _ _
 refine Qe fun K hK => Qa rfl ?_
 refine hK _ _ (Qb (kp2 rfl rfl) ?_)
 refine QD ?_ -- 0
 refine Qz (Qe fun K hK => Qa rfl (Qa rfl (QrV rfl rfl (Qa rfl ?_))))
 refine hK _ _ (Qb (kp3 rfl rfl rfl) ?_)
 refine Qw rfl (fun h1 => ?_) (fun h1 => ?_)
 ·try rw [h1]
  try simp only [qa, qb, qc, qd, qe] at h1
  refine Qe fun K hK => Qa rfl ?_
  refine hK _ _ (Qb (kp1 rfl) ?_)
  refine Qu (Qt (Qj (Qy rfl ?_)))
  simp_all [Qja]
 ·try rw [h1]
  try simp only [qa, qb, qc, qd, qe] at h1
  refine Qe fun K hK => Qa rfl (Qa rfl (QrU rfl rfl (Qa rfl ?_)))
  refine hK _ _ (Qb (kp1 rfl) ?_)
  refine Qw rfl (fun h2 => ?_) (fun h2 => ?_)
  ·try rw [h2]
   try simp only [qa, qb, qc, qd, qe] at h2
   refine Qe fun K hK => Qa rfl ?_
   refine hK _ _ (Qb (kp1 rfl) ?_)
   refine Qu (Qt (Qj (Qy rfl ?_)))
   simp_all [Qja]
  ·try rw [h2]
   try simp only [qa, qb, qc, qd, qe] at h2
   refine Qv (Qh (Qd (Q0) (Qe fun K hK => Qa rfl ?_)))
   refine hK _ _ (Qb (kp1 rfl) ?_)
   refine Qu (Qy rfl ?_)
   simp_all [Qja]
theorem QcX {c : Int} : Ok Tryz.prog 115 [.int .u8 c] (.bool (X0 c)) := by
 refine Ok.ofT ZQ Tryz.func115 Qsu (Nat.le_of_ble_eq_true rfl) ?_
 show TW _ _ tf115.body _ _
 refine Qe fun K hK => Qa rfl ?_
 refine hK _ _ (Qb (kp1 rfl) ?_)
 refine Qe fun K hK => Qa rfl (Qdx rfl rfl (Qa rfl ?_))
 refine QB (g := 5) rfl (fun h1 => ?_) (fun h1 => ?_)
 ·try rw [h1]
  try simp only [qa, qb, qc, qd, qe] at h1
  refine Qg rfl (Qa rfl (Qg rfl (Qpk rfl rfl (Ql rfl rfl (Qa rfl ?_)))))
  refine hK _ _ (Qb (kp1 rfl) ?_)
  refine Qu (Qs rfl ?_)
  simp_all [X0] <;> omega
 ·try rw [h1]
  try simp only [qa, qb, qc, qd, qe] at h1
  refine Qq rfl (Qq rfl (Ql rfl rfl (Qa rfl ?_)))
  refine hK _ _ (Qb (kp1 rfl) ?_)
  refine Qu (Qs rfl ?_)
  simp_all [X0] <;> omega
theorem YJ {s : List UInt8} (hl : s.length <= 1000000) : Ok Tryz.prog 108 [.str s] (.bool (XP s)) := by
 refine Ok.ofT ZQ Tryz.func108 Qsn (Nat.le_of_ble_eq_true rfl) ?_
 show TW _ _ tf108.body _ _
 refine Qe fun K hK => Qa rfl ?_
 refine hK _ _ (Qb (kp1 rfl) ?_)
 refine QD ?_ -- 0
 refine Qe fun K hK => Qa rfl ?_
 refine hK _ _ (Qb (kp2 rfl rfl) ?_)
 refine Qz ?_
 refine Zm (ι := Nat) (fun i => ⟨[(0, .str s), (3, .int .i64 i)], []⟩) (fun i => i <= s.length /\ (s.take i).all QaD = true) (fun i => s.length - i) 0 ?_ ?_ ?_
 ·exact Zf (kp2 rfl rfl)
 ·exact ⟨Nat.zero_le _, rfl⟩
 intro i hI
 try dsimp only
 refine QD ?_ -- 1
 refine Qe fun K hK => Qa rfl (Qa rfl (XM rfl (Yb rfl rfl ?_)))
 refine hK _ _ (Qb (kp3 rfl rfl rfl) ?_)
 refine Qw rfl (fun h1 => ?_) (fun h1 => ?_)
 ·try rw [h1]
  try simp only [qa, qb, qc, qd, qe] at h1
  refine Qv (Qd (kp2 rfl rfl) ?_)
  refine QD ?_ -- 2
  refine Qz (Qe fun K hK => Qa rfl (Qa rfl (XI rfl rfl (by omega) (Qdc (by omega)) (Yb rfl rfl (Qa rfl ?_)))))
  refine QB (g := 14) rfl (fun h2 => ?_) (fun h2 => ?_)
  ·try rw [h2]
   try simp only [qa, qb, qc, qd, qe] at h2
   refine Qq rfl (Qq rfl (Qq rfl (Qq rfl (Ql rfl rfl ?_))))
   refine hK _ _ (Qb (kp3 rfl rfl rfl) ?_)
   refine Zl rfl (Qe fun K hK => Qa rfl ?_)
   refine hK _ _ (Qb (kp1 rfl) ?_)
   refine Qu (Qt (Qj (Q4 (Qt (Qj (Qs rfl ?_))))))
   exact (Qhg (i := i) (by omega) (by simp [QaD]; omega)).symm
  ·try rw [h2]
   try simp only [qa, qb, qc, qd, qe] at h2
   refine Qg rfl (Qa rfl (Qg rfl (Qa rfl (Qg rfl (XI rfl rfl (by omega) (Qdc (by omega)) (Qg rfl (Qhv rfl rfl (Ql rfl rfl ?_))))))))
   refine hK _ _ (Qb (kp3 rfl rfl rfl) ?_)
   refine Qw rfl (fun h3 => ?_) (fun h3 => ?_)
   ·try rw [h3]
    try simp only [qa, qb, qc, qd, qe] at h3
    refine Qe fun K hK => Qa rfl ?_
    refine hK _ _ (Qb (kp1 rfl) ?_)
    refine Qu (Qt (Qj (Q4 (Qt (Qj (Qs rfl ?_))))))
    exact (Qhg (i := i) (by omega) (by simp [QaD]; omega)).symm
   ·try rw [h3]
    try simp only [qa, qb, qc, qd, qe] at h3
    refine Qv (Qh (Qd (kp2 rfl rfl) (QN fun K hK => Qa rfl (QY rfl rfl (by first | exact Qr (by omega) (by omega) | exact Zj (by omega) (by omega) | exact Zv (by omega) (by omega) | rfl) (Qa rfl (hK _ ?_))))))
    refine Qk (i + 1) ?_ ?_ ?_
    ·exact Zf (kp2 rfl rfl)
    ·exact ⟨by omega, Ya (by omega) hI.2 (by simp [QaD]; omega)⟩
    ·first | omega | (simp only; omega) | (dsimp only; omega)
 ·try rw [h1]
  try simp only [qa, qb, qc, qd, qe] at h1
  refine Zh (QL (Qx (QE (Qd (kp1 rfl) (Qe fun K hK => Qa rfl (XM rfl (Qhv rfl rfl (Qa rfl ?_))))))))
  refine hK _ _ (Qb (kp1 rfl) ?_)
  refine Qu (Qs rfl ?_)
  rw [Qke (i := i) (by omega) hI.2]; cases s <;> simp
theorem QdI {s : List UInt8} (hl : s.length <= 1000000) : Ok Tryz.prog 106 [.str s] (.bool (Qgf s)) := by
 refine Ok.ofT ZQ Tryz.func106 Qsl (Nat.le_of_ble_eq_true rfl) ?_
 show TW _ _ tf106.body _ _
 refine Qe fun K hK => Qa rfl ?_
 refine hK _ _ (Qb (kp1 rfl) ?_)
 refine QD ?_ -- 0
 refine Qe fun K hK => Qa rfl (XM rfl (Yb rfl rfl (Qa rfl ?_)))
 refine QB (g := 8) rfl (fun h1 => ?_) (fun h1 => ?_)
 ·try rw [h1]
  try simp only [qa, qb, qc, qd, qe] at h1
  refine Qq rfl (Qq rfl (Qq rfl (Ql rfl rfl ?_)))
  refine hK _ _ (Qb (kp2 rfl rfl) ?_)
  refine Zl rfl (Qe fun K hK => Qa rfl ?_)
  refine hK _ _ (Qb (kp1 rfl) ?_)
  refine Qu (Qj (Qs rfl ?_))
  first | (have hz := Xp (p := Xk) (s := s) (i := i) (by omega) hI.2; simp [Qgf, hz]; omega) | (have hz := XA (p := Xk) (s := s) (i := i) (by omega) (by simp [Xk]; omega); simp [Qgf, hz]; done) | (simp [Qgf]; omega)
 ·try rw [h1]
  try simp only [qa, qb, qc, qd, qe] at h1
  refine Qg rfl (Qa rfl (Qg rfl (XM rfl (Qg rfl (Qhv rfl rfl (Ql rfl rfl ?_))))))
  refine hK _ _ (Qb (kp2 rfl rfl) ?_)
  refine Qw rfl (fun h2 => ?_) (fun h2 => ?_)
  ·try rw [h2]
   try simp only [qa, qb, qc, qd, qe] at h2
   refine Qe fun K hK => Qa rfl ?_
   refine hK _ _ (Qb (kp1 rfl) ?_)
   refine Qu (Qj (Qs rfl ?_))
   first | (have hz := Xp (p := Xk) (s := s) (i := i) (by omega) hI.2; simp [Qgf, hz]; omega) | (have hz := XA (p := Xk) (s := s) (i := i) (by omega) (by simp [Xk]; omega); simp [Qgf, hz]; done) | (simp [Qgf]; omega)
  ·try rw [h2]
   try simp only [qa, qb, qc, qd, qe] at h2
   refine Qv (Qd (kp1 rfl) ?_)
   refine QD ?_ -- 1
   refine Qe fun K hK => Qa rfl ?_
   refine hK _ _ (Qb (kp2 rfl rfl) ?_)
   refine Qz ?_
   refine Zm (ι := Nat) (fun i => ⟨[(0, .str s), (3, .int .i64 i)], []⟩) (fun i => i <= s.length /\ (s.take i).all Xk = true) (fun i => s.length - i) 0 ?_ ?_ ?_
   ·exact Zf (kp2 rfl rfl)
   ·exact ⟨Nat.zero_le _, rfl⟩
   intro i hI
   try dsimp only
   refine QD ?_ -- 2
   refine Qe fun K hK => Qa rfl (Qa rfl (XM rfl (Yb rfl rfl ?_)))
   refine hK _ _ (Qb (kp3 rfl rfl rfl) ?_)
   refine Qw rfl (fun h3 => ?_) (fun h3 => ?_)
   ·try rw [h3]
    try simp only [qa, qb, qc, qd, qe] at h3
    refine Qv (Qd (kp2 rfl rfl) ?_)
    refine QD ?_ -- 3
    refine Qz (Qe fun K hK => Qa rfl (Qa rfl (XI rfl rfl (by omega) (Qdc (by omega)) (Qa rfl ?_))))
    refine hK _ _ (Qb (kp3 rfl rfl rfl) ?_)
    refine Qe fun K hK => Qa rfl (Yb rfl rfl (Qa rfl ?_))
    refine QB (g := 24) rfl (fun h4 => ?_) (fun h4 => ?_)
    ·try rw [h4]
     try simp only [qa, qb, qc, qd, qe] at h4
     refine Qq rfl (Qq rfl (Ql rfl rfl (Qa rfl (Qg rfl (Qa rfl (Qg rfl (Yb rfl rfl (Qg rfl (Qa rfl ?_)))))))))
     refine QB (g := 31) rfl (fun h5 => ?_) (fun h5 => ?_)
     ·try rw [h5]
      try simp only [qa, qb, qc, qd, qe] at h5
      refine Qq rfl (Qq rfl (Qg rfl (Ql rfl rfl (Ql rfl rfl (Qa rfl (Qg rfl (Qa rfl (Qg rfl (XJ rfl rfl (Ql rfl rfl ?_))))))))))
      refine hK _ _ (Qb (kp3 rfl rfl rfl) ?_)
      refine Qw rfl (fun h6 => ?_) (fun h6 => ?_)
      ·try rw [h6]
       try simp only [qa, qb, qc, qd, qe] at h6
       refine Qe fun K hK => Qa rfl ?_
       refine hK _ _ (Qb (kp1 rfl) ?_)
       refine Qu (Qt (Qj (Q4 (Qt (Qj (Qs rfl ?_))))))
       first | (have hz := Xp (p := Xk) (s := s) (i := i) (by omega) hI.2; simp [Qgf, hz]; omega) | (have hz := XA (p := Xk) (s := s) (i := i) (by omega) (by simp [Xk]; omega); simp [Qgf, hz]; done) | (simp [Qgf]; omega)
      ·try rw [h6]
       try simp only [qa, qb, qc, qd, qe] at h6
       refine Qv (Qh (Qd (kp2 rfl rfl) (QN fun K hK => Qa rfl (QY rfl rfl (by first | exact Qr (by omega) (by omega) | exact Zj (by omega) (by omega) | exact Zv (by omega) (by omega) | rfl) (Qa rfl (hK _ ?_))))))
       refine Qk (i + 1) ?_ ?_ ?_
       ·exact Zf (kp2 rfl rfl)
       ·exact ⟨by omega, Ya (by omega) hI.2 (by simp [Xk]; omega)⟩
       ·first | omega | (simp only; omega) | (dsimp only; omega)
     ·try rw [h5]
      try simp only [qa, qb, qc, qd, qe] at h5
      refine Qg rfl (Qa rfl (Qg rfl (Qhv rfl rfl (Qg rfl (Ql rfl rfl (Ql rfl rfl (Qa rfl ?_)))))))
      refine QB (g := 36) rfl (fun h7 => ?_) (fun h7 => ?_)
      ·try rw [h7]
       try simp only [qa, qb, qc, qd, qe] at h7
       refine Qg rfl (Qa rfl (Qg rfl (XJ rfl rfl (Ql rfl rfl ?_))))
       refine hK _ _ (Qb (kp3 rfl rfl rfl) ?_)
       refine Qw rfl (fun h8 => ?_) (fun h8 => ?_)
       ·try rw [h8]
        try simp only [qa, qb, qc, qd, qe] at h8
        refine Qe fun K hK => Qa rfl ?_
        refine hK _ _ (Qb (kp1 rfl) ?_)
        refine Qu (Qt (Qj (Q4 (Qt (Qj (Qs rfl ?_))))))
        first | (have hz := Xp (p := Xk) (s := s) (i := i) (by omega) hI.2; simp [Qgf, hz]; omega) | (have hz := XA (p := Xk) (s := s) (i := i) (by omega) (by simp [Xk]; omega); simp [Qgf, hz]; done) | (simp [Qgf]; omega)
       ·try rw [h8]
        try simp only [qa, qb, qc, qd, qe] at h8
        refine Qv (Qh (Qd (kp2 rfl rfl) (QN fun K hK => Qa rfl (QY rfl rfl (by first | exact Qr (by omega) (by omega) | exact Zj (by omega) (by omega) | exact Zv (by omega) (by omega) | rfl) (Qa rfl (hK _ ?_))))))
        refine Qk (i + 1) ?_ ?_ ?_
        ·exact Zf (kp2 rfl rfl)
        ·exact ⟨by omega, Ya (by omega) hI.2 (by simp [Xk]; omega)⟩
        ·first | omega | (simp only; omega) | (dsimp only; omega)
      ·try rw [h7]
       try simp only [qa, qb, qc, qd, qe] at h7
       refine Qq rfl (Qq rfl (Ql rfl rfl ?_))
       refine hK _ _ (Qb (kp3 rfl rfl rfl) ?_)
       refine ZM rfl (Qv (Qh (Qd (kp2 rfl rfl) (QN fun K hK => Qa rfl (QY rfl rfl (by first | exact Qr (by omega) (by omega) | exact Zj (by omega) (by omega) | exact Zv (by omega) (by omega) | rfl) (Qa rfl (hK _ ?_)))))))
       refine Qk (i + 1) ?_ ?_ ?_
       ·exact Zf (kp2 rfl rfl)
       ·exact ⟨by omega, Ya (by omega) hI.2 (by simp [Xk]; omega)⟩
       ·first | omega | (simp only; omega) | (dsimp only; omega)
    ·try rw [h4]
     try simp only [qa, qb, qc, qd, qe] at h4
     refine Qg rfl (Qa rfl (Qg rfl (Qhv rfl rfl (Ql rfl rfl (Qa rfl ?_)))))
     refine QB (g := 28) rfl (fun h9 => ?_) (fun h9 => ?_)
     ·try rw [h9]
      try simp only [qa, qb, qc, qd, qe] at h9
      refine Qg rfl (Qa rfl (Qg rfl (Yb rfl rfl (Qg rfl (Qa rfl ?_)))))
      refine QB (g := 31) rfl (fun h10 => ?_) (fun h10 => ?_)
      ·try rw [h10]
       try simp only [qa, qb, qc, qd, qe] at h10
       refine Qq rfl (Qq rfl (Qg rfl (Ql rfl rfl (Ql rfl rfl (Qa rfl (Qg rfl (Qa rfl (Qg rfl (XJ rfl rfl (Ql rfl rfl ?_))))))))))
       refine hK _ _ (Qb (kp3 rfl rfl rfl) ?_)
       refine Qw rfl (fun h11 => ?_) (fun h11 => ?_)
       ·try rw [h11]
        try simp only [qa, qb, qc, qd, qe] at h11
        refine Qe fun K hK => Qa rfl ?_
        refine hK _ _ (Qb (kp1 rfl) ?_)
        refine Qu (Qt (Qj (Q4 (Qt (Qj (Qs rfl ?_))))))
        first | (have hz := Xp (p := Xk) (s := s) (i := i) (by omega) hI.2; simp [Qgf, hz]; omega) | (have hz := XA (p := Xk) (s := s) (i := i) (by omega) (by simp [Xk]; omega); simp [Qgf, hz]; done) | (simp [Qgf]; omega)
       ·try rw [h11]
        try simp only [qa, qb, qc, qd, qe] at h11
        refine Qv (Qh (Qd (kp2 rfl rfl) (QN fun K hK => Qa rfl (QY rfl rfl (by first | exact Qr (by omega) (by omega) | exact Zj (by omega) (by omega) | exact Zv (by omega) (by omega) | rfl) (Qa rfl (hK _ ?_))))))
        refine Qk (i + 1) ?_ ?_ ?_
        ·exact Zf (kp2 rfl rfl)
        ·exact ⟨by omega, Ya (by omega) hI.2 (by simp [Xk]; omega)⟩
        ·first | omega | (simp only; omega) | (dsimp only; omega)
      ·try rw [h10]
       try simp only [qa, qb, qc, qd, qe] at h10
       refine Qg rfl (Qa rfl (Qg rfl (Qhv rfl rfl (Qg rfl (Ql rfl rfl (Ql rfl rfl (Qa rfl ?_)))))))
       refine QB (g := 36) rfl (fun h12 => ?_) (fun h12 => ?_)
       ·try rw [h12]
        try simp only [qa, qb, qc, qd, qe] at h12
        refine Qg rfl (Qa rfl (Qg rfl (XJ rfl rfl (Ql rfl rfl ?_))))
        refine hK _ _ (Qb (kp3 rfl rfl rfl) ?_)
        refine Qw rfl (fun h13 => ?_) (fun h13 => ?_)
        ·try rw [h13]
         try simp only [qa, qb, qc, qd, qe] at h13
         refine Qe fun K hK => Qa rfl ?_
         refine hK _ _ (Qb (kp1 rfl) ?_)
         refine Qu (Qt (Qj (Q4 (Qt (Qj (Qs rfl ?_))))))
         first | (have hz := Xp (p := Xk) (s := s) (i := i) (by omega) hI.2; simp [Qgf, hz]; omega) | (have hz := XA (p := Xk) (s := s) (i := i) (by omega) (by simp [Xk]; omega); simp [Qgf, hz]; done) | (simp [Qgf]; omega)
        ·try rw [h13]
         try simp only [qa, qb, qc, qd, qe] at h13
         refine Qv (Qh (Qd (kp2 rfl rfl) (QN fun K hK => Qa rfl (QY rfl rfl (by first | exact Qr (by omega) (by omega) | exact Zj (by omega) (by omega) | exact Zv (by omega) (by omega) | rfl) (Qa rfl (hK _ ?_))))))
         refine Qk (i + 1) ?_ ?_ ?_
         ·exact Zf (kp2 rfl rfl)
         ·exact ⟨by omega, Ya (by omega) hI.2 (by simp [Xk]; omega)⟩
         ·first | omega | (simp only; omega) | (dsimp only; omega)
       ·try rw [h12]
        try simp only [qa, qb, qc, qd, qe] at h12
        refine Qq rfl (Qq rfl (Ql rfl rfl ?_))
        refine hK _ _ (Qb (kp3 rfl rfl rfl) ?_)
        refine ZM rfl (Qv (Qh (Qd (kp2 rfl rfl) (QN fun K hK => Qa rfl (QY rfl rfl (by first | exact Qr (by omega) (by omega) | exact Zj (by omega) (by omega) | exact Zv (by omega) (by omega) | rfl) (Qa rfl (hK _ ?_)))))))
        refine Qk (i + 1) ?_ ?_ ?_
        ·exact Zf (kp2 rfl rfl)
        ·exact ⟨by omega, Ya (by omega) hI.2 (by simp [Xk]; omega)⟩
        ·first | omega | (simp only; omega) | (dsimp only; omega)
     ·try rw [h9]
      try simp only [qa, qb, qc, qd, qe] at h9
      refine Qq rfl (Qq rfl (Qq rfl (ZF rfl (ZF rfl (Qq rfl (Ql rfl rfl (Qa rfl (Qq rfl (Qq rfl (Ql rfl rfl ?_))))))))))
      refine hK _ _ (Qb (kp3 rfl rfl rfl) ?_)
      refine ZM rfl (Qv (Qh (Qd (kp2 rfl rfl) (QN fun K hK => Qa rfl (QY rfl rfl (by first | exact Qr (by omega) (by omega) | exact Zj (by omega) (by omega) | exact Zv (by omega) (by omega) | rfl) (Qa rfl (hK _ ?_)))))))
      refine Qk (i + 1) ?_ ?_ ?_
      ·exact Zf (kp2 rfl rfl)
      ·exact ⟨by omega, Ya (by omega) hI.2 (by simp [Xk]; omega)⟩
      ·first | omega | (simp only; omega) | (dsimp only; omega)
   ·try rw [h3]
    try simp only [qa, qb, qc, qd, qe] at h3
    refine Zh (QL (Qx (QE (Qd (Q0) (Qe fun K hK => Qa rfl ?_)))))
    refine hK _ _ (Qb (kp1 rfl) ?_)
    refine Qu (Qs rfl ?_)
    first | (have hz := Xp (p := Xk) (s := s) (i := i) (by omega) hI.2; simp [Qgf, hz]; omega) | (have hz := XA (p := Xk) (s := s) (i := i) (by omega) (by simp [Xk]; omega); simp [Qgf, hz]; done) | (simp [Qgf]; omega)
theorem YQ {s : List UInt8} (hl : s.length <= 1000000) : Ok Tryz.prog 107 [.str s] (.tup [.int .i64 (Xf s).1, .bool (Xf s).2]) := by
 refine Ok.ofT ZQ Tryz.func107 Qsm (Nat.le_of_ble_eq_true rfl) ?_
 show TW _ _ tf107.body _ _
 refine Qe fun K hK => Qa rfl (Qa rfl ?_)
 refine hK _ _ (Qb (kp1 rfl) ?_)
 refine QgL (ι := Unit) (fun _u => ⟨[(0, .str s)], []⟩) (fun _u => ¬ (s.length < 1 \/ 9 < s.length \/ (1 < s.length /\ s.head? = some 48))) ?_ ?_
 ·skip
  refine Qe fun K hK => Qa rfl (XM rfl (Yb rfl rfl (Qa rfl ?_)))
  refine QB (g := 9) rfl (fun h1 => ?_) (fun h1 => ?_)
  ·try rw [h1]
   try simp only [qa, qb, qc, qd, qe, X0, Bool.and_eq_true, Bool.and_eq_false_iff] at h1
   refine Qq rfl (Qq rfl (Qq rfl (Ql rfl rfl (Qa rfl (Qq rfl (Qq rfl (Qq rfl (Qq rfl (ZF rfl (ZF rfl (ZF rfl ?_)))))))))))
   refine Qq rfl (Ql rfl rfl ?_)
   refine hK _ _ (Qb (kp2 rfl rfl) ?_)
   refine Zl rfl (Qe fun K hK => Qa rfl (Qa rfl ?_))
   refine hK _ _ (Qb (kp2 rfl rfl) ?_)
   refine Qu (QdX (QV rfl rfl ?_))
   first | (rw [QeL (s := s) (by omega)]; exact ⟨rfl, rfl⟩) | (rw [QcN (s := s) (by omega) (by assumption)]; exact ⟨rfl, rfl⟩) | (rw [QeK (s := s) (i := i) (by omega) (by simp [QaD]; omega)]; exact ⟨rfl, rfl⟩) | (rw [QeJ (s := s) (i := i) (by omega) (by omega)]; exact ⟨rfl, rfl⟩) | (rw [Qhf (s := s) (i := i) hJ (by omega) hI.2.1 (by omega)]; exact ⟨rfl, rfl⟩)
  ·try rw [h1]
   try simp only [qa, qb, qc, qd, qe, X0, Bool.and_eq_true, Bool.and_eq_false_iff] at h1
   refine Qg rfl (Qa rfl (Qg rfl (XM rfl (Qg rfl (Qhv rfl rfl (Ql rfl rfl (Qa rfl ?_)))))))
   refine QB (g := 14) rfl (fun h2 => ?_) (fun h2 => ?_)
   ·try rw [h2]
    try simp only [qa, qb, qc, qd, qe, X0, Bool.and_eq_true, Bool.and_eq_false_iff] at h2
    refine Qq rfl (Qq rfl (Qq rfl (Qq rfl (ZF rfl (ZF rfl (ZF rfl (Qq rfl (Ql rfl rfl ?_))))))))
    refine hK _ _ (Qb (kp2 rfl rfl) ?_)
    refine Zl rfl (Qe fun K hK => Qa rfl (Qa rfl ?_))
    refine hK _ _ (Qb (kp2 rfl rfl) ?_)
    refine Qu (QdX (QV rfl rfl ?_))
    first | (rw [QeL (s := s) (by omega)]; exact ⟨rfl, rfl⟩) | (rw [QcN (s := s) (by omega) (by assumption)]; exact ⟨rfl, rfl⟩) | (rw [QeK (s := s) (i := i) (by omega) (by simp [QaD]; omega)]; exact ⟨rfl, rfl⟩) | (rw [QeJ (s := s) (i := i) (by omega) (by omega)]; exact ⟨rfl, rfl⟩) | (rw [Qhf (s := s) (i := i) hJ (by omega) hI.2.1 (by omega)]; exact ⟨rfl, rfl⟩)
   ·try rw [h2]
    try simp only [qa, qb, qc, qd, qe, X0, Bool.and_eq_true, Bool.and_eq_false_iff] at h2
    refine Qg rfl (Qa rfl (Qg rfl (XM rfl (Qg rfl (Qhv rfl rfl (Qg rfl (Qa rfl ?_)))))))
    refine QB (g := 18) rfl (fun h3 => ?_) (fun h3 => ?_)
    ·try rw [h3]
     try simp only [qa, qb, qc, qd, qe, X0, Bool.and_eq_true, Bool.and_eq_false_iff] at h3
     refine Qg rfl (Qa rfl (Qg rfl (XI rfl rfl (by omega) (Qdc (i := 0) (by omega)) (Qg rfl (ZI rfl rfl (Qg rfl (Ql rfl rfl (Ql rfl rfl ?_))))))))
     refine hK _ _ (Qb (kp2 rfl rfl) ?_)
     refine Qw rfl (fun h4 => ?_) (fun h4 => ?_)
     ·try rw [h4]
      try simp only [qa, qb, qc, qd, qe, X0, Bool.and_eq_true, Bool.and_eq_false_iff] at h4
      refine Qe fun K hK => Qa rfl (Qa rfl ?_)
      refine hK _ _ (Qb (kp2 rfl rfl) ?_)
      refine Qu (QdX (QV rfl rfl ?_))
      first | (rw [QeL (s := s) (by omega)]; exact ⟨rfl, rfl⟩) | (rw [QcN (s := s) (by omega) (by assumption)]; exact ⟨rfl, rfl⟩) | (rw [QeK (s := s) (i := i) (by omega) (by simp [QaD]; omega)]; exact ⟨rfl, rfl⟩) | (rw [QeJ (s := s) (i := i) (by omega) (by omega)]; exact ⟨rfl, rfl⟩) | (rw [Qhf (s := s) (i := i) hJ (by omega) hI.2.1 (by omega)]; exact ⟨rfl, rfl⟩)
     ·try rw [h4]
      try simp only [qa, qb, qc, qd, qe, X0, Bool.and_eq_true, Bool.and_eq_false_iff] at h4
      refine Qv ?_
      refine Z0 () ?_ ?_
      ·exact Zf (kp1 rfl)
      ·rintro (q | q | q) <;> first | omega | exact QmW (s := s) (by omega) (by assumption) q.2
    ·try rw [h3]
     try simp only [qa, qb, qc, qd, qe, X0, Bool.and_eq_true, Bool.and_eq_false_iff] at h3
     refine Qq rfl (Qq rfl (Qq rfl (Qg rfl (Ql rfl rfl (Ql rfl rfl ?_)))))
     refine hK _ _ (Qb (kp2 rfl rfl) ?_)
     refine ZM rfl (Qv ?_)
     refine Z0 () ?_ ?_
     ·exact Zf (kp1 rfl)
     ·rintro (q | q | q) <;> first | omega | exact QmW (s := s) (by omega) (by assumption) q.2
 intro _u hJ
 try dsimp only
 refine Qe fun K hK => Qa rfl ?_
 refine hK _ _ (Qb (kp2 rfl rfl) ?_)
 refine QD ?_ -- 1
 refine Qe fun K hK => Qa rfl ?_
 refine hK _ _ (Qb (kp3 rfl rfl rfl) ?_)
 refine Qz ?_
 refine Zm (ι := Nat) (fun i => ⟨[(0, .str s), (4, .int .i64 (val (s.take i))), (5, .int .i64 i)], []⟩) (fun i => i <= s.length /\ (s.take i).all QaD = true /\ s.length <= 9) (fun i => s.length - i) 0 ?_ ?_ ?_
 ·first | exact Zf (kp3 rfl rfl rfl) | exact Q2 (l := [0, 4, 5]) (kp3 rfl rfl rfl) Qn (by rw [Qlv (by omega)]; simp; omega) rfl rfl
 ·exact ⟨Nat.zero_le _, rfl, by omega⟩
 intro i hI
 have hv := QrI (s := s.take i) hI.2.1
 have hp : 10 ^ (s.take i).length <= 10 ^ 9 := Nat.pow_le_pow_right (by omega) (by simp; omega)
 try dsimp only
 refine QD ?_ -- 2
 refine Qe fun K hK => Qa rfl (Qa rfl (XM rfl (Yb rfl rfl ?_)))
 refine hK _ _ (Qb (kp4 rfl rfl rfl rfl) ?_)
 refine Qw rfl (fun h5 => ?_) (fun h5 => ?_)
 ·try rw [h5]
  try simp only [qa, qb, qc, qd, qe, X0, Bool.and_eq_true, Bool.and_eq_false_iff] at h5
  refine Qv (Qd (kp3 rfl rfl rfl) ?_)
  refine QD ?_ -- 3
  refine Qz ?_
  refine QD ?_ -- 4
  refine Qe fun K hK => Qa rfl (Qa rfl (XI rfl rfl (by omega) (Qdc (by omega)) (QF (QcX) rfl rfl (.inr rfl) (Ye rfl ?_))))
  refine hK _ _ (Qb (kp4 rfl rfl rfl rfl) ?_)
  refine Qw rfl (fun h6 => ?_) (fun h6 => ?_)
  ·try rw [h6]
   try simp only [qa, qb, qc, qd, qe, X0, Bool.and_eq_true, Bool.and_eq_false_iff] at h6
   refine Qe fun K hK => Qa rfl (Qa rfl ?_)
   refine hK _ _ (Qb (kp2 rfl rfl) ?_)
   refine Qu (Qj (Qt (Qj (Q4 (Qt (Qj (QV rfl rfl ?_)))))))
   first | (rw [QeL (s := s) (by omega)]; exact ⟨rfl, rfl⟩) | (rw [QcN (s := s) (by omega) (by assumption)]; exact ⟨rfl, rfl⟩) | (rw [QeK (s := s) (i := i) (by omega) (by simp [QaD]; omega)]; exact ⟨rfl, rfl⟩) | (rw [QeJ (s := s) (i := i) (by omega) (by omega)]; exact ⟨rfl, rfl⟩) | (rw [Qhf (s := s) (i := i) hJ (by omega) hI.2.1 (by omega)]; exact ⟨rfl, rfl⟩)
  ·try rw [h6]
   try simp only [qa, qb, qc, qd, qe, X0, Bool.and_eq_true, Bool.and_eq_false_iff] at h6
   refine Qv (Qd (kp3 rfl rfl rfl) (QN fun K hK => Qa rfl (Qn4 rfl rfl (by first | exact Qr (by omega) (by omega) | exact Zj (by omega) (by omega) | exact Zv (by omega) (by omega) | rfl) (Qa rfl (Qa rfl (XI rfl rfl (by omega) (Qdc (by omega)) (X2 rfl rfl (by first | exact Qr (by omega) (by omega) | exact Zj (by omega) (by omega) | exact Zv (by omega) (by omega) | rfl) (QiA rfl (by first | exact Qr (by omega) (by omega) | exact Zj (by omega) (by omega) | exact Zv (by omega) (by omega) | rfl) (QY rfl rfl (by first | exact Qr (by omega) (by omega) | exact Zj (by omega) (by omega) | exact Zv (by omega) (by omega) | rfl) (Qa rfl ?_))))))))))
   refine hK _ ?_
   refine Qh (Qd (kp3 rfl rfl rfl) (QN fun K hK => Qa rfl (QY rfl rfl (by first | exact Qr (by omega) (by omega) | exact Zj (by omega) (by omega) | exact Zv (by omega) (by omega) | rfl) (Qa rfl (hK _ ?_)))))
   refine Qk (i + 1) ?_ ?_ ?_
   ·first | exact Zf (kp3 rfl rfl rfl) | exact Q2 (l := [0, 4, 5]) (kp3 rfl rfl rfl) Qn (by rw [Qlv (by omega)]; simp; omega) rfl rfl
   ·exact ⟨by omega, Ya (by omega) hI.2.1 (by simp [QaD]; omega), hI.2.2⟩
   ·first | omega | (simp only; omega) | (dsimp only; omega)
 ·try rw [h5]
  try simp only [qa, qb, qc, qd, qe, X0, Bool.and_eq_true, Bool.and_eq_false_iff] at h5
  refine Zh (QL (Qx (QE (Qd (kp1 rfl) ?_))))
  refine QD ?_ -- 5
  refine Qe fun K hK => Qa rfl (Qhv rfl rfl ?_)
  refine hK _ _ (Qb (kp2 rfl rfl) ?_)
  refine Qw rfl (fun h7 => ?_) (fun h7 => ?_)
  ·try rw [h7]
   try simp only [qa, qb, qc, qd, qe, X0, Bool.and_eq_true, Bool.and_eq_false_iff] at h7
   refine Qe fun K hK => Qa rfl (Qa rfl ?_)
   refine hK _ _ (Qb (kp2 rfl rfl) ?_)
   refine Qu (Qj (QV rfl rfl ?_))
   first | (rw [QeL (s := s) (by omega)]; exact ⟨rfl, rfl⟩) | (rw [QcN (s := s) (by omega) (by assumption)]; exact ⟨rfl, rfl⟩) | (rw [QeK (s := s) (i := i) (by omega) (by simp [QaD]; omega)]; exact ⟨rfl, rfl⟩) | (rw [QeJ (s := s) (i := i) (by omega) (by omega)]; exact ⟨rfl, rfl⟩) | (rw [Qhf (s := s) (i := i) hJ (by omega) hI.2.1 (by omega)]; exact ⟨rfl, rfl⟩)
  ·try rw [h7]
   try simp only [qa, qb, qc, qd, qe, X0, Bool.and_eq_true, Bool.and_eq_false_iff] at h7
   refine Qv (Qd (kp1 rfl) (Qe fun K hK => Qa rfl (Qa rfl (Qa rfl ?_))))
   refine hK _ _ (Qb (kp2 rfl rfl) ?_)
   refine Qu (QV rfl rfl ?_)
   first | (rw [QeL (s := s) (by omega)]; exact ⟨rfl, rfl⟩) | (rw [QcN (s := s) (by omega) (by assumption)]; exact ⟨rfl, rfl⟩) | (rw [QeK (s := s) (i := i) (by omega) (by simp [QaD]; omega)]; exact ⟨rfl, rfl⟩) | (rw [QeJ (s := s) (i := i) (by omega) (by omega)]; exact ⟨rfl, rfl⟩) | (rw [Qhf (s := s) (i := i) hJ (by omega) hI.2.1 (by omega)]; exact ⟨rfl, rfl⟩)
end Go.Proofs
namespace Go.Proofs
open Go Go.Abs M3
set_option linter.unusedVariables false
set_option linter.unusedSimpArgs false
theorem QdH {a b : List UInt8} (ha : a.length <= 1000000) (hb : b.length <= 1000000) : Ok Tryz.prog 132 [.str a, .str b] (.int .i64 (mOne a b)) := by
 refine Ok.ofT ZQ Tryz.func132 QsL (Nat.le_of_ble_eq_true rfl) ?_
 show TW _ _ tf132.body _ _
 refine Qe fun K hK => Qa rfl ?_
 refine hK _ _ (Qb (kp2 rfl rfl) ?_)
 refine Qe fun K hK => Qa rfl (QF (YJ (by omega)) rfl rfl (.inr rfl) (Qa rfl (QF (YJ (by omega)) rfl rfl (.inr rfl) (Qa rfl (Qa rfl ?_)))))
 refine hK _ _ (Qb (kp4 rfl rfl rfl rfl) ?_)
 refine QD ?_ -- 0
 refine Qz (Qe fun K hK => Qa rfl (Qa rfl ?_))
 refine QB (g := 17) rfl (fun h1 => ?_) (fun h1 => ?_)
 ·try rw [h1]
  try simp only [qa, qb, qc, qd, qe] at h1
  refine Qg rfl (Qa rfl (Ql rfl rfl (Qa rfl ?_)))
  refine hK _ _ (Qb (kp5 rfl rfl rfl rfl rfl) ?_)
  refine Qw rfl (fun h2 => ?_) (fun h2 => ?_)
  ·try rw [h2]
   try simp only [qa, qb, qc, qd, qe] at h2
   refine Qe fun K hK => Qa rfl (QF (YQ (by omega)) rfl rfl (.inr rfl) (Qa rfl (Za rfl rfl (Za rfl rfl (Qa rfl (Qa rfl ?_))))))
   refine hK _ _ (Qb (kp2 rfl rfl) ?_)
   refine Qe fun K hK => Qa rfl (QF (YQ (by omega)) rfl rfl (.inr rfl) (Qa rfl (Za rfl rfl (Za rfl rfl (Qa rfl (Qa rfl ?_))))))
   refine hK _ _ (Qb (kp2 rfl rfl) ?_)
   refine Qe fun K hK => Qa rfl (Qa rfl (QF (ZB) rfl rfl (.inr rfl) (Qa rfl ?_)))
   refine hK _ _ (Qb (kp1 rfl) ?_)
   refine Qu (Qt (Qj (Qy rfl ?_)))
   simp [mOne, h1, h2]
  ·try rw [h2]
   try simp only [qa, qb, qc, qd, qe] at h2
   refine Qe fun K hK => Qa rfl (Qa rfl ?_)
   refine hK _ _ (Qb (kp4 rfl rfl rfl rfl) ?_)
   refine Zl rfl (Qe fun K hK => Qa rfl ?_)
   refine hK _ _ (Qb (kp1 rfl) ?_)
   refine Qu (Qt (Qj (Qy rfl ?_)))
   simp [mOne, h1, h2]
 ·try rw [h1]
  try simp only [qa, qb, qc, qd, qe] at h1
  refine Qq rfl (Ql rfl rfl (Qa rfl ?_))
  refine hK _ _ (Qb (kp5 rfl rfl rfl rfl rfl) ?_)
  refine ZM rfl (Qe fun K hK => Qa rfl (Qa rfl ?_))
  refine hK _ _ (Qb (kp4 rfl rfl rfl rfl) ?_)
  refine ZM rfl (Qe fun K hK => Qa rfl (Qa rfl ?_))
  refine hK _ _ (Qb (kp3 rfl rfl rfl) ?_)
  refine Qw rfl (fun h3 => ?_) (fun h3 => ?_)
  ·try rw [h3]
   try simp only [qa, qb, qc, qd, qe] at h3
   refine Qe fun K hK => Qa rfl ?_
   refine hK _ _ (Qb (kp1 rfl) ?_)
   refine Qu (Qt (Qj (Qy rfl ?_)))
   simp [mOne, h1, h3]
  ·try rw [h3]
   try simp only [qa, qb, qc, qd, qe] at h3
   refine Qv (Qh (Qd (kp2 rfl rfl) (Qe fun K hK => Qa rfl (Qa rfl (QF (Qc5) rfl rfl (.inr rfl) (Qa rfl ?_))))))
   refine hK _ _ (Qb (kp1 rfl) ?_)
   refine Qu (Qy rfl ?_)
   simp [mOne, h1, h3]
theorem Qdo {a b : List UInt8} (ha : a.length <= 1000000) (hb : b.length <= 1000000) : Ok Tryz.prog 131 [.str a, .str b] (.int .i64 (QgG a b)) := by
 refine Ok.ofT ZQ Tryz.func131 QsK (Nat.le_of_ble_eq_true rfl) ?_
 show TW _ _ tf131.body _ _
 refine Qe fun K hK => Qa rfl ?_
 refine hK _ _ (Qb (kp2 rfl rfl) ?_)
 refine QD ?_ -- 0
 refine Qz (Qe fun K hK => Qa rfl (Qa rfl (Qfy rfl rfl (Qa rfl ?_))))
 refine hK _ _ (Qb (kp3 rfl rfl rfl) ?_)
 refine Qw rfl (fun h1 => ?_) (fun h1 => ?_)
 ·try rw [h1]
  try simp only [qa, qb, qc, qd, qe, Zg] at h1
  refine Qe fun K hK => Qa rfl ?_
  refine hK _ _ (Qb (kp1 rfl) ?_)
  refine Qu (Qt (Qj (Qy rfl ?_)))
  first | (simp_all [QgG]; done) | (rw [hI.2.2, QcL (by omega) (by omega) (by assumption)]) | (rw [hI.2.2, QcK (by omega) (by omega) (by omega)]; simp [Zg])
 ·try rw [h1]
  try simp only [qa, qb, qc, qd, qe, Zg] at h1
  refine Qe fun K hK => Qa rfl (Qfy rfl rfl (Qa rfl ?_))
  refine hK _ _ (Qb (kp3 rfl rfl rfl) ?_)
  refine Qw rfl (fun h2 => ?_) (fun h2 => ?_)
  ·try rw [h2]
   try simp only [qa, qb, qc, qd, qe, Zg] at h2
   refine Qe fun K hK => Qa rfl ?_
   refine hK _ _ (Qb (kp1 rfl) ?_)
   refine Qu (Qt (Qj (Qy rfl ?_)))
   first | (simp_all [QgG]; done) | (rw [hI.2.2, QcL (by omega) (by omega) (by assumption)]) | (rw [hI.2.2, QcK (by omega) (by omega) (by omega)]; simp [Zg])
  ·try rw [h2]
   try simp only [qa, qb, qc, qd, qe, Zg] at h2
   refine Qe fun K hK => Qa rfl (Qfy rfl rfl (Qa rfl ?_))
   refine hK _ _ (Qb (kp3 rfl rfl rfl) ?_)
   refine Qw rfl (fun h3 => ?_) (fun h3 => ?_)
   ·try rw [h3]
    try simp only [qa, qb, qc, qd, qe, Zg] at h3
    refine Qe fun K hK => Qa rfl ?_
    refine hK _ _ (Qb (kp1 rfl) ?_)
    refine Qu (Qt (Qj (Qy rfl ?_)))
    first | (simp_all [QgG]; done) | (rw [hI.2.2, QcL (by omega) (by omega) (by assumption)]) | (rw [hI.2.2, QcK (by omega) (by omega) (by omega)]; simp [Zg])
   ·try rw [h3]
    try simp only [qa, qb, qc, qd, qe, Zg] at h3
    refine Qv (Qh (Qd (kp2 rfl rfl) (Qe fun K hK => Qa rfl (QF (Y0 (by omega)) rfl rfl (.inl rfl) (Qa rfl (QF (Y0 (by omega)) rfl rfl (.inl rfl) (Qa rfl (Qa rfl ?_))))))))
    refine hK _ _ (Qb (kp2 rfl rfl) ?_)
    refine QD ?_ -- 1
    refine Qe fun K hK => Qa rfl ?_
    refine hK _ _ (Qb (kp3 rfl rfl rfl) ?_)
    refine Qz ?_
    refine Zm (ι := Nat) (fun i => ⟨[(5, .sl (Qbc (Ys a 46))), (6, .sl (Qbc (Ys b 46))), (7, .int .i64 i)], []⟩) (fun i => i <= (Ys a 46).length /\ i <= (Ys b 46).length /\ QgG a b = Qmb ((Ys a 46).drop i) ((Ys b 46).drop i)) (fun i => (Ys a 46).length - i) 0 ?_ ?_ ?_
    ·exact Zf (kp3 rfl rfl rfl)
    ·exact ⟨Nat.zero_le _, Nat.zero_le _, by simp_all [QgG]⟩
    intro i hI
    have sl := QnL (s := a) (c := 46)
    try dsimp only
    refine QD ?_ -- 2
    refine Qe fun K hK => Qa rfl (Qa rfl (QR rfl rfl (Yb rfl rfl (Qa rfl ?_))))
    refine QB (g := 27) rfl (fun h4 => ?_) (fun h4 => ?_)
    ·try rw [h4]
     try simp only [qa, qb, qc, qd, qe, Zg] at h4
     refine Qg rfl (Qa rfl (Qg rfl (Qa rfl (Qg rfl (QR rfl rfl (Qg rfl (Yb rfl rfl (Ql rfl rfl ?_))))))))
     refine hK _ _ (Qb (kp4 rfl rfl rfl rfl) ?_)
     refine Qw rfl (fun h5 => ?_) (fun h5 => ?_)
     ·try rw [h5]
      try simp only [qa, qb, qc, qd, qe, Zg] at h5
      refine Qv (Qd (kp3 rfl rfl rfl) ?_)
      refine QD ?_ -- 3
      refine Qz (Qe fun K hK => Qa rfl (Qa rfl (QJ rfl rfl rfl (by omega) (QdU (by omega)) rfl (QP (ds0 := [1, 0]) rfl rfl rfl rfl rfl (Qa rfl (Qa rfl (QJ rfl rfl rfl (by omega) (QdU (by omega)) rfl (QP (ds0 := [1, 0]) rfl rfl rfl rfl rfl (QS (ds0 := [0]) (QdH (Qek (by omega) ha) (Qek (by omega) hb)) rfl rfl (.inr rfl) rfl rfl (Qa rfl ?_))))))))))
      refine hK _ _ (Qb (kp4 rfl rfl rfl rfl) ?_)
      refine Qe fun K hK => Qa rfl (XJ rfl rfl ?_)
      refine hK _ _ (Qb (kp5 rfl rfl rfl rfl rfl) ?_)
      refine Qw rfl (fun h6 => ?_) (fun h6 => ?_)
      ·try rw [h6]
       try simp only [qa, qb, qc, qd, qe, Zg] at h6
       refine Qe fun K hK => Qa rfl (Qa rfl ?_)
       refine hK _ _ (Qb (kp1 rfl) ?_)
       refine Qu (Qt (Qj (Q4 (Qt (Qj (Qy rfl ?_))))))
       first | (simp_all [QgG]; done) | (rw [hI.2.2, QcL (by omega) (by omega) (by assumption)]) | (rw [hI.2.2, QcK (by omega) (by omega) (by omega)]; simp [Zg])
      ·try rw [h6]
       try simp only [qa, qb, qc, qd, qe, Zg] at h6
       refine Qv (Qh (Qd (kp3 rfl rfl rfl) (QN fun K hK => Qa rfl (QY rfl rfl (by first | exact Qr (by omega) (by omega) | exact Zj (by omega) (by omega) | exact Zv (by omega) (by omega) | rfl) (Qa rfl (hK _ ?_))))))
       refine Qk (i + 1) ?_ ?_ ?_
       ·exact Zf (kp3 rfl rfl rfl)
       ·exact ⟨by omega, by omega, by rw [hI.2.2, Qng (by omega) (by omega) (by assumption)]⟩
       ·first | omega | (simp only; omega) | (dsimp only; omega)
     ·try rw [h5]
      try simp only [qa, qb, qc, qd, qe, Zg] at h5
      refine Zh (QL (Qx (QE (Qd (kp2 rfl rfl) (Qe fun K hK => Qa rfl (QR rfl rfl (Qa rfl (QR rfl rfl (QF (ZB) rfl rfl (.inr rfl) (Qa rfl ?_))))))))))
      refine hK _ _ (Qb (kp1 rfl) ?_)
      refine Qu (Qy rfl ?_)
      first | (simp_all [QgG]; done) | (rw [hI.2.2, QcL (by omega) (by omega) (by assumption)]) | (rw [hI.2.2, QcK (by omega) (by omega) (by omega)]; simp [Zg])
    ·try rw [h4]
     try simp only [qa, qb, qc, qd, qe, Zg] at h4
     refine Qq rfl (Qq rfl (Qq rfl (Qq rfl (Ql rfl rfl ?_))))
     refine hK _ _ (Qb (kp4 rfl rfl rfl rfl) ?_)
     refine ZM rfl (Zh (QL (Qx (QE (Qd (kp2 rfl rfl) (Qe fun K hK => Qa rfl (QR rfl rfl (Qa rfl (QR rfl rfl (QF (ZB) rfl rfl (.inr rfl) ?_))))))))))
     refine Qa rfl ?_
     refine hK _ _ (Qb (kp1 rfl) ?_)
     refine Qu (Qy rfl ?_)
     first | (simp_all [QgG]; done) | (rw [hI.2.2, QcL (by omega) (by omega) (by assumption)]) | (rw [hI.2.2, QcK (by omega) (by omega) (by omega)]; simp [Zg])
theorem Qau {s : List UInt8} {pre : Bool} (hl : s.length <= 1000000) : Ok Tryz.prog 91 [.str s, .bool pre] (.bool (Qcu s pre)) := by
 refine Ok.ofT ZQ Tryz.func91 Qt6 (Nat.le_of_ble_eq_true rfl) ?_
 show TW _ _ tf91.body _ _
 refine Qe fun K hK => Qa rfl ?_
 refine hK _ _ (Qb (kp2 rfl rfl) ?_)
 refine QD ?_ -- 0
 refine Qe fun K hK => Qa rfl (Qfy rfl rfl ?_)
 refine hK _ _ (Qb (kp3 rfl rfl rfl) ?_)
 refine Qw rfl (fun h1 => ?_) (fun h1 => ?_)
 ·try rw [h1]
  try simp only [qa, qb, qc, qd, qe, Zg] at h1
  refine Qe fun K hK => Qa rfl ?_
  refine hK _ _ (Qb (kp1 rfl) ?_)
  refine Qu (Qj (Qs rfl ?_))
  first | (simp_all [Qcu]; done) | (simp [Qcu, h1]; omega) | exact (Qd8 (i := i) (by assumption) (by omega) (by simp [Qfb, h1])).symm | exact (Qcv (i := i) (by omega) (by omega) hI.2).symm
 ·try rw [h1]
  try simp only [qa, qb, qc, qd, qe, Zg] at h1
  refine Qv (Qd (kp2 rfl rfl) (Qe fun K hK => Qa rfl (QF (Y0 (by omega)) rfl rfl (.inl rfl) (Qa rfl ?_))))
  refine hK _ _ (Qb (kp2 rfl rfl) ?_)
  refine QD ?_ -- 1
  refine Qe fun K hK => Qa rfl (QR rfl rfl (Qhv rfl rfl ?_))
  refine hK _ _ (Qb (kp3 rfl rfl rfl) ?_)
  refine Qw rfl (fun h2 => ?_) (fun h2 => ?_)
  ·try rw [h2]
   try simp only [qa, qb, qc, qd, qe, Zg] at h2
   refine Qe fun K hK => Qa rfl ?_
   refine hK _ _ (Qb (kp1 rfl) ?_)
   refine Qu (Qj (Qs rfl ?_))
   first | (simp_all [Qcu]; done) | (simp [Qcu, h1, h2]; omega) | exact (Qd8 (i := i) (by assumption) (by omega) (by simp [Qfb, h1, h2])).symm | exact (Qcv (i := i) (by omega) (by omega) hI.2).symm
  ·try rw [h2]
   try simp only [qa, qb, qc, qd, qe, Zg] at h2
   refine Qv (Qd (kp2 rfl rfl) ?_)
   refine QD ?_ -- 2
   refine Qe fun K hK => Qa rfl ?_
   refine hK _ _ (Qb (kp3 rfl rfl rfl) ?_)
   refine Qz ?_
   refine Zm (ι := Nat) (fun i => ⟨[(1, .bool pre), (5, .sl (Qbc (Ys s 46))), (6, .int .i64 i)], []⟩) (fun i => i <= (Ys s 46).length /\ ((Ys s 46).take i).all (Qfb pre) = true) (fun i => (Ys s 46).length - i) 0 ?_ ?_ ?_
   ·first | exact Zf (kp3 rfl rfl rfl) | exact Q2 (l := [1, 5, 6]) (kp3 rfl rfl rfl) Qn (by simp [h1, h2]) rfl rfl
   ·exact ⟨Nat.zero_le _, rfl⟩
   intro i hI
   try dsimp only
   refine QD ?_ -- 3
   refine Qe fun K hK => Qa rfl (Qa rfl (QR rfl rfl (Yb rfl rfl ?_)))
   refine hK _ _ (Qb (kp4 rfl rfl rfl rfl) ?_)
   refine Qw rfl (fun h3 => ?_) (fun h3 => ?_)
   ·try rw [h3]
    try simp only [qa, qb, qc, qd, qe, Zg] at h3
    refine Qv (Qd (kp3 rfl rfl rfl) ?_)
    refine QD ?_ -- 4
    refine Qz ?_
    refine QD ?_ -- 5
    refine Qe fun K hK => Qa rfl (Qa rfl (QJ rfl rfl rfl (by omega) (QdU (by omega)) rfl (QC rfl rfl rfl (QF (QdI (Qek (by omega) hl)) rfl rfl (.inr rfl) (Ye rfl ?_)))))
    refine hK _ _ (Qb (kp4 rfl rfl rfl rfl) ?_)
    refine Qw rfl (fun h4 => ?_) (fun h4 => ?_)
    ·try rw [h4]
     try simp only [qa, qb, qc, qd, qe, Zg] at h4
     refine Qe fun K hK => Qa rfl ?_
     refine hK _ _ (Qb (kp1 rfl) ?_)
     refine Qu (Qj (Qt (Qj (Q4 (Qt (Qj (Qs rfl ?_)))))))
     first | (simp_all [Qcu]; done) | (simp [Qcu, h1, h2, h3, h4]; omega) | exact (Qd8 (i := i) (by assumption) (by omega) (by simp [Qfb, h1, h2, h3, h4])).symm | exact (Qcv (i := i) (by omega) (by omega) hI.2).symm
    ·try rw [h4]
     try simp only [qa, qb, qc, qd, qe, Zg] at h4
     refine Qv (Qd (kp3 rfl rfl rfl) (Qe fun K hK => Qa rfl (Qa rfl (QJ rfl rfl rfl (by omega) (QdU (by omega)) rfl (QC rfl rfl rfl (QF (YQ (Qek (by omega) hl)) rfl rfl (.inr rfl) (Qa rfl (Za rfl rfl (Za rfl rfl (Qa rfl ?_))))))))))
     refine Qa rfl ?_
     refine hK _ _ (Qb (kp4 rfl rfl rfl rfl) ?_)
     refine Qe fun K hK => Qa rfl (Qa rfl ?_)
     refine QB (g := 37) rfl (fun h5 => ?_) (fun h5 => ?_)
     ·try rw [h5]
      try simp only [qa, qb, qc, qd, qe, Zg] at h5
      refine Qg rfl (Qa rfl (Qg rfl (Qa rfl (Qg rfl (QJ rfl rfl rfl (by omega) (QdU (by omega)) rfl (Qg rfl (QC rfl rfl rfl (Qg rfl (QF (YJ (Qek (by omega) hl)) rfl rfl (.inr rfl) (Ql rfl rfl (Qa rfl ?_)))))))))))
      refine QB (g := 44) rfl (fun h6 => ?_) (fun h6 => ?_)
      ·try rw [h6]
       try simp only [qa, qb, qc, qd, qe, Zg] at h6
       refine Qg rfl (Qa rfl (Qg rfl (Ye rfl (Ql rfl rfl ?_))))
       refine hK _ _ (Qb (kp4 rfl rfl rfl rfl) ?_)
       refine Qw rfl (fun h7 => ?_) (fun h7 => ?_)
       ·try rw [h7]
        try simp only [qa, qb, qc, qd, qe, Zg] at h7
        refine Qe fun K hK => Qa rfl ?_
        refine hK _ _ (Qb (kp1 rfl) ?_)
        refine Qu (Qt (Qj (Q4 (Qt (Qj (Qs rfl ?_))))))
        first | (simp_all [Qcu]; done) | (simp [Qcu, h1, h2, h3, h4, h5, h6, h7]; omega) | exact (Qd8 (i := i) (by assumption) (by omega) (by simp [Qfb, h1, h2, h3, h4, h5, h6, h7])).symm | exact (Qcv (i := i) (by omega) (by omega) hI.2).symm
       ·try rw [h7]
        try simp only [qa, qb, qc, qd, qe, Zg] at h7
        refine Qv (Qh (Qd (kp3 rfl rfl rfl) (QN fun K hK => Qa rfl (QY rfl rfl (by first | exact Qr (by omega) (by omega) | exact Zj (by omega) (by omega) | exact Zv (by omega) (by omega) | rfl) (Qa rfl (hK _ ?_))))))
        refine Qk (i + 1) ?_ ?_ ?_
        ·first | exact Zf (kp3 rfl rfl rfl) | exact Q2 (l := [1, 5, 6]) (kp3 rfl rfl rfl) Qn (by simp [h1, h2, h3, h4, h5, h6, h7]) rfl rfl
        ·exact ⟨by omega, Ya (by omega) hI.2 (by simp [Qfb, h1, h2, h3, h4, h5, h6, h7])⟩
        ·first | omega | (simp only; omega) | (dsimp only; omega)
      ·try rw [h6]
       try simp only [qa, qb, qc, qd, qe, Zg] at h6
       refine Qq rfl (Qq rfl (Ql rfl rfl ?_))
       refine hK _ _ (Qb (kp4 rfl rfl rfl rfl) ?_)
       refine ZM rfl (Qv (Qh (Qd (kp3 rfl rfl rfl) (QN fun K hK => Qa rfl (QY rfl rfl (by first | exact Qr (by omega) (by omega) | exact Zj (by omega) (by omega) | exact Zv (by omega) (by omega) | rfl) (Qa rfl (hK _ ?_)))))))
       refine Qk (i + 1) ?_ ?_ ?_
       ·first | exact Zf (kp3 rfl rfl rfl) | exact Q2 (l := [1, 5, 6]) (kp3 rfl rfl rfl) Qn (by simp [h1, h2, h3, h4, h5, h6]) rfl rfl
       ·exact ⟨by omega, Ya (by omega) hI.2 (by simp [Qfb, h1, h2, h3, h4, h5, h6])⟩
       ·first | omega | (simp only; omega) | (dsimp only; omega)
     ·try rw [h5]
      try simp only [qa, qb, qc, qd, qe, Zg] at h5
      refine Qq rfl (Qq rfl (Qq rfl (Qq rfl (Qq rfl (Ql rfl rfl (Qa rfl (Qq rfl (Qq rfl (Ql rfl rfl ?_)))))))))
      refine hK _ _ (Qb (kp4 rfl rfl rfl rfl) ?_)
      refine ZM rfl (Qv (Qh (Qd (kp3 rfl rfl rfl) (QN fun K hK => Qa rfl (QY rfl rfl (by first | exact Qr (by omega) (by omega) | exact Zj (by omega) (by omega) | exact Zv (by omega) (by omega) | rfl) (Qa rfl (hK _ ?_)))))))
      refine Qk (i + 1) ?_ ?_ ?_
      ·first | exact Zf (kp3 rfl rfl rfl) | exact Q2 (l := [1, 5, 6]) (kp3 rfl rfl rfl) Qn (by simp [h1, h2, h3, h4, h5]) rfl rfl
      ·exact ⟨by omega, Ya (by omega) hI.2 (by simp [Qfb, h1, h2, h3, h4, h5])⟩
      ·first | omega | (simp only; omega) | (dsimp only; omega)
   ·try rw [h3]
    try simp only [qa, qb, qc, qd, qe, Zg] at h3
    refine Zh (QL (Qx (QE (Qd (Q0) (Qe fun K hK => Qa rfl ?_)))))
    refine hK _ _ (Qb (kp1 rfl) ?_)
    refine Qu (Qs rfl ?_)
    first | (simp_all [Qcu]; done) | (simp [Qcu, h1, h2, h3]; omega) | exact (Qd8 (i := i) (by assumption) (by omega) (by simp [Qfb, h1, h2, h3])).symm | exact (Qcv (i := i) (by omega) (by omega) hI.2).symm
theorem Zi {a b c : Int} {p q : List UInt8} (hp : p.length <= 1000000) (hq : q.length <= 1000000) : Ok Tryz.prog 67 [.agg [.int .i64 a, .int .i64 b, .int .i64 c, .str p, .str q]] (.bool (Qix a b c p q)) := by
 refine Ok.ofT ZQ Tryz.func67 QtK (Nat.le_of_ble_eq_true rfl) ?_
 show TW _ _ tf67.body _ _
 refine Qe fun K hK => Zo rfl rfl rfl (Qa rfl ?_)
 refine hK _ _ (Qb (kp1 rfl) ?_)
 refine Qe fun K hK => Qi rfl rfl (QC rfl rfl rfl (QF (Xs) rfl rfl (.inr rfl) (Qa rfl ?_)))
 refine QB (g := 6) rfl (fun h1 => ?_) (fun h1 => ?_)
 ·try rw [h1]
  try simp only [qa, qb, qc, qd, qe] at h1
  refine Qg rfl (Qi rfl rfl (Qg rfl (QC rfl rfl rfl (Qg rfl (QF (Xs) rfl rfl (.inr rfl) (Ql rfl rfl (Qa rfl ?_)))))))
  refine QB (g := 11) rfl (fun h2 => ?_) (fun h2 => ?_)
  ·try rw [h2]
   try simp only [qa, qb, qc, qd, qe] at h2
   refine Qg rfl (Qi rfl rfl (Qg rfl (QC rfl rfl rfl (Qg rfl (QF (Xs) rfl rfl (.inr rfl) (Ql rfl rfl (Qa rfl ?_)))))))
   refine QB (g := 16) rfl (fun h3 => ?_) (fun h3 => ?_)
   ·try rw [h3]
    try simp only [qa, qb, qc, qd, qe] at h3
    refine Qg rfl (Qi rfl rfl (Qg rfl (QC rfl rfl rfl (Qg rfl (QF (Qau (by omega)) rfl rfl (.inr rfl) (Ql rfl rfl (Qa rfl ?_)))))))
    refine QB (g := 21) rfl (fun h4 => ?_) (fun h4 => ?_)
    ·try rw [h4]
     try simp only [qa, qb, qc, qd, qe] at h4
     refine Qg rfl (Qi rfl rfl (Qg rfl (QC rfl rfl rfl (Qg rfl (QF (Qau (by omega)) rfl rfl (.inr rfl) (Ql rfl rfl (Qa rfl ?_)))))))
     refine hK _ _ (Qb (kp1 rfl) ?_)
     refine Qu (Qs rfl ?_)
     simp [Qix, h1, h2, h3, h4]
    ·try rw [h4]
     try simp only [qa, qb, qc, qd, qe] at h4
     refine Qq rfl (Qq rfl (Qq rfl (Ql rfl rfl (Qa rfl ?_))))
     refine hK _ _ (Qb (kp1 rfl) ?_)
     refine Qu (Qs rfl ?_)
     simp [Qix, h1, h2, h3, h4]
   ·try rw [h3]
    try simp only [qa, qb, qc, qd, qe] at h3
    refine Qq rfl (Qq rfl (Qq rfl (Ql rfl rfl (Qa rfl (Qq rfl (Qq rfl (Qq rfl (Ql rfl rfl (Qa rfl ?_)))))))))
    refine hK _ _ (Qb (kp1 rfl) ?_)
    refine Qu (Qs rfl ?_)
    simp [Qix, h1, h2, h3]
  ·try rw [h2]
   try simp only [qa, qb, qc, qd, qe] at h2
   refine Qq rfl (Qq rfl (Qq rfl (Ql rfl rfl (Qa rfl (Qq rfl (Qq rfl (Qq rfl (Ql rfl rfl (Qa rfl (Qq rfl (Qq rfl ?_)))))))))))
   refine Qq rfl (Ql rfl rfl (Qa rfl ?_))
   refine hK _ _ (Qb (kp1 rfl) ?_)
   refine Qu (Qs rfl ?_)
   simp [Qix, h1, h2]
 ·try rw [h1]
  try simp only [qa, qb, qc, qd, qe] at h1
  refine Qq rfl (Qq rfl (Qq rfl (Ql rfl rfl (Qa rfl (Qq rfl (Qq rfl (Qq rfl (Ql rfl rfl (Qa rfl (Qq rfl (Qq rfl ?_)))))))))))
  refine Qq rfl (Ql rfl rfl (Qa rfl (Qq rfl (Qq rfl (Qq rfl (Ql rfl rfl (Qa rfl ?_)))))))
  refine hK _ _ (Qb (kp1 rfl) ?_)
  refine Qu (Qs rfl ?_)
  simp [Qix, h1]
end Go.Proofs
