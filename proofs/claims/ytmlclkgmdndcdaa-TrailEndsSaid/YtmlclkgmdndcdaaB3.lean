/- Part 3 of the means of the proof: a verified abstract evaluator, the prepared functions, and contracts of functions. It states nothing of the claim by itself. -/
import Derived.Test.YtmlclkgmdndcdaaB2
import Derived.KernelRfl
import Derived.Test.YtmlclkgmdndcdaaProg
set_option linter.unusedSimpArgs false
set_option linter.unusedVariables false
namespace Go.Abs
open Go
/-! ### Walks over boxes that are lent, of which little is known -/
def Big (H : List (Nat × Box)) : Prop := ∀ k b, lk H k = some b -> 1000000 <= k
def Closed (H : List (Nat × Box)) : Prop := ∀ k b, lk H k = some b -> ∀ j ∈ b.ids, (lk H j).isSome = true
theorem Big.none {H : List (Nat × Box)} (h : Big H) {k : Nat} (hk : k < 1000000) : lk H k = none := by
 cases hh : lk H k with
 | none => rfl
 | some b => have := h k b hh; omega
theorem Qh {α : Type} {H : List (Nat × α)} {k k' : Nat} {x b : α} (h : k' ≠ k) (e : lk H k = some b) : lk ((k', x) :: H) k = some b := by rw [Qi, if_neg h]; exact e
theorem Zj {α : Type} {H : List (Nat × α)} {k k' : Nat} {x : α} (h : k' ≠ k) (e : lk H k = none) : lk ((k', x) :: H) k = none := by rw [Qi, if_neg h]; exact e
theorem Qs {α : Type} {k : Nat} {v : α} {l : List (Nat × α)} : lk ((k, v) :: l) k = some v := by rw [Qi, if_pos rfl]
theorem Big.cons {H : List (Nat × Box)} (h : Big H) {k : Nat} {b : Box} (hk : 1000000 <= k) : Big ((k, b) :: H) := fun j x hj => by
 rw [Qi] at hj
 split at hj
 ·rename_i e; subst e; exact hk
 ·exact h j x hj
theorem QN {H : List (Nat × Box)} {k j : Nat} {b : Box} (h : (lk H j).isSome = true) : (lk ((k, b) :: H) j).isSome = true := by
 rw [Qi]; split
 ·rfl
 ·exact h
theorem QP {k : Nat} {b : Box} {l : List (Nat × Box)} : (lk ((k, b) :: l) k).isSome = true := by rw [Qs]; rfl
theorem Zi {l : List (Nat × Box)} {k : Nat} {b : Box} (h : lk l k = some b) : (lk l k).isSome = true := by rw [h]; rfl
def Qc6 (b : Box) : Prop := b.ids = []
theorem XG {b : Box} (h : b.pr = true) : b.ids = [] := by simp [Box.ids, h]
theorem Closed.cons {H : List (Nat × Box)} (h : Closed H) {k : Nat} {b : Box} (hb : ∀ j ∈ b.ids, (lk H j).isSome = true) : Closed ((k, b) :: H) := fun j x hj i hi => by
 rw [Qi] at hj
 split at hj
 ·cases hj; exact QN (hb i hi)
 ·exact QN (h j x hj i hi)
theorem Closed.pr {H : List (Nat × Box)} (h : Closed H) {k : Nat} {b : Box} (hb : b.pr = true) : Closed ((k, b) :: H) := h.cons fun j hj => by rw [XG hb] at hj; cases hj
theorem QnS {l : List Nat} {fr fr1 fr' : List (Nat × D)} {H H' : List (Nat × Box)} (hf : Q1 l fr = fr1) (ef : fr1 = fr') (hH : ∀ k b, lk H' k = some b -> lk H k = some b) (hfr : ∀ p ∈ fr', ∀ k ∈ p.2.ids, (lk H' k).isSome = true) (hcl : Closed H') (hbig : ∀ k, 1000000 <= k -> (lk H k).isSome = true -> (lk H' k).isSome = true) : St.le ⟨fr, H⟩ ⟨fr', H'⟩ := by
 subst hf ef
 intro E g a w r
 exact ⟨g, r.less (fun t d h => Y4 l fr t d h) hH (fun t d h k hk => hfr (t, d) (ZT h) k hk) hcl hbig⟩
theorem QaP {fr fr' : List (Nat × D)} {H H' : List (Nat × Box)} (ef : fr = fr') (hH : ∀ k, lk H k = lk H' k) : St.le ⟨fr, H⟩ ⟨fr', H'⟩ := by
 subst ef; exact Qgy ⟨fun _ => rfl, hH⟩
theorem QeJ {A H0 : List (Nat × Box)} {k : Nat} {b : Box} (h : lk (A ++ H0) k = some b) : (k, b) ∈ A \/ (lk A k = none /\ lk H0 k = some b) := by
 rw [ZM] at h
 split at h
 ·rename_i v hv; cases h; exact .inl (ZT hv)
 ·rename_i hv; exact .inr ⟨hv, h⟩
theorem QpN {l : List Nat} {fr fr1 fr' : List (Nat × D)} {H A H0 : List (Nat × Box)} (hf : Q1 l fr = fr1) (ef : fr1 = fr') (hA : ∀ p ∈ A, lk H p.1 = some p.2 /\ p.2.pr = true) (h0 : ∀ k b, lk A k = none -> lk H0 k = some b -> lk H k = some b) (hfr : ∀ p ∈ fr', ∀ k ∈ p.2.ids, (lk (A ++ H0) k).isSome = true) (hcl : Closed H0)
  (hbig : ∀ k, 1000000 <= k -> (lk H k).isSome = true -> (lk (A ++ H0) k).isSome = true) : St.le ⟨fr, H⟩ ⟨fr', A ++ H0⟩ := by
 have up : ∀ j, (lk H0 j).isSome = true -> (lk (A ++ H0) j).isSome = true := fun j hj => by
  rw [ZM]; split
  ·rfl
  ·exact hj
 refine QnS hf ef (fun k b hk => ?_) hfr (fun k b hk j hj => ?_) hbig
 ·rcases QeJ hk with h | ⟨h1, h2⟩
  ·exact (hA _ h).1
  ·exact h0 k b h1 h2
 ·rcases QeJ hk with h | ⟨h1, h2⟩
  ·rw [XG (hA _ h).2] at hj; cases hj
  ·exact up j (hcl k b h2 j hj)
theorem Qji {H : List (Nat × Box)} : Big (upH H) := fun k b hk => by
 obtain ⟨j, b0, rfl, _, _⟩ := Yv hk
 unfold upN; omega
theorem Qdy {H : List (Nat × Box)} (h : Closed H) : Closed (upH H) := fun k b hk j hj => by
 obtain ⟨i, b0, rfl, h1, rfl⟩ := Yv hk
 rw [Box.ren_ids] at hj
 obtain ⟨j0, hj0, rfl⟩ := List.mem_map.1 hj
 rw [Qae, Option.isSome_map]
 exact h i b0 h1 j0 hj0
theorem Qjv {P : Program} {f : Nat} {args : List Opd} {s : St} {ds ds' : List D} {HF : List (Nat × Box)} {k : Nat} {b b' : Box} {d : D} (ha : Zn s args = some ds) (hF : ∀ j x, lk HF j = some x -> lk s.H j = some x) (hcl : Closed HF) (hds : ∀ x ∈ ds, ∀ j ∈ x.ids, (lk HF j).isSome = true)
  (hk : (lk HF k).isSome = true) (hb : b.pr = true) (hd : d.ids = []) (hu : ds.map Qqv = ds') (hr : b.ren upN = b') (hok : OkH P f ds' (upH HF) d ((upN k, b') :: upH HF)) : Qa5 P f args s HF [] [(k, b)] d := by
 subst hu hr
 refine ⟨ds, ha, hF, hcl, hds, fun j x hj => ?_, (fun j x hj => by cases hj), (fun j hj => by rw [hd] at hj; cases hj), hok⟩
 rw [Qi] at hj
 split at hj
 ·rename_i e; cases hj; subst e; exact ⟨hk, fun i hi => by rw [XG hb] at hi; cases hi⟩
 ·cases hj
theorem Xi {H : List (Nat × Box)} {k : Nat} {b : Box} (hB : Big H) (hC : Closed H) (hk : 1000000 <= k) (hb : b.pr = true) : (∀ j, 1000000 <= j -> (lk H j).isSome = true -> (lk ((k, b) :: H) j).isSome = true) /\ (∀ j x, lk ((k, b) :: H) j = some x -> 500000 <= j /\ ∀ i ∈ x.ids, (lk ((k, b) :: H) i).isSome = true) :=
 ⟨fun _ _ h => QN h, fun j x hj => ⟨by have := hB.cons (b := b) hk j x hj; omega, hC.pr hb j x hj⟩⟩
theorem QeF {l : List Nat} {fr fr1 fr' : List (Nat × D)} {B A A' H0 : List (Nat × Box)} (hf : Q1 l fr = fr1) (ef : fr1 = fr') (hA : ∀ p ∈ A, lk B p.1 = some p.2 /\ p.2.pr = true) (eA : A = A') (hBA : ∀ p ∈ B, 1000000 <= p.1 -> (lk A p.1).isSome = true) (hb : Big H0) (hcl : Closed H0) (hfr : ∀ p ∈ fr', ∀ k ∈ p.2.ids, (lk (A' ++ H0) k).isSome = true) : St.le ⟨fr, B ++ H0⟩ ⟨fr', A' ++ H0⟩ := by
 subst eA
 have noB : ∀ k b, lk H0 k = some b -> lk A k = none -> lk B k = none := fun k b h1 h2 => by
  cases h : lk B k with
  | none => rfl
  | some x =>
   have := hBA (k, x) (ZT h) (hb k b h1)
   simp only at this
   rw [h2] at this; cases this
 refine QpN hf ef (fun p hp => ?_) (fun k b h1 h2 => ?_) hfr hcl fun k hk hs => ?_
 ·obtain ⟨q1, q2⟩ := hA p hp
  exact ⟨Yg q1, q2⟩
 ·rw [Yz (noB k b h2 h1)]; exact h2
 ·rw [ZM] at hs ⊢
  cases h : lk B k with
  | some x =>
   have := hBA (k, x) (ZT h) hk
   obtain ⟨y, hy⟩ := Option.isSome_iff_exists.1 this
   simp only at hy
   rw [hy]; rfl
  | none =>
   rw [h] at hs
   cases h2 : lk A k with
   | some x => rfl
   | none => exact hs
theorem Qad {B H : List (Nat × Box)} {kg : Nat} {g : Box} (hb : Big H) (h1 : lk B kg = some g) (h2 : ∀ p ∈ B, 1000000 <= p.1 -> p.1 = kg) : ∀ k b, lk ((kg, g) :: H) k = some b -> lk (B ++ H) k = some b := fun k b hk => by
 rw [Qi] at hk
 split at hk
 ·rename_i e; cases hk; subst e; exact Yg h1
 ·rename_i e
  rw [ZM]
  cases h : lk B k with
  | none => exact hk
  | some x => exact absurd (h2 (k, x) (ZT h) (hb k b hk)).symm e
def scr (k : Nat) (H : List (Nat × Box)) : List (Nat × Box) := H.map fun p => (p.1, p.2.scrub k)
theorem Qic {k : Nat} {b : Box} (h : k ∉ b.ids) : b.scrub k = b := by
 unfold Box.scrub
 split
 ·rfl
 ·rename_i hp
  have hids : b.ids = b.rows.flatMap fun r => r.flatMap D.sid := by unfold Box.ids; rw [if_neg hp]
  rw [hids] at h
  have key : ∀ rows : List (List D), (k ∉ rows.flatMap fun r => r.flatMap D.sid) -> (rows.map fun r => r.map (D.scrubC k)) = rows := by
   intro rows
   induction rows with
   | nil => intro _; rfl
   | cons r rs ih =>
    intro h'
    rw [List.flatMap_cons, List.mem_append] at h'
    rw [List.map_cons, ih (fun hh => h' (.inr hh)), YJ fun x hx => ?_]
    have hx' : k ∉ x.sid := fun hk => h' (.inl (List.mem_flatMap.2 ⟨x, hx, hk⟩))
    cases x <;> try rfl
    ·rename_i j n
     simp only [D.sid, List.mem_singleton] at hx'
     simp only [D.scrubC]
     first | rfl | rw [if_neg (fun e => hx' e.symm)] | rw [if_neg (fun e => hx' e)]
    ·rename_i j i o
     simp only [D.sid, List.mem_singleton] at hx'
     simp only [D.scrubC]
     first | rfl | rw [if_neg (fun e => hx' e.symm)] | rw [if_neg (fun e => hx' e)]
  rw [key b.rows h]
theorem QnU {k : Nat} : ∀ {H : List (Nat × Box)} {j : Nat}, lk (scr k H) j = (lk H j).map (Box.scrub k)
 | [], _ => rfl
 | (i, b) :: H, j => by
  show (if i = j then some (b.scrub k) else lk (scr k H) j) = _
  rw [Qi, QnU]
  split <;> rfl
theorem QgC {H : List (Nat × Box)} {k j : Nat} (hB : Big H) (hC : Closed H) (hk : k < 1000000) : lk (scr k H) j = lk H j := by
 rw [QnU]
 cases h : lk H j with
 | none => rfl
 | some b =>
  rw [Option.map_some, Qic fun hi => ?_]
  obtain ⟨x, hx⟩ := Option.isSome_iff_exists.1 (hC j b h k hi)
  have := hB k x hx
  omega
theorem QpP {fr : List (Nat × D)} {B H0 : List (Nat × Box)} (k : Nat) (hB : Big H0) (hC : Closed H0) (hk : k < 1000000 := by decide) : St.le ⟨fr, B ++ scr k H0⟩ ⟨fr, B ++ H0⟩ :=
 Qgy ⟨fun _ => rfl, fun j => by
  show lk (B ++ scr k H0) j = lk (B ++ H0) j
  rw [ZM, ZM, QgC hB hC hk]⟩
theorem QiP {l : List Nat} {fr fr1 : List (Nat × D)} {B A H0 : List (Nat × Box)} (k t : Nat) {n : Nat} {b : Box} (hf : Q1 l fr = fr1) (ht : lk fr t = some (.osl k n)) (hb : lk B k = some b) (hp : b.pr = true) (hn : n = b.rows.length) (c1 : ∀ p ∈ fr1, k ∉ p.2.ids)
  (hA : ∀ p ∈ A, p.1 ≠ k /\ lk B p.1 = some p.2 /\ p.2.pr = true) (hBA : ∀ p ∈ B, 1000000 <= p.1 -> (lk A p.1).isSome = true) (hB : Big H0) (hC : Closed H0) (hfr : ∀ p ∈ fr1, ∀ j ∈ p.2.ids, (lk (A ++ H0) j).isSome = true) (hk : k < 1000000 := by decide) : St.le ⟨fr, B ++ H0⟩ ⟨(t, .sl b.rows) :: fr1, A ++ H0⟩ := by
 intro E g a w r
 obtain ⟨g', _, r'⟩ := r.freeze k hk
 subst hf
 have hbB : lk (B ++ H0) k = some b := Yg hb
 have hS : ∀ (x : D), k ∉ x.ids -> x.fz (B ++ H0) (· == k) = x := fun x hx => QhB fun j hj => by
  simp only [beq_eq_false_iff_ne, ne_eq]; rintro rfl; exact hx hj
 have hH0k : ∀ j x, lk H0 j = some x -> k ∉ x.ids := fun j x h hi => by
  obtain ⟨y, hy⟩ := Option.isSome_iff_exists.1 (hC j x h k hi)
  have := hB k y hy
  omega
 have noB : ∀ j x, lk H0 j = some x -> lk A j = none -> lk B j = none := fun j x h1 h2 => by
  cases h : lk B j with
  | none => rfl
  | some y =>
   have := hBA (j, y) (ZT h) (hB j x h1)
   simp only at this
   rw [h2] at this; cases this
 have boxOf : ∀ j x, lk (A ++ H0) j = some x -> j ≠ k /\ lk (B ++ H0) j = some x /\ (x.pr = true \/ k ∉ x.ids) := fun j x h => by
  rcases QeJ h with h | ⟨h1, h2⟩
  ·obtain ⟨q1, q2, q3⟩ := hA _ h
   exact ⟨q1, Yg q2, .inl q3⟩
  ·refine ⟨fun e => ?_, ?_, .inr (hH0k j x h2)⟩
   ·subst e; have := hB _ x h2; omega
   ·rw [Yz (noB j x h2 h1)]; exact h2
 refine ⟨g', r'.less (fun u d h => ?_) (fun j x h => ?_) (fun u d h j hj => ?_) (fun j x h i hi => ?_) fun j hj hs => ?_⟩
 ·simp only [St.freeze, ZP]
  rw [Qi] at h
  split at h
  ·rename_i e; cases h; subst e
   rw [ht]; simp only [Option.map_some]
   congr 1
   simp only [D.fz, D.fzS, beq_self_eq_true, if_true, hbB, hp, hn, and_self]
  ·have h1 := Y4 l fr u d h
   rw [h1, Option.map_some, hS d (c1 (u, d) (ZT h))]
 ·obtain ⟨q1, q2, q3⟩ := boxOf j x h
  simp only [St.freeze, QcJ]
  rw [if_neg q1, ZP (Box.fz (B ++ H0) (· == k)), q2, Option.map_some]
  congr 1
  refine Xl (q3.imp id fun h3 i hi => ?_)
  simp only [beq_eq_false_iff_ne, ne_eq]; rintro rfl; exact h3 hi
 ·rw [Qi] at h
  split at h
  ·cases h; simp [D.ids, D.sid] at hj
  ·exact hfr (u, d) (ZT h) j hj
 ·rcases QeJ h with h | ⟨h1, h2⟩
  ·rw [XG (hA _ h).2.2] at hi; cases hi
  ·have := hC j x h2 i hi
   rw [ZM]; split
   ·rfl
   ·exact this
 ·have hs' : (lk (B ++ H0) j).isSome = true := by
   simp only [St.freeze, QcJ] at hs
   rw [if_neg (by omega), ZP (Box.fz (B ++ H0) (· == k)), Option.isSome_map] at hs
   exact hs
  rw [ZM] at hs' ⊢
  cases h : lk B j with
  | some x =>
   have := hBA (j, x) (ZT h) hj
   obtain ⟨y, hy⟩ := Option.isSome_iff_exists.1 this
   simp only at hy
   rw [hy]; rfl
  | none =>
   rw [h] at hs'
   cases h2 : lk A j with
   | some x => rfl
   | none => exact hs'
section
variable {P : Program} {r : List AOper} {K : St -> Prop} {fr : List (Nat × D)} {H : List (Nat × Box)} {t : Nat}
theorem Qog {esz et bytes kk n : Nat} {x y : Opd} {b : Box} {ys : List (List D)} {q : D} {pr : Bool} (hx : St.ev ⟨fr, H⟩ x = some (.osl kk n)) (hy : St.ev ⟨fr, H⟩ y = some q) (hq : kk ∉ q.ids) (hs : St.src ⟨fr, H⟩ esz q ys pr) (hn : lk H t = none)
  (hb : lk H kk = some b) (hl : n = b.rows.length) (he : b.esz = esz) (het : b.et = et) (hbb : (n + ys.length) * bytes <= 140737488355328) (hc : n + ys.length <= 4611686018427387904)
  (k : run P .fixed r K ⟨(t, .osl t (n + ys.length)) :: fr, (t, ⟨b.rows ++ ys, esz, et, b.pr && pr⟩) :: (kk, ZR) :: H⟩) (hk0 : kk < 1000000 := by decide) (ht0 : t < 1000000 := by decide) : run P .fixed (⟨some t, .append esz et bytes x y, none⟩ :: r) K ⟨fr, H⟩ :=
 .inr (.inl ⟨_, _, _, _, ⟨t, kk, n, b, q, ys, pr, rfl, hx, hk0, hn, ht0, hb, hl, he, het, hy, hq, hs, hbb, hc, rfl, rfl, rfl, rfl⟩, rfl, k⟩)
end
/-! ### The same over boxes whose names are greater than N -/
def QqP (N : Nat) (H : List (Nat × Box)) : Prop := ∀ k b, lk H k = some b -> N <= k
def QmC (H : List (Nat × Box)) : Prop := ∀ p ∈ H, p.2.pr = true
theorem Qn6 {k : Nat} : ∀ {H : List (Nat × Box)}, QmC H -> scr k H = H
 | [], _ => rfl
 | (j, b) :: H, h => by
  show (j, b.scrub k) :: scr k H = _
  have hb : b.scrub k = b := by unfold Box.scrub; rw [if_pos (h (j, b) (by simp))]
  rw [hb, Qn6 fun p hp => h p (by simp [hp])]
theorem Qgz {fr : List (Nat × D)} {B H0 : List (Nat × Box)} (k : Nat) (h : QmC H0) : St.le ⟨fr, B ++ scr k H0⟩ ⟨fr, B ++ H0⟩ := by rw [Qn6 h]; exact le_refl _
theorem QiR {l : List Nat} {fr fr1 fr' : List (Nat × D)} {B A A' H0 : List (Nat × Box)} {N : Nat} (hf : Q1 l fr = fr1) (ef : fr1 = fr') (hA : ∀ p ∈ A, lk B p.1 = some p.2) (eA : A = A') (hcA : ∀ p ∈ A', ∀ j ∈ p.2.ids, (lk (A' ++ H0) j).isSome = true) (hBA : ∀ p ∈ B, N <= p.1 -> (lk A p.1).isSome = true) (hb : QqP N H0) (hpr : QmC H0) (hfr : ∀ p ∈ fr', ∀ k ∈ p.2.ids, (lk (A' ++ H0) k).isSome = true) (hN : N <= 1000000 := by decide) : St.le ⟨fr, B ++ H0⟩ ⟨fr', A' ++ H0⟩ := by
 subst eA
 have noB : ∀ k b, lk H0 k = some b -> lk A k = none -> lk B k = none := fun k b h1 h2 => by
  cases h : lk B k with
  | none => rfl
  | some x =>
   have := hBA (k, x) (ZT h) (hb k b h1)
   simp only at this
   rw [h2] at this; cases this
 refine QnS hf ef (fun k b hk => ?_) hfr (fun k b hk j hj => ?_) fun k hk hs => ?_
 ·rcases QeJ hk with h | ⟨h1, h2⟩
  ·exact Yg (hA _ h)
  ·rw [Yz (noB k b h2 h1)]; exact h2
 ·rcases QeJ hk with h | ⟨h1, h2⟩
  ·exact hcA _ h j hj
  ·rw [XG (hpr _ (ZT h2))] at hj; cases hj
 ·rw [ZM] at hs ⊢
  cases h : lk B k with
  | some x =>
   have := hBA (k, x) (ZT h) (Nat.le_trans hN hk)
   obtain ⟨y, hy⟩ := Option.isSome_iff_exists.1 this
   simp only at hy
   rw [hy]; rfl
  | none =>
   rw [h] at hs
   cases h2 : lk A k with
   | some x => rfl
   | none => exact hs
/-! ### Cells told as plain slices -/
theorem canS_cell {d : D} : d.canS.isCell = d.isCell := by cases d <;> rfl
theorem Qbz {d : D} : d.canS.sid = d.sid := by cases d <;> rfl
theorem RepS.canS {g : Gh} {d : D} {v : Value} (h : RepS g d v) : RepS g d.canS v := by
 cases d <;> simp only [D.canS] <;> try exact h
 simp only [RepS, RepP] at h ⊢
 obtain ⟨a0, q1, q2⟩ := h
 exact ⟨a0, _, q1, Nat.le_refl _, q2⟩
theorem CellsC.canS {g : Gh} {c : Array Value} : ∀ {off : Nat} {ds : List D}, CellsC g c off ds -> CellsC g c off (ds.map D.canS)
 | _, [], _ => by simp only [List.map_nil, CellsC]
 | off, d :: ds, h => by
  simp only [CellsC, List.map_cons] at h ⊢
  obtain ⟨⟨h1, x, h2, h3⟩, h4⟩ := h
  exact ⟨⟨canS_cell.trans h1, x, h2, h3.canS⟩, h4.canS⟩
theorem RowsC.canAt {g : Gh} {c : Array Value} : ∀ {off : Nat} {rs : List (List D)} (i : Nat), RowsC g c off rs -> RowsC g c off (rs.modify i fun r => r.map D.canS)
 | _, [], i, h => by cases i <;> exact h
 | off, r :: rs, 0, h => by
  simp only [RowsC, List.modify_zero_cons] at h ⊢
  exact ⟨h.1.canS, by rw [List.length_map]; exact h.2⟩
 | off, r :: rs, i + 1, h => by
  simp only [RowsC, List.modify_succ_cons] at h ⊢
  exact ⟨h.1, RowsC.canAt i h.2⟩
theorem QaC {α : Type} {f : α -> α} : ∀ {l : List α} {i : Nat} {x : α}, x ∈ l.modify i f -> x ∈ l \/ ∃ y ∈ l, x = f y
 | [], i, x, h => by cases i <;> exact absurd h (by simp)
 | a :: l, 0, x, h => by
  simp only [List.modify_zero_cons, List.mem_cons] at h
  rcases h with rfl | h
  ·exact .inr ⟨a, by simp, rfl⟩
  ·exact .inl (by simp [h])
 | a :: l, i + 1, x, h => by
  simp only [List.modify_succ_cons, List.mem_cons] at h
  rcases h with rfl | h
  ·exact .inl (by simp)
  ·rcases QaC h with h | ⟨y, hy, e⟩
   ·exact .inl (by simp [h])
   ·exact .inr ⟨y, by simp [hy], e⟩
theorem QdW {fr : List (Nat × D)} {H : List (Nat × Box)} {k : Nat} {b : Box} (i : Nat) (hb : lk H k = some b) : St.le ⟨fr, H⟩ ⟨fr, (k, { b with rows := b.rows.modify i fun r => r.map D.canS }) :: H⟩ := fun E g a w r => by
 have hsid : ∀ (r : List D), (r.map D.canS).flatMap D.sid = r.flatMap D.sid := fun r => by
  induction r with
  | nil => rfl
  | cons d r ih => rw [List.map_cons, List.flatMap_cons, List.flatMap_cons, Qbz, ih]
 have hids : ∀ j, j ∈ Box.ids { b with rows := b.rows.modify i fun r => r.map D.canS } -> j ∈ b.ids := fun j hj => by
  unfold Box.ids at hj ⊢
  simp only at hj
  split at hj
  ·cases hj
  ·rename_i hp
   rw [if_neg hp]
   obtain ⟨row, hrow, hk⟩ := List.mem_flatMap.1 hj
   rcases QaC hrow with h | ⟨y, hy, rfl⟩
   ·exact List.mem_flatMap.2 ⟨row, h, hk⟩
   ·rw [hsid] at hk; exact List.mem_flatMap.2 ⟨y, hy, hk⟩
 have hsome : ∀ j, (lk ((k, ({ b with rows := b.rows.modify i fun r => r.map D.canS } : Box)) :: H) j).isSome = (lk H j).isSome := fun j => by
  rw [Qi]; split
  ·rename_i e; subst e; rw [hb]; rfl
  ·rfl
 have hget : ∀ j b', lk ((k, ({ b with rows := b.rows.modify i fun r => r.map D.canS } : Box)) :: H) j = some b' -> (j = k /\ b' = { b with rows := b.rows.modify i fun r => r.map D.canS }) \/ (j ≠ k /\ lk H j = some b') := fun j b' h => by
  rw [Qi] at h
  split at h
  ·rename_i e; cases h; exact .inl ⟨e.symm, rfl⟩
  ·rename_i e; exact .inr ⟨Ne.symm e, h⟩
 refine ⟨g, r.nt, r.df, r.fr, fun t d h j hj => (hsome j).trans (r.wfF t d h j hj), fun j b' h i' hi => ?_, fun j b' h => ?_, fun j j' b1 b2 B e e' h1 h2 h3 h4 => ?_, r.kr, r.ext, r.kx, fun j hj => let ⟨h1, h2, h3, h4⟩ := r.kp j hj; ⟨h1, h2, h3, (hsome j).trans h4⟩⟩
 ·rcases hget j b' h with ⟨rfl, rfl⟩ | ⟨_, h⟩
  ·rw [hsome]; exact r.wfH _ b hb i' (hids i' hi)
  ·rw [hsome]; exact r.wfH j b' h i' hi
 ·rcases hget j b' h with ⟨rfl, rfl⟩ | ⟨_, h⟩
  ·obtain ⟨h1, h2, h3⟩ := r.bx _ b hb
   by_cases hr : b.rows = []
   ·have e : ({ b with rows := b.rows.modify i fun r => r.map D.canS } : Box) = b := by
     obtain ⟨rows, e1, e2, e3⟩ := b
     simp only at hr
     subst hr
     cases i <;> rfl
    rw [e]; exact ⟨h1, h2, h3⟩
   ·refine ⟨fun row hrow => ?_, fun hp row hrow d hd => ?_, .inr ?_⟩
    ·rcases QaC hrow with h | ⟨y, hy, rfl⟩
     ·exact h1 row h
     ·rw [List.length_map]; exact h1 y hy
    ·rcases QaC hrow with h | ⟨y, hy, rfl⟩
     ·exact h2 hp row h d hd
     ·obtain ⟨d0, hd0, rfl⟩ := List.mem_map.1 hd
      rw [Qbz]; exact h2 hp y hy d0 hd0
    ·obtain ⟨_, B, c, q1, q2, q3, q4, q5⟩ := h3.resolve_left fun h => hr h.1
     refine ⟨fun e => hr ?_, B, c, q1, q2, q3, q4.canAt i, q5⟩
     have := congrArg List.length e
     simp only [List.length_modify, List.length_nil] at this
     exact List.eq_nil_of_length_eq_zero this
  ·exact r.bx j b' h
 ·have : ∀ j b', lk ((k, ({ b with rows := b.rows.modify i fun r => r.map D.canS } : Box)) :: H) j = some b' -> ∃ b'', lk H j = some b'' := fun j b' h => by
   rcases hget j b' h with ⟨rfl, _⟩ | ⟨_, h⟩
   ·exact ⟨b, hb⟩
   ·exact ⟨b', h⟩
  obtain ⟨c1, q1⟩ := this j b1 h1
  obtain ⟨c2, q2⟩ := this j' b2 h2
  exact r.inj j j' c1 c2 B e e' q1 q2 h3 h4
theorem QlQ {fr fr' : List (Nat × D)} {H H' : List (Nat × Box)} (k : Nat) (hk : k < 1000000) (hF : ∀ t d, lk fr' t = some d -> ∃ d0, lk fr t = some d0 /\ d0.fz H (· == k) = d) (hH : ∀ j b, lk H' j = some b -> j ≠ k /\ ∃ b0, lk H j = some b0 /\ b0.fz H (· == k) = b)
  (wfF : ∀ t d, lk fr' t = some d -> ∀ j ∈ d.ids, (lk H' j).isSome = true) (wfH : Closed H') (hbig : ∀ j, 1000000 <= j -> (lk H j).isSome = true -> (lk H' j).isSome = true) : St.le ⟨fr, H⟩ ⟨fr', H'⟩ := by
 intro E g a w r
 obtain ⟨g', _, r'⟩ := r.freeze k hk
 refine ⟨g', r'.less (fun u d h => ?_) (fun j x h => ?_) wfF wfH fun j hj hs => hbig j hj ?_⟩
 ·obtain ⟨d0, q1, q2⟩ := hF u d h
  simp only [St.freeze, ZP, q1, Option.map_some, q2]
 ·obtain ⟨q1, b0, q2, q3⟩ := hH j x h
  simp only [St.freeze, QcJ]
  rw [if_neg q1, ZP (Box.fz H (· == k)), q2, Option.map_some, q3]
 ·simp only [St.freeze, QcJ] at hs
  rw [if_neg (by omega), ZP (Box.fz H (· == k)), Option.isSome_map] at hs
  exact hs
theorem QoK {fr fr' : List (Nat × D)} {H H' : List (Nat × Box)} (S : Nat -> Bool) (hS : ∀ k, S k = true -> k < 1000000) (hF : ∀ t d, lk fr' t = some d -> ∃ d0, lk fr t = some d0 /\ d0.fz H S = d) (hH : ∀ j b, lk H' j = some b -> S j = false /\ ∃ b0, lk H j = some b0 /\ b0.fz H S = b)
  (wfF : ∀ t d, lk fr' t = some d -> ∀ j ∈ d.ids, (lk H' j).isSome = true) (wfH : Closed H') (hbig : ∀ j, 1000000 <= j -> (lk H j).isSome = true -> (lk H' j).isSome = true) : St.le ⟨fr, H⟩ ⟨fr', H'⟩ := by
 intro E g a w r
 obtain ⟨g', _, r'⟩ := r.freezeS S hS
 refine ⟨g', r'.less (fun u d h => ?_) (fun j x h => ?_) wfF wfH fun j hj hs => hbig j hj ?_⟩
 ·obtain ⟨d0, q1, q2⟩ := hF u d h
  simp only [St.freezeS, ZP, q1, Option.map_some, q2]
 ·obtain ⟨q1, b0, q2, q3⟩ := hH j x h
  simp only [St.freezeS, QeK]
  rw [if_neg (by rw [q1]; simp), ZP (Box.fz H S), q2, Option.map_some, q3]
 ·simp only [St.freezeS, QeK] at hs
  split at hs
  ·cases hs
  ·rw [ZP (Box.fz H S), Option.isSome_map] at hs
   exact hs
theorem Ze (n : Nat) (p : List Nat) : Qbi n p [] = true := by simp [Qbi]
theorem Zf {n k : Nat} {R : List (Nat × List Nat)} : Qbi n [k] R = R.all fun e => e.1 != k || e.2.contains n := by simp [Qbi]
theorem Zg {n k j : Nat} {R : List (Nat × List Nat)} : Qbi n [k, j] R = ((R.all fun e => e.1 != k || e.2.contains n) && R.all fun e => e.1 != j || e.2.contains n) := by simp [Qbi]
theorem Zu {P ds : List Nat} {n k : Nat} (h : ds.contains n = true) : ((P.map fun x => (x, ds)).all fun e => e.1 != k || e.2.contains n) = true := by
 rw [List.all_eq_true]
 intro e he
 obtain ⟨x, _, rfl⟩ := List.mem_map.1 he
 rw [h, Bool.or_true]
theorem QoL {fr : List (Nat × D)} {H : List (Nat × Box)} (t : Nat) (ht : lk fr t = some (.fsl [])) : St.le ⟨fr, H⟩ ⟨(t, .sl []) :: fr, H⟩ := by
 intro E g a w r
 refine ⟨g, { r with fr := fun u d h => ?_, wfF := fun u d h j hj => ?_ }⟩
 ·rw [Qi] at h
  split at h
  ·rename_i e; cases h; subst e
   have h1 := r.fr t (.fsl []) ht
   simp only [Rep, RepS, RepP] at h1 ⊢
   obtain ⟨a0, h2, _⟩ := h1
   exact ⟨a0, 0, h2, Nat.le_refl _, .inl trivial⟩
  ·exact r.fr u d h
 ·rw [Qi] at h
  split at h
  ·cases h; simp [D.ids, D.sid] at hj
  ·exact r.wfF u d h j hj
end Go.Abs
namespace Go.Abs
open Go
theorem QpO {fr fr1 : List (Nat × D)} {H H1 : List (Nat × Box)} {l lH : List Nat} (kA kR : Nat) (pr' : Bool) {bA bR : Box} {rows' : List (List D)} (hf : Q1 l fr = fr1) (hH : QbV lH H = H1) (hA : lk H kA = some bA) (hR : lk H kR = some bR) (hpA : bA.pr = false) (hp : bR.pr = true)
  (hfz : (bA.rows.map fun r => r.map (D.fzS H (· == kR))) = rows') (hpr : pr' = true -> rows' ≠ [] /\ ∀ r ∈ rows', ∀ d ∈ r, d.sid = []) (hne : kA ≠ kR) (c1 : (fr1.all fun p => !p.2.ids.contains kR) = true) (c2 : (H1.all fun p => p.1 != kR && (p.2.pr || !p.2.ids.contains kR)) = true)
  (hw : wfB ((kA, ⟨rows', bA.esz, bA.et, pr'⟩) :: H1) fr1 = true) (hbk : Qpz H ((kA, ⟨rows', bA.esz, bA.et, pr'⟩) :: H1) = true) (hk : kR < 1000000 := by decide) : St.le ⟨fr, H⟩ ⟨fr1, (kA, ⟨rows', bA.esz, bA.et, pr'⟩) :: H1⟩ := by
 subst hf hH
 simp only [wfB, Bool.and_eq_true, List.all_eq_true] at hw
 simp only [List.all_eq_true, Bool.not_eq_true', List.contains_eq_mem, decide_eq_false_iff_not] at c1
 simp only [List.all_eq_true, Bool.and_eq_true, Bool.or_eq_true, Bool.not_eq_true', List.contains_eq_mem, decide_eq_false_iff_not, bne_iff_ne, ne_eq] at c2
 have hsome : ∀ j, (lk ((kA, (⟨rows', bA.esz, bA.et, false⟩ : Box)) :: QbV lH H) j).isSome = (lk ((kA, (⟨rows', bA.esz, bA.et, pr'⟩ : Box)) :: QbV lH H) j).isSome := fun j => by
  rw [Qi, Qi]; split <;> rfl
 have hids : ∀ j, j ∈ Box.ids ⟨rows', bA.esz, bA.et, false⟩ -> (lk ((kA, (⟨rows', bA.esz, bA.et, pr'⟩ : Box)) :: QbV lH H) j).isSome = true := fun j hj => by
  cases hc : pr'
  ·rw [hc] at hw; exact hw.2 (kA, ⟨rows', bA.esz, bA.et, false⟩) (by simp) j hj
  ·exfalso
   unfold Box.ids at hj
   simp only [Bool.false_eq_true, if_false] at hj
   obtain ⟨r, hr, hj⟩ := List.mem_flatMap.1 hj
   obtain ⟨d, hd, hj⟩ := List.mem_flatMap.1 hj
   rw [(hpr hc).2 r hr d hd] at hj; cases hj
 have h1 : St.le ⟨fr, H⟩ ⟨Q1 l fr, (kA, ⟨rows', bA.esz, bA.et, false⟩) :: QbV lH H⟩ := by
  refine QlQ kR hk (fun t d h => ⟨d, Y4 l fr t d h, QhB fun j hj => ?_⟩) (fun j b h => ?_) (fun t d h j hj => ?_) (fun j b h i hi => ?_) fun j hj hs => ?_
  ·simp only [beq_eq_false_iff_ne, ne_eq]; rintro rfl; exact c1 (t, d) (ZT h) hj
  ·rw [Qi] at h
   split at h
   ·rename_i e; cases h; subst e
    refine ⟨hne, bA, hA, ?_⟩
    unfold Box.fz; rw [if_neg (by rw [hpA]; simp)]
    rw [hfz, hpA]
   ·have := c2 (j, b) (ZT h)
    refine ⟨this.1, b, QdY lH H j b h, Xl (this.2.imp id fun h3 i hi => ?_)⟩
    simp only [beq_eq_false_iff_ne, ne_eq]; rintro rfl; exact h3 hi
  ·rw [hsome]; exact hw.1 (t, d) (ZT h) j hj
  ·rw [hsome]
   rw [Qi] at h
   split at h
   ·cases h; exact hids i hi
   ·exact hw.2 (j, b) (List.mem_cons_of_mem _ (ZT h)) i hi
  ·rw [hsome]; exact Qiz hbk j hj hs
 cases hc : pr'
 ·exact h1
 ·refine le_trans h1 (le_trans (Qgx (k := kA) (by rw [Qi, if_pos rfl]) (hpr hc).1 (hpr hc).2) (Qgy ⟨fun _ => rfl, fun j => ?_⟩))
  show lk ((kA, _) :: (kA, _) :: QbV lH H) j = lk ((kA, _) :: QbV lH H) j
  rw [Qi, Qi, Qi]
  split <;> rfl
end Go.Abs
namespace Go.Abs
open Go
theorem Z.{u} {α : Sort u} {a : α} : a = a := rfl
theorem qB : (∀ (p : Prop) [Decidable p], (decide p = true) = p) /\ (∀ (p : Prop) [Decidable p], (decide p = false) ↔ ¬ p) /\ (∀ a b : Bool, ((!a) = b) = (a = !b)) /\ (!true) = false /\ (!false) = true := ⟨fun _ _ => decide_eq_true_eq, fun _ _ => decide_eq_false_iff_not, fun a b => by simp, rfl, rfl⟩
theorem qA : (∀ (p : Prop) [Decidable p], (decide p = true) = p) /\ (∀ (p : Prop) [Decidable p], (decide p = false) ↔ ¬ p) /\ (∀ a b : Bool, ((!a) = b) = (a = !b)) /\ (!true) = false /\ (!false) = true /\ (∀ (α β : Type) (f : α -> β) (l : List α), (l.map f).length = l.length) := ⟨qB.1, qB.2.1, qB.2.2.1, rfl, rfl, fun _ _ _ _ => List.length_map _⟩
theorem qa {p : Prop} [Decidable p] : (decide p = true) = p := decide_eq_true_eq
theorem qb {p : Prop} [Decidable p] : (decide p = false) ↔ ¬ p := decide_eq_false_iff_not
theorem qc {a b : Bool} : ((!a) = b) = (a = !b) := by simp
theorem qd : (!true) = false := rfl
theorem qe : (!false) = true := rfl
section
variable {fr : List (Nat × D)}
theorem kp1 {t0 : Nat} {d0 : D} (h0 : lk fr t0 = some d0) : Q1 [t0] fr = [(t0, d0)] := Qd h0 QZ
theorem kp2 {t0 t1 : Nat} {d0 d1 : D} (h0 : lk fr t0 = some d0) (h1 : lk fr t1 = some d1) : Q1 [t0, t1] fr = [(t0, d0), (t1, d1)] := Qd h0 (Qd h1 QZ)
theorem kp3 {t0 t1 t2 : Nat} {d0 d1 d2 : D} (h0 : lk fr t0 = some d0) (h1 : lk fr t1 = some d1) (h2 : lk fr t2 = some d2) : Q1 [t0, t1, t2] fr = [(t0, d0), (t1, d1), (t2, d2)] := Qd h0 (Qd h1 (Qd h2 QZ))
theorem kp4 {t0 t1 t2 t3 : Nat} {d0 d1 d2 d3 : D} (h0 : lk fr t0 = some d0) (h1 : lk fr t1 = some d1) (h2 : lk fr t2 = some d2) (h3 : lk fr t3 = some d3) : Q1 [t0, t1, t2, t3] fr = [(t0, d0), (t1, d1), (t2, d2), (t3, d3)] := Qd h0 (Qd h1 (Qd h2 (Qd h3 QZ)))
theorem kp5 {t0 t1 t2 t3 t4 : Nat} {d0 d1 d2 d3 d4 : D} (h0 : lk fr t0 = some d0) (h1 : lk fr t1 = some d1) (h2 : lk fr t2 = some d2) (h3 : lk fr t3 = some d3) (h4 : lk fr t4 = some d4) : Q1 [t0, t1, t2, t3, t4] fr = [(t0, d0), (t1, d1), (t2, d2), (t3, d3), (t4, d4)] := Qd h0 (Qd h1 (Qd h2 (Qd h3 (Qd h4 QZ))))
theorem kp6 {t0 t1 t2 t3 t4 t5 : Nat} {d0 d1 d2 d3 d4 d5 : D} (h0 : lk fr t0 = some d0) (h1 : lk fr t1 = some d1) (h2 : lk fr t2 = some d2) (h3 : lk fr t3 = some d3) (h4 : lk fr t4 = some d4) (h5 : lk fr t5 = some d5) : Q1 [t0, t1, t2, t3, t4, t5] fr = [(t0, d0), (t1, d1), (t2, d2), (t3, d3), (t4, d4), (t5, d5)] := Qd h0 (Qd h1 (Qd h2 (Qd h3 (Qd h4 (Qd h5 QZ)))))
theorem kp7 {t0 t1 t2 t3 t4 t5 t6 : Nat} {d0 d1 d2 d3 d4 d5 d6 : D} (h0 : lk fr t0 = some d0) (h1 : lk fr t1 = some d1) (h2 : lk fr t2 = some d2) (h3 : lk fr t3 = some d3) (h4 : lk fr t4 = some d4) (h5 : lk fr t5 = some d5) (h6 : lk fr t6 = some d6) : Q1 [t0, t1, t2, t3, t4, t5, t6] fr = [(t0, d0), (t1, d1), (t2, d2), (t3, d3), (t4, d4), (t5, d5), (t6, d6)] := Qd h0 (Qd h1 (Qd h2 (Qd h3 (Qd h4 (Qd h5 (Qd h6 QZ))))))
theorem kp8 {t0 t1 t2 t3 t4 t5 t6 t7 : Nat} {d0 d1 d2 d3 d4 d5 d6 d7 : D} (h0 : lk fr t0 = some d0) (h1 : lk fr t1 = some d1) (h2 : lk fr t2 = some d2) (h3 : lk fr t3 = some d3) (h4 : lk fr t4 = some d4) (h5 : lk fr t5 = some d5) (h6 : lk fr t6 = some d6) (h7 : lk fr t7 = some d7) : Q1 [t0, t1, t2, t3, t4, t5, t6, t7] fr = [(t0, d0), (t1, d1), (t2, d2), (t3, d3), (t4, d4), (t5, d5), (t6, d6), (t7, d7)] := Qd h0 (Qd h1 (Qd h2 (Qd h3 (Qd h4 (Qd h5 (Qd h6 (Qd h7 QZ)))))))
theorem kp9 {t0 t1 t2 t3 t4 t5 t6 t7 t8 : Nat} {d0 d1 d2 d3 d4 d5 d6 d7 d8 : D} (h0 : lk fr t0 = some d0) (h1 : lk fr t1 = some d1) (h2 : lk fr t2 = some d2) (h3 : lk fr t3 = some d3) (h4 : lk fr t4 = some d4) (h5 : lk fr t5 = some d5) (h6 : lk fr t6 = some d6) (h7 : lk fr t7 = some d7) (h8 : lk fr t8 = some d8) : Q1 [t0, t1, t2, t3, t4, t5, t6, t7, t8] fr = [(t0, d0), (t1, d1), (t2, d2), (t3, d3), (t4, d4), (t5, d5), (t6, d6), (t7, d7), (t8, d8)] := Qd h0 (Qd h1 (Qd h2 (Qd h3 (Qd h4 (Qd h5 (Qd h6 (Qd h7 (Qd h8 QZ))))))))
theorem QlM {t0 t1 t2 t3 t4 t5 t6 t7 t8 t9 : Nat} {d0 d1 d2 d3 d4 d5 d6 d7 d8 d9 : D} (h0 : lk fr t0 = some d0) (h1 : lk fr t1 = some d1) (h2 : lk fr t2 = some d2) (h3 : lk fr t3 = some d3) (h4 : lk fr t4 = some d4) (h5 : lk fr t5 = some d5) (h6 : lk fr t6 = some d6) (h7 : lk fr t7 = some d7) (h8 : lk fr t8 = some d8) (h9 : lk fr t9 = some d9) : Q1 [t0, t1, t2, t3, t4, t5, t6, t7, t8, t9] fr = [(t0, d0), (t1, d1), (t2, d2), (t3, d3), (t4, d4), (t5, d5), (t6, d6), (t7, d7), (t8, d8), (t9, d9)] := Qd h0 (Qd h1 (Qd h2 (Qd h3 (Qd h4 (Qd h5 (Qd h6 (Qd h7 (Qd h8 (Qd h9 QZ)))))))))
theorem QqY {t0 t1 t2 t3 t4 t5 t6 t7 t8 t9 t10 : Nat} {d0 d1 d2 d3 d4 d5 d6 d7 d8 d9 d10 : D} (h0 : lk fr t0 = some d0) (h1 : lk fr t1 = some d1) (h2 : lk fr t2 = some d2) (h3 : lk fr t3 = some d3) (h4 : lk fr t4 = some d4) (h5 : lk fr t5 = some d5) (h6 : lk fr t6 = some d6) (h7 : lk fr t7 = some d7) (h8 : lk fr t8 = some d8) (h9 : lk fr t9 = some d9) (h10 : lk fr t10 = some d10) : Q1 [t0, t1, t2, t3, t4, t5, t6, t7, t8, t9, t10] fr = [(t0, d0), (t1, d1), (t2, d2), (t3, d3), (t4, d4), (t5, d5), (t6, d6), (t7, d7), (t8, d8), (t9, d9), (t10, d10)] := Qd h0 (Qd h1 (Qd h2 (Qd h3 (Qd h4 (Qd h5 (Qd h6 (Qd h7 (Qd h8 (Qd h9 (Qd h10 QZ))))))))))
theorem QpM {t0 t1 t2 t3 t4 t5 t6 t7 t8 t9 t10 t11 : Nat} {d0 d1 d2 d3 d4 d5 d6 d7 d8 d9 d10 d11 : D} (h0 : lk fr t0 = some d0) (h1 : lk fr t1 = some d1) (h2 : lk fr t2 = some d2) (h3 : lk fr t3 = some d3) (h4 : lk fr t4 = some d4) (h5 : lk fr t5 = some d5) (h6 : lk fr t6 = some d6) (h7 : lk fr t7 = some d7) (h8 : lk fr t8 = some d8) (h9 : lk fr t9 = some d9) (h10 : lk fr t10 = some d10) (h11 : lk fr t11 = some d11) : Q1 [t0, t1, t2, t3, t4, t5, t6, t7, t8, t9, t10, t11] fr = [(t0, d0), (t1, d1), (t2, d2), (t3, d3), (t4, d4), (t5, d5), (t6, d6), (t7, d7), (t8, d8), (t9, d9), (t10, d10), (t11, d11)] := Qd h0 (Qd h1 (Qd h2 (Qd h3 (Qd h4 (Qd h5 (Qd h6 (Qd h7 (Qd h8 (Qd h9 (Qd h10 (Qd h11 QZ)))))))))))
theorem QqE {t0 t1 t2 t3 t4 t5 t6 t7 t8 t9 t10 t11 t12 : Nat} {d0 d1 d2 d3 d4 d5 d6 d7 d8 d9 d10 d11 d12 : D} (h0 : lk fr t0 = some d0) (h1 : lk fr t1 = some d1) (h2 : lk fr t2 = some d2) (h3 : lk fr t3 = some d3) (h4 : lk fr t4 = some d4) (h5 : lk fr t5 = some d5) (h6 : lk fr t6 = some d6) (h7 : lk fr t7 = some d7) (h8 : lk fr t8 = some d8) (h9 : lk fr t9 = some d9) (h10 : lk fr t10 = some d10) (h11 : lk fr t11 = some d11) (h12 : lk fr t12 = some d12) : Q1 [t0, t1, t2, t3, t4, t5, t6, t7, t8, t9, t10, t11, t12] fr = [(t0, d0), (t1, d1), (t2, d2), (t3, d3), (t4, d4), (t5, d5), (t6, d6), (t7, d7), (t8, d8), (t9, d9), (t10, d10), (t11, d11), (t12, d12)] := Qd h0 (Qd h1 (Qd h2 (Qd h3 (Qd h4 (Qd h5 (Qd h6 (Qd h7 (Qd h8 (Qd h9 (Qd h10 (Qd h11 (Qd h12 QZ))))))))))))
theorem kp14 {t0 t1 t2 t3 t4 t5 t6 t7 t8 t9 t10 t11 t12 t13 : Nat} {d0 d1 d2 d3 d4 d5 d6 d7 d8 d9 d10 d11 d12 d13 : D} (h0 : lk fr t0 = some d0) (h1 : lk fr t1 = some d1) (h2 : lk fr t2 = some d2) (h3 : lk fr t3 = some d3) (h4 : lk fr t4 = some d4) (h5 : lk fr t5 = some d5) (h6 : lk fr t6 = some d6) (h7 : lk fr t7 = some d7) (h8 : lk fr t8 = some d8) (h9 : lk fr t9 = some d9) (h10 : lk fr t10 = some d10) (h11 : lk fr t11 = some d11) (h12 : lk fr t12 = some d12) (h13 : lk fr t13 = some d13) : Q1 [t0, t1, t2, t3, t4, t5, t6, t7, t8, t9, t10, t11, t12, t13] fr = [(t0, d0), (t1, d1), (t2, d2), (t3, d3), (t4, d4), (t5, d5), (t6, d6), (t7, d7), (t8, d8), (t9, d9), (t10, d10), (t11, d11), (t12, d12), (t13, d13)] := Qd h0 (Qd h1 (Qd h2 (Qd h3 (Qd h4 (Qd h5 (Qd h6 (Qd h7 (Qd h8 (Qd h9 (Qd h10 (Qd h11 (Qd h12 (Qd h13 QZ)))))))))))))
theorem kp15 {t0 t1 t2 t3 t4 t5 t6 t7 t8 t9 t10 t11 t12 t13 t14 : Nat} {d0 d1 d2 d3 d4 d5 d6 d7 d8 d9 d10 d11 d12 d13 d14 : D} (h0 : lk fr t0 = some d0) (h1 : lk fr t1 = some d1) (h2 : lk fr t2 = some d2) (h3 : lk fr t3 = some d3) (h4 : lk fr t4 = some d4) (h5 : lk fr t5 = some d5) (h6 : lk fr t6 = some d6) (h7 : lk fr t7 = some d7) (h8 : lk fr t8 = some d8) (h9 : lk fr t9 = some d9) (h10 : lk fr t10 = some d10) (h11 : lk fr t11 = some d11) (h12 : lk fr t12 = some d12) (h13 : lk fr t13 = some d13) (h14 : lk fr t14 = some d14) : Q1 [t0, t1, t2, t3, t4, t5, t6, t7, t8, t9, t10, t11, t12, t13, t14] fr = [(t0, d0), (t1, d1), (t2, d2), (t3, d3), (t4, d4), (t5, d5), (t6, d6), (t7, d7), (t8, d8), (t9, d9), (t10, d10), (t11, d11), (t12, d12), (t13, d13), (t14, d14)] := Qd h0 (Qd h1 (Qd h2 (Qd h3 (Qd h4 (Qd h5 (Qd h6 (Qd h7 (Qd h8 (Qd h9 (Qd h10 (Qd h11 (Qd h12 (Qd h13 (Qd h14 QZ))))))))))))))
theorem kp16 {t0 t1 t2 t3 t4 t5 t6 t7 t8 t9 t10 t11 t12 t13 t14 t15 : Nat} {d0 d1 d2 d3 d4 d5 d6 d7 d8 d9 d10 d11 d12 d13 d14 d15 : D} (h0 : lk fr t0 = some d0) (h1 : lk fr t1 = some d1) (h2 : lk fr t2 = some d2) (h3 : lk fr t3 = some d3) (h4 : lk fr t4 = some d4) (h5 : lk fr t5 = some d5) (h6 : lk fr t6 = some d6) (h7 : lk fr t7 = some d7) (h8 : lk fr t8 = some d8) (h9 : lk fr t9 = some d9) (h10 : lk fr t10 = some d10) (h11 : lk fr t11 = some d11) (h12 : lk fr t12 = some d12) (h13 : lk fr t13 = some d13) (h14 : lk fr t14 = some d14) (h15 : lk fr t15 = some d15) : Q1 [t0, t1, t2, t3, t4, t5, t6, t7, t8, t9, t10, t11, t12, t13, t14, t15] fr = [(t0, d0), (t1, d1), (t2, d2), (t3, d3), (t4, d4), (t5, d5), (t6, d6), (t7, d7), (t8, d8), (t9, d9), (t10, d10), (t11, d11), (t12, d12), (t13, d13), (t14, d14), (t15, d15)] := Qd h0 (Qd h1 (Qd h2 (Qd h3 (Qd h4 (Qd h5 (Qd h6 (Qd h7 (Qd h8 (Qd h9 (Qd h10 (Qd h11 (Qd h12 (Qd h13 (Qd h14 (Qd h15 QZ)))))))))))))))
theorem kp17 {t0 t1 t2 t3 t4 t5 t6 t7 t8 t9 t10 t11 t12 t13 t14 t15 t16 : Nat} {d0 d1 d2 d3 d4 d5 d6 d7 d8 d9 d10 d11 d12 d13 d14 d15 d16 : D} (h0 : lk fr t0 = some d0) (h1 : lk fr t1 = some d1) (h2 : lk fr t2 = some d2) (h3 : lk fr t3 = some d3) (h4 : lk fr t4 = some d4) (h5 : lk fr t5 = some d5) (h6 : lk fr t6 = some d6) (h7 : lk fr t7 = some d7) (h8 : lk fr t8 = some d8) (h9 : lk fr t9 = some d9) (h10 : lk fr t10 = some d10) (h11 : lk fr t11 = some d11) (h12 : lk fr t12 = some d12) (h13 : lk fr t13 = some d13) (h14 : lk fr t14 = some d14) (h15 : lk fr t15 = some d15) (h16 : lk fr t16 = some d16) : Q1 [t0, t1, t2, t3, t4, t5, t6, t7, t8, t9, t10, t11, t12, t13, t14, t15, t16] fr = [(t0, d0), (t1, d1), (t2, d2), (t3, d3), (t4, d4), (t5, d5), (t6, d6), (t7, d7), (t8, d8), (t9, d9), (t10, d10), (t11, d11), (t12, d12), (t13, d13), (t14, d14), (t15, d15), (t16, d16)] := Qd h0 (Qd h1 (Qd h2 (Qd h3 (Qd h4 (Qd h5 (Qd h6 (Qd h7 (Qd h8 (Qd h9 (Qd h10 (Qd h11 (Qd h12 (Qd h13 (Qd h14 (Qd h15 (Qd h16 QZ))))))))))))))))
theorem kp18 {t0 t1 t2 t3 t4 t5 t6 t7 t8 t9 t10 t11 t12 t13 t14 t15 t16 t17 : Nat} {d0 d1 d2 d3 d4 d5 d6 d7 d8 d9 d10 d11 d12 d13 d14 d15 d16 d17 : D} (h0 : lk fr t0 = some d0) (h1 : lk fr t1 = some d1) (h2 : lk fr t2 = some d2) (h3 : lk fr t3 = some d3) (h4 : lk fr t4 = some d4) (h5 : lk fr t5 = some d5) (h6 : lk fr t6 = some d6) (h7 : lk fr t7 = some d7) (h8 : lk fr t8 = some d8) (h9 : lk fr t9 = some d9) (h10 : lk fr t10 = some d10) (h11 : lk fr t11 = some d11) (h12 : lk fr t12 = some d12) (h13 : lk fr t13 = some d13) (h14 : lk fr t14 = some d14) (h15 : lk fr t15 = some d15) (h16 : lk fr t16 = some d16) (h17 : lk fr t17 = some d17) : Q1 [t0, t1, t2, t3, t4, t5, t6, t7, t8, t9, t10, t11, t12, t13, t14, t15, t16, t17] fr = [(t0, d0), (t1, d1), (t2, d2), (t3, d3), (t4, d4), (t5, d5), (t6, d6), (t7, d7), (t8, d8), (t9, d9), (t10, d10), (t11, d11), (t12, d12), (t13, d13), (t14, d14), (t15, d15), (t16, d16), (t17, d17)] := Qd h0 (Qd h1 (Qd h2 (Qd h3 (Qd h4 (Qd h5 (Qd h6 (Qd h7 (Qd h8 (Qd h9 (Qd h10 (Qd h11 (Qd h12 (Qd h13 (Qd h14 (Qd h15 (Qd h16 (Qd h17 QZ)))))))))))))))))
theorem kp19 {t0 t1 t2 t3 t4 t5 t6 t7 t8 t9 t10 t11 t12 t13 t14 t15 t16 t17 t18 : Nat} {d0 d1 d2 d3 d4 d5 d6 d7 d8 d9 d10 d11 d12 d13 d14 d15 d16 d17 d18 : D} (h0 : lk fr t0 = some d0) (h1 : lk fr t1 = some d1) (h2 : lk fr t2 = some d2) (h3 : lk fr t3 = some d3) (h4 : lk fr t4 = some d4) (h5 : lk fr t5 = some d5) (h6 : lk fr t6 = some d6) (h7 : lk fr t7 = some d7) (h8 : lk fr t8 = some d8) (h9 : lk fr t9 = some d9) (h10 : lk fr t10 = some d10) (h11 : lk fr t11 = some d11) (h12 : lk fr t12 = some d12) (h13 : lk fr t13 = some d13) (h14 : lk fr t14 = some d14) (h15 : lk fr t15 = some d15) (h16 : lk fr t16 = some d16) (h17 : lk fr t17 = some d17) (h18 : lk fr t18 = some d18) : Q1 [t0, t1, t2, t3, t4, t5, t6, t7, t8, t9, t10, t11, t12, t13, t14, t15, t16, t17, t18] fr = [(t0, d0), (t1, d1), (t2, d2), (t3, d3), (t4, d4), (t5, d5), (t6, d6), (t7, d7), (t8, d8), (t9, d9), (t10, d10), (t11, d11), (t12, d12), (t13, d13), (t14, d14), (t15, d15), (t16, d16), (t17, d17), (t18, d18)] := Qd h0 (Qd h1 (Qd h2 (Qd h3 (Qd h4 (Qd h5 (Qd h6 (Qd h7 (Qd h8 (Qd h9 (Qd h10 (Qd h11 (Qd h12 (Qd h13 (Qd h14 (Qd h15 (Qd h16 (Qd h17 (Qd h18 QZ))))))))))))))))))
theorem kp20 {t0 t1 t2 t3 t4 t5 t6 t7 t8 t9 t10 t11 t12 t13 t14 t15 t16 t17 t18 t19 : Nat} {d0 d1 d2 d3 d4 d5 d6 d7 d8 d9 d10 d11 d12 d13 d14 d15 d16 d17 d18 d19 : D} (h0 : lk fr t0 = some d0) (h1 : lk fr t1 = some d1) (h2 : lk fr t2 = some d2) (h3 : lk fr t3 = some d3) (h4 : lk fr t4 = some d4) (h5 : lk fr t5 = some d5) (h6 : lk fr t6 = some d6) (h7 : lk fr t7 = some d7) (h8 : lk fr t8 = some d8) (h9 : lk fr t9 = some d9) (h10 : lk fr t10 = some d10) (h11 : lk fr t11 = some d11) (h12 : lk fr t12 = some d12) (h13 : lk fr t13 = some d13) (h14 : lk fr t14 = some d14) (h15 : lk fr t15 = some d15) (h16 : lk fr t16 = some d16) (h17 : lk fr t17 = some d17) (h18 : lk fr t18 = some d18) (h19 : lk fr t19 = some d19) : Q1 [t0, t1, t2, t3, t4, t5, t6, t7, t8, t9, t10, t11, t12, t13, t14, t15, t16, t17, t18, t19] fr = [(t0, d0), (t1, d1), (t2, d2), (t3, d3), (t4, d4), (t5, d5), (t6, d6), (t7, d7), (t8, d8), (t9, d9), (t10, d10), (t11, d11), (t12, d12), (t13, d13), (t14, d14), (t15, d15), (t16, d16), (t17, d17), (t18, d18), (t19, d19)] := Qd h0 (Qd h1 (Qd h2 (Qd h3 (Qd h4 (Qd h5 (Qd h6 (Qd h7 (Qd h8 (Qd h9 (Qd h10 (Qd h11 (Qd h12 (Qd h13 (Qd h14 (Qd h15 (Qd h16 (Qd h17 (Qd h18 (Qd h19 QZ)))))))))))))))))))
theorem kp21 {t0 t1 t2 t3 t4 t5 t6 t7 t8 t9 t10 t11 t12 t13 t14 t15 t16 t17 t18 t19 t20 : Nat} {d0 d1 d2 d3 d4 d5 d6 d7 d8 d9 d10 d11 d12 d13 d14 d15 d16 d17 d18 d19 d20 : D} (h0 : lk fr t0 = some d0) (h1 : lk fr t1 = some d1) (h2 : lk fr t2 = some d2) (h3 : lk fr t3 = some d3) (h4 : lk fr t4 = some d4) (h5 : lk fr t5 = some d5) (h6 : lk fr t6 = some d6) (h7 : lk fr t7 = some d7) (h8 : lk fr t8 = some d8) (h9 : lk fr t9 = some d9) (h10 : lk fr t10 = some d10) (h11 : lk fr t11 = some d11) (h12 : lk fr t12 = some d12) (h13 : lk fr t13 = some d13) (h14 : lk fr t14 = some d14) (h15 : lk fr t15 = some d15) (h16 : lk fr t16 = some d16) (h17 : lk fr t17 = some d17) (h18 : lk fr t18 = some d18) (h19 : lk fr t19 = some d19) (h20 : lk fr t20 = some d20) : Q1 [t0, t1, t2, t3, t4, t5, t6, t7, t8, t9, t10, t11, t12, t13, t14, t15, t16, t17, t18, t19, t20] fr = [(t0, d0), (t1, d1), (t2, d2), (t3, d3), (t4, d4), (t5, d5), (t6, d6), (t7, d7), (t8, d8), (t9, d9), (t10, d10), (t11, d11), (t12, d12), (t13, d13), (t14, d14), (t15, d15), (t16, d16), (t17, d17), (t18, d18), (t19, d19), (t20, d20)] := Qd h0 (Qd h1 (Qd h2 (Qd h3 (Qd h4 (Qd h5 (Qd h6 (Qd h7 (Qd h8 (Qd h9 (Qd h10 (Qd h11 (Qd h12 (Qd h13 (Qd h14 (Qd h15 (Qd h16 (Qd h17 (Qd h18 (Qd h19 (Qd h20 QZ))))))))))))))))))))
theorem kp22 {t0 t1 t2 t3 t4 t5 t6 t7 t8 t9 t10 t11 t12 t13 t14 t15 t16 t17 t18 t19 t20 t21 : Nat} {d0 d1 d2 d3 d4 d5 d6 d7 d8 d9 d10 d11 d12 d13 d14 d15 d16 d17 d18 d19 d20 d21 : D} (h0 : lk fr t0 = some d0) (h1 : lk fr t1 = some d1) (h2 : lk fr t2 = some d2) (h3 : lk fr t3 = some d3) (h4 : lk fr t4 = some d4) (h5 : lk fr t5 = some d5) (h6 : lk fr t6 = some d6) (h7 : lk fr t7 = some d7) (h8 : lk fr t8 = some d8) (h9 : lk fr t9 = some d9) (h10 : lk fr t10 = some d10) (h11 : lk fr t11 = some d11) (h12 : lk fr t12 = some d12) (h13 : lk fr t13 = some d13) (h14 : lk fr t14 = some d14) (h15 : lk fr t15 = some d15) (h16 : lk fr t16 = some d16) (h17 : lk fr t17 = some d17) (h18 : lk fr t18 = some d18) (h19 : lk fr t19 = some d19) (h20 : lk fr t20 = some d20) (h21 : lk fr t21 = some d21) : Q1 [t0, t1, t2, t3, t4, t5, t6, t7, t8, t9, t10, t11, t12, t13, t14, t15, t16, t17, t18, t19, t20, t21] fr = [(t0, d0), (t1, d1), (t2, d2), (t3, d3), (t4, d4), (t5, d5), (t6, d6), (t7, d7), (t8, d8), (t9, d9), (t10, d10), (t11, d11), (t12, d12), (t13, d13), (t14, d14), (t15, d15), (t16, d16), (t17, d17), (t18, d18), (t19, d19), (t20, d20), (t21, d21)] := Qd h0 (Qd h1 (Qd h2 (Qd h3 (Qd h4 (Qd h5 (Qd h6 (Qd h7 (Qd h8 (Qd h9 (Qd h10 (Qd h11 (Qd h12 (Qd h13 (Qd h14 (Qd h15 (Qd h16 (Qd h17 (Qd h18 (Qd h19 (Qd h20 (Qd h21 QZ)))))))))))))))))))))
theorem kp23 {t0 t1 t2 t3 t4 t5 t6 t7 t8 t9 t10 t11 t12 t13 t14 t15 t16 t17 t18 t19 t20 t21 t22 : Nat} {d0 d1 d2 d3 d4 d5 d6 d7 d8 d9 d10 d11 d12 d13 d14 d15 d16 d17 d18 d19 d20 d21 d22 : D} (h0 : lk fr t0 = some d0) (h1 : lk fr t1 = some d1) (h2 : lk fr t2 = some d2) (h3 : lk fr t3 = some d3) (h4 : lk fr t4 = some d4) (h5 : lk fr t5 = some d5) (h6 : lk fr t6 = some d6) (h7 : lk fr t7 = some d7) (h8 : lk fr t8 = some d8) (h9 : lk fr t9 = some d9) (h10 : lk fr t10 = some d10) (h11 : lk fr t11 = some d11) (h12 : lk fr t12 = some d12) (h13 : lk fr t13 = some d13) (h14 : lk fr t14 = some d14) (h15 : lk fr t15 = some d15) (h16 : lk fr t16 = some d16) (h17 : lk fr t17 = some d17) (h18 : lk fr t18 = some d18) (h19 : lk fr t19 = some d19) (h20 : lk fr t20 = some d20) (h21 : lk fr t21 = some d21) (h22 : lk fr t22 = some d22) : Q1 [t0, t1, t2, t3, t4, t5, t6, t7, t8, t9, t10, t11, t12, t13, t14, t15, t16, t17, t18, t19, t20, t21, t22] fr = [(t0, d0), (t1, d1), (t2, d2), (t3, d3), (t4, d4), (t5, d5), (t6, d6), (t7, d7), (t8, d8), (t9, d9), (t10, d10), (t11, d11), (t12, d12), (t13, d13), (t14, d14), (t15, d15), (t16, d16), (t17, d17), (t18, d18), (t19, d19), (t20, d20), (t21, d21), (t22, d22)] := Qd h0 (Qd h1 (Qd h2 (Qd h3 (Qd h4 (Qd h5 (Qd h6 (Qd h7 (Qd h8 (Qd h9 (Qd h10 (Qd h11 (Qd h12 (Qd h13 (Qd h14 (Qd h15 (Qd h16 (Qd h17 (Qd h18 (Qd h19 (Qd h20 (Qd h21 (Qd h22 QZ))))))))))))))))))))))
theorem kp24 {t0 t1 t2 t3 t4 t5 t6 t7 t8 t9 t10 t11 t12 t13 t14 t15 t16 t17 t18 t19 t20 t21 t22 t23 : Nat} {d0 d1 d2 d3 d4 d5 d6 d7 d8 d9 d10 d11 d12 d13 d14 d15 d16 d17 d18 d19 d20 d21 d22 d23 : D} (h0 : lk fr t0 = some d0) (h1 : lk fr t1 = some d1) (h2 : lk fr t2 = some d2) (h3 : lk fr t3 = some d3) (h4 : lk fr t4 = some d4) (h5 : lk fr t5 = some d5) (h6 : lk fr t6 = some d6) (h7 : lk fr t7 = some d7) (h8 : lk fr t8 = some d8) (h9 : lk fr t9 = some d9) (h10 : lk fr t10 = some d10) (h11 : lk fr t11 = some d11) (h12 : lk fr t12 = some d12) (h13 : lk fr t13 = some d13) (h14 : lk fr t14 = some d14) (h15 : lk fr t15 = some d15) (h16 : lk fr t16 = some d16) (h17 : lk fr t17 = some d17) (h18 : lk fr t18 = some d18) (h19 : lk fr t19 = some d19) (h20 : lk fr t20 = some d20) (h21 : lk fr t21 = some d21) (h22 : lk fr t22 = some d22) (h23 : lk fr t23 = some d23) : Q1 [t0, t1, t2, t3, t4, t5, t6, t7, t8, t9, t10, t11, t12, t13, t14, t15, t16, t17, t18, t19, t20, t21, t22, t23] fr = [(t0, d0), (t1, d1), (t2, d2), (t3, d3), (t4, d4), (t5, d5), (t6, d6), (t7, d7), (t8, d8), (t9, d9), (t10, d10), (t11, d11), (t12, d12), (t13, d13), (t14, d14), (t15, d15), (t16, d16), (t17, d17), (t18, d18), (t19, d19), (t20, d20), (t21, d21), (t22, d22), (t23, d23)] := Qd h0 (Qd h1 (Qd h2 (Qd h3 (Qd h4 (Qd h5 (Qd h6 (Qd h7 (Qd h8 (Qd h9 (Qd h10 (Qd h11 (Qd h12 (Qd h13 (Qd h14 (Qd h15 (Qd h16 (Qd h17 (Qd h18 (Qd h19 (Qd h20 (Qd h21 (Qd h22 (Qd h23 QZ)))))))))))))))))))))))
end
end Go.Abs
namespace Go.Proofs
open Go Go.Abs
set_option maxRecDepth 100000
abbrev oo (t : Nat) (op : AOp) : AOper := ⟨some t,op,none⟩
abbrev om (t x : Nat) : AOper := ⟨some t,.mov (.s x),none⟩
abbrev oL (t n x : Nat) : AOper := ⟨some t,.load true n (.s x),none⟩
abbrev ol (t n x : Nat) : AOper := ⟨some t,.load false n (.s x),none⟩
abbrev oA (t n x : Nat) : AOper := ⟨some t,.fieldAddr n (.s x),none⟩
abbrev oe (t n x : Nat) : AOper := ⟨some t,.extract n (.s x),none⟩
abbrev oT (t g : Nat) (op : AOp) : AOper := ⟨some t,op,some (g,true)⟩
abbrev oF (t g : Nat) (op : AOp) : AOper := ⟨some t,op,some (g,false)⟩
def tf4 : TFn := ⟨121,[.tmp 4],.seq (.region false [oo 4 (.mov (.c (.bool false)))]) [0,1] (.seq (.seq (.region false [om 15 1,oo 16 (.len (.s 15)),oo 17 (.bin .gtr false (.s 16) (.c (.int .i64 40)))]) [0,1,17] (.cond (.s 17) (.seq (.region false [oo 18 (.call 5 []),om 4 18]) [4] (.ret)) (
 .skip))) [0,1] (.seq (.region false [om 19 0,oo 20 (.call 6 [(.s 19),(.c (.int .i64 4))]),oo 5 (.alloc 27 [(.fsl [])]),⟨none,.store 1 (.s 5) (.s 20),none⟩]) [1,5] (.seq (.region false [oo 6 (.mov (.c (.fsl [])))]) [1,5,6] (.seq (.seq (.region false [oo 7 (.mov (.c (.int .i64 0)))]) [1,5,6,7] (
 .block 0 (.loop (.seq (.seq (.region false [om 21 7,oA 22 0 5,ol 23 1 22,oo 24 (.len (.s 23)),oo 25 (.bin .lss false (.s 21) (.s 24))]) [1,5,6,7,25] (.cond (.s 25) (.skip) (.exit 0))) [1,5,6,7] (.seq (.block 1 (.seq (.region true [om 28 1,om 29 7,oo 30 (.call 13 [(.s 28),(.s 29)]),oA 31 0 5,
 ol 32 1 31,om 33 7,oo 34 (.indexAddr 3 (.s 32) (.s 33)),oA 35 2 34,ol 36 1 35,oo 37 (.len (.s 36)),oo 38 (.bin .add false (.s 37) (.c (.int .i64 1))),oo 39 (.call 12 [(.s 30),(.s 38)]),oo 40 (.bin .sub false (.s 39) (.c (.int .i64 1))),om 8 40]) [1,5,6,7,8] (.seq (.region false [oL 42 1 5,om 43 6,
 om 44 7,om 45 8,oo 46 (.call 14 [(.s 42),(.s 43),(.s 44),(.s 45)]),om 41 46,oe 47 0 41,oe 48 1 41,om 9 47,om 10 48]) [1,5,6,7,8,9,10] (.seq (.seq (.region false [om 49 10,om 50 8,oo 51 (.bin .geq false (.s 50) (.c (.int .i64 0))),oo 52 (.bin .neq true (.s 49) (.s 51))]) [1,5,6,7,8,9,10,52] (
 .cond (.s 52) (.seq (.region false [oo 4 (.mov (.c (.bool false)))]) [4] (.ret)) (.skip))) [1,5,6,7,8,9,10] (.seq (.seq (.region false [om 53 10,oo 54 (.un .not (.s 53))]) [1,5,6,7,8,9,54] (.cond (.s 54) (.exit 1) (.skip))) [1,5,7,8,9] (.seq (.seq (.region false [oL 56 1 5,om 57 9,om 58 7,om 59 8,
 oo 60 (.call 14 [(.s 56),(.s 57),(.s 58),(.s 59)]),om 55 60,oe 61 0 55,oe 62 1 55,om 11 61,om 12 62]) [1,5,7,9,12] (.seq (.region false [om 63 12]) [1,5,7,9,63] (.cond (.s 63) (.seq (.region false [oo 4 (.mov (.c (.bool false)))]) [4] (.ret)) (.skip)))) [1,5,7,9] (.region false [om 64 9,
 om 6 64]))))))) [1,5,6,7] (.region false [om 26 7,oo 27 (.bin .add false (.s 26) (.c (.int .i64 1))),om 7 27])))))) [5,6] (.seq (.region false [oL 65 1 5,om 66 6,oo 67 (.call 15 [(.s 65),(.s 66)]),om 13 67]) [5,6,13] (.seq (.seq (.region false [oo 14 (.mov (.c (.int .i64 0)))]) [5,6,13,14] (
 .block 2 (.loop (.seq (.seq (.region false [om 68 14,om 69 13,oo 70 (.len (.s 69)),oo 71 (.bin .lss false (.s 68) (.s 70))]) [5,6,13,14,71] (.cond (.s 71) (.skip) (.exit 2))) [5,6,13,14] (.seq (.block 3 (.seq (.region true [om 74 13,om 75 14,oo 76 (.indexAddr 1 (.s 74) (.s 75)),ol 77 1 76,
 oo 78 (.bin .geq false (.s 77) (.c (.int .i64 0))),om 79 78,oT 80 79 (.load true 1 (.s 5)),oT 81 79 (.mov (.s 6)),oT 82 79 (.mov (.s 14)),oT 83 79 (.call 16 [(.s 80),(.s 81),(.s 82)]),oT 84 79 (.load true 1 (.s 5)),oT 85 79 (.mov (.s 13)),oT 86 79 (.mov (.s 14)),
 oT 87 79 (.call 17 [(.s 84),(.s 85),(.s 86)]),oT 88 79 (.bin .neq false (.s 83) (.s 87)),oo 89 (.pick (.s 79) (.s 88) (.c (.bool false))),om 90 89,oF 91 90 (.mov (.s 13)),oF 92 90 (.mov (.s 14)),oF 93 90 (.indexAddr 1 (.s 91) (.s 92)),oF 94 90 (.load false 1 (.s 93)),
 oF 95 90 (.bin .lss false (.s 94) (.c (.int .i64 0))),oF 96 90 (.mov (.s 95)),oT 97 96 (.load true 1 (.s 5)),oT 98 96 (.mov (.s 6)),oT 99 96 (.mov (.s 14)),oT 100 96 (.call 16 [(.s 97),(.s 98),(.s 99)]),oT 101 96 (.load true 1 (.s 5)),oT 102 96 (.mov (.s 14)),
 oT 103 96 (.call 18 [(.s 101),(.s 102)]),oT 104 96 (.bin .neq false (.s 100) (.s 103)),oF 105 90 (.pick (.s 96) (.s 104) (.c (.bool false))),oo 106 (.pick (.s 90) (.c (.bool true)) (.s 105))]) [5,6,13,14,106] (.cond (.s 106) (.seq (.region false [oo 4 (.mov (.c (.bool false)))]) [4] (.ret)) (
 .skip)))) [5,6,13,14] (.region false [om 72 14,oo 73 (.bin .add false (.s 72) (.c (.int .i64 1))),om 14 73])))))) [5,6,13] (.seq (.region false [om 107 13,oo 108 (.len (.s 107)),oA 109 0 5,ol 110 1 109,oo 111 (.len (.s 110)),oo 112 (.bin .eql false (.s 108) (.s 111)),om 113 112,
 oT 114 113 (.load true 1 (.s 5)),oT 115 113 (.mov (.s 6)),oT 116 113 (.call 8 [(.s 114),(.s 115)]),oo 117 (.pick (.s 113) (.s 116) (.c (.bool false))),om 118 117,oT 119 118 (.call 5 []),oo 120 (.pick (.s 118) (.s 119) (.c (.bool false))),om 4 120]) [4] (.ret))))))))⟩
def tf5 : TFn := ⟨61,[.tmp 0],.seq (.region false [oo 0 (.mov (.c (.bool false)))]) [] (.seq (.region false [oo 6 (.call 19 []),oo 1 (.alloc 27 [(.fsl [])]),⟨none,.store 1 (.s 1) (.s 6),none⟩]) [1] (.seq (.region false [oL 8 1 1,
 oo 9 (.build [(.int .i64 0),(.int .i64 0)] [(0,1,(.c (.int .i64 1))),(1,1,(.c (.int .i64 1)))]),oo 10 (.call 20 [(.s 8),(.c (.fsl [])),(.s 9),(.c (.int .i64 4))]),om 7 10,oe 11 0 7,oe 12 1 7,om 2 11,om 3 12]) [1,2,3] (.seq (.region false [oL 14 1 1,om 15 2,
 oo 16 (.call 14 [(.s 14),(.s 15),(.c (.int .i64 1)),(.c (.int .i64 1))]),om 13 16,oe 17 0 13,oe 18 1 13,om 4 17,om 5 18]) [1,3,4,5] (.seq (.region false [om 19 3,om 20 19,oT 21 20 (.mov (.s 5)),oo 22 (.pick (.s 20) (.s 21) (.c (.bool false))),om 23 22,oT 24 23 (.mov (.s 4)),
 oT 25 23 (.len (.s 24)),oT 26 23 (.bin .eql false (.s 25) (.c (.int .i64 2))),oo 27 (.pick (.s 23) (.s 26) (.c (.bool false))),om 28 27,oT 29 28 (.mov (.s 4)),oT 30 28 (.indexAddr 4 (.s 29) (.c (.int .i64 0))),oT 31 28 (.load true 4 (.s 30)),
 oT 32 28 (.build [(.int .i64 0),(.int .i64 0),(.int .i64 0),(.int .i64 0)] [(0,1,(.c (.int .i64 1))),(1,1,(.c (.int .i64 6))),(2,1,(.c (.int .i64 0))),(3,1,(.c (.int .i64 4)))]),oT 33 28 (.eqs false [0,0,0,0] (.s 31) (.s 32)),oo 34 (.pick (.s 28) (.s 33) (.c (.bool false))),om 35 34,
 oT 36 35 (.mov (.s 4)),oT 37 35 (.indexAddr 4 (.s 36) (.c (.int .i64 1))),oT 38 35 (.load true 4 (.s 37)),oT 39 35 (.build [(.int .i64 0),(.int .i64 0),(.int .i64 0),(.int .i64 0)] [(0,1,(.c (.int .i64 1))),(1,1,(.c (.int .i64 4))),(2,1,(.c (.int .i64 1))),(3,1,(.c (.int .i64 (-1))))]),
 oT 40 35 (.eqs false [0,0,0,0] (.s 38) (.s 39)),oo 41 (.pick (.s 35) (.s 40) (.c (.bool false))),om 42 41,oT 43 42 (.load true 1 (.s 1)),oT 44 42 (.mov (.s 4)),oT 45 42 (.call 8 [(.s 43),(.s 44)]),oo 46 (.pick (.s 42) (.s 45) (.c (.bool false))),om 47 46,oT 48 47 (.load true 1 (.s 1)),
 oT 49 47 (.mov (.s 4)),oT 50 47 (.call 16 [(.s 48),(.s 49),(.c (.int .i64 1))]),oT 51 47 (.bin .eql false (.s 50) (.c (.int .i64 4))),oo 52 (.pick (.s 47) (.s 51) (.c (.bool false))),om 53 52,oT 54 53 (.load true 1 (.s 1)),oT 55 53 (.mov (.s 4)),
 oT 56 53 (.build [(.int .i64 0),(.int .i64 0)] [(0,1,(.c (.int .i64 1))),(1,1,(.c (.int .i64 4)))]),oT 57 53 (.buildSlice 2 48 [(.s 56)]),oT 58 53 (.call 21 [(.s 54),(.s 55),(.s 57)]),oT 59 53 (.bin .eql false (.s 58) (.c (.int .i64 2))),oo 60 (.pick (.s 53) (.s 59) (.c (.bool false))),
 om 0 60]) [0] (.ret)))))⟩
def tf6 : TFn := ⟨90,[.cell 4 true 1],.seq (.region false [oo 4 (.alloc 27 [(.fsl [])])]) [0,1,4] (.seq (.region false [om 10 0,oo 11 (.build [(.fsl []),(.int .i64 0)] [(0,1,(.s 10))]),oo 12 (.box 55 (.s 11)),om 5 12]) [1,4,5] (.seq (.region false [om 13 5,om 14 1,
 oo 15 (.call 22 [(.s 13),(.s 14)]),om 6 15]) [4,5,6] (.seq (.region true [om 16 6,oo 17 (.indexAddr 3 (.s 16) (.c (.int .i64 0))),oA 18 2 17,ol 19 1 18,om 20 5,om 21 6,oo 22 (.call 23 [(.s 20),(.s 21),(.c (.int .i64 3))]),oo 23 (.indexAddr 8 (.s 19) (.c (.int .i64 0))),oA 24 6 23,
 ⟨none,.store 1 (.s 24) (.s 22),none⟩]) [4,5,6] (.seq (.seq (.region false [oo 7 (.mov (.c (.int .i64 1)))]) [4,5,6,7] (.block 0 (.loop (.seq (.seq (.region false [om 25 7,om 26 6,oo 27 (.len (.s 26)),oo 28 (.bin .lss false (.s 25) (.s 27))]) [4,5,6,7,28] (.cond (.s 28) (.skip) (
 .exit 0))) [4,5,6,7] (.seq (.block 1 (.seq (.region false [oo 8 (.mov (.c (.int .i64 0)))]) [4,5,6,7,8] (.block 2 (.loop (.seq (.seq (.region false [om 31 8,om 32 6,om 33 7,oo 34 (.indexAddr 3 (.s 32) (.s 33)),oA 35 2 34,ol 36 1 35,oo 37 (.len (.s 36)),
 oo 38 (.bin .lss false (.s 31) (.s 37))]) [4,5,6,7,8,38] (.cond (.s 38) (.skip) (.exit 2))) [4,5,6,7,8] (.seq (.block 3 (.seq (.region false [om 41 6,om 42 7,oo 43 (.indexAddr 3 (.s 41) (.s 42)),oA 44 2 43,ol 45 1 44,om 46 8,oo 47 (.indexAddr 8 (.s 45) (.s 46)),om 9 47]) [4,5,6,7,8,9] (.seq (
 .seq (.region false [om 48 6,om 49 7,oo 50 (.indexAddr 3 (.s 48) (.s 49)),oA 51 1 50,ol 52 1 51,oo 53 (.bin .neq false (.s 52) (.c (.str [])))]) [4,5,6,7,8,9,53] (.cond (.s 53) (.region false [om 54 9,om 55 7,oo 56 (.bin .sub false (.s 55) (.c (.int .i64 1))),om 57 9,oo 58 (.nilCheck (.s 57)),
 oA 59 0 58,oL 60 5 59,oo 61 (.call 24 [(.s 60)]),oo 62 (.build [(.int .i64 0),(.fsl []),(.fsl [])] [(0,1,(.s 56)),(1,2,(.s 61))]),oo 63 (.buildSlice 3 70 [(.s 62)]),oo 64 (.buildSlice 1 61 [(.s 63)]),oo 65 (.nilCheck (.s 54)),oA 66 6 65,⟨none,.store 1 (.s 66) (.s 64),none⟩]) (
 .skip))) [4,5,6,7,8,9] (.seq (.region true [om 67 9,om 68 9,oo 69 (.nilCheck (.s 68)),oA 70 6 69,ol 71 1 70,om 72 5,om 73 6,oo 74 (.call 23 [(.s 72),(.s 73),(.c (.int .i64 2))]),oo 75 (.append 1 61 24 (.s 71) (.s 74)),oo 76 (.nilCheck (.s 67)),oA 77 6 76,
 ⟨none,.store 1 (.s 77) (.s 75),none⟩]) [4,5,6,7,8,9] (.seq (.region false [om 78 5,oo 79 (.call 25 [(.s 78),(.c (.int .i64 4))]),oo 80 (.bin .eql false (.s 79) (.c (.int .i64 0)))]) [4,5,6,7,8,9,80] (.cond (.s 80) (.region false [om 81 9,om 82 5,om 83 6,oo 84 (.call 26 [(.s 82),(.s 83)]),
 oo 85 (.buildSlice 3 70 [(.s 84)]),oo 86 (.nilCheck (.s 81)),oA 87 7 86,⟨none,.store 1 (.s 87) (.s 85),none⟩]) (.skip))))))) [4,5,6,7,8] (.region false [om 39 8,oo 40 (.bin .add false (.s 39) (.c (.int .i64 1))),om 8 40]))))))) [4,5,6,7] (.region false [om 29 7,
 oo 30 (.bin .add false (.s 29) (.c (.int .i64 1))),om 7 30])))))) [4,6] (.seq (.region false [om 88 6,oo 89 (.build [(.fsl [])] [(0,1,(.s 88))]),⟨none,.store 1 (.s 4) (.s 89),none⟩]) [4] (.ret))))))⟩
def tf8 : TFn := ⟨23,[.tmp 4],.seq (.region false [oo 2 (.box 27 (.s 0)),oo 4 (.mov (.c (.bool false)))]) [1,2] (.seq (.seq (.region false [om 7 1,oo 8 (.len (.s 7)),oo 9 (.mov (.c (.int .i64 0)))]) [1,2,7,8,9] (.block 0 (.loop (.seq (
 .region false [oo 10 (.bin .lss false (.s 9) (.s 8))]) [1,2,7,8,9,10] (.seq (.cond (.s 10) (.skip) (.exit 0)) [1,2,7,8,9] (.seq (.block 1 (.seq (.region false [om 11 9,oo 12 (.indexAddr 4 (.s 7) (.s 9)),oL 13 4 12,oo 6 (.alloc 50 [(.int .i64 0),(.int .i64 0),(.int .i64 0),(.int .i64 0)]),om 5 11,
 ⟨none,.store 4 (.s 6) (.s 13),none⟩]) [1,2,5,6,7,8,9] (.seq (.region true [oL 14 1 2,om 15 1,om 16 5,om 17 5,oo 18 (.slice 4 (.s 15) none (some (.s 16)) (some (.s 17))),oL 19 4 6,oo 20 (.call 29 [(.s 14),(.s 18),(.s 19)]),oo 21 (.un .not (.s 20))]) [1,2,7,8,9,21] (.cond (.s 21) (.seq (
 .region false [oo 4 (.mov (.c (.bool false)))]) [4] (.ret)) (.skip))))) [1,2,7,8,9] (.region false [oo 22 (.bin .add false (.s 9) (.c (.int .i64 1))),om 9 22]))))))) [] (.seq (.region false [oo 4 (.mov (.c (.bool true)))]) [4] (.ret)))⟩
def tf10 : TFn := ⟨13,[.tmp 2],.seq (.region false [oo 2 (.mov (.c (.int .i64 0)))]) [0] (.seq (.seq (.region false [om 3 0,oo 4 (.len (.s 3)),oo 5 (.bin .eql false (.s 4) (.c (.int .i64 0)))]) [0,5] (.cond (.s 5) (.seq (.region false [oo 2 (.mov (.c (.int .i64 0)))]) [2] (.ret)) (.skip))) [0] (
 .seq (.region false [om 6 0,om 7 0,oo 8 (.len (.s 7)),oo 9 (.bin .sub false (.s 8) (.c (.int .i64 1))),oo 10 (.indexAddr 4 (.s 6) (.s 9)),oA 11 2 10,ol 12 1 11,om 2 12]) [2] (.ret)))⟩
def tf12 : TFn := ⟨17,[.tmp 4],.seq (.region false [oo 4 (.mov (.c (.int .i64 0)))]) [0,1] (.seq (.seq (.region false [om 6 1,oo 7 (.bin .lss false (.s 6) (.c (.int .i64 1)))]) [0,1,7] (.cond (.s 7) (.seq (.region false [oo 4 (.mov (.c (.int .i64 0)))]) [4] (.ret)) (.skip))) [0,1] (.seq (
 .region false [om 8 0,om 9 1,oo 10 (.bin .rem false (.s 8) (.s 9)),om 5 10]) [1,5] (.seq (.seq (.region false [om 11 5,oo 12 (.bin .lss false (.s 11) (.c (.int .i64 0)))]) [1,5,12] (.cond (.s 12) (.seq (.region false [om 13 5,om 14 1,oo 15 (.bin .add false (.s 13) (.s 14)),om 4 15]) [4] (.ret)) (
 .skip))) [5] (.seq (.region false [om 16 5,om 4 16]) [4] (.ret)))))⟩
def tf13 : TFn := ⟨19,[.tmp 4],.seq (.region false [oo 4 (.mov (.c (.int .i64 0)))]) [0,1] (.seq (.seq (.region false [om 5 1,oo 6 (.bin .lss false (.s 5) (.c (.int .i64 0))),om 7 6,oF 8 7 (.mov (.s 1)),oF 9 7 (.mov (.s 0)),oF 10 7 (.len (.s 9)),oF 11 7 (.bin .geq false (.s 8) (.s 10)),
 oo 12 (.pick (.s 7) (.c (.bool true)) (.s 11))]) [0,1,12] (.cond (.s 12) (.seq (.region false [om 13 1,oo 14 (.bin .rem false (.s 13) (.c (.int .i64 3))),om 4 14]) [4] (.ret)) (.skip))) [0,1] (.seq (.region false [om 15 0,om 16 1,oo 17 (.indexAddr 1 (.s 15) (.s 16)),ol 18 1 17,om 4 18]) [4] (
 .ret)))⟩
def tf14 : TFn := ⟨53,[.tmp 8,.tmp 9],.seq (.region false [oo 4 (.box 27 (.s 0)),oo 8 (.mov (.c (.fsl []))),oo 9 (.mov (.c (.bool false)))]) [1,2,3,4] (.seq (.seq (.region false [oL 11 1 4,om 12 2,oo 13 (.call 31 [(.s 11),(.s 12)]),oo 14 (.bin .eql false (.s 13) (.c (.int .i64 0))),om 15 14,
 oF 16 15 (.mov (.s 3)),oF 17 15 (.bin .lss false (.s 16) (.c (.int .i64 0))),oo 18 (.pick (.s 15) (.c (.bool true)) (.s 17)),om 19 18,oF 20 19 (.mov (.s 3)),oF 21 19 (.fieldAddr 0 (.s 4)),oF 22 19 (.load false 1 (.s 21)),oF 23 19 (.mov (.s 2)),oF 24 19 (.indexAddr 3 (.s 22) (.s 23)),
 oF 25 19 (.fieldAddr 2 (.s 24)),oF 26 19 (.load false 1 (.s 25)),oF 27 19 (.len (.s 26)),oF 28 19 (.bin .geq false (.s 20) (.s 27)),oo 29 (.pick (.s 19) (.c (.bool true)) (.s 28))]) [1,2,3,4,29] (.cond (.s 29) (.seq (.region false [oo 8 (.mov (.c (.fsl []))),
 oo 9 (.mov (.c (.bool false)))]) [8,9] (.ret)) (.skip))) [1,2,3,4] (.seq (.region false [om 30 3,oo 31 (.bin .add false (.s 30) (.c (.int .i64 1))),oo 32 (.bin .shl false (.c (.int .i64 1)) (.s 31)),om 10 32]) [1,2,4,10] (.seq (.seq (.region false [oL 33 1 4,om 34 1,om 35 2,
 oo 36 (.call 32 [(.s 33),(.s 34),(.s 35)]),om 37 10,oo 38 (.bin .and false (.s 36) (.s 37)),oo 39 (.bin .eql false (.s 38) (.c (.int .i64 0))),om 40 39,oF 41 40 (.mov (.s 1)),oF 42 40 (.mov (.s 2)),oF 43 40 (.call 33 [(.s 41),(.s 42)]),
 oo 44 (.pick (.s 40) (.c (.bool true)) (.s 43))]) [1,2,10,44] (.cond (.s 44) (.seq (.region false [oo 8 (.mov (.c (.fsl []))),oo 9 (.mov (.c (.bool false)))]) [8,9] (.ret)) (.skip))) [1,2,10] (.seq (.region false [om 45 1,om 46 2,om 47 10,om 48 1,oo 49 (.call 10 [(.s 48)]),
 oo 50 (.bin .add false (.s 49) (.c (.int .i64 1))),oo 51 (.build [(.int .i64 0),(.int .i64 0),(.int .i64 0),(.int .i64 0)] [(0,1,(.s 46)),(1,1,(.s 47)),(2,1,(.s 50)),(3,1,(.c (.int .i64 (-1))))]),oo 52 (.call 34 [(.s 45),(.s 51)]),om 8 52,oo 9 (.mov (.c (.bool true)))]) [8,9] (.ret)))))⟩
def tf15 : TFn := ⟨55,[.tmp 4],.seq (.region false [oo 2 (.box 27 (.s 0)),oo 4 (.mov (.c (.fsl [])))]) [1,2,4] (.seq (.region false [oA 10 0 2,ol 11 1 10,oo 12 (.len (.s 11)),oo 13 (.makeSlice 1 3 8 [(.int .i64 0)] (.s 12) (.s 12)),oo 5 (.alloc 22 [(.fsl [])]),
 ⟨none,.store 1 (.s 5) (.s 13),none⟩]) [1,4,5] (.seq (.seq (.region false [ol 14 1 5,oo 15 (.len (.s 14)),oo 16 (.mov (.c (.int .i64 0)))]) [1,4,5,15,16] (.block 0 (.loop (.seq (.region false [oo 17 (.bin .lss false (.s 16) (.s 15))]) [1,4,5,15,16,17] (.seq (.cond (.s 17) (.skip) (
 .exit 0)) [1,4,5,15,16] (.seq (.block 1 (.seq (.region false [om 18 16,om 6 18]) [1,4,5,6,15,16] (.region false [ol 19 1 5,om 20 6,oo 21 (.indexAddr 1 (.s 19) (.s 20)),⟨none,.store 1 (.s 21) (.c (.int .i64 (-1))),none⟩]))) [1,4,5,15,16] (
 .region false [oo 22 (.bin .add false (.s 16) (.c (.int .i64 1))),om 16 22]))))))) [1,4,5] (.seq (.seq (.region false [om 23 1,oo 24 (.len (.s 23)),oo 25 (.mov (.c (.int .i64 0)))]) [4,5,23,24,25] (.block 2 (.loop (.seq (.region false [oo 26 (.bin .lss false (.s 25) (.s 24))]) [4,5,23,24,25,26] (
 .seq (.cond (.s 26) (.skip) (.exit 2)) [4,5,23,24,25] (.seq (.block 3 (.seq (.region false [oo 27 (.indexAddr 4 (.s 23) (.s 25)),oL 28 4 27,oo 8 (.alloc 50 [(.int .i64 0),(.int .i64 0),(.int .i64 0),(.int .i64 0)]),⟨none,.store 4 (.s 8) (.s 28),none⟩]) [4,5,8,23,24,25] (.seq (
 .region false [oA 29 3 8,ol 30 1 29,oo 31 (.bin .eql false (.s 30) (.c (.int .i64 (-1)))),om 32 31,oT 33 32 (.fieldAddr 0 (.s 8)),oT 34 32 (.load false 1 (.s 33)),oT 35 32 (.bin .geq false (.s 34) (.c (.int .i64 0))),oo 36 (.pick (.s 32) (.s 35) (.c (.bool false))),om 37 36,
 oT 38 37 (.fieldAddr 0 (.s 8)),oT 39 37 (.load false 1 (.s 38)),oT 40 37 (.load false 1 (.s 5)),oT 41 37 (.len (.s 40)),oT 42 37 (.bin .lss false (.s 39) (.s 41)),oo 43 (.pick (.s 37) (.s 42) (.c (.bool false)))]) [4,5,8,23,24,25,43] (.cond (.s 43) (.seq (.region false [oA 44 1 8,ol 45 1 44,
 oo 46 (.call 35 [(.s 45)])]) [4,5,8,23,24,25,46] (.block 4 (.rangeF (.s 46) 47 9 (.block 5 (.region false [ol 48 1 5,oA 49 0 8,ol 50 1 49,om 51 9,oo 52 (.indexAddr 1 (.s 48) (.s 50)),⟨none,.store 1 (.s 52) (.s 51),none⟩]))))) (.skip))))) [4,5,23,24,25] (
 .region false [oo 53 (.bin .add false (.s 25) (.c (.int .i64 1))),om 25 53]))))))) [5] (.seq (.region false [ol 54 1 5,om 4 54]) [4] (.ret)))))⟩
def tf16 : TFn := ⟨15,[.tmp 6],.seq (.region false [oo 3 (.box 27 (.s 0)),oo 6 (.mov (.c (.int .i64 0)))]) [1,2,3] (.seq (.seq (.region false [oL 7 1 3,om 8 2,oo 9 (.call 31 [(.s 7),(.s 8)]),oo 10 (.bin .eql false (.s 9) (.c (.int .i64 0)))]) [1,2,3,10] (.cond (.s 10) (.seq (
 .region false [oo 6 (.mov (.c (.int .i64 0)))]) [6] (.ret)) (.skip))) [1,2,3] (.seq (.region false [oL 11 1 3,om 12 1,om 13 2,oo 14 (.call 32 [(.s 11),(.s 12),(.s 13)]),om 6 14]) [6] (.ret)))⟩
def tf17 : TFn := ⟨48,[.tmp 6],.seq (.region false [oo 3 (.box 27 (.s 0)),oo 6 (.mov (.c (.int .i64 0)))]) [1,2,3] (.seq (.seq (.region false [om 7 2,oo 8 (.bin .lss false (.s 7) (.c (.int .i64 0))),om 9 8,oF 10 9 (.mov (.s 2)),oF 11 9 (.fieldAddr 0 (.s 3)),oF 12 9 (.load false 1 (.s 11)),
 oF 13 9 (.len (.s 12)),oF 14 9 (.bin .geq false (.s 10) (.s 13)),oo 15 (.pick (.s 9) (.c (.bool true)) (.s 14)),om 16 15,oF 17 16 (.mov (.s 2)),oF 18 16 (.mov (.s 1)),oF 19 16 (.len (.s 18)),oF 20 16 (.bin .geq false (.s 17) (.s 19)),oo 21 (.pick (.s 16) (.c (.bool true)) (.s 20))]) [1,2,3,21] (
 .cond (.s 21) (.seq (.region false [oo 6 (.mov (.c (.int .i64 0)))]) [6] (.ret)) (.skip))) [1,2,3] (.seq (.seq (.region true [om 22 1,om 23 2,oo 24 (.indexAddr 1 (.s 22) (.s 23)),ol 25 1 24,oo 26 (.bin .lss false (.s 25) (.c (.int .i64 (-1)))),om 27 26,oF 28 27 (.mov (.s 1)),
 oF 29 27 (.mov (.s 2)),oF 30 27 (.indexAddr 1 (.s 28) (.s 29)),oF 31 27 (.load false 1 (.s 30)),oF 32 27 (.fieldAddr 0 (.s 3)),oF 33 27 (.load false 1 (.s 32)),oF 34 27 (.mov (.s 2)),oF 35 27 (.indexAddr 3 (.s 33) (.s 34)),oF 36 27 (.fieldAddr 2 (.s 35)),oF 37 27 (.load false 1 (.s 36)),
 oF 38 27 (.len (.s 37)),oF 39 27 (.min (.s 38) (.c (.int .i64 16))),oF 40 27 (.bin .geq false (.s 31) (.s 39)),oo 41 (.pick (.s 27) (.c (.bool true)) (.s 40))]) [1,2,41] (.cond (.s 41) (.seq (.region false [oo 6 (.mov (.c (.int .i64 0)))]) [6] (.ret)) (.skip))) [1,2] (.seq (.region false [om 42 1,
 om 43 2,oo 44 (.indexAddr 1 (.s 42) (.s 43)),ol 45 1 44,oo 46 (.bin .add false (.s 45) (.c (.int .i64 1))),oo 47 (.call 36 [(.s 46)]),om 6 47]) [6] (.ret))))⟩
def tf18 : TFn := ⟨25,[.tmp 4],.seq (.region false [oo 2 (.box 27 (.s 0)),oo 4 (.mov (.c (.int .i64 0)))]) [1,2] (.seq (.seq (.region false [om 5 1,oo 6 (.bin .lss false (.s 5) (.c (.int .i64 0))),om 7 6,oF 8 7 (.mov (.s 1)),oF 9 7 (.fieldAddr 0 (.s 2)),oF 10 7 (.load false 1 (.s 9)),
 oF 11 7 (.len (.s 10)),oF 12 7 (.bin .geq false (.s 8) (.s 11)),oo 13 (.pick (.s 7) (.c (.bool true)) (.s 12))]) [1,2,13] (.cond (.s 13) (.seq (.region false [oo 4 (.mov (.c (.int .i64 0)))]) [4] (.ret)) (.skip))) [1,2] (.seq (.region false [oA 14 0 2,ol 15 1 14,om 16 1,
 oo 17 (.indexAddr 3 (.s 15) (.s 16)),oA 18 2 17,ol 19 1 18,oo 20 (.len (.s 19)),oo 21 (.min (.s 20) (.c (.int .i64 16))),oo 22 (.bin .add false (.s 21) (.c (.int .i64 1))),oo 23 (.call 36 [(.s 22)]),oo 24 (.bin .sub false (.s 23) (.c (.int .i64 1))),om 4 24]) [4] (.ret)))⟩
def tf19 : TFn := ⟨18,[.cell 0 true 1],.seq (.region false [oo 0 (.alloc 27 [(.fsl [])])]) [0] (.seq (.region false [oo 2 (.call 37 []),om 1 2]) [0,1] (.seq (
 .region true [oo 3 (.build [(.int .i64 0),(.int .i64 0),(.int .i64 0),(.str []),(.str []),(.int .i64 0),(.fsl []),(.fsl [])] [(5,1,(.c (.int .i64 (-1))))]),oo 4 (.buildSlice 8 63 [(.s 3)]),oo 5 (.build [(.str []),(.str []),(.fsl [])] [(2,1,(.s 4))]),om 6 1,
 oo 7 (.indexAddr 5 (.s 6) (.c (.int .i64 0))),oL 8 5 7,oo 9 (.build [(.int .i64 0),(.int .i64 0),(.int .i64 0),(.str []),(.str []),(.int .i64 0),(.fsl []),(.fsl [])] [(0,5,(.s 8))]),om 10 1,oo 11 (.indexAddr 5 (.s 10) (.c (.int .i64 1))),oL 12 5 11,
 oo 13 (.build [(.int .i64 0),(.int .i64 0),(.int .i64 0),(.str []),(.str []),(.int .i64 0),(.fsl []),(.fsl [])] [(0,5,(.s 12))]),oo 14 (.buildSlice 8 63 [(.s 9),(.s 13)]),oo 15 (.build [(.str []),(.str []),(.fsl [])] [(0,1,(.c (.str [97,110,116]))),(2,1,(.s 14))]),
 oo 16 (.buildSlice 3 37 [(.s 5),(.s 15)]),oo 17 (.build [(.fsl [])] [(0,1,(.s 16))]),⟨none,.store 1 (.s 0) (.s 17),none⟩]) [0] (.ret)))⟩
def tf20 : TFn := ⟨44,[.tmp 8,.tmp 9],.seq (.region false [oo 4 (.box 27 (.s 0)),oo 6 (.box 48 (.s 2)),oo 8 (.mov (.c (.fsl []))),oo 9 (.mov (.c (.bool false)))]) [1,3,4,6] (.seq (.region false [oL 11 1 4,om 12 1,oA 13 0 6,ol 14 1 13,oo 15 (.call 16 [(.s 11),(.s 12),(.s 14)]),
 om 10 15]) [1,3,6,10] (.seq (.seq (.region false [om 16 3,oo 17 (.bin .lss false (.s 16) (.c (.int .i64 0))),om 18 17,oF 19 18 (.mov (.s 10)),oF 20 18 (.fieldAddr 1 (.s 6)),oF 21 18 (.load false 1 (.s 20)),oF 22 18 (.bin .and false (.s 19) (.s 21)),
 oF 23 18 (.bin .eql false (.s 22) (.c (.int .i64 0))),oo 24 (.pick (.s 18) (.c (.bool true)) (.s 23)),om 25 24,oF 26 25 (.mov (.s 10)),oF 27 25 (.fieldAddr 1 (.s 6)),oF 28 25 (.load false 1 (.s 27)),oF 29 25 (.bin .andNot false (.s 26) (.s 28)),
 oF 30 25 (.bin .eql false (.s 29) (.c (.int .i64 0))),oo 31 (.pick (.s 25) (.c (.bool true)) (.s 30))]) [1,3,6,10,31] (.cond (.s 31) (.seq (.region false [oo 8 (.mov (.c (.fsl []))),oo 9 (.mov (.c (.bool false)))]) [8,9] (.ret)) (.skip))) [1,3,6,10] (.seq (.region true [om 32 1,oA 33 0 6,
 ol 34 1 33,om 35 10,oA 36 1 6,ol 37 1 36,oo 38 (.bin .andNot false (.s 35) (.s 37)),om 39 1,oo 40 (.call 10 [(.s 39)]),om 41 3,oo 42 (.build [(.int .i64 0),(.int .i64 0),(.int .i64 0),(.int .i64 0)] [(0,1,(.s 34)),(1,1,(.s 38)),(2,1,(.s 40)),(3,1,(.s 41))]),oo 43 (.call 34 [(.s 32),(.s 42)]),
 om 8 43,oo 9 (.mov (.c (.bool true)))]) [8,9] (.ret))))⟩
def tf21 : TFn := ⟨89,[.tmp 6],.seq (.region false [oo 3 (.box 27 (.s 0)),oo 6 (.mov (.c (.int .i64 0)))]) [1,2,3] (.seq (.region false [om 14 2,oo 15 (.len (.s 14)),oo 16 (.makeSlice 1 3 8 [(.int .i64 0)] (.s 15) (.s 15)),om 7 16]) [1,2,3,7] (.seq (.seq (.region false [om 17 2,
 oo 18 (.len (.s 17)),oo 19 (.mov (.c (.int .i64 0)))]) [1,2,3,7,17,18,19] (.block 0 (.loop (.seq (.region false [oo 20 (.bin .lss false (.s 19) (.s 18))]) [1,2,3,7,17,18,19,20] (.seq (.cond (.s 20) (.skip) (.exit 0)) [1,2,3,7,17,18,19] (.seq (.block 1 (.seq (.region false [om 21 19,
 oo 22 (.indexAddr 2 (.s 17) (.s 19)),oL 23 2 22,oo 9 (.alloc 48 [(.int .i64 0),(.int .i64 0)]),om 8 21,⟨none,.store 2 (.s 9) (.s 23),none⟩]) [1,2,3,7,8,9,17,18,19] (.region false [om 24 7,om 25 8,oL 26 1 3,oA 27 0 9,ol 28 1 27,oo 29 (.call 31 [(.s 26),(.s 28)]),
 oo 30 (.indexAddr 1 (.s 24) (.s 25)),⟨none,.store 1 (.s 30) (.s 29),none⟩]))) [1,2,3,7,17,18,19] (.region false [oo 31 (.bin .add false (.s 19) (.c (.int .i64 1))),om 19 31]))))))) [1,2,7] (.seq (.seq (.region false [om 32 1,oo 33 (.len (.s 32)),oo 34 (.bin .add false (.s 33) (.c (.int .i64 1))),
 oo 35 (.mov (.c (.int .i64 0)))]) [1,2,7,34,35] (.block 2 (.loop (.seq (.region false [oo 36 (.bin .lss false (.s 35) (.s 34))]) [1,2,7,34,35,36] (.seq (.cond (.s 36) (.skip) (.exit 2)) [1,2,7,34,35] (.seq (.block 3 (.seq (.region false [om 37 35,om 10 37]) [1,2,7,10,34,35] (.seq (
 .region false [oo 11 (.mov (.c (.bool true)))]) [1,2,7,10,11,34,35] (.seq (.seq (.region false [om 38 2,oo 39 (.len (.s 38)),oo 40 (.mov (.c (.int .i64 0)))]) [1,2,7,10,11,34,35,38,39,40] (.block 4 (.loop (.seq (
 .region false [oo 41 (.bin .lss false (.s 40) (.s 39))]) [1,2,7,10,11,34,35,38,39,40,41] (.seq (.cond (.s 41) (.skip) (.exit 4)) [1,2,7,10,11,34,35,38,39,40] (.seq (.block 5 (.seq (.region false [om 42 40,oo 43 (.indexAddr 2 (.s 38) (.s 40)),oL 44 2 43,
 oo 13 (.alloc 48 [(.int .i64 0),(.int .i64 0)]),om 12 42,⟨none,.store 2 (.s 13) (.s 44),none⟩]) [1,2,7,10,11,12,13,34,35,38,39,40] (.seq (.seq (.region true [om 45 10,oo 46 (.bin .gtr false (.s 45) (.c (.int .i64 0))),om 47 46,oT 48 47 (.mov (.s 1)),oT 49 47 (.mov (.s 10)),
 oT 50 47 (.bin .sub false (.s 49) (.c (.int .i64 1))),oT 51 47 (.indexAddr 4 (.s 48) (.s 50)),oT 52 47 (.fieldAddr 0 (.s 51)),oT 53 47 (.load false 1 (.s 52)),oT 54 47 (.fieldAddr 0 (.s 13)),oT 55 47 (.load false 1 (.s 54)),oT 56 47 (.bin .eql false (.s 53) (.s 55)),
 oo 57 (.pick (.s 47) (.s 56) (.c (.bool false))),om 58 57,oT 59 58 (.mov (.s 7)),oT 60 58 (.mov (.s 12)),oT 61 58 (.indexAddr 1 (.s 59) (.s 60)),oT 62 58 (.load false 1 (.s 61)),oT 63 58 (.bin .neq false (.s 62) (.c (.int .i64 0))),
 oo 64 (.pick (.s 58) (.s 63) (.c (.bool false)))]) [1,2,7,10,11,12,13,34,35,38,39,40,64] (.cond (.s 64) (.region false [om 65 7,om 66 12,om 67 1,om 68 10,oo 69 (.bin .sub false (.s 68) (.c (.int .i64 1))),oo 70 (.indexAddr 4 (.s 67) (.s 69)),oA 71 1 70,ol 72 1 71,
 oo 73 (.indexAddr 1 (.s 65) (.s 66)),⟨none,.store 1 (.s 73) (.s 72),none⟩]) (.skip))) [1,2,7,10,11,12,13,34,35,38,39,40] (.region true [om 74 11,om 75 74,oT 76 75 (.mov (.s 7)),oT 77 75 (.mov (.s 12)),oT 78 75 (.indexAddr 1 (.s 76) (.s 77)),oT 79 75 (.load false 1 (.s 78)),
 oT 80 75 (.fieldAddr 1 (.s 13)),oT 81 75 (.load false 1 (.s 80)),oT 82 75 (.call 38 [(.s 79),(.s 81)]),oT 83 75 (.bin .eql false (.s 82) (.c (.int .i64 2))),oo 84 (.pick (.s 75) (.s 83) (.c (.bool false))),om 11 84])))) [1,2,7,10,11,34,35,38,39,40] (
 .region false [oo 85 (.bin .add false (.s 40) (.c (.int .i64 1))),om 40 85]))))))) [1,2,7,10,11,34,35] (.seq (.region false [om 86 11]) [1,2,7,10,34,35,86] (.cond (.s 86) (.seq (.region false [om 87 10,om 6 87]) [6] (.ret)) (.skip))))))) [1,2,7,34,35] (
 .region false [oo 88 (.bin .add false (.s 35) (.c (.int .i64 1))),om 35 88]))))))) [] (.seq (.region false [oo 6 (.mov (.c (.int .i64 (-1))))]) [6] (.ret)))))⟩
def tf22 : TFn := ⟨100,[.tmp 4],.seq (.region false [oo 4 (.mov (.c (.fsl [])))]) [0,1] (.seq (.region false [oo 14 (.buildSlice 1 9 [(.c (.str [97,110,116])),(.c (.str [98,101,101])),(.c (.str [99,111,119])),(.c (.str [100,111,103])),(.c (.str [101,108,107]))]),om 5 14]) [0,1,5] (.seq (
 .region false [oo 15 (.build [(.int .i64 0),(.int .i64 0),(.int .i64 0),(.str []),(.str []),(.int .i64 0),(.fsl []),(.fsl [])] [(5,1,(.c (.int .i64 (-1))))]),oo 16 (.buildSlice 8 63 [(.s 15)]),oo 17 (.build [(.str []),(.str []),(.fsl [])] [(2,1,(.s 16))]),oo 18 (.buildSlice 3 37 [(.s 17)]),
 om 6 18]) [0,1,5,6] (.seq (.region false [oo 19 (.call 37 []),om 7 19]) [0,1,5,6,7] (.seq (.seq (.region false [oo 8 (.mov (.c (.int .i64 0)))]) [0,1,5,6,7,8] (.block 0 (.loop (.seq (.seq (.region false [om 20 8,om 21 0,om 22 1,oo 23 (.call 25 [(.s 21),(.s 22)]),
 oo 24 (.bin .add false (.c (.int .i64 1)) (.s 23)),oo 25 (.bin .lss false (.s 20) (.s 24)),om 26 25,oT 27 26 (.mov (.s 8)),oT 28 26 (.mov (.s 5)),oT 29 26 (.len (.s 28)),oT 30 26 (.bin .lss false (.s 27) (.s 29)),oo 31 (.pick (.s 26) (.s 30) (.c (.bool false)))]) [0,1,5,6,7,8,31] (.cond (.s 31) (
 .skip) (.exit 0))) [0,1,5,6,7,8] (.seq (.block 1 (.seq (.region false [oo 9 (.mov (.c (.fsl [])))]) [0,1,5,6,7,8,9] (.seq (.region false [om 34 0,oo 35 (.call 25 [(.s 34),(.c (.int .i64 16))]),om 10 35]) [0,1,5,6,7,8,9,10] (.seq (.seq (
 .region false [oo 11 (.mov (.c (.int .i64 0)))]) [0,1,5,6,7,8,9,10,11] (.block 2 (.loop (.seq (.seq (.region false [om 36 11,om 37 7,oo 38 (.len (.s 37)),oo 39 (.bin .lss false (.s 36) (.s 38))]) [0,1,5,6,7,8,9,10,11,39] (.cond (.s 39) (.skip) (.exit 2))) [0,1,5,6,7,8,9,10,11] (.seq (.block 3 (
 .seq (.region false [om 42 10,om 43 11,oo 44 (.conv .u64 (.s 43)),oo 45 (.bin .shr false (.s 42) (.s 44)),oo 46 (.bin .and false (.s 45) (.c (.int .i64 1))),oo 47 (.bin .eql false (.s 46) (.c (.int .i64 1)))]) [0,1,5,6,7,8,9,10,11,47] (.cond (.s 47) (.region false [om 48 9,om 49 7,om 50 11,
 oo 51 (.indexAddr 5 (.s 49) (.s 50)),oL 52 5 51,oo 53 (.build [(.int .i64 0),(.int .i64 0),(.int .i64 0),(.str []),(.str []),(.int .i64 0),(.fsl []),(.fsl [])] [(0,5,(.s 52))]),oo 54 (.buildSlice 8 63 [(.s 53)]),oo 55 (.append 8 63 112 (.s 48) (.s 54)),om 9 55]) (.skip)))) [0,1,5,6,7,8,9,10,11] (
 .region false [om 40 11,oo 41 (.bin .add false (.s 40) (.c (.int .i64 1))),om 11 41])))))) [0,1,5,6,7,8,9] (.seq (.region false [om 56 6,om 57 5,om 58 8,oo 59 (.indexAddr 1 (.s 57) (.s 58)),ol 60 1 59,om 61 9,oo 62 (.build [(.str []),(.str []),(.fsl [])] [(0,1,(.s 60)),(2,1,(.s 61))]),
 oo 63 (.buildSlice 3 37 [(.s 62)]),oo 64 (.append 3 37 56 (.s 56) (.s 63)),om 6 64]) [0,1,5,6,7,8,9] (.seq (.region false [om 65 8,oo 66 (.bin .lss false (.s 65) (.c (.int .i64 2))),om 67 66,oT 68 67 (.mov (.s 0)),oT 69 67 (.call 25 [(.s 68),(.c (.int .i64 3))]),
 oT 70 67 (.bin .eql false (.s 69) (.c (.int .i64 0))),oo 71 (.pick (.s 67) (.s 70) (.c (.bool false)))]) [0,1,5,6,7,8,9,71] (.cond (.s 71) (.seq (.region false [oo 12 (.mov (.c (.fsl [])))]) [0,1,5,6,7,8,9,12] (.seq (.seq (.region false [oo 13 (.mov (.c (.int .i64 0)))]) [0,1,5,6,7,8,9,12,13] (
 .block 4 (.loop (.seq (.seq (.region false [om 72 13,om 73 9,oo 74 (.len (.s 73)),oo 75 (.bin .lss false (.s 72) (.s 74))]) [0,1,5,6,7,8,9,12,13,75] (.cond (.s 75) (.skip) (.exit 4))) [0,1,5,6,7,8,9,12,13] (.seq (.block 5 (.seq (.region false [om 78 0,oo 79 (.call 25 [(.s 78),(.c (.int .i64 3))]),
 oo 80 (.bin .gtr false (.s 79) (.c (.int .i64 0)))]) [0,1,5,6,7,8,9,12,13,80] (.cond (.s 80) (.region false [om 81 12,om 82 9,om 83 13,oo 84 (.indexAddr 8 (.s 82) (.s 83)),oA 85 0 84,oL 86 5 85,
 oo 87 (.build [(.int .i64 0),(.int .i64 0),(.int .i64 0),(.str []),(.str []),(.int .i64 0),(.fsl []),(.fsl [])] [(0,5,(.s 86))]),oo 88 (.buildSlice 8 63 [(.s 87)]),oo 89 (.append 8 63 112 (.s 81) (.s 88)),om 12 89]) (.skip)))) [0,1,5,6,7,8,9,12,13] (.region false [om 76 13,
 oo 77 (.bin .add false (.s 76) (.c (.int .i64 1))),om 13 77])))))) [0,1,5,6,7,8,12] (.region false [om 90 6,om 91 5,om 92 8,oo 93 (.indexAddr 1 (.s 91) (.s 92)),ol 94 1 93,om 95 12,oo 96 (.build [(.str []),(.str []),(.fsl [])] [(0,1,(.s 94)),(1,1,(.c (.str [102]))),(2,1,(.s 95))]),
 oo 97 (.buildSlice 3 37 [(.s 96)]),oo 98 (.append 3 37 56 (.s 90) (.s 97)),om 6 98]))) (.skip)))))))) [0,1,5,6,7,8] (.region false [om 32 8,oo 33 (.bin .add false (.s 32) (.c (.int .i64 1))),om 8 33])))))) [6] (.seq (.region false [om 99 6,om 4 99]) [4] (.ret))))))⟩
def tf23 : TFn := ⟨36,[.tmp 6],.seq (.region false [oo 6 (.mov (.c (.fsl [])))]) [0,1,2] (.seq (.region false [oo 7 (.mov (.c (.fsl [])))]) [0,1,2,7] (.seq (.seq (.region false [om 10 0,om 11 2,oo 12 (.bin .add false (.s 11) (.c (.int .i64 1))),oo 13 (.call 25 [(.s 10),(.s 12)]),
 om 8 13]) [0,1,7,8] (.block 0 (.loop (.seq (.seq (.region false [om 14 8,oo 15 (.bin .gtr false (.s 14) (.c (.int .i64 0)))]) [0,1,7,8,15] (.cond (.s 15) (.skip) (.exit 0))) [0,1,7,8] (.seq (.block 1 (.seq (.region false [om 18 0,om 19 1,oo 20 (.call 26 [(.s 18),(.s 19)]),
 oo 21 (.buildSlice 3 70 [(.s 20)]),om 9 21]) [0,1,7,8,9] (.seq (.seq (.region false [om 22 0,oo 23 (.call 25 [(.s 22),(.c (.int .i64 3))]),oo 24 (.bin .eql false (.s 23) (.c (.int .i64 0)))]) [0,1,7,8,9,24] (.cond (.s 24) (.region false [om 25 9,om 26 0,om 27 1,oo 28 (.call 26 [(.s 26),(.s 27)]),
 oo 29 (.buildSlice 3 70 [(.s 28)]),oo 30 (.append 3 70 56 (.s 25) (.s 29)),om 9 30]) (.skip))) [0,1,7,8,9] (.region false [om 31 7,om 32 9,oo 33 (.buildSlice 1 61 [(.s 32)]),oo 34 (.append 1 61 24 (.s 31) (.s 33)),om 7 34])))) [0,1,7,8] (.region false [om 16 8,
 oo 17 (.bin .sub false (.s 16) (.c (.int .i64 1))),om 8 17])))))) [7] (.seq (.region false [om 35 7,om 6 35]) [6] (.ret))))⟩
def tf24 : TFn := ⟨24,[.cell 2 true 2],.seq (.region false [oo 1 (.box 60 (.s 0)),oo 2 (.alloc 67 [(.fsl []),(.fsl [])])]) [1,2] (.seq (.seq (.region false [oL 3 5 1,oo 4 (.call 39 [(.s 3)]),oo 5 (.un .not (.s 4))]) [1,2,5] (.cond (.s 5) (.seq (.region false [oo 6 (.call 40 []),
 ⟨none,.store 2 (.s 2) (.s 6),none⟩]) [2] (.ret)) (.skip))) [1,2] (.seq (.seq (.region false [oA 7 3 1,ol 8 1 7,oo 9 (.bin .neq false (.s 8) (.c (.str [])))]) [1,2,9] (.cond (.s 9) (.seq (.region true [oL 10 5 1,oo 11 (.call 41 [(.s 10)]),oL 12 5 1,oo 13 (.call 42 [(.s 12)]),
 oo 14 (.build [(.int .i64 0),(.int .i64 0),(.int .i64 0),(.int .i64 0),(.str []),(.str []),(.bool false),(.int .i64 0),(.int .i64 0),(.int .i64 0),(.int .i64 0),(.str []),(.str []),(.bool false)] [(0,7,(.s 11)),(7,7,(.s 13))]),oo 15 (.buildSlice 14 90 [(.s 14)]),
 oo 16 (.build [(.fsl []),(.fsl [])] [(1,1,(.s 15))]),⟨none,.store 2 (.s 2) (.s 16),none⟩]) [2] (.ret)) (.skip))) [1,2] (.seq (.region true [oL 17 5 1,oo 18 (.call 43 [(.s 17)]),oL 19 5 1,oo 20 (.call 44 [(.s 19)]),
 oo 21 (.build [(.int .i64 0),(.int .i64 0),(.int .i64 0),(.int .i64 0),(.str []),(.str []),(.bool false),(.int .i64 0),(.int .i64 0),(.int .i64 0),(.int .i64 0),(.str []),(.str []),(.bool false)] [(0,7,(.s 18)),(7,7,(.s 20))]),oo 22 (.buildSlice 14 90 [(.s 21)]),
 oo 23 (.build [(.fsl []),(.fsl [])] [(0,1,(.s 22))]),⟨none,.store 2 (.s 2) (.s 23),none⟩]) [2] (.ret))))⟩
def tf25 : TFn := ⟨24,[.tmp 4],.seq (.region false [oo 4 (.mov (.c (.int .i64 0)))]) [0,1] (.seq (.region false [om 5 0,oo 6 (.nilCheck (.s 5)),oA 7 1 6,ol 8 1 7,oo 9 (.bin .add false (.s 8) (.c (.int .i64 1))),oo 10 (.nilCheck (.s 5)),oA 11 1 10,⟨none,.store 1 (.s 11) (.s 9),none⟩]) [0,1] (.seq (
 .region true [om 12 0,oo 13 (.nilCheck (.s 12)),oA 14 0 13,ol 15 1 14,om 16 0,oo 17 (.nilCheck (.s 16)),oA 18 1 17,ol 19 1 18,oo 20 (.bin .sub false (.s 19) (.c (.int .i64 1))),oo 21 (.call 13 [(.s 15),(.s 20)]),om 22 1,oo 23 (.call 12 [(.s 21),(.s 22)]),om 4 23]) [4] (.ret)))⟩
def tf26 : TFn := ⟨21,[.cell 4 true 3],.seq (.region false [oo 4 (.alloc 70 [(.int .i64 0),(.fsl []),(.fsl [])])]) [0,1,4] (.seq (.region false [om 6 0,om 7 1,oo 8 (.len (.s 7)),oo 9 (.bin .sub false (.s 8) (.c (.int .i64 1))),oo 10 (.call 25 [(.s 6),(.s 9)]),
 oo 11 (.bin .add false (.c (.int .i64 1)) (.s 10)),om 5 11]) [0,1,4,5] (.seq (.region false [om 12 5,om 13 0,om 14 1,om 15 5,oo 16 (.indexAddr 3 (.s 14) (.s 15)),oA 17 2 16,ol 18 1 17,oo 19 (.call 45 [(.s 13),(.s 18)]),
 oo 20 (.build [(.int .i64 0),(.fsl []),(.fsl [])] [(0,1,(.s 12)),(1,2,(.s 19))]),⟨none,.store 3 (.s 4) (.s 20),none⟩]) [4] (.ret)))⟩
def tf29 : TFn := ⟨69,[.tmp 6],.seq (.region false [oo 3 (.box 27 (.s 0)),oo 5 (.box 50 (.s 2)),oo 6 (.mov (.c (.bool false)))]) [1,3,5] (.seq (.region false [oL 8 1 3,om 9 1,oA 10 0 5,ol 11 1 10,oo 12 (.call 32 [(.s 8),(.s 9),(.s 11)]),om 7 12]) [1,3,5,7] (.seq (.block 0 (.seq (
 .region false [oL 14 1 3,oA 15 0 5,ol 16 1 15,oo 17 (.call 31 [(.s 14),(.s 16)]),oo 18 (.bin .eql false (.s 17) (.c (.int .i64 0))),om 19 18,oF 20 19 (.fieldAddr 3 (.s 5)),oF 21 19 (.load false 1 (.s 20)),oF 22 19 (.bin .lss false (.s 21) (.c (.int .i64 (-1)))),
 oo 23 (.pick (.s 19) (.c (.bool true)) (.s 22)),om 24 23,oF 25 24 (.fieldAddr 1 (.s 5)),oF 26 24 (.load false 1 (.s 25)),oF 27 24 (.bin .eql false (.s 26) (.c (.int .i64 0))),oo 28 (.pick (.s 24) (.c (.bool true)) (.s 27)),om 29 28,oF 30 29 (.fieldAddr 1 (.s 5)),oF 31 29 (.load false 1 (.s 30)),
 oF 32 29 (.mov (.s 7)),oF 33 29 (.bin .andNot false (.s 31) (.s 32)),oF 34 29 (.bin .neq false (.s 33) (.c (.int .i64 0))),oo 35 (.pick (.s 29) (.c (.bool true)) (.s 34)),om 13 35]) [1,5,7,13] (.cond (.s 13) (.seq (.region false [oo 6 (.mov (.c (.bool false)))]) [6] (.ret)) (.seq (
 .region false [oA 37 3 5,ol 38 1 37,oo 39 (.bin .eql false (.s 38) (.c (.int .i64 (-1)))),om 36 39]) [1,5,7,36] (.cond (.s 36) (.seq (.region true [oA 40 1 5,ol 41 1 40,oo 42 (.call 46 [(.s 41)]),om 43 42,oT 44 43 (.mov (.s 1)),oT 45 43 (.fieldAddr 0 (.s 5)),oT 46 43 (.load false 1 (.s 45)),
 oT 47 43 (.call 33 [(.s 44),(.s 46)]),oT 48 43 (.un .not (.s 47)),oo 49 (.pick (.s 43) (.s 48) (.c (.bool false))),om 50 49,oT 51 50 (.fieldAddr 2 (.s 5)),oT 52 50 (.load false 1 (.s 51)),oT 53 50 (.mov (.s 1)),oT 54 50 (.call 10 [(.s 53)]),oT 55 50 (.bin .add false (.s 54) (.c (.int .i64 1))),
 oT 56 50 (.bin .eql false (.s 52) (.s 55)),oo 57 (.pick (.s 50) (.s 56) (.c (.bool false))),om 6 57]) [6] (.ret)) (.skip)))))) [1,5,7] (.seq (.region true [oA 58 1 5,ol 59 1 58,om 60 7,oo 61 (.bin .neq false (.s 59) (.s 60)),om 62 61,oT 63 62 (.fieldAddr 2 (.s 5)),oT 64 62 (.load false 1 (.s 63)),
 oT 65 62 (.mov (.s 1)),oT 66 62 (.call 10 [(.s 65)]),oT 67 62 (.bin .eql false (.s 64) (.s 66)),oo 68 (.pick (.s 62) (.s 67) (.c (.bool false))),om 6 68]) [6] (.ret))))⟩
def tf31 : TFn := ⟨18,[.tmp 4],.seq (.region false [oo 2 (.box 27 (.s 0)),oo 4 (.mov (.c (.int .i64 0)))]) [1,2] (.seq (.seq (.region false [oL 5 1 2,om 6 1,oo 7 (.call 49 [(.s 5),(.s 6)]),oo 8 (.un .not (.s 7))]) [1,2,8] (.cond (.s 8) (.seq (.region false [oo 4 (.mov (.c (.int .i64 0)))]) [4] (
 .ret)) (.skip))) [1,2] (.seq (.region false [oA 9 0 2,ol 10 1 9,om 11 1,oo 12 (.indexAddr 3 (.s 10) (.s 11)),oA 13 2 12,ol 14 1 13,oo 15 (.len (.s 14)),oo 16 (.call 50 [(.s 15)]),oo 17 (.bin .sub false (.s 16) (.c (.int .i64 1))),om 4 17]) [4] (.ret)))⟩
def tf32 : TFn := ⟨30,[.tmp 6],.seq (.region false [oo 3 (.box 27 (.s 0)),oo 6 (.mov (.c (.int .i64 0)))]) [1,2,3] (.seq (.seq (.region false [om 8 1,oo 9 (.len (.s 8)),oo 10 (.bin .sub false (.s 9) (.c (.int .i64 1))),om 7 10]) [1,2,3,7] (.block 0 (.loop (.seq (.seq (.region false [om 11 7,
 oo 12 (.bin .geq false (.s 11) (.c (.int .i64 0)))]) [1,2,3,7,12] (.cond (.s 12) (.skip) (.exit 0))) [1,2,3,7] (.seq (.block 1 (.seq (.region false [om 15 1,om 16 7,oo 17 (.indexAddr 4 (.s 15) (.s 16)),oA 18 0 17,ol 19 1 18,om 20 2,oo 21 (.bin .eql false (.s 19) (.s 20))]) [1,2,3,7,21] (
 .cond (.s 21) (.seq (.region false [om 22 1,om 23 7,oo 24 (.indexAddr 4 (.s 22) (.s 23)),oA 25 1 24,ol 26 1 25,om 6 26]) [6] (.ret)) (.skip)))) [1,2,3,7] (.region false [om 13 7,oo 14 (.bin .sub false (.s 13) (.c (.int .i64 1))),om 7 14])))))) [2,3] (.seq (.region false [oL 27 1 3,om 28 2,
 oo 29 (.call 31 [(.s 27),(.s 28)]),om 6 29]) [6] (.ret)))⟩
def tf33 : TFn := ⟨8,[.tmp 4],.seq (.region false [oo 3 (.box 3 (.s 1)),oo 4 (.mov (.c (.bool false)))]) [0,3] (.seq (.region false [om 5 0,oo 6 (.mkfn 52 [(.s 3)]),oo 7 (.call 51 [(.s 5),(.s 6)]),om 4 7]) [4] (.ret))⟩
def tf34 : TFn := ⟨14,[.tmp 4],.seq (.region false [oo 3 (.box 50 (.s 1)),oo 4 (.mov (.c (.fsl [])))]) [0,3] (.seq (.region true [om 5 0,om 6 0,oo 7 (.len (.s 6)),om 8 0,oo 9 (.len (.s 8)),oo 10 (.slice 4 (.s 5) none (some (.s 7)) (some (.s 9))),oL 11 4 3,oo 12 (.buildSlice 4 50 [(.s 11)]),
 oo 13 (.append 4 50 32 (.s 10) (.s 12)),om 4 13]) [4] (.ret))⟩
def tf35 : TFn := ⟨4,[.tmp 2],.seq (.region false [oo 1 (.box 3 (.s 0)),oo 2 (.mov (.c (.val .nilFunc)))]) [1] (.seq (.region false [oo 3 (.mkfn 53 [(.s 1)]),om 2 3]) [2] (.ret))⟩
def tf36 : TFn := ⟨13,[.tmp 2],.seq (.region false [oo 2 (.mov (.c (.int .i64 0)))]) [0] (.seq (.region false [oo 3 (.mov (.c (.int .i64 1)))]) [0,3] (.seq (.seq (.region false [oo 4 (.mov (.c (.int .i64 0)))]) [0,3,4] (.block 0 (.loop (.seq (.seq (.region false [om 5 4,om 6 0,
 oo 7 (.bin .lss false (.s 5) (.s 6))]) [0,3,4,7] (.cond (.s 7) (.skip) (.exit 0))) [0,3,4] (.seq (.block 1 (.region false [om 10 3,oo 11 (.bin .mul false (.s 10) (.c (.int .i64 2))),om 3 11])) [0,3,4] (.region false [om 8 4,oo 9 (.bin .add false (.s 8) (.c (.int .i64 1))),om 4 9])))))) [3] (.seq (
 .region false [om 12 3,om 2 12]) [2] (.ret))))⟩
def tf37 : TFn := ⟨6,[.tmp 0],.seq (.region false [oo 0 (.mov (.c (.fsl [])))]) [] (.seq (.region false [oo 1 (.build [(.int .i64 0),(.int .i64 0),(.int .i64 0),(.str []),(.str [])] [(0,1,(.c (.int .i64 1)))]),
 oo 2 (.build [(.int .i64 0),(.int .i64 0),(.int .i64 0),(.str []),(.str [])] [(0,1,(.c (.int .i64 1))),(1,1,(.c (.int .i64 2)))]),oo 3 (.build [(.int .i64 0),(.int .i64 0),(.int .i64 0),(.str []),(.str [])] [(0,1,(.c (.int .i64 2))),(3,1,(.c (.str [97,46,49])))]),
 oo 4 (.build [(.int .i64 0),(.int .i64 0),(.int .i64 0),(.str []),(.str [])] [(0,1,(.c (.int .i64 2)))]),oo 5 (.buildSlice 5 60 [(.s 1),(.s 2),(.s 3),(.s 4)]),om 0 5]) [0] (.ret))⟩
def tf38 : TFn := ⟨15,[.tmp 4],.seq (.region false [oo 4 (.mov (.c (.int .i64 0)))]) [0,1] (.seq (.block 0 (.seq (.region false [om 6 0,om 7 1,oo 8 (.bin .andNot false (.s 6) (.s 7)),oo 9 (.bin .eql false (.s 8) (.c (.int .i64 0))),om 5 9]) [0,1,5] (.cond (.s 5) (.seq (
 .region false [oo 4 (.mov (.c (.int .i64 2)))]) [4] (.ret)) (.seq (.region false [om 11 0,om 12 1,oo 13 (.bin .and false (.s 11) (.s 12)),oo 14 (.bin .eql false (.s 13) (.c (.int .i64 0))),om 10 14]) [10] (.cond (.s 10) (.seq (.region false [oo 4 (.mov (.c (.int .i64 0)))]) [4] (.ret)) (
 .skip)))))) [] (.seq (.region false [oo 4 (.mov (.c (.int .i64 1)))]) [4] (.ret)))⟩
def tf39 : TFn := ⟨26,[.tmp 2],.seq (.region false [oo 1 (.box 60 (.s 0)),oo 2 (.mov (.c (.bool false)))]) [1] (.seq (.region false [oA 3 0 1,ol 4 1 3,oo 5 (.call 54 [(.s 4)]),om 6 5,oT 7 6 (.fieldAddr 1 (.s 1)),oT 8 6 (.load false 1 (.s 7)),oT 9 6 (.call 54 [(.s 8)]),
 oo 10 (.pick (.s 6) (.s 9) (.c (.bool false))),om 11 10,oT 12 11 (.fieldAddr 2 (.s 1)),oT 13 11 (.load false 1 (.s 12)),oT 14 11 (.call 54 [(.s 13)]),oo 15 (.pick (.s 11) (.s 14) (.c (.bool false))),om 16 15,oT 17 16 (.fieldAddr 3 (.s 1)),oT 18 16 (.load false 1 (.s 17)),
 oT 19 16 (.call 55 [(.s 18),(.c (.bool true))]),oo 20 (.pick (.s 16) (.s 19) (.c (.bool false))),om 21 20,oT 22 21 (.fieldAddr 4 (.s 1)),oT 23 21 (.load false 1 (.s 22)),oT 24 21 (.call 55 [(.s 23),(.c (.bool false))]),oo 25 (.pick (.s 21) (.s 24) (.c (.bool false))),om 2 25]) [2] (.ret))⟩
def tf40 : TFn := ⟨2,[.cell 0 true 2],.seq (.region false [oo 0 (.alloc 67 [(.fsl []),(.fsl [])])]) [0] (.seq (.region false [oo 1 (.build [(.fsl []),(.fsl [])] []),⟨none,.store 2 (.s 0) (.s 1),none⟩]) [0] (.ret))⟩
def tf41 : TFn := ⟨6,[.cell 2 true 7],.seq (.region false [oo 1 (.box 60 (.s 0)),oo 2 (.alloc 87 [(.int .i64 0),(.int .i64 0),(.int .i64 0),(.int .i64 0),(.str []),(.str []),(.bool false)])]) [1,2] (.seq (.region false [oL 3 5 1,oo 4 (.call 56 [(.s 3)]),
 oo 5 (.build [(.int .i64 0),(.int .i64 0),(.int .i64 0),(.int .i64 0),(.str []),(.str []),(.bool false)] [(1,5,(.s 4))]),⟨none,.store 7 (.s 2) (.s 5),none⟩]) [2] (.ret))⟩
def tf42 : TFn := ⟨6,[.cell 2 true 7],.seq (.region false [oo 1 (.box 60 (.s 0)),oo 2 (.alloc 87 [(.int .i64 0),(.int .i64 0),(.int .i64 0),(.int .i64 0),(.str []),(.str []),(.bool false)])]) [1,2] (.seq (.region false [oL 3 5 1,oo 4 (.call 56 [(.s 3)]),
 oo 5 (.build [(.int .i64 0),(.int .i64 0),(.int .i64 0),(.int .i64 0),(.str []),(.str []),(.bool false)] [(1,5,(.s 4)),(6,1,(.c (.bool true)))]),⟨none,.store 7 (.s 2) (.s 5),none⟩]) [2] (.ret))⟩
def tf43 : TFn := ⟨14,[.cell 2 true 7],.seq (.region false [oo 1 (.box 60 (.s 0)),oo 2 (.alloc 87 [(.int .i64 0),(.int .i64 0),(.int .i64 0),(.int .i64 0),(.str []),(.str []),(.bool false)])]) [1,2] (.seq (.seq (.region false [oL 3 5 1,oo 4 (.call 57 [(.s 3)])]) [1,2,4] (.cond (.s 4) (.seq (
 .region false [oo 5 (.call 58 []),⟨none,.store 7 (.s 2) (.s 5),none⟩]) [2] (.ret)) (.skip))) [1,2] (.seq (.region false [oA 6 0 1,ol 7 1 6,oA 8 1 1,ol 9 1 8,oA 10 2 1,ol 11 1 10,
 oo 12 (.build [(.int .i64 0),(.int .i64 0),(.int .i64 0),(.str []),(.str [])] [(0,1,(.s 7)),(1,1,(.s 9)),(2,1,(.s 11))]),oo 13 (.call 41 [(.s 12)]),⟨none,.store 7 (.s 2) (.s 13),none⟩]) [2] (.ret)))⟩
def tf44 : TFn := ⟨21,[.cell 2 true 7],.seq (.region false [oo 1 (.box 60 (.s 0)),oo 2 (.alloc 87 [(.int .i64 0),(.int .i64 0),(.int .i64 0),(.int .i64 0),(.str []),(.str []),(.bool false)])]) [1,2] (.seq (.region false [oA 6 0 1,ol 7 1 6,oA 8 1 1,ol 9 1 8,oA 10 2 1,ol 11 1 10,
 oo 12 (.build [(.int .i64 0),(.int .i64 0),(.int .i64 0),(.str []),(.str [])] [(0,1,(.s 7)),(1,1,(.s 9)),(2,1,(.s 11))]),oo 13 (.call 59 [(.s 12)]),om 5 13,oe 14 0 5,oe 15 1 5,oo 3 (.alloc 60 [(.int .i64 0),(.int .i64 0),(.int .i64 0),(.str []),(.str [])]),⟨none,.store 5 (.s 3) (.s 14),none⟩,
 om 4 15]) [2,3,4] (.seq (.seq (.region false [om 16 4,oo 17 (.un .not (.s 16))]) [2,3,17] (.cond (.s 17) (.seq (.region false [oo 18 (.call 60 []),⟨none,.store 7 (.s 2) (.s 18),none⟩]) [2] (.ret)) (.skip))) [2,3] (.seq (.region false [oL 19 5 3,oo 20 (.call 41 [(.s 19)]),
 ⟨none,.store 7 (.s 2) (.s 20),none⟩]) [2] (.ret))))⟩
def tf45 : TFn := ⟨41,[.cell 4 true 2],.seq (.region false [oo 4 (.alloc 67 [(.fsl []),(.fsl [])])]) [0,1,4] (.seq (.region false [om 8 0,oo 9 (.call 25 [(.s 8),(.c (.int .i64 8))]),om 5 9]) [0,1,4,5] (.seq (.region false [oo 10 (.call 40 []),oo 6 (.alloc 67 [(.fsl []),(.fsl [])]),
 ⟨none,.store 2 (.s 6) (.s 10),none⟩]) [0,1,4,5,6] (.seq (.seq (.region false [oo 7 (.mov (.c (.int .i64 0)))]) [0,1,4,5,6,7] (.block 0 (.loop (.seq (.seq (.region false [om 11 7,om 12 1,oo 13 (.len (.s 12)),oo 14 (.bin .lss false (.s 11) (.s 13))]) [0,1,4,5,6,7,14] (.cond (.s 14) (.skip) (
 .exit 0))) [0,1,4,5,6,7] (.seq (.block 1 (.seq (.region false [om 17 5,om 18 7,oo 19 (.conv .u64 (.s 18)),oo 20 (.bin .shr false (.s 17) (.s 19)),oo 21 (.bin .and false (.s 20) (.c (.int .i64 1))),oo 22 (.bin .eql false (.s 21) (.c (.int .i64 1)))]) [0,1,4,5,6,7,22] (.cond (.s 22) (
 .region true [oL 23 2 6,om 24 1,om 25 7,oo 26 (.indexAddr 8 (.s 24) (.s 25)),oA 27 0 26,oL 28 5 27,oo 29 (.call 24 [(.s 28)]),oo 30 (.call 61 [(.s 23),(.s 29)]),⟨none,.store 2 (.s 6) (.s 30),none⟩]) (.skip)))) [0,1,4,5,6,7] (.region false [om 15 7,
 oo 16 (.bin .add false (.s 15) (.c (.int .i64 1))),om 7 16])))))) [0,4,6] (.seq (.seq (.region false [om 31 0,oo 32 (.call 25 [(.s 31),(.c (.int .i64 6))])]) [4,6,32] (.block 2 (.seq (.region false [oo 34 (.bin .eql false (.s 32) (.c (.int .i64 0))),om 33 34]) [4,6,32,33] (.cond (.s 33) (.seq (
 .region false [oo 35 (.call 62 []),⟨none,.store 2 (.s 4) (.s 35),none⟩]) [4] (.ret)) (.seq (.region false [oo 37 (.bin .eql false (.s 32) (.c (.int .i64 1))),om 36 37]) [4,6,36] (.cond (.s 36) (.seq (.region false [oL 38 2 6,oo 39 (.call 63 [(.s 38)]),⟨none,.store 2 (.s 4) (.s 39),none⟩]) [4] (
 .ret)) (.skip))))))) [4,6] (.seq (.region false [oL 40 2 6,⟨none,.store 2 (.s 4) (.s 40),none⟩]) [4] (.ret))))))⟩
def tf46 : TFn := ⟨12,[.tmp 2],.seq (.region false [oo 2 (.mov (.c (.bool false)))]) [0] (.seq (.region false [om 3 0,oo 4 (.bin .gtr false (.s 3) (.c (.int .i64 1))),om 5 4,oT 6 5 (.mov (.s 0)),oT 7 5 (.mov (.s 0)),oT 8 5 (.bin .sub false (.s 7) (.c (.int .i64 1))),
 oT 9 5 (.bin .and false (.s 6) (.s 8)),oT 10 5 (.bin .eql false (.s 9) (.c (.int .i64 0))),oo 11 (.pick (.s 5) (.s 10) (.c (.bool false))),om 2 11]) [2] (.ret))⟩
def tf49 : TFn := ⟨14,[.tmp 4],.seq (.region false [oo 2 (.box 27 (.s 0)),oo 4 (.mov (.c (.bool false)))]) [1,2] (.seq (.region false [om 5 1,oo 6 (.bin .geq false (.s 5) (.c (.int .i64 0))),om 7 6,oT 8 7 (.mov (.s 1)),oT 9 7 (.fieldAddr 0 (.s 2)),oT 10 7 (.load false 1 (.s 9)),
 oT 11 7 (.len (.s 10)),oT 12 7 (.bin .lss false (.s 8) (.s 11)),oo 13 (.pick (.s 7) (.s 12) (.c (.bool false))),om 4 13]) [4] (.ret))⟩
def tf50 : TFn := ⟨6,[.tmp 2],.seq (.region false [oo 2 (.mov (.c (.int .i64 0)))]) [0] (.seq (.region false [om 3 0,oo 4 (.bin .add false (.s 3) (.c (.int .i64 1))),oo 5 (.bin .shl false (.c (.int .i64 1)) (.s 4)),om 2 5]) [2] (.ret))⟩
def tf51 : TFn := ⟨9,[.tmp 4],.seq (.region false [oo 4 (.mov (.c (.bool false)))]) [0,1] (.seq (.region false [om 5 0,om 6 1,oo 7 (.call 64 [(.s 5),(.s 6)]),oo 8 (.bin .geq false (.s 7) (.c (.int .i64 0))),om 4 8]) [4] (.ret))⟩
def tf52 : TFn := ⟨13,[.tmp 3],.seq (.region false [oo 2 (.box 50 (.s 0)),oo 3 (.mov (.c (.bool false)))]) [1,2] (.seq (.region false [oA 4 3 2,ol 5 1 4,oo 6 (.bin .eql false (.s 5) (.c (.int .i64 (-1)))),om 7 6,oT 8 7 (.fieldAddr 0 (.s 2)),oT 9 7 (.load false 1 (.s 8)),
 oT 10 7 (.load false 1 (.s 1)),oT 11 7 (.bin .eql false (.s 9) (.s 10)),oo 12 (.pick (.s 7) (.s 11) (.c (.bool false))),om 3 12]) [3] (.ret))⟩
def tf53 : TFn := ⟨19,[],.seq (.region false [oo 3 (.mov (.c (.int .i64 (-1))))]) [0,1,3] (.block 0 (.loop (.seq (.seq (.region false [om 4 3,oo 5 (.bin .lss false (.s 4) (.c (.int .i64 16)))]) [0,1,3,5] (.cond (.s 5) (.skip) (.exit 0))) [0,1,3] (.seq (.block 1 (.seq (.region true [ol 8 1 1,om 9 3,
 oo 10 (.call 50 [(.s 9)]),oo 11 (.bin .and false (.s 8) (.s 10)),oo 12 (.bin .neq false (.s 11) (.c (.int .i64 0))),om 13 12,oT 14 13 (.mov (.s 0)),oT 15 13 (.mov (.s 3)),oT 16 13 (.callV (.s 14) [(.s 15)]),oT 17 13 (.un .not (.s 16)),oo 18 (.pick (.s 13) (.s 17) (.c (.bool false)))]) [0,1,3,18] (
 .cond (.s 18) (.ret) (.skip)))) [0,1,3] (.region false [om 6 3,oo 7 (.bin .add false (.s 6) (.c (.int .i64 1))),om 3 7])))))⟩
def tf54 : TFn := ⟨9,[.tmp 2],.seq (.region false [oo 2 (.mov (.c (.bool false)))]) [0] (.seq (.region false [om 3 0,oo 4 (.bin .geq false (.s 3) (.c (.int .i64 0))),om 5 4,oT 6 5 (.mov (.s 0)),oT 7 5 (.bin .leq false (.s 6) (.c (.int .i64 9999))),oo 8 (.pick (.s 5) (.s 7) (.c (.bool false))),
 om 2 8]) [2] (.ret))⟩
def tf55 : TFn := ⟨48,[.tmp 4],.seq (.region false [oo 4 (.mov (.c (.bool false)))]) [0,1] (.seq (.seq (.region false [om 9 0,oo 10 (.bin .eql false (.s 9) (.c (.str [])))]) [0,1,10] (.cond (.s 10) (.seq (.region false [oo 4 (.mov (.c (.bool true)))]) [4] (.ret)) (.skip))) [0,1] (.seq (
 .region false [om 11 0,oo 12 (.call 65 [(.s 11),(.c (.int .u8 46))]),om 5 12]) [1,5] (.seq (.seq (.region false [om 13 5,oo 14 (.len (.s 13)),oo 15 (.bin .gtr false (.s 14) (.c (.int .i64 4)))]) [1,5,15] (.cond (.s 15) (.seq (.region false [oo 4 (.mov (.c (.bool false)))]) [4] (.ret)) (
 .skip))) [1,5] (.seq (.seq (.region false [oo 6 (.mov (.c (.int .i64 0)))]) [1,5,6] (.block 0 (.loop (.seq (.seq (.region false [om 16 6,om 17 5,oo 18 (.len (.s 17)),oo 19 (.bin .lss false (.s 16) (.s 18))]) [1,5,6,19] (.cond (.s 19) (.skip) (.exit 0))) [1,5,6] (.seq (.block 1 (.seq (.seq (
 .region false [om 22 5,om 23 6,oo 24 (.indexAddr 1 (.s 22) (.s 23)),ol 25 1 24,oo 26 (.call 66 [(.s 25)]),oo 27 (.un .not (.s 26))]) [1,5,6,27] (.cond (.s 27) (.seq (.region false [oo 4 (.mov (.c (.bool false)))]) [4] (.ret)) (.skip))) [1,5,6] (.seq (.region false [om 29 5,om 30 6,
 oo 31 (.indexAddr 1 (.s 29) (.s 30)),ol 32 1 31,oo 33 (.call 67 [(.s 32)]),om 28 33,oe 34 0 28,oe 35 1 28,om 7 34,om 8 35]) [1,5,6,8] (.seq (.region false [om 36 1,om 37 36,oT 38 37 (.mov (.s 5)),oT 39 37 (.mov (.s 6)),oT 40 37 (.indexAddr 1 (.s 38) (.s 39)),oT 41 37 (.load false 1 (.s 40)),
 oT 42 37 (.call 68 [(.s 41)]),oo 43 (.pick (.s 37) (.s 42) (.c (.bool false))),om 44 43,oT 45 44 (.mov (.s 8)),oT 46 44 (.un .not (.s 45)),oo 47 (.pick (.s 44) (.s 46) (.c (.bool false)))]) [1,5,6,47] (.cond (.s 47) (.seq (.region false [oo 4 (.mov (.c (.bool false)))]) [4] (.ret)) (
 .skip)))))) [1,5,6] (.region false [om 20 6,oo 21 (.bin .add false (.s 20) (.c (.int .i64 1))),om 6 21])))))) [] (.seq (.region false [oo 4 (.mov (.c (.bool true)))]) [4] (.ret))))))⟩
def tf56 : TFn := ⟨5,[.cell 2 true 5],.seq (.region false [oo 1 (.box 60 (.s 0)),oo 2 (.alloc 60 [(.int .i64 0),(.int .i64 0),(.int .i64 0),(.str []),(.str [])])]) [1,2] (.seq (.region false [oA 3 4 1,⟨none,.store 1 (.s 3) (.c (.str [])),none⟩]) [1,2] (.seq (.region false [oL 4 5 1,
 ⟨none,.store 5 (.s 2) (.s 4),none⟩]) [2] (.ret)))⟩
def tf57 : TFn := ⟨16,[.tmp 2],.seq (.region false [oo 1 (.box 60 (.s 0)),oo 2 (.mov (.c (.bool false)))]) [1] (.seq (.region false [oA 3 0 1,ol 4 1 3,oo 5 (.bin .eql false (.s 4) (.c (.int .i64 0))),om 6 5,oT 7 6 (.fieldAddr 1 (.s 1)),oT 8 6 (.load false 1 (.s 7)),
 oT 9 6 (.bin .eql false (.s 8) (.c (.int .i64 0))),oo 10 (.pick (.s 6) (.s 9) (.c (.bool false))),om 11 10,oT 12 11 (.fieldAddr 2 (.s 1)),oT 13 11 (.load false 1 (.s 12)),oT 14 11 (.bin .eql false (.s 13) (.c (.int .i64 0))),oo 15 (.pick (.s 11) (.s 14) (.c (.bool false))),om 2 15]) [2] (.ret))⟩
def tf58 : TFn := ⟨2,[.cell 0 true 7],.seq (.region false [oo 0 (.alloc 87 [(.int .i64 0),(.int .i64 0),(.int .i64 0),(.int .i64 0),(.str []),(.str []),(.bool false)])]) [0] (.seq (
 .region false [oo 1 (.build [(.int .i64 0),(.int .i64 0),(.int .i64 0),(.int .i64 0),(.str []),(.str []),(.bool false)] [(0,1,(.c (.int .i64 (-1))))]),⟨none,.store 7 (.s 0) (.s 1),none⟩]) [0] (.ret))⟩
def tf59 : TFn := ⟨34,[.cell 2 true 5,.tmp 3],.seq (.region false [oo 1 (.box 60 (.s 0)),oo 2 (.alloc 60 [(.int .i64 0),(.int .i64 0),(.int .i64 0),(.str []),(.str [])]),oo 3 (.mov (.c (.bool false)))]) [1,2] (.seq (.seq (.region false [oL 7 5 1,oo 8 (.call 39 [(.s 7)]),
 oo 9 (.un .not (.s 8))]) [1,2,9] (.cond (.s 9) (.seq (.region false [oo 10 (.build [(.int .i64 0),(.int .i64 0),(.int .i64 0),(.str []),(.str [])] []),⟨none,.store 5 (.s 2) (.s 10),none⟩,oo 3 (.mov (.c (.bool false)))]) [2,3] (.ret)) (.skip))) [1,2] (.seq (.seq (.region false [oA 11 3 1,
 ol 12 1 11,oo 13 (.bin .neq false (.s 12) (.c (.str [])))]) [1,2,13] (.cond (.s 13) (.seq (.region false [oA 14 0 1,ol 15 1 14,oA 16 1 1,ol 17 1 16,oA 18 2 1,ol 19 1 18,oo 20 (.build [(.int .i64 0),(.int .i64 0),(.int .i64 0),(.str []),(.str [])] [(0,1,(.s 15)),(1,1,(.s 17)),(2,1,(.s 19))]),
 ⟨none,.store 5 (.s 2) (.s 20),none⟩,oo 3 (.mov (.c (.bool true)))]) [2,3] (.ret)) (.skip))) [1,2] (.seq (.seq (.region false [oo 4 (.mov (.c (.int .i64 2)))]) [1,2,4] (.block 0 (.loop (.seq (.seq (.region false [om 21 4,oo 22 (.bin .geq false (.s 21) (.c (.int .i64 0)))]) [1,2,4,22] (
 .cond (.s 22) (.skip) (.exit 0))) [1,2,4] (.seq (.block 1 (.seq (.region false [oL 26 5 1,om 27 4,oo 28 (.call 69 [(.s 26),(.s 27)]),om 25 28,oe 29 0 25,oe 30 1 25,oo 5 (.alloc 60 [(.int .i64 0),(.int .i64 0),(.int .i64 0),(.str []),(.str [])]),⟨none,.store 5 (.s 5) (.s 29),none⟩,
 om 6 30]) [1,2,4,5,6] (.seq (.region false [om 31 6]) [1,2,4,5,31] (.cond (.s 31) (.seq (.region false [oL 32 5 5,⟨none,.store 5 (.s 2) (.s 32),none⟩,oo 3 (.mov (.c (.bool true)))]) [2,3] (.ret)) (.skip))))) [1,2,4] (.region false [om 23 4,oo 24 (.bin .sub false (.s 23) (.c (.int .i64 1))),
 om 4 24])))))) [2] (.seq (.region false [oo 33 (.build [(.int .i64 0),(.int .i64 0),(.int .i64 0),(.str []),(.str [])] []),⟨none,.store 5 (.s 2) (.s 33),none⟩,oo 3 (.mov (.c (.bool false)))]) [2,3] (.ret)))))⟩
def tf60 : TFn := ⟨2,[.cell 0 true 7],.seq (.region false [oo 0 (.alloc 87 [(.int .i64 0),(.int .i64 0),(.int .i64 0),(.int .i64 0),(.str []),(.str []),(.bool false)])]) [0] (.seq (
 .region false [oo 1 (.build [(.int .i64 0),(.int .i64 0),(.int .i64 0),(.int .i64 0),(.str []),(.str []),(.bool false)] [(0,1,(.c (.int .i64 1)))]),⟨none,.store 7 (.s 0) (.s 1),none⟩]) [0] (.ret))⟩
def tf61 : TFn := ⟨25,[.cell 4 true 2],.seq (.region false [oo 2 (.box 67 (.s 0)),oo 3 (.box 67 (.s 1)),oo 4 (.alloc 67 [(.fsl []),(.fsl [])])]) [2,3,4] (.seq (.seq (.region false [oL 5 2 2,oo 6 (.call 70 [(.s 5)]),oo 7 (.un .not (.s 6)),om 8 7,oF 9 8 (.load true 2 (.s 3)),
 oF 10 8 (.call 70 [(.s 9)]),oF 11 8 (.un .not (.s 10)),oo 12 (.pick (.s 8) (.c (.bool true)) (.s 11))]) [2,3,4,12] (.cond (.s 12) (.seq (.region false [oo 13 (.call 40 []),⟨none,.store 2 (.s 4) (.s 13),none⟩]) [4] (.ret)) (.skip))) [2,3,4] (.seq (.region true [oA 14 0 2,ol 15 1 14,oA 16 0 3,
 ol 17 1 16,oo 18 (.call 71 [(.s 15),(.s 17)]),oA 19 1 2,ol 20 1 19,oA 21 1 3,ol 22 1 21,oo 23 (.call 71 [(.s 20),(.s 22)]),oo 24 (.build [(.fsl []),(.fsl [])] [(0,1,(.s 18)),(1,1,(.s 23))]),⟨none,.store 2 (.s 4) (.s 24),none⟩]) [4] (.ret)))⟩
def tf62 : TFn := ⟨4,[.cell 0 true 2],.seq (.region false [oo 0 (.alloc 67 [(.fsl []),(.fsl [])])]) [0] (.seq (.region false [oo 1 (.call 72 []),oo 2 (.call 72 []),oo 3 (.build [(.fsl []),(.fsl [])] [(0,1,(.s 1)),(1,1,(.s 2))]),⟨none,.store 2 (.s 0) (.s 3),none⟩]) [0] (.ret))⟩
def tf63 : TFn := ⟨14,[.cell 2 true 2],.seq (.region false [oo 1 (.box 67 (.s 0)),oo 2 (.alloc 67 [(.fsl []),(.fsl [])])]) [1,2] (.seq (.seq (.region false [oL 3 2 1,oo 4 (.call 70 [(.s 3)]),oo 5 (.un .not (.s 4))]) [1,2,5] (.cond (.s 5) (.seq (.region false [oo 6 (.call 40 []),
 ⟨none,.store 2 (.s 2) (.s 6),none⟩]) [2] (.ret)) (.skip))) [1,2] (.seq (.region true [oA 7 0 1,ol 8 1 7,oo 9 (.call 73 [(.s 8)]),oA 10 1 1,ol 11 1 10,oo 12 (.call 73 [(.s 11)]),oo 13 (.build [(.fsl []),(.fsl [])] [(0,1,(.s 9)),(1,1,(.s 12))]),⟨none,.store 2 (.s 2) (.s 13),none⟩]) [2] (.ret)))⟩
def tf64 : TFn := ⟨19,[.tmp 4],.seq (.region false [oo 4 (.mov (.c (.int .i64 0)))]) [0,1] (.seq (.seq (.region false [om 6 0,oo 7 (.len (.s 6)),oo 8 (.mov (.c (.int .i64 0)))]) [0,1,7,8] (.block 0 (.loop (.seq (.region false [oo 9 (.bin .lss false (.s 8) (.s 7))]) [0,1,7,8,9] (.seq (.cond (.s 9) (
 .skip) (.exit 0)) [0,1,7,8] (.seq (.block 1 (.seq (.region false [om 10 8,om 5 10]) [0,1,5,7,8] (.seq (.region false [om 11 1,om 12 0,om 13 5,oo 14 (.indexAddr 4 (.s 12) (.s 13)),oL 15 4 14,oo 16 (.callV (.s 11) [(.s 15)])]) [0,1,5,7,8,16] (.cond (.s 16) (.seq (.region false [om 17 5,
 om 4 17]) [4] (.ret)) (.skip))))) [0,1,7,8] (.region false [oo 18 (.bin .add false (.s 8) (.c (.int .i64 1))),om 8 18]))))))) [] (.seq (.region false [oo 4 (.mov (.c (.int .i64 (-1))))]) [4] (.ret)))⟩
def tf65 : TFn := ⟨34,[.tmp 4],.seq (.region false [oo 4 (.mov (.c (.fsl [])))]) [0,1] (.seq (.region false [oo 5 (.mov (.c (.fsl [])))]) [0,1,5] (.seq (.region false [oo 6 (.mov (.c (.int .i64 0)))]) [0,1,5,6] (.seq (.seq (.region false [oo 7 (.mov (.c (.int .i64 0)))]) [0,1,5,6,7] (.block 0 (
 .loop (.seq (.seq (.region false [om 8 7,om 9 0,oo 10 (.lenStr (.s 9)),oo 11 (.bin .lss false (.s 8) (.s 10))]) [0,1,5,6,7,11] (.cond (.s 11) (.skip) (.exit 0))) [0,1,5,6,7] (.seq (.block 1 (.seq (.region false [om 14 0,om 15 7,oo 16 (.indexStr (.s 14) (.s 15)),om 17 1,
 oo 18 (.bin .eql false (.s 16) (.s 17))]) [0,1,5,6,7,18] (.cond (.s 18) (.seq (.region false [om 19 5,om 20 0,om 21 6,om 22 7,oo 23 (.sliceStr (.s 20) (some (.s 21)) (some (.s 22))),oo 24 (.buildSlice 1 9 [(.s 23)]),oo 25 (.append 1 9 16 (.s 19) (.s 24)),om 5 25]) [0,1,5,7] (
 .region false [om 26 7,oo 27 (.bin .add false (.s 26) (.c (.int .i64 1))),om 6 27])) (.skip)))) [0,1,5,6,7] (.region false [om 12 7,oo 13 (.bin .add false (.s 12) (.c (.int .i64 1))),om 7 13])))))) [0,5,6] (.seq (.region false [om 28 5,om 29 0,om 30 6,oo 31 (.sliceStr (.s 29) (some (.s 30)) none),
 oo 32 (.buildSlice 1 9 [(.s 31)]),oo 33 (.append 1 9 16 (.s 28) (.s 32)),om 4 33]) [4] (.ret)))))⟩
def tf66 : TFn := ⟨40,[.tmp 2],.seq (.region false [oo 2 (.mov (.c (.bool false)))]) [0] (.seq (.seq (.region false [om 5 0,oo 6 (.lenStr (.s 5)),oo 7 (.bin .lss false (.s 6) (.c (.int .i64 1))),om 8 7,oF 9 8 (.mov (.s 0)),oF 10 8 (.lenStr (.s 9)),
 oF 11 8 (.bin .gtr false (.s 10) (.c (.int .i64 8))),oo 12 (.pick (.s 8) (.c (.bool true)) (.s 11))]) [0,12] (.cond (.s 12) (.seq (.region false [oo 2 (.mov (.c (.bool false)))]) [2] (.ret)) (.skip))) [0] (.seq (.seq (.region false [oo 3 (.mov (.c (.int .i64 0)))]) [0,3] (.block 0 (.loop (.seq (
 .seq (.region false [om 13 3,om 14 0,oo 15 (.lenStr (.s 14)),oo 16 (.bin .lss false (.s 13) (.s 15))]) [0,3,16] (.cond (.s 16) (.skip) (.exit 0))) [0,3] (.seq (.block 1 (.seq (.region false [om 19 0,om 20 3,oo 21 (.indexStr (.s 19) (.s 20)),om 4 21]) [0,3,4] (.seq (.region false [om 22 4,
 oo 23 (.bin .lss false (.s 22) (.c (.int .u8 97))),om 24 23,oF 25 24 (.mov (.s 4)),oF 26 24 (.bin .gtr false (.s 25) (.c (.int .u8 122))),oo 27 (.pick (.s 24) (.c (.bool true)) (.s 26)),om 28 27,oT 29 28 (.mov (.s 4)),oT 30 28 (.bin .lss false (.s 29) (.c (.int .u8 48))),oT 31 28 (.mov (.s 30)),
 oF 32 31 (.mov (.s 4)),oF 33 31 (.bin .gtr false (.s 32) (.c (.int .u8 57))),oT 34 28 (.pick (.s 31) (.c (.bool true)) (.s 33)),oo 35 (.pick (.s 28) (.s 34) (.c (.bool false))),om 36 35,oT 37 36 (.mov (.s 4)),oT 38 36 (.bin .neq false (.s 37) (.c (.int .u8 45))),
 oo 39 (.pick (.s 36) (.s 38) (.c (.bool false)))]) [0,3,39] (.cond (.s 39) (.seq (.region false [oo 2 (.mov (.c (.bool false)))]) [2] (.ret)) (.skip))))) [0,3] (.region false [om 17 3,oo 18 (.bin .add false (.s 17) (.c (.int .i64 1))),om 3 18])))))) [] (.seq (
 .region false [oo 2 (.mov (.c (.bool true)))]) [2] (.ret))))⟩
def tf67 : TFn := ⟨46,[.tmp 2,.tmp 3],.seq (.region false [oo 2 (.mov (.c (.int .i64 0))),oo 3 (.mov (.c (.bool false)))]) [0] (.seq (.seq (.region false [om 6 0,oo 7 (.lenStr (.s 6)),oo 8 (.bin .lss false (.s 7) (.c (.int .i64 1))),om 9 8,oF 10 9 (.mov (.s 0)),oF 11 9 (.lenStr (.s 10)),
 oF 12 9 (.bin .gtr false (.s 11) (.c (.int .i64 9))),oo 13 (.pick (.s 9) (.c (.bool true)) (.s 12)),om 14 13,oF 15 14 (.mov (.s 0)),oF 16 14 (.lenStr (.s 15)),oF 17 14 (.bin .gtr false (.s 16) (.c (.int .i64 1))),oF 18 14 (.mov (.s 17)),oT 19 18 (.mov (.s 0)),
 oT 20 18 (.indexStr (.s 19) (.c (.int .i64 0))),oT 21 18 (.bin .eql false (.s 20) (.c (.int .u8 48))),oF 22 14 (.pick (.s 18) (.s 21) (.c (.bool false))),oo 23 (.pick (.s 14) (.c (.bool true)) (.s 22))]) [0,23] (.cond (.s 23) (.seq (.region false [oo 2 (.mov (.c (.int .i64 0))),
 oo 3 (.mov (.c (.bool false)))]) [2,3] (.ret)) (.skip))) [0] (.seq (.region false [oo 4 (.mov (.c (.int .i64 0)))]) [0,4] (.seq (.seq (.region false [oo 5 (.mov (.c (.int .i64 0)))]) [0,4,5] (.block 0 (.loop (.seq (.seq (.region false [om 24 5,om 25 0,oo 26 (.lenStr (.s 25)),
 oo 27 (.bin .lss false (.s 24) (.s 26))]) [0,4,5,27] (.cond (.s 27) (.skip) (.exit 0))) [0,4,5] (.seq (.block 1 (.seq (.seq (.region false [om 30 0,om 31 5,oo 32 (.indexStr (.s 30) (.s 31)),oo 33 (.call 74 [(.s 32)]),oo 34 (.un .not (.s 33))]) [0,4,5,34] (.cond (.s 34) (.seq (
 .region false [oo 2 (.mov (.c (.int .i64 0))),oo 3 (.mov (.c (.bool false)))]) [2,3] (.ret)) (.skip))) [0,4,5] (.region false [om 35 4,oo 36 (.bin .mul false (.s 35) (.c (.int .i64 10))),om 37 0,om 38 5,oo 39 (.indexStr (.s 37) (.s 38)),oo 40 (.bin .sub false (.s 39) (.c (.int .u8 48))),
 oo 41 (.conv .i64 (.s 40)),oo 42 (.bin .add false (.s 36) (.s 41)),om 4 42]))) [0,4,5] (.region false [om 28 5,oo 29 (.bin .add false (.s 28) (.c (.int .i64 1))),om 5 29])))))) [4] (.seq (.seq (.region false [om 43 4,oo 44 (.bin .gtr false (.s 43) (.c (.int .i64 9999)))]) [4,44] (.cond (.s 44) (
 .seq (.region false [oo 2 (.mov (.c (.int .i64 0))),oo 3 (.mov (.c (.bool false)))]) [2,3] (.ret)) (.skip))) [4] (.seq (.region false [om 45 4,om 2 45,oo 3 (.mov (.c (.bool true)))]) [2,3] (.ret))))))⟩
def tf68 : TFn := ⟨23,[.tmp 2],.seq (.region false [oo 2 (.mov (.c (.bool false)))]) [0] (.seq (.seq (.region false [oo 3 (.mov (.c (.int .i64 0)))]) [0,3] (.block 0 (.loop (.seq (.seq (.region false [om 4 3,om 5 0,oo 6 (.lenStr (.s 5)),oo 7 (.bin .lss false (.s 4) (.s 6))]) [0,3,7] (.cond (.s 7) (
 .skip) (.exit 0))) [0,3] (.seq (.block 1 (.seq (.region false [om 10 0,om 11 3,oo 12 (.indexStr (.s 10) (.s 11)),oo 13 (.bin .lss false (.s 12) (.c (.int .u8 48))),om 14 13,oF 15 14 (.mov (.s 0)),oF 16 14 (.mov (.s 3)),oF 17 14 (.indexStr (.s 15) (.s 16)),
 oF 18 14 (.bin .gtr false (.s 17) (.c (.int .u8 57))),oo 19 (.pick (.s 14) (.c (.bool true)) (.s 18))]) [0,3,19] (.cond (.s 19) (.seq (.region false [oo 2 (.mov (.c (.bool false)))]) [2] (.ret)) (.skip)))) [0,3] (.region false [om 8 3,oo 9 (.bin .add false (.s 8) (.c (.int .i64 1))),
 om 3 9])))))) [0] (.seq (.region false [om 20 0,oo 21 (.lenStr (.s 20)),oo 22 (.bin .gtr false (.s 21) (.c (.int .i64 0))),om 2 22]) [2] (.ret)))⟩
def tf69 : TFn := ⟨47,[.cell 4 true 5,.tmp 5],.seq (.region false [oo 2 (.box 60 (.s 0)),oo 4 (.alloc 60 [(.int .i64 0),(.int .i64 0),(.int .i64 0),(.str []),(.str [])]),oo 5 (.mov (.c (.bool false)))]) [1,2,4] (.seq (.seq (.region false [oL 7 5 2,oo 8 (.call 39 [(.s 7)]),oo 9 (.un .not (.s 8)),
 om 10 9,oF 11 10 (.mov (.s 1)),oF 12 10 (.bin .lss false (.s 11) (.c (.int .i64 0))),oo 13 (.pick (.s 10) (.c (.bool true)) (.s 12)),om 14 13,oF 15 14 (.mov (.s 1)),oF 16 14 (.bin .gtr false (.s 15) (.c (.int .i64 2))),oo 17 (.pick (.s 14) (.c (.bool true)) (.s 16))]) [1,2,4,17] (.cond (.s 17) (
 .seq (.region false [oo 18 (.build [(.int .i64 0),(.int .i64 0),(.int .i64 0),(.str []),(.str [])] []),⟨none,.store 5 (.s 4) (.s 18),none⟩,oo 5 (.mov (.c (.bool false)))]) [4,5] (.ret)) (.skip))) [1,2,4] (.seq (
 .region false [oo 6 (.alloc 60 [(.int .i64 0),(.int .i64 0),(.int .i64 0),(.str []),(.str [])])]) [1,2,4,6] (.seq (.seq (.region false [om 19 1]) [2,4,6,19] (.block 0 (.seq (.region false [oo 29 (.bin .eql false (.s 19) (.c (.int .i64 0))),om 28 29]) [2,4,6,19,28] (.cond (.s 28) (
 .region false [oA 30 0 2,ol 31 1 30,oo 32 (.bin .add false (.s 31) (.c (.int .i64 1))),oo 33 (.build [(.int .i64 0),(.int .i64 0),(.int .i64 0),(.str []),(.str [])] [(0,1,(.s 32))]),⟨none,.store 5 (.s 6) (.s 33),none⟩]) (.seq (.region false [oo 35 (.bin .eql false (.s 19) (.c (.int .i64 1))),
 om 34 35]) [2,4,6,34] (.cond (.s 34) (.region false [oA 36 0 2,ol 37 1 36,oA 38 1 2,ol 39 1 38,oo 40 (.bin .add false (.s 39) (.c (.int .i64 1))),oo 41 (.build [(.int .i64 0),(.int .i64 0),(.int .i64 0),(.str []),(.str [])] [(0,1,(.s 37)),(1,1,(.s 40))]),⟨none,.store 5 (.s 6) (.s 41),none⟩]) (
 .region false [oA 20 0 2,ol 21 1 20,oA 22 1 2,ol 23 1 22,oA 24 2 2,ol 25 1 24,oo 26 (.bin .add false (.s 25) (.c (.int .i64 1))),oo 27 (.build [(.int .i64 0),(.int .i64 0),(.int .i64 0),(.str []),(.str [])] [(0,1,(.s 21)),(1,1,(.s 23)),(2,1,(.s 26))]),
 ⟨none,.store 5 (.s 6) (.s 27),none⟩]))))))) [4,6] (.seq (.seq (.region false [oL 42 5 6,oo 43 (.call 39 [(.s 42)]),oo 44 (.un .not (.s 43))]) [4,6,44] (.cond (.s 44) (.seq (.region false [oo 45 (.build [(.int .i64 0),(.int .i64 0),(.int .i64 0),(.str []),(.str [])] []),
 ⟨none,.store 5 (.s 4) (.s 45),none⟩,oo 5 (.mov (.c (.bool false)))]) [4,5] (.ret)) (.skip))) [4,6] (.seq (.region false [oL 46 5 6,⟨none,.store 5 (.s 4) (.s 46),none⟩,oo 5 (.mov (.c (.bool true)))]) [4,5] (.ret))))))⟩
def tf70 : TFn := ⟨39,[.tmp 2],.seq (.region false [oo 1 (.box 67 (.s 0)),oo 2 (.mov (.c (.bool false)))]) [1] (.seq (.seq (.region false [oA 4 0 1,ol 5 1 4,oo 6 (.call 75 [(.s 5)]),oo 7 (.un .not (.s 6)),om 8 7,oF 9 8 (.fieldAddr 1 (.s 1)),oF 10 8 (.load false 1 (.s 9)),
 oF 11 8 (.call 75 [(.s 10)]),oF 12 8 (.un .not (.s 11)),oo 13 (.pick (.s 8) (.c (.bool true)) (.s 12))]) [1,13] (.cond (.s 13) (.seq (.region false [oo 2 (.mov (.c (.bool false)))]) [2] (.ret)) (.skip))) [1] (.seq (.seq (.region false [oo 3 (.mov (.c (.int .i64 0)))]) [1,3] (.block 0 (.loop (
 .seq (.seq (.region false [om 14 3,oA 15 0 1,ol 16 1 15,oo 17 (.len (.s 16)),oo 18 (.bin .lss false (.s 14) (.s 17))]) [1,3,18] (.cond (.s 18) (.skip) (.exit 0))) [1,3] (.seq (.block 1 (.seq (.region false [oA 21 0 1,ol 22 1 21,om 23 3,oo 24 (.indexAddr 14 (.s 22) (.s 23)),oA 25 0 24,oL 26 7 25,
 oo 27 (.call 76 [(.s 26)]),oo 28 (.un .not (.s 27)),om 29 28,oF 30 29 (.fieldAddr 0 (.s 1)),oF 31 29 (.load false 1 (.s 30)),oF 32 29 (.mov (.s 3)),oF 33 29 (.indexAddr 14 (.s 31) (.s 32)),oF 34 29 (.fieldAddr 7 (.s 33)),oF 35 29 (.load true 7 (.s 34)),oF 36 29 (.call 76 [(.s 35)]),
 oF 37 29 (.un .not (.s 36)),oo 38 (.pick (.s 29) (.c (.bool true)) (.s 37))]) [1,3,38] (.cond (.s 38) (.seq (.region false [oo 2 (.mov (.c (.bool false)))]) [2] (.ret)) (.skip)))) [1,3] (.region false [om 19 3,oo 20 (.bin .add false (.s 19) (.c (.int .i64 1))),om 3 20])))))) [] (.seq (
 .region false [oo 2 (.mov (.c (.bool true)))]) [2] (.ret))))⟩
def tf71 : TFn := ⟨24,[.tmp 4],.seq (.region false [oo 4 (.mov (.c (.fsl [])))]) [0,1] (.seq (.seq (.region false [om 7 0,oo 8 (.call 75 [(.s 7)]),oo 9 (.un .not (.s 8)),om 10 9,oF 11 10 (.mov (.s 1)),oF 12 10 (.call 75 [(.s 11)]),oF 13 10 (.un .not (.s 12)),
 oo 14 (.pick (.s 10) (.c (.bool true)) (.s 13))]) [0,1,14] (.cond (.s 14) (.seq (.region false [oo 4 (.mov (.c (.fsl [])))]) [4] (.ret)) (.skip))) [0,1] (.seq (.region false [om 16 0,oo 17 (.append 14 90 144 (.c (.fsl [])) (.s 16)),om 18 1,oo 19 (.append 14 90 144 (.s 17) (.s 18)),
 oo 20 (.call 77 [(.s 19)]),om 15 20,oe 21 0 15,oe 22 1 15,om 5 21,om 6 22]) [5] (.seq (.region false [om 23 5,om 4 23]) [4] (.ret))))⟩
def tf72 : TFn := ⟨5,[.tmp 0],.seq (.region false [oo 0 (.mov (.c (.fsl [])))]) [] (.seq (.region false [oo 1 (.call 58 []),oo 2 (.call 60 []),
 oo 3 (.build [(.int .i64 0),(.int .i64 0),(.int .i64 0),(.int .i64 0),(.str []),(.str []),(.bool false),(.int .i64 0),(.int .i64 0),(.int .i64 0),(.int .i64 0),(.str []),(.str []),(.bool false)] [(0,7,(.s 1)),(7,7,(.s 2))]),oo 4 (.buildSlice 14 90 [(.s 3)]),om 0 4]) [0] (.ret))⟩
def tf73 : TFn := ⟨42,[.tmp 2],.seq (.region false [oo 2 (.mov (.c (.fsl [])))]) [0] (.seq (.seq (.region false [om 6 0,oo 7 (.call 75 [(.s 6)]),oo 8 (.un .not (.s 7))]) [0,8] (.cond (.s 8) (.seq (.region false [oo 2 (.mov (.c (.fsl [])))]) [2] (.ret)) (.skip))) [0] (.seq (
 .region false [oo 3 (.mov (.c (.fsl [])))]) [0,3] (.seq (.region false [om 9 0,oo 10 (.call 78 [(.s 9)]),om 4 10]) [0,3,4] (.seq (.seq (.region false [oo 5 (.mov (.c (.int .i64 0)))]) [0,3,4,5] (.block 0 (.loop (.seq (.seq (.region false [om 11 5,oo 12 (.bin .add false (.s 11) (.c (.int .i64 1))),
 om 13 4,oo 14 (.len (.s 13)),oo 15 (.bin .lss false (.s 12) (.s 14))]) [0,3,4,5,15] (.cond (.s 15) (.skip) (.exit 0))) [0,3,4,5] (.seq (.block 1 (.seq (.region true [om 18 0,om 19 4,om 20 5,oo 21 (.indexAddr 7 (.s 19) (.s 20)),oL 22 7 21,om 23 4,om 24 5,
 oo 25 (.bin .add false (.s 24) (.c (.int .i64 1))),oo 26 (.indexAddr 7 (.s 23) (.s 25)),oL 27 7 26,oo 28 (.call 79 [(.s 18),(.s 22),(.s 27)]),oo 29 (.un .not (.s 28))]) [0,3,4,5,29] (.cond (.s 29) (.region true [om 30 3,om 31 4,om 32 5,oo 33 (.indexAddr 7 (.s 31) (.s 32)),oL 34 7 33,om 35 4,
 om 36 5,oo 37 (.bin .add false (.s 36) (.c (.int .i64 1))),oo 38 (.indexAddr 7 (.s 35) (.s 37)),oL 39 7 38,oo 40 (.call 80 [(.s 30),(.s 34),(.s 39)]),om 3 40]) (.skip)))) [0,3,4,5] (.region false [om 16 5,oo 17 (.bin .add false (.s 16) (.c (.int .i64 1))),om 5 17])))))) [3] (.seq (
 .region false [om 41 3,om 2 41]) [2] (.ret))))))⟩
def tf74 : TFn := ⟨9,[.tmp 2],.seq (.region false [oo 2 (.mov (.c (.bool false)))]) [0] (.seq (.region false [om 3 0,oo 4 (.bin .geq false (.s 3) (.c (.int .u8 48))),om 5 4,oT 6 5 (.mov (.s 0)),oT 7 5 (.bin .leq false (.s 6) (.c (.int .u8 57))),oo 8 (.pick (.s 5) (.s 7) (.c (.bool false))),
 om 2 8]) [2] (.ret))⟩
def tf75 : TFn := ⟨35,[.tmp 2],.seq (.region false [oo 2 (.mov (.c (.bool false)))]) [0] (.seq (.seq (.region false [oo 3 (.mov (.c (.int .i64 0)))]) [0,3] (.block 0 (.loop (.seq (.seq (.region false [om 4 3,om 5 0,oo 6 (.len (.s 5)),oo 7 (.bin .lss false (.s 4) (.s 6))]) [0,3,7] (.cond (.s 7) (
 .skip) (.exit 0))) [0,3] (.seq (.block 1 (.seq (.region true [om 10 0,om 11 3,oo 12 (.indexAddr 14 (.s 10) (.s 11)),oL 13 14 12,oo 14 (.call 81 [(.s 13)]),oo 15 (.un .not (.s 14)),om 16 15,oF 17 16 (.mov (.s 3)),oF 18 16 (.bin .gtr false (.s 17) (.c (.int .i64 0))),oF 19 16 (.mov (.s 18)),
 oT 20 19 (.mov (.s 0)),oT 21 19 (.mov (.s 3)),oT 22 19 (.bin .sub false (.s 21) (.c (.int .i64 1))),oT 23 19 (.indexAddr 14 (.s 20) (.s 22)),oT 24 19 (.fieldAddr 7 (.s 23)),oT 25 19 (.load true 7 (.s 24)),oT 26 19 (.mov (.s 0)),oT 27 19 (.mov (.s 3)),oT 28 19 (.indexAddr 14 (.s 26) (.s 27)),
 oT 29 19 (.fieldAddr 0 (.s 28)),oT 30 19 (.load true 7 (.s 29)),oT 31 19 (.call 82 [(.s 25),(.s 30)]),oT 32 19 (.bin .geq false (.s 31) (.c (.int .i64 0))),oF 33 16 (.pick (.s 19) (.s 32) (.c (.bool false))),oo 34 (.pick (.s 16) (.c (.bool true)) (.s 33))]) [0,3,34] (.cond (.s 34) (.seq (
 .region false [oo 2 (.mov (.c (.bool false)))]) [2] (.ret)) (.skip)))) [0,3] (.region false [om 8 3,oo 9 (.bin .add false (.s 8) (.c (.int .i64 1))),om 3 9])))))) [] (.seq (.region false [oo 2 (.mov (.c (.bool true)))]) [2] (.ret)))⟩
def tf76 : TFn := ⟨23,[.tmp 2],.seq (.region false [oo 1 (.box 87 (.s 0)),oo 2 (.mov (.c (.bool false)))]) [1] (.seq (.region false [oA 3 0 1,ol 4 1 3,oo 5 (.bin .neq false (.s 4) (.c (.int .i64 0))),om 6 5,oF 7 6 (.fieldAddr 6 (.s 1)),oF 8 6 (.load false 1 (.s 7)),oF 9 6 (.un .not (.s 8)),
 oF 10 6 (.mov (.s 9)),oT 11 10 (.fieldAddr 1 (.s 1)),oT 12 10 (.fieldAddr 3 (.s 11)),oT 13 10 (.load false 1 (.s 12)),oT 14 10 (.bin .eql false (.s 13) (.c (.str []))),oF 15 6 (.pick (.s 10) (.s 14) (.c (.bool false))),oF 16 6 (.mov (.s 15)),oT 17 16 (.fieldAddr 1 (.s 1)),
 oT 18 16 (.load true 5 (.s 17)),oT 19 16 (.call 57 [(.s 18)]),oT 20 16 (.un .not (.s 19)),oF 21 6 (.pick (.s 16) (.s 20) (.c (.bool false))),oo 22 (.pick (.s 6) (.c (.bool true)) (.s 21)),om 2 22]) [2] (.ret))⟩
def tf77 : TFn := ⟨52,[.tmp 2,.tmp 3],.seq (.region false [oo 2 (.mov (.c (.fsl []))),oo 3 (.mov (.c (.bool false)))]) [0] (.seq (.seq (.region false [oo 4 (.mov (.c (.int .i64 0)))]) [0,4] (.block 0 (.loop (.seq (.seq (.region false [om 8 4,om 9 0,oo 10 (.len (.s 9)),
 oo 11 (.bin .lss false (.s 8) (.s 10))]) [0,4,11] (.cond (.s 11) (.skip) (.exit 0))) [0,4] (.seq (.block 1 (.seq (.region false [om 14 0,om 15 4,oo 16 (.indexAddr 14 (.s 14) (.s 15)),oL 17 14 16,oo 18 (.call 81 [(.s 17)]),oo 19 (.un .not (.s 18))]) [0,4,19] (.cond (.s 19) (.seq (
 .region false [oo 2 (.mov (.c (.fsl []))),oo 3 (.mov (.c (.bool false)))]) [2,3] (.ret)) (.skip)))) [0,4] (.region false [om 12 4,oo 13 (.bin .add false (.s 12) (.c (.int .i64 1))),om 4 13])))))) [0] (.seq (.region false [oo 5 (.mov (.c (.fsl [])))]) [0,5] (.seq (.region false [om 20 0,
 oo 21 (.call 78 [(.s 20)]),om 6 21]) [0,5,6] (.seq (.seq (.region false [oo 7 (.mov (.c (.int .i64 0)))]) [0,5,6,7] (.block 2 (.loop (.seq (.seq (.region false [om 22 7,oo 23 (.bin .add false (.s 22) (.c (.int .i64 1))),om 24 6,oo 25 (.len (.s 24)),
 oo 26 (.bin .lss false (.s 23) (.s 25))]) [0,5,6,7,26] (.cond (.s 26) (.skip) (.exit 2))) [0,5,6,7] (.seq (.block 3 (.seq (.region true [om 29 0,om 30 6,om 31 7,oo 32 (.indexAddr 7 (.s 30) (.s 31)),oL 33 7 32,om 34 6,om 35 7,oo 36 (.bin .add false (.s 35) (.c (.int .i64 1))),
 oo 37 (.indexAddr 7 (.s 34) (.s 36)),oL 38 7 37,oo 39 (.call 79 [(.s 29),(.s 33),(.s 38)])]) [0,5,6,7,39] (.cond (.s 39) (.region true [om 40 5,om 41 6,om 42 7,oo 43 (.indexAddr 7 (.s 41) (.s 42)),oL 44 7 43,om 45 6,om 46 7,oo 47 (.bin .add false (.s 46) (.c (.int .i64 1))),
 oo 48 (.indexAddr 7 (.s 45) (.s 47)),oL 49 7 48,oo 50 (.call 80 [(.s 40),(.s 44),(.s 49)]),om 5 50]) (.skip)))) [0,5,6,7] (.region false [om 27 7,oo 28 (.bin .add false (.s 27) (.c (.int .i64 1))),om 7 28])))))) [5] (.seq (.region false [om 51 5,om 2 51,oo 3 (.mov (.c (.bool true)))]) [2,3] (
 .ret))))))⟩
def tf78 : TFn := ⟨28,[.tmp 2],.seq (.region false [oo 2 (.mov (.c (.fsl [])))]) [0] (.seq (.region false [oo 5 (.call 58 []),oo 6 (.call 60 []),oo 7 (.buildSlice 7 87 [(.s 5),(.s 6)]),om 3 7]) [0,3] (.seq (.seq (.region false [oo 4 (.mov (.c (.int .i64 0)))]) [0,3,4] (.block 0 (.loop (.seq (.seq (
 .region false [om 8 4,om 9 0,oo 10 (.len (.s 9)),oo 11 (.bin .lss false (.s 8) (.s 10))]) [0,3,4,11] (.cond (.s 11) (.skip) (.exit 0))) [0,3,4] (.seq (.block 1 (.region true [om 14 3,om 15 0,om 16 4,oo 17 (.indexAddr 14 (.s 15) (.s 16)),oA 18 0 17,oL 19 7 18,oo 20 (.call 83 [(.s 14),(.s 19)]),
 om 21 0,om 22 4,oo 23 (.indexAddr 14 (.s 21) (.s 22)),oA 24 7 23,oL 25 7 24,oo 26 (.call 83 [(.s 20),(.s 25)]),om 3 26])) [0,3,4] (.region false [om 12 4,oo 13 (.bin .add false (.s 12) (.c (.int .i64 1))),om 4 13])))))) [3] (.seq (.region false [om 27 3,om 2 27]) [2] (.ret))))⟩
def tf79 : TFn := ⟨32,[.tmp 6],.seq (.region false [oo 4 (.box 87 (.s 1)),oo 5 (.box 87 (.s 2)),oo 6 (.mov (.c (.bool false)))]) [0,4,5] (.seq (.seq (.region false [oo 7 (.mov (.c (.int .i64 0)))]) [0,4,5,7] (.block 0 (.loop (.seq (.seq (.region false [om 8 7,om 9 0,oo 10 (.len (.s 9)),
 oo 11 (.bin .lss false (.s 8) (.s 10))]) [0,4,5,7,11] (.cond (.s 11) (.skip) (.exit 0))) [0,4,5,7] (.seq (.block 1 (.seq (.region true [om 14 0,om 15 7,oo 16 (.indexAddr 14 (.s 14) (.s 15)),oA 17 0 16,oL 18 7 17,oL 19 7 4,oo 20 (.call 82 [(.s 18),(.s 19)]),
 oo 21 (.bin .leq false (.s 20) (.c (.int .i64 0))),om 22 21,oT 23 22 (.load true 7 (.s 5)),oT 24 22 (.mov (.s 0)),oT 25 22 (.mov (.s 7)),oT 26 22 (.indexAddr 14 (.s 24) (.s 25)),oT 27 22 (.fieldAddr 7 (.s 26)),oT 28 22 (.load true 7 (.s 27)),oT 29 22 (.call 82 [(.s 23),(.s 28)]),
 oT 30 22 (.bin .leq false (.s 29) (.c (.int .i64 0))),oo 31 (.pick (.s 22) (.s 30) (.c (.bool false)))]) [0,4,5,7,31] (.cond (.s 31) (.seq (.region false [oo 6 (.mov (.c (.bool true)))]) [6] (.ret)) (.skip)))) [0,4,5,7] (.region false [om 12 7,oo 13 (.bin .add false (.s 12) (.c (.int .i64 1))),
 om 7 13])))))) [] (.seq (.region false [oo 6 (.mov (.c (.bool false)))]) [6] (.ret)))⟩
def tf80 : TFn := ⟨35,[.tmp 6],.seq (.region false [oo 4 (.box 87 (.s 1)),oo 5 (.box 87 (.s 2)),oo 6 (.mov (.c (.fsl [])))]) [0,4,5] (.seq (.seq (.region false [om 8 0,oo 9 (.len (.s 8)),oo 10 (.bin .sub false (.s 9) (.c (.int .i64 1))),om 7 10]) [0,4,5,7] (.seq (.region true [om 11 7,
 oo 12 (.bin .geq false (.s 11) (.c (.int .i64 0))),om 13 12,oT 14 13 (.mov (.s 0)),oT 15 13 (.mov (.s 7)),oT 16 13 (.indexAddr 14 (.s 14) (.s 15)),oT 17 13 (.fieldAddr 7 (.s 16)),oT 18 13 (.load true 7 (.s 17)),oT 19 13 (.load true 7 (.s 4)),oT 20 13 (.call 82 [(.s 18),(.s 19)]),
 oT 21 13 (.bin .eql false (.s 20) (.c (.int .i64 0))),oo 22 (.pick (.s 13) (.s 21) (.c (.bool false)))]) [0,4,5,7,22] (.cond (.s 22) (.seq (.region false [om 23 0,om 24 7,oL 25 7 5,oo 26 (.indexAddr 14 (.s 23) (.s 24)),oA 27 7 26,⟨none,.store 7 (.s 27) (.s 25),none⟩]) [0] (.seq (
 .region false [om 28 0,om 6 28]) [6] (.ret))) (.skip)))) [0,4,5] (.seq (.region false [om 29 0,oL 30 7 4,oL 31 7 5,
 oo 32 (.build [(.int .i64 0),(.int .i64 0),(.int .i64 0),(.int .i64 0),(.str []),(.str []),(.bool false),(.int .i64 0),(.int .i64 0),(.int .i64 0),(.int .i64 0),(.str []),(.str []),(.bool false)] [(0,7,(.s 30)),(7,7,(.s 31))]),oo 33 (.buildSlice 14 90 [(.s 32)]),
 oo 34 (.append 14 90 144 (.s 29) (.s 33)),om 6 34]) [6] (.ret)))⟩
def tf81 : TFn := ⟨19,[.tmp 2],.seq (.region false [oo 1 (.box 90 (.s 0)),oo 2 (.mov (.c (.bool false)))]) [1] (.seq (.region false [oA 3 0 1,oL 4 7 3,oo 5 (.call 84 [(.s 4)]),om 6 5,oT 7 6 (.fieldAddr 7 (.s 1)),oT 8 6 (.load true 7 (.s 7)),oT 9 6 (.call 84 [(.s 8)]),
 oo 10 (.pick (.s 6) (.s 9) (.c (.bool false))),om 11 10,oT 12 11 (.fieldAddr 0 (.s 1)),oT 13 11 (.load true 7 (.s 12)),oT 14 11 (.fieldAddr 7 (.s 1)),oT 15 11 (.load true 7 (.s 14)),oT 16 11 (.call 82 [(.s 13),(.s 15)]),oT 17 11 (.bin .lss false (.s 16) (.c (.int .i64 0))),
 oo 18 (.pick (.s 11) (.s 17) (.c (.bool false))),om 2 18]) [2] (.ret))⟩
def tf82 : TFn := ⟨46,[.tmp 4],.seq (.region false [oo 2 (.box 87 (.s 0)),oo 3 (.box 87 (.s 1)),oo 4 (.mov (.c (.int .i64 0)))]) [2,3] (.seq (.seq (.region false [oL 6 7 2,oo 7 (.call 84 [(.s 6)]),oo 8 (.un .not (.s 7)),om 9 8,oF 10 9 (.load true 7 (.s 3)),oF 11 9 (.call 84 [(.s 10)]),
 oF 12 9 (.un .not (.s 11)),oo 13 (.pick (.s 9) (.c (.bool true)) (.s 12))]) [2,3,13] (.cond (.s 13) (.seq (.region false [oo 4 (.mov (.c (.int .i64 0)))]) [4] (.ret)) (.skip))) [2,3] (.seq (.seq (.region false [oA 14 0 2,ol 15 1 14,oA 16 0 3,ol 17 1 16,oo 18 (.bin .neq false (.s 15) (.s 17)),
 om 19 18,oF 20 19 (.fieldAddr 0 (.s 2)),oF 21 19 (.load false 1 (.s 20)),oF 22 19 (.bin .neq false (.s 21) (.c (.int .i64 0))),oo 23 (.pick (.s 19) (.c (.bool true)) (.s 22))]) [2,3,23] (.cond (.s 23) (.seq (.region false [oA 24 0 2,ol 25 1 24,oA 26 0 3,ol 27 1 26,
 oo 28 (.call 85 [(.s 25),(.s 27)]),om 4 28]) [4] (.ret)) (.skip))) [2,3] (.seq (.seq (.region false [oA 29 1 2,oL 30 5 29,oA 31 1 3,oL 32 5 31,oo 33 (.call 86 [(.s 30),(.s 32)]),om 5 33]) [2,3,5] (.seq (.region false [om 34 5,oo 35 (.bin .neq false (.s 34) (.c (.int .i64 0)))]) [2,3,5,35] (
 .cond (.s 35) (.seq (.region false [om 36 5,om 4 36]) [4] (.ret)) (.skip)))) [2,3] (.seq (.block 0 (.seq (.region false [oA 38 6 2,ol 39 1 38,oA 40 6 3,ol 41 1 40,oo 42 (.bin .eql true (.s 39) (.s 41)),om 37 42]) [3,37] (.cond (.s 37) (.seq (.region false [oo 4 (.mov (.c (.int .i64 0)))]) [4] (
 .ret)) (.seq (.region false [oA 44 6 3,ol 45 1 44,om 43 45]) [43] (.cond (.s 43) (.seq (.region false [oo 4 (.mov (.c (.int .i64 (-1))))]) [4] (.ret)) (.skip)))))) [] (.seq (.region false [oo 4 (.mov (.c (.int .i64 1)))]) [4] (.ret))))))⟩
def tf83 : TFn := ⟨46,[.tmp 4],.seq (.region false [oo 3 (.box 87 (.s 1)),oo 4 (.mov (.c (.fsl [])))]) [0,3] (.seq (.region false [oo 5 (.mov (.c (.int .i64 0)))]) [0,3,5] (.seq (.block 0 (.loop (.seq (.seq (.region true [om 6 5,om 7 0,oo 8 (.len (.s 7)),oo 9 (.bin .lss false (.s 6) (.s 8)),
 om 10 9,oT 11 10 (.mov (.s 0)),oT 12 10 (.mov (.s 5)),oT 13 10 (.indexAddr 7 (.s 11) (.s 12)),oT 14 10 (.load true 7 (.s 13)),oT 15 10 (.load true 7 (.s 3)),oT 16 10 (.call 82 [(.s 14),(.s 15)]),oT 17 10 (.bin .lss false (.s 16) (.c (.int .i64 0))),
 oo 18 (.pick (.s 10) (.s 17) (.c (.bool false)))]) [0,3,5,18] (.cond (.s 18) (.skip) (.exit 0))) [0,3,5] (.block 1 (.region false [om 19 5,oo 20 (.bin .add false (.s 19) (.c (.int .i64 1))),om 5 20]))))) [0,3,5] (.seq (.seq (.region true [om 21 5,om 22 0,oo 23 (.len (.s 22)),
 oo 24 (.bin .lss false (.s 21) (.s 23)),om 25 24,oT 26 25 (.mov (.s 0)),oT 27 25 (.mov (.s 5)),oT 28 25 (.indexAddr 7 (.s 26) (.s 27)),oT 29 25 (.load true 7 (.s 28)),oT 30 25 (.load true 7 (.s 3)),oT 31 25 (.call 82 [(.s 29),(.s 30)]),oT 32 25 (.bin .eql false (.s 31) (.c (.int .i64 0))),
 oo 33 (.pick (.s 25) (.s 32) (.c (.bool false)))]) [0,3,5,33] (.cond (.s 33) (.seq (.region false [om 34 0,om 4 34]) [4] (.ret)) (.skip))) [0,3,5] (.seq (.region true [om 35 0,om 36 5,oo 37 (.slice 7 (.s 35) none (some (.s 36)) none),oo 38 (.append 7 87 72 (.c (.fsl [])) (.s 37)),oL 39 7 3,
 oo 40 (.buildSlice 7 87 [(.s 39)]),oo 41 (.append 7 87 72 (.s 38) (.s 40)),om 42 0,om 43 5,oo 44 (.slice 7 (.s 42) (some (.s 43)) none none),oo 45 (.append 7 87 72 (.s 41) (.s 44)),om 4 45]) [4] (.ret)))))⟩
def tf84 : TFn := ⟨34,[.tmp 2],.seq (.region false [oo 1 (.box 87 (.s 0)),oo 2 (.mov (.c (.bool false)))]) [1] (.seq (.seq (.region false [oA 3 0 1,ol 4 1 3,oo 5 (.bin .eql false (.s 4) (.c (.int .i64 0)))]) [1,5] (.cond (.s 5) (.seq (.region false [oA 6 1 1,oL 7 5 6,oo 8 (.call 39 [(.s 7)]),
 om 9 8,oT 10 9 (.fieldAddr 1 (.s 1)),oT 11 9 (.fieldAddr 4 (.s 10)),oT 12 9 (.load false 1 (.s 11)),oT 13 9 (.bin .eql false (.s 12) (.c (.str []))),oo 14 (.pick (.s 9) (.s 13) (.c (.bool false))),om 2 14]) [2] (.ret)) (.skip))) [1] (.seq (.region false [oA 15 0 1,ol 16 1 15,
 oo 17 (.bin .eql false (.s 16) (.c (.int .i64 (-1)))),om 18 17,oF 19 18 (.fieldAddr 0 (.s 1)),oF 20 18 (.load false 1 (.s 19)),oF 21 18 (.bin .eql false (.s 20) (.c (.int .i64 1))),oo 22 (.pick (.s 18) (.c (.bool true)) (.s 21)),om 23 22,oT 24 23 (.fieldAddr 1 (.s 1)),
 oT 25 23 (.load true 5 (.s 24)),oT 26 23 (.build [(.int .i64 0),(.int .i64 0),(.int .i64 0),(.str []),(.str [])] []),oT 27 23 (.eqs false [0,0,0,2,2] (.s 25) (.s 26)),oo 28 (.pick (.s 23) (.s 27) (.c (.bool false))),om 29 28,oT 30 29 (.fieldAddr 6 (.s 1)),oT 31 29 (.load false 1 (.s 30)),
 oT 32 29 (.un .not (.s 31)),oo 33 (.pick (.s 29) (.s 32) (.c (.bool false))),om 2 33]) [2] (.ret)))⟩
def tf85 : TFn := ⟨13,[.tmp 4],.seq (.region false [oo 4 (.mov (.c (.int .i64 0)))]) [0,1] (.seq (.block 0 (.seq (.region false [om 6 0,om 7 1,oo 8 (.bin .lss false (.s 6) (.s 7)),om 5 8]) [0,1,5] (.cond (.s 5) (.seq (.region false [oo 4 (.mov (.c (.int .i64 (-1))))]) [4] (.ret)) (.seq (
 .region false [om 10 0,om 11 1,oo 12 (.bin .gtr false (.s 10) (.s 11)),om 9 12]) [9] (.cond (.s 9) (.seq (.region false [oo 4 (.mov (.c (.int .i64 1)))]) [4] (.ret)) (.skip)))))) [] (.seq (.region false [oo 4 (.mov (.c (.int .i64 0)))]) [4] (.ret)))⟩
def tf86 : TFn := ⟨45,[.tmp 4],.seq (.region false [oo 2 (.box 60 (.s 0)),oo 3 (.box 60 (.s 1)),oo 4 (.mov (.c (.int .i64 0)))]) [2,3] (.seq (.seq (.region false [oL 8 5 2,oo 9 (.call 39 [(.s 8)]),oo 10 (.un .not (.s 9)),om 11 10,oF 12 11 (.load true 5 (.s 3)),oF 13 11 (.call 39 [(.s 12)]),
 oF 14 11 (.un .not (.s 13)),oo 15 (.pick (.s 11) (.c (.bool true)) (.s 14))]) [2,3,15] (.cond (.s 15) (.seq (.region false [oo 4 (.mov (.c (.int .i64 0)))]) [4] (.ret)) (.skip))) [2,3] (.seq (.seq (.region false [oA 16 0 2,ol 17 1 16,oA 18 0 3,ol 19 1 18,oo 20 (.call 85 [(.s 17),(.s 19)]),
 om 5 20]) [2,3,5] (.seq (.region false [om 21 5,oo 22 (.bin .neq false (.s 21) (.c (.int .i64 0)))]) [2,3,5,22] (.cond (.s 22) (.seq (.region false [om 23 5,om 4 23]) [4] (.ret)) (.skip)))) [2,3] (.seq (.seq (.region false [oA 24 1 2,ol 25 1 24,oA 26 1 3,ol 27 1 26,
 oo 28 (.call 85 [(.s 25),(.s 27)]),om 6 28]) [2,3,6] (.seq (.region false [om 29 6,oo 30 (.bin .neq false (.s 29) (.c (.int .i64 0)))]) [2,3,6,30] (.cond (.s 30) (.seq (.region false [om 31 6,om 4 31]) [4] (.ret)) (.skip)))) [2,3] (.seq (.seq (.region false [oA 32 2 2,ol 33 1 32,oA 34 2 3,
 ol 35 1 34,oo 36 (.call 85 [(.s 33),(.s 35)]),om 7 36]) [2,3,7] (.seq (.region false [om 37 7,oo 38 (.bin .neq false (.s 37) (.c (.int .i64 0)))]) [2,3,7,38] (.cond (.s 38) (.seq (.region false [om 39 7,om 4 39]) [4] (.ret)) (.skip)))) [2,3] (.seq (.region false [oA 40 3 2,ol 41 1 40,oA 42 3 3,
 ol 43 1 42,oo 44 (.call 87 [(.s 41),(.s 43)]),om 4 44]) [4] (.ret))))))⟩
def tf87 : TFn := ⟨52,[.tmp 4],.seq (.region false [oo 4 (.mov (.c (.int .i64 0)))]) [0,1] (.seq (.block 0 (.seq (.region false [om 10 0,om 11 1,oo 12 (.bin .eql false (.s 10) (.s 11)),om 9 12]) [0,1,9] (.cond (.s 9) (.seq (.region false [oo 4 (.mov (.c (.int .i64 0)))]) [4] (.ret)) (.seq (
 .region false [om 14 0,oo 15 (.bin .eql false (.s 14) (.c (.str []))),om 13 15]) [0,1,13] (.cond (.s 13) (.seq (.region false [oo 4 (.mov (.c (.int .i64 1)))]) [4] (.ret)) (.seq (.region false [om 17 1,oo 18 (.bin .eql false (.s 17) (.c (.str []))),om 16 18]) [0,1,16] (.cond (.s 16) (.seq (
 .region false [oo 4 (.mov (.c (.int .i64 (-1))))]) [4] (.ret)) (.skip)))))))) [0,1] (.seq (.region false [om 19 0,oo 20 (.call 65 [(.s 19),(.c (.int .u8 46))]),om 21 1,oo 22 (.call 65 [(.s 21),(.c (.int .u8 46))]),om 5 20,om 6 22]) [5,6] (.seq (.seq (
 .region false [oo 7 (.mov (.c (.int .i64 0)))]) [5,6,7] (.block 1 (.loop (.seq (.seq (.region false [om 23 7,om 24 5,oo 25 (.len (.s 24)),oo 26 (.bin .lss false (.s 23) (.s 25)),om 27 26,oT 28 27 (.mov (.s 7)),oT 29 27 (.mov (.s 6)),oT 30 27 (.len (.s 29)),
 oT 31 27 (.bin .lss false (.s 28) (.s 30)),oo 32 (.pick (.s 27) (.s 31) (.c (.bool false)))]) [5,6,7,32] (.cond (.s 32) (.skip) (.exit 1))) [5,6,7] (.seq (.block 2 (.seq (.region true [om 35 5,om 36 7,oo 37 (.indexAddr 1 (.s 35) (.s 36)),ol 38 1 37,om 39 6,om 40 7,
 oo 41 (.indexAddr 1 (.s 39) (.s 40)),ol 42 1 41,oo 43 (.call 88 [(.s 38),(.s 42)]),om 8 43]) [5,6,7,8] (.seq (.region false [om 44 8,oo 45 (.bin .neq false (.s 44) (.c (.int .i64 0)))]) [5,6,7,8,45] (.cond (.s 45) (.seq (.region false [om 46 8,om 4 46]) [4] (.ret)) (.skip))))) [5,6,7] (
 .region false [om 33 7,oo 34 (.bin .add false (.s 33) (.c (.int .i64 1))),om 7 34])))))) [5,6] (.seq (.region false [om 47 5,oo 48 (.len (.s 47)),om 49 6,oo 50 (.len (.s 49)),oo 51 (.call 85 [(.s 48),(.s 50)]),om 4 51]) [4] (.ret)))))⟩
def tf88 : TFn := ⟨40,[.tmp 4],.seq (.region false [oo 4 (.mov (.c (.int .i64 0)))]) [0,1] (.seq (.region false [om 11 0,oo 12 (.call 68 [(.s 11)]),om 13 1,oo 14 (.call 68 [(.s 13)]),om 5 12,om 6 14]) [0,1,5,6] (.seq (.block 0 (.seq (.region false [om 16 5,om 17 16,oT 18 17 (.mov (.s 6)),
 oo 19 (.pick (.s 17) (.s 18) (.c (.bool false))),om 15 19]) [0,1,5,6,15] (.cond (.s 15) (.seq (.region false [om 21 0,oo 22 (.call 67 [(.s 21)]),om 20 22,oe 23 0 20,oe 24 1 20,om 7 23,om 8 24]) [1,7] (.seq (.region false [om 26 1,oo 27 (.call 67 [(.s 26)]),om 25 27,oe 28 0 25,oe 29 1 25,om 9 28,
 om 10 29]) [7,9] (.seq (.region false [om 30 7,om 31 9,oo 32 (.call 85 [(.s 30),(.s 31)]),om 4 32]) [4] (.ret)))) (.seq (.region false [om 34 5,om 33 34]) [0,1,6,33] (.cond (.s 33) (.seq (.region false [oo 4 (.mov (.c (.int .i64 (-1))))]) [4] (.ret)) (.seq (.region false [om 36 6,
 om 35 36]) [0,1,35] (.cond (.s 35) (.seq (.region false [oo 4 (.mov (.c (.int .i64 1)))]) [4] (.ret)) (.skip)))))))) [0,1] (.seq (.region false [om 37 0,om 38 1,oo 39 (.call 89 [(.s 37),(.s 38)]),om 4 39]) [4] (.ret))))⟩
def tf89 : TFn := ⟨13,[.tmp 4],.seq (.region false [oo 4 (.mov (.c (.int .i64 0)))]) [0,1] (.seq (.block 0 (.seq (.region false [om 6 0,om 7 1,oo 8 (.bin .lss false (.s 6) (.s 7)),om 5 8]) [0,1,5] (.cond (.s 5) (.seq (.region false [oo 4 (.mov (.c (.int .i64 (-1))))]) [4] (.ret)) (.seq (
 .region false [om 10 0,om 11 1,oo 12 (.bin .gtr false (.s 10) (.s 11)),om 9 12]) [9] (.cond (.s 9) (.seq (.region false [oo 4 (.mov (.c (.int .i64 1)))]) [4] (.ret)) (.skip)))))) [] (.seq (.region false [oo 4 (.mov (.c (.int .i64 0)))]) [4] (.ret)))⟩
theorem tp4 : QI Try.prog Try.f4 = some tf4.erase := by kernel_rfl
theorem tp5 : QI Try.prog Try.f5 = some tf5.erase := by kernel_rfl
theorem tp6 : QI Try.prog Try.f6 = some tf6.erase := by kernel_rfl
theorem tp8 : QI Try.prog Try.f8 = some tf8.erase := by kernel_rfl
theorem Qq1 : QI Try.prog Try.f10 = some tf10.erase := by kernel_rfl
theorem Qq2 : QI Try.prog Try.f12 = some tf12.erase := by kernel_rfl
theorem Qq3 : QI Try.prog Try.f13 = some tf13.erase := by kernel_rfl
theorem Qq4 : QI Try.prog Try.f14 = some tf14.erase := by kernel_rfl
theorem Qq5 : QI Try.prog Try.f15 = some tf15.erase := by kernel_rfl
theorem Qq6 : QI Try.prog Try.f16 = some tf16.erase := by kernel_rfl
theorem Qq7 : QI Try.prog Try.f17 = some tf17.erase := by kernel_rfl
theorem Qq8 : QI Try.prog Try.f18 = some tf18.erase := by kernel_rfl
theorem Qq9 : QI Try.prog Try.f19 = some tf19.erase := by kernel_rfl
theorem Qra : QI Try.prog Try.f20 = some tf20.erase := by kernel_rfl
theorem Qrb : QI Try.prog Try.f21 = some tf21.erase := by kernel_rfl
theorem Qrc : QI Try.prog Try.f22 = some tf22.erase := by kernel_rfl
theorem Qrd : QI Try.prog Try.f23 = some tf23.erase := by kernel_rfl
theorem Qre : QI Try.prog Try.f24 = some tf24.erase := by kernel_rfl
theorem Qrf : QI Try.prog Try.f25 = some tf25.erase := by kernel_rfl
theorem Qrg : QI Try.prog Try.f26 = some tf26.erase := by kernel_rfl
theorem Qrh : QI Try.prog Try.f29 = some tf29.erase := by kernel_rfl
theorem Qri : QI Try.prog Try.f31 = some tf31.erase := by kernel_rfl
theorem Qrj : QI Try.prog Try.f32 = some tf32.erase := by kernel_rfl
theorem Qrk : QI Try.prog Try.f33 = some tf33.erase := by kernel_rfl
theorem Qrl : QI Try.prog Try.f34 = some tf34.erase := by kernel_rfl
theorem Qrm : QI Try.prog Try.f35 = some tf35.erase := by kernel_rfl
theorem Qrn : QI Try.prog Try.f36 = some tf36.erase := by kernel_rfl
theorem Qro : QI Try.prog Try.f37 = some tf37.erase := by kernel_rfl
theorem Qrp : QI Try.prog Try.f38 = some tf38.erase := by kernel_rfl
theorem Qrq : QI Try.prog Try.f39 = some tf39.erase := by kernel_rfl
theorem Qrr : QI Try.prog Try.f40 = some tf40.erase := by kernel_rfl
theorem Qrs : QI Try.prog Try.f41 = some tf41.erase := by kernel_rfl
theorem Qrt : QI Try.prog Try.f42 = some tf42.erase := by kernel_rfl
theorem Qru : QI Try.prog Try.f43 = some tf43.erase := by kernel_rfl
theorem Qrv : QI Try.prog Try.f44 = some tf44.erase := by kernel_rfl
theorem Qrw : QI Try.prog Try.f45 = some tf45.erase := by kernel_rfl
theorem Qrx : QI Try.prog Try.f46 = some tf46.erase := by kernel_rfl
theorem Qry : QI Try.prog Try.f49 = some tf49.erase := by kernel_rfl
theorem Qrz : QI Try.prog Try.f50 = some tf50.erase := by kernel_rfl
theorem QrA : QI Try.prog Try.f51 = some tf51.erase := by kernel_rfl
theorem QrB : QI Try.prog Try.f52 = some tf52.erase := by kernel_rfl
theorem QrC : QI Try.prog Try.f53 = some tf53.erase := by kernel_rfl
theorem QrD : QI Try.prog Try.f54 = some tf54.erase := by kernel_rfl
theorem QrE : QI Try.prog Try.f55 = some tf55.erase := by kernel_rfl
theorem QrF : QI Try.prog Try.f56 = some tf56.erase := by kernel_rfl
theorem QrG : QI Try.prog Try.f57 = some tf57.erase := by kernel_rfl
theorem QrH : QI Try.prog Try.f58 = some tf58.erase := by kernel_rfl
theorem QrI : QI Try.prog Try.f59 = some tf59.erase := by kernel_rfl
theorem QrJ : QI Try.prog Try.f60 = some tf60.erase := by kernel_rfl
theorem QrK : QI Try.prog Try.f61 = some tf61.erase := by kernel_rfl
theorem QrL : QI Try.prog Try.f62 = some tf62.erase := by kernel_rfl
theorem QrM : QI Try.prog Try.f63 = some tf63.erase := by kernel_rfl
theorem QrN : QI Try.prog Try.f64 = some tf64.erase := by kernel_rfl
theorem QrO : QI Try.prog Try.f65 = some tf65.erase := by kernel_rfl
theorem QrP : QI Try.prog Try.f66 = some tf66.erase := by kernel_rfl
theorem QrQ : QI Try.prog Try.f67 = some tf67.erase := by kernel_rfl
theorem QrR : QI Try.prog Try.f68 = some tf68.erase := by kernel_rfl
theorem QrS : QI Try.prog Try.f69 = some tf69.erase := by kernel_rfl
theorem QrT : QI Try.prog Try.f70 = some tf70.erase := by kernel_rfl
theorem QrU : QI Try.prog Try.f71 = some tf71.erase := by kernel_rfl
theorem QrV : QI Try.prog Try.f72 = some tf72.erase := by kernel_rfl
theorem QrW : QI Try.prog Try.f73 = some tf73.erase := by kernel_rfl
theorem QrX : QI Try.prog Try.f74 = some tf74.erase := by kernel_rfl
theorem QrY : QI Try.prog Try.f75 = some tf75.erase := by kernel_rfl
theorem QrZ : QI Try.prog Try.f76 = some tf76.erase := by kernel_rfl
theorem Qr0 : QI Try.prog Try.f77 = some tf77.erase := by kernel_rfl
theorem Qr1 : QI Try.prog Try.f78 = some tf78.erase := by kernel_rfl
theorem Qr2 : QI Try.prog Try.f79 = some tf79.erase := by kernel_rfl
theorem Qr3 : QI Try.prog Try.f80 = some tf80.erase := by kernel_rfl
theorem Qr4 : QI Try.prog Try.f81 = some tf81.erase := by kernel_rfl
theorem Qr5 : QI Try.prog Try.f82 = some tf82.erase := by kernel_rfl
theorem Qr6 : QI Try.prog Try.f83 = some tf83.erase := by kernel_rfl
theorem Qr7 : QI Try.prog Try.f84 = some tf84.erase := by kernel_rfl
theorem Qr8 : QI Try.prog Try.f85 = some tf85.erase := by kernel_rfl
theorem Qr9 : QI Try.prog Try.f86 = some tf86.erase := by kernel_rfl
theorem Qsa : QI Try.prog Try.f87 = some tf87.erase := by kernel_rfl
theorem Qsb : QI Try.prog Try.f88 = some tf88.erase := by kernel_rfl
theorem Qsc : QI Try.prog Try.f89 = some tf89.erase := by kernel_rfl
theorem Yi : Try.prog.follows .mixedOrders = true := by kernel_rfl
end Go.Proofs
namespace M3
open Go Go.Abs
def mFits (n : Int) : Bool := decide (0 <= n) && decide (n <= 9999)
def QbW (m n : Int) : Int := if m < n then -1 else if n < m then 1 else 0
def X3 (c : UInt8) : Bool := decide (48 <= c.toNat) && decide (c.toNat <= 57)
def Xh (s : List UInt8) : Bool := s.all X3 && !decide (s = [])
theorem QfY {s : List UInt8} {i : Nat} (h : i < s.length) (hd : X3 s[i] = false) : Xh s = false := by
 have : s.all X3 = false := by
  rw [Bool.eq_false_iff]
  intro ha
  rw [List.all_eq_true] at ha
  rw [ha _ (List.getElem_mem h)] at hd
  cases hd
 rw [Xh, this]; rfl
theorem QiW {s : List UInt8} {i : Nat} (hi : s.length <= i) (h : (s.take i).all X3 = true) : Xh s = !decide (s = []) := by
 rw [List.take_of_length_le hi] at h
 rw [Xh, h]; rfl
def QeR (v n : Int) : Int := if v.tmod n < 0 then v.tmod n + n else v.tmod n
def ZJ (l : List Int) : D := .sl (l.map fun x => [.int .i64 x])
theorem Qnj {v n : Int} (h : 0 < n) : 0 <= QeR v n := by
 unfold QeR
 have h1 := Int.tmod_lt_of_pos v h
 have h2 := Int.lt_tmod_of_pos v h
 split <;> omega
theorem Qni {v n : Int} (h : 0 < n) : QeR v n < n := by
 unfold QeR
 have h1 := Int.tmod_lt_of_pos v h
 split <;> omega
end M3
namespace M3
open Go Go.Abs
def Qap (c : Int) : List UInt8 -> List UInt8 -> List (List UInt8)
 | [], cur => [cur]
 | x :: xs, cur => if (x.toNat : Int) = c then cur :: Qap c xs [] else Qap c xs (cur ++ [x])
def Yf (s : List UInt8) (c : Int) : List (List UInt8) := Qap c s []
def Qav (l : List (List UInt8)) : List (List D) := l.map fun x => [.str x]
def SplitI (s : List UInt8) (c : Int) (i k : Nat) (acc : List (List UInt8)) : Prop :=
 i <= s.length /\ k <= i /\ acc.length <= i /\ Yf s c = acc ++ Qap c (s.drop i) ((s.take i).drop k)
theorem SplitI.zero {s : List UInt8} {c : Int} : SplitI s c 0 0 [] := ⟨Nat.zero_le _, Nat.le_refl _, Nat.le_refl _, by simp [Yf]⟩
theorem SplitI.hit {s : List UInt8} {c : Int} {i k : Nat} {acc : List (List UInt8)} (h : SplitI s c i k acc) (hi : i < s.length) (he : ((s[i]).toNat : Int) = c) : SplitI s c (i + 1) (i + 1) (acc ++ [(s.take i).drop k]) := by
 obtain ⟨h1, h2, h3, h4⟩ := h
 refine ⟨hi, Nat.le_refl _, by simp; omega, ?_⟩
 rw [List.drop_eq_getElem_cons hi] at h4
 simp only [Qap, he, if_true] at h4
 rw [h4, List.append_assoc]
 simp
theorem SplitI.miss {s : List UInt8} {c : Int} {i k : Nat} {acc : List (List UInt8)} (h : SplitI s c i k acc) (hi : i < s.length) (he : ¬ ((s[i]).toNat : Int) = c) : SplitI s c (i + 1) k acc := by
 obtain ⟨h1, h2, h3, h4⟩ := h
 refine ⟨hi, by omega, by omega, ?_⟩
 rw [List.drop_eq_getElem_cons hi] at h4
 simp only [Qap, he, if_false] at h4
 rw [h4, List.take_succ_eq_append_getElem hi, List.drop_append_of_le_length (by simp; omega)]
theorem SplitI.done {s : List UInt8} {c : Int} {i k : Nat} {acc : List (List UInt8)} (h : SplitI s c i k acc) (hi : s.length <= i) : Yf s c = acc ++ [s.drop k] := by
 obtain ⟨h1, h2, h3, h4⟩ := h
 rw [h4, List.drop_eq_nil_of_le hi, List.take_of_length_le hi]
 rfl
end M3
namespace M3
open Go Go.Abs
def QhV (a b : List UInt8) : Int := if Op.bytesLess a b = true then -1 else if a = b then 0 else 1
def Xp (c : Int) : Bool := decide (48 <= c) && decide (c <= 57)
def YW (c : UInt8) : Bool := (decide (97 <= c.toNat) && decide (c.toNat <= 122)) || (decide (48 <= c.toNat) && decide (c.toNat <= 57)) || decide (c.toNat = 45)
def QeS (s : List UInt8) : Bool := decide (1 <= s.length) && decide (s.length <= 8) && s.all YW
def val (s : List UInt8) : Nat := s.foldl (fun n c => 10 * n + (c.toNat - 48)) 0
def YS (s : List UInt8) : Int × Bool :=
 if s.length < 1 \/ 9 < s.length \/ (1 < s.length /\ s.head? = some 48) \/ s.all X3 = false \/ 9999 < val s then (0, false) else ((val s : Int), true)
def mOne (a b : List UInt8) : Int :=
 if Xh a = true /\ Xh b = true then QbW (YS a).1 (YS b).1
 else if Xh a = true then -1 else if Xh b = true then 1 else QhV a b
def QkV : List (List UInt8) -> List (List UInt8) -> Int
 | [], [] => 0
 | [], _ :: _ => -1
 | _ :: _, [] => 1
 | a :: l, b :: m => if mOne a b ≠ 0 then mOne a b else QkV l m
def Qfo (a b : List UInt8) : Int := if a = b then 0 else if a = [] then 1 else if b = [] then -1 else QkV (Yf a 46) (Yf b 46)
def QdQ (pre : Bool) (t : List UInt8) : Bool := QeS t && !(pre && Xh t && !(YS t).2)
def Qbs (s : List UInt8) (pre : Bool) : Bool := decide (s = []) || (decide ((Yf s 46).length <= 4) && (Yf s 46).all (QdQ pre))
def Qg4 (a b c : Int) (p q : List UInt8) : Bool := mFits a && mFits b && mFits c && Qbs p true && Qbs q false
def QlW (a b c : Int) (p q : List UInt8) (a' b' c' : Int) (p' q' : List UInt8) : Int :=
 if Qg4 a b c p q = false \/ Qg4 a' b' c' p' q' = false then 0
 else if QbW a a' ≠ 0 then QbW a a' else if QbW b b' ≠ 0 then QbW b b' else if QbW c c' ≠ 0 then QbW c c' else Qfo p p'
theorem X5 {α : Type} {s : List α} {p : α -> Bool} {i : Nat} (h : i < s.length) (hd : p s[i] = false) : s.all p = false := by
 rw [Bool.eq_false_iff]
 intro ha
 rw [List.all_eq_true] at ha
 rw [ha _ (List.getElem_mem h)] at hd
 cases hd
theorem XO {α : Type} {s : List α} {p : α -> Bool} {i : Nat} (hi : s.length <= i) (h : (s.take i).all p = true) : s.all p = true := by rwa [List.take_of_length_le hi] at h
theorem Qkj {s : List UInt8} {i : Nat} (h : i < s.length) : val (s.take (i + 1)) = 10 * val (s.take i) + (s[i].toNat - 48) := by
 rw [List.take_succ_eq_append_getElem h]; simp only [val, List.foldl_append, List.foldl_cons, List.foldl_nil]
theorem Qqc : ∀ {s : List UInt8}, s.all X3 = true -> val s < 10 ^ s.length := by
 intro s
 rw [<- List.reverse_reverse s]
 generalize s.reverse = r
 induction r with
 | nil => intro _; decide
 | cons c r ih =>
  intro h
  rw [List.reverse_cons, List.all_append, Bool.and_eq_true] at h
  have h1 := ih h.1
  have h2 : X3 c = true := by simpa using h.2
  simp only [X3, Bool.and_eq_true, decide_eq_true_eq] at h2
  rw [List.reverse_cons]
  simp only [val, List.foldl_append, List.foldl_cons, List.foldl_nil, List.length_append, List.length_cons, List.length_nil] at h1 ⊢
  rw [Nat.pow_succ]
  omega
theorem Ql1 {l m : List (List UInt8)} {i : Nat} (h1 : i < l.length) (h2 : i < m.length) (h : mOne l[i] m[i] = 0) : QkV (l.drop i) (m.drop i) = QkV (l.drop (i + 1)) (m.drop (i + 1)) := by
 rw [List.drop_eq_getElem_cons h1, List.drop_eq_getElem_cons h2]
 simp [QkV, h]
theorem QbF {l m : List (List UInt8)} {i : Nat} (h1 : i < l.length) (h2 : i < m.length) (h : mOne l[i] m[i] ≠ 0) : QkV (l.drop i) (m.drop i) = mOne l[i] m[i] := by
 rw [List.drop_eq_getElem_cons h1, List.drop_eq_getElem_cons h2]
 simp [QkV, h]
theorem QbE {l m : List (List UInt8)} {i : Nat} (hl : i <= l.length) (hm : i <= m.length) (h : l.length <= i \/ m.length <= i) : QkV (l.drop i) (m.drop i) = QbW l.length m.length := by
 rcases Nat.lt_or_ge i l.length with h1 | h1 <;> rcases Nat.lt_or_ge i m.length with h2 | h2
 ·omega
 ·rw [List.drop_eq_getElem_cons h1, List.drop_eq_nil_of_le h2]
  simp only [QkV, QbW]
  rw [if_neg (by omega), if_pos (by omega)]
 ·rw [List.drop_eq_getElem_cons h2, List.drop_eq_nil_of_le h1]
  simp only [QkV, QbW]
  rw [if_pos (by omega)]
 ·rw [List.drop_eq_nil_of_le h1, List.drop_eq_nil_of_le h2]
  simp only [QkV, QbW]
  rw [if_neg (by omega), if_neg (by omega)]
end M3
namespace M3
end M3
namespace M3
theorem QpF {s : List UInt8} (h : 0 < s.length) (e : ((s[0]).toNat : Int) = 48) : s.head? = some 48 := by
 cases s with
 | nil => simp at h
 | cons x r =>
  simp only [List.getElem_cons_zero] at e
  have : x = 48 := UInt8.toNat_inj.1 (by simpa using (by omega : x.toNat = 48))
  simp [this]
theorem QlH {s : List UInt8} (h : 0 < s.length) (e : ¬ ((s[0]).toNat : Int) = 48) : s.head? ≠ some 48 := by
 cases s with
 | nil => simp at h
 | cons x r =>
  simp only [List.getElem_cons_zero] at e
  intro hh
  simp at hh
  subst hh
  exact e rfl
theorem QfX {s : List UInt8} {i : Nat} (h : ¬ (s.length < 1 \/ 9 < s.length \/ (1 < s.length /\ s.head? = some 48))) (hi : s.length <= i) (ha : (s.take i).all X3 = true) (hv : val (s.take i) <= 9999) : YS s = ((val (s.take i) : Int), true) := by
 have h1 := XO hi ha
 rw [List.take_of_length_le hi] at hv ⊢
 rw [YS, if_neg]
 rintro (q | q | q | q | q)
 ·exact h (.inl q)
 ·exact h (.inr (.inl q))
 ·exact h (.inr (.inr q))
 ·rw [h1] at q; cases q
 ·omega
theorem Qdn {s : List UInt8} {i : Nat} (hi : s.length <= i) (hv : 9999 < val (s.take i)) : YS s = (0, false) := by
 rw [List.take_of_length_le hi] at hv
 rw [YS, if_pos (.inr (.inr (.inr (.inr hv))))]
theorem Qdo {s : List UInt8} {i : Nat} (h : i < s.length) (hd : X3 s[i] = false) : YS s = (0, false) := by
 rw [YS, if_pos (.inr (.inr (.inr (.inl (X5 h hd)))))]
theorem Qdp {s : List UInt8} (h : s.length < 1 \/ 9 < s.length) : YS s = (0, false) := by
 rw [YS, if_pos (by rcases h with h | h; exact .inl h; exact .inr (.inl h))]
theorem QbH {s : List UInt8} (h : 1 < s.length) (e : ((s[0]).toNat : Int) = 48) : YS s = (0, false) := by
 rw [YS, if_pos (.inr (.inr (.inl ⟨h, QpF (by omega) e⟩)))]
end M3
namespace M3
open Go Go.Abs
theorem Q2 (l : List (List UInt8)) : (Qav l).length = l.length := by simp [Qav]
theorem QcG {l : List (List UInt8)} {i : Nat} (h : i < l.length) : (Qav l)[((i : Nat) : Int).toNat]? = some [.str l[i]] := by simp [Qav, h]
theorem QaU {c : Int} : ∀ (s cur : List UInt8), (Qap c s cur).length <= s.length + 1 /\ ∀ x ∈ Qap c s cur, x.length <= s.length + cur.length
 | [], cur => by simp [Qap]
 | x :: xs, cur => by
  simp only [Qap]
  split
  ·obtain ⟨h1, h2⟩ := QaU (c := c) xs []
   refine ⟨by simp; omega, fun y hy => ?_⟩
   rcases List.mem_cons.1 hy with rfl | hy
   ·simp <;> omega
   ·have := h2 y hy; simp at this ⊢; omega
  ·obtain ⟨h1, h2⟩ := QaU (c := c) xs (cur ++ [x])
   refine ⟨by simp; omega, fun y hy => ?_⟩
   have := h2 y hy; simp at this ⊢; omega
theorem Qms {s : List UInt8} {c : Int} : (Yf s c).length <= s.length + 1 := (QaU s []).1
theorem Qc1 {s : List UInt8} {c : Int} {i : Nat} (h : i < (Yf s c).length) (hl : s.length <= 1000000) : ((Yf s c)[i]).length <= 1000000 := by
 have := (QaU (c := c) s []).2 _ (List.getElem_mem h)
 simp only [List.length_nil, Nat.add_zero] at this
 exact Nat.le_trans this hl
end M3
namespace M3
open Go Go.Abs
theorem QcP {s : List UInt8} {pre : Bool} {i : Nat} (hs : s ≠ []) (h : i < (Yf s 46).length) (hd : QdQ pre (Yf s 46)[i] = false) : Qbs s pre = false := by
 rw [Qbs, X5 h hd]; simp [hs]
theorem Qbt {s : List UInt8} {pre : Bool} {i : Nat} (h4 : (Yf s 46).length <= 4) (hi : (Yf s 46).length <= i) (h : ((Yf s 46).take i).all (QdQ pre) = true) : Qbs s pre = true := by
 rw [Qbs, XO hi h]; simp [h4]
end M3
namespace M3
open Go Go.Abs
structure Cu where
 e : Int
 a : Int
 b : Int
 c : Int
 p : List UInt8
 q : List UInt8
 f : Bool
def Qdl (e a b c : Int) (p q : List UInt8) (f : Bool) : Bool :=
 if e = 0 then Qg4 a b c p q && decide (q = [])
 else (decide (e = -1) || decide (e = 1)) && (decide (a = 0) && (decide (b = 0) && (decide (c = 0) && (decide (p = []) && (decide (q = []) && true))))) && !f
def QaR (e a b c : Int) (p q : List UInt8) (f : Bool) (e' a' b' c' : Int) (p' q' : List UInt8) (f' : Bool) : Int :=
 if Qdl e a b c p q f = false \/ Qdl e' a' b' c' p' q' f' = false then 0
 else if e ≠ e' \/ e ≠ 0 then QbW e e'
 else if QlW a b c p q a' b' c' p' q' ≠ 0 then QlW a b c p q a' b' c' p' q'
 else if f = f' then 0 else if f' = true then -1 else 1
def QnV (e a b c : Int) (p q : List UInt8) (f : Bool) (a' b' c' : Int) (p' q' : List UInt8) : Bool :=
 if Qdl e a b c p q f = false \/ Qg4 a' b' c' p' q' = false then false
 else if e ≠ 0 then decide (e < 0)
 else decide (QlW a b c p q a' b' c' p' q' < 0) || (decide (QlW a b c p q a' b' c' p' q' = 0) && !f)
end M3
namespace M3
def QgH (e a b c : Int) (p q : List UInt8) (f : Bool) (e' a' b' c' : Int) (p' q' : List UInt8) (f' : Bool) : Bool :=
 Qdl e a b c p q f && Qdl e' a' b' c' p' q' f' && decide (QaR e a b c p q f e' a' b' c' p' q' f' < 0)
def QpU (e a b c : Int) (p q : List UInt8) (f : Bool) (e' a' b' c' : Int) (p' q' : List UInt8) (f' : Bool) (x y z : Int) (r s : List UInt8) : Bool :=
 QgH e a b c p q f e' a' b' c' p' q' f' && Qg4 x y z r s && QnV e a b c p q f x y z r s && !QnV e' a' b' c' p' q' f' x y z r s
end M3
namespace M3
open Go Go.Abs
end M3
namespace M3
open Go Go.Abs
end M3
namespace M3
open Go Go.Abs
end M3
namespace M3
open Go Go.Abs
end M3
namespace Go.Proofs
open Go Go.Abs M3
set_option linter.unusedVariables false
set_option linter.unusedSimpArgs false
theorem Y1 {n : Int} : Ok Try.prog 54 [.int .i64 n] (.bool (mFits n)) := by
 refine Ok.ofT Yi Try.func54 QrD (Nat.le_of_ble_eq_true Z) ?_
 show TW _ _ tf54.body _ _
 refine Qf fun K hK => Qa Z (hK _ _ (Qb (kp1 Z) ?_))
 refine Qf fun K hK => Qa Z (Qhc Z Z (Qa Z ?_))
 refine QA (g := 5) Z (fun h1 => ?_) (fun h1 => ?_)
 ·try rw [h1]
  try simp only [qB] at h1
  refine Qg Z (Qa Z (Qg Z (Qqg Z Z (Qj Z Z (Qa Z (hK _ _ (Qb (kp1 Z) ?_)))))))
  refine Qv (Qt Z ?_)
  simp_all [mFits] <;> omega
 ·try rw [h1]
  try simp only [qB] at h1
  refine Qo Z (Qo Z (Qj Z Z (Qa Z (hK _ _ (Qb (kp1 Z) ?_)))))
  refine Qv (Qt Z ?_)
  simp_all [mFits] <;> omega
theorem Zp {m n : Int} : Ok Try.prog 85 [.int .i64 m, .int .i64 n] (.int .i64 (QbW m n)) := by
 refine Ok.ofT Yi Try.func85 Qr8 (Nat.le_of_ble_eq_true Z) ?_
 show TW _ _ tf85.body _ _
 refine Qf fun K hK => Qa Z (hK _ _ (Qb (kp2 Z Z) ?_))
 refine QH ?_ -- 0
 refine QJ (Qf fun K hK => Qa Z (Qa Z (YY Z Z (Qa Z (hK _ _ (Qb (kp3 Z Z Z) ?_))))))
 refine QC Z (fun h1 => ?_) (fun h1 => ?_)
 ·try rw [h1]
  try simp only [qB] at h1
  refine Qf fun K hK => Qa Z (hK _ _ (Qb (kp1 Z) ?_))
  refine Qv (Qw (Qm (Qx Z ?_)))
  simp_all [QbW] <;> omega
 ·try rw [h1]
  try simp only [qB] at h1
  refine Qf fun K hK => Qa Z (Qa Z (Qg0 Z Z (Qa Z (hK _ _ (Qb (kp1 Z) ?_)))))
  refine QC Z (fun h2 => ?_) (fun h2 => ?_)
  ·try rw [h2]
   try simp only [qB] at h2
   refine Qf fun K hK => Qa Z (hK _ _ (Qb (kp1 Z) ?_))
   refine Qv (Qw (Qm (Qx Z ?_)))
   simp_all [QbW] <;> omega
  ·try rw [h2]
   try simp only [qB] at h2
   refine Qy (Ql (Qe (QZ) (Qf fun K hK => Qa Z (hK _ _ (Qb (kp1 Z) ?_)))))
   refine Qv (Qx Z ?_)
   simp_all [QbW] <;> omega
theorem YF {s : List UInt8} {c : Int} (hl : s.length <= 1000000) : Ok Try.prog 65 [.str s, .int .u8 c] (.sl (Qav (Yf s c))) := by
 refine Ok.ofT Yi Try.func65 QrO (Nat.le_of_ble_eq_true Z) ?_
 show TW _ _ tf65.body _ _
 refine Qf fun K hK => Qa Z (hK _ _ (Qb (kp2 Z Z) ?_))
 refine Qf fun K hK => Qa Z (hK _ _ (Qb (kp3 Z Z Z) ?_))
 refine Qf fun K hK => Qa Z (hK _ _ (Qb (kp4 Z Z Z Z) ?_))
 refine QH ?_ -- 0
 refine Qf fun K hK => Qa Z (hK _ _ (Qb (kp5 Z Z Z Z Z) ?_))
 refine QJ ?_
 refine Yb (ι := Nat × Nat × List (List UInt8)) (fun ⟨i, k, acc⟩ => ⟨[(0, .str s), (1, .int .u8 c), (5, .osl 25 acc.length), (6, .int .i64 k), (7, .int .i64 i)], [(25, ⟨Qav acc, 1, 9, true⟩)]⟩) (fun ⟨i, k, acc⟩ => SplitI s c i k acc) (fun ⟨i, k, acc⟩ => s.length - i) (0, 0, []) ?_ ?_ ?_
 ·exact le_trans (Qax 5 25 1 9 rfl rfl) (ZH (l := [0, 1, 5, 6, 7]) (lH := [25]) (kp5 rfl rfl rfl rfl rfl) (Qq rfl Qz) rfl rfl rfl)
 ·exact SplitI.zero
 intro ⟨i, k, acc⟩ hI
 have hI1 := hI.1
 have hI2 := hI.2.1
 have hI3 := hI.2.2.1
 try dsimp only
 refine QH ?_ -- 1
 refine Qf fun K hK => Qa Z (Qa Z (Xe Z (YY Z Z (hK _ _ (Qb (kp6 Z Z Z Z Z Z) ?_)))))
 refine QC Z (fun h1 => ?_) (fun h1 => ?_)
 ·try rw [h1]
  try simp only [qB] at h1
  refine Qy (Qe (kp5 Z Z Z Z Z) ?_)
  refine QH ?_ -- 2
  refine QJ (Qf fun K hK => Qa Z (Qa Z (Xb Z Z (by omega) (QcF (by omega)) (Qa Z (Z5 Z Z (hK _ _ (Qb (kp6 Z Z Z Z Z Z) ?_)))))))
  refine QC Z (fun h2 => ?_) (fun h2 => ?_)
  ·try rw [h2]
   try simp only [qB] at h2
   refine Qf fun K hK => Qa Z (Qa Z (Qa Z (Qa Z (Qft Z Z Z (by omega) (by omega) (by omega) Z (QG Z Z (QdA Z Z (fun _ h => Qb5 Z Z Z h) Z (by simp [Qav]) Z Z Z (by simp; omega) (by simp; omega) (Qa Z (hK _ _ (Qb (kp4 Z Z Z Z) ?_)))))))))
   refine Q4 fun K hK => Qa Z (Zb Z Z (by first | exact Qr (by omega) (by omega) | exact QW (by omega) (by omega) | exact Q8 (by omega) (by omega) | rfl) (Qa Z (hK _ ?_)))
   refine Ql (Qe (kp5 Z Z Z Z Z) (Q4 fun K hK => Qa Z (Zb Z Z (by first | exact Qr (by omega) (by omega) | exact QW (by omega) (by omega) | exact Q8 (by omega) (by omega) | rfl) (Qa Z (hK _ ?_)))))
   refine Qp (i + 1, i + 1, acc ++ [(s.take i).drop k]) ?_ ?_ ?_
   ·exact ZH (l := [0, 1, 5, 6, 7]) (lH := [25]) (kp5 rfl rfl rfl rfl rfl) (Qq rfl Qz) (by simp [Qav, D.scrub]) (by simp [Qav, Box.scrub]) rfl
   ·exact hI.hit (by omega) (by assumption)
   ·show s.length - (i + 1) < s.length - i; omega
  ·try rw [h2]
   try simp only [qB] at h2
   refine Qy (Ql (Qe (kp5 Z Z Z Z Z) (Q4 fun K hK => Qa Z (Zb Z Z (by first | exact Qr (by omega) (by omega) | exact QW (by omega) (by omega) | exact Q8 (by omega) (by omega) | rfl) (Qa Z (hK _ ?_))))))
   refine Qp (i + 1, k, acc) ?_ ?_ ?_
   ·exact ZH (l := [0, 1, 5, 6, 7]) (lH := [25]) (kp5 rfl rfl rfl rfl rfl) (Qq rfl Qz) (by simp [Qav, D.scrub]) (by simp [Qav, Box.scrub]) rfl
   ·exact hI.miss (by omega) (by assumption)
   ·show s.length - (i + 1) < s.length - i; omega
 ·try rw [h1]
  try simp only [qB] at h1
  refine Z0 (Q6 (QM (QU (Qe (kp3 Z Z Z) (Qf fun K hK => Qa Z (Qa Z (Qa Z (Qft Z Z Z (by omega) (by omega) (by omega) Z (QG Z Z (QdA Z Z (fun _ h => Qb5 Z Z Z h) Z (by simp [Qav]) Z Z Z (by simp; omega) (by simp; omega) ?_))))))))))
  refine Qa Z (hK _ _ (Qb (kp1 Z) ?_))
  refine Qv (Z8 Z ?_)
  rw [hI.done (by omega)]; simp [QaY, D.fz, D.fzS, Qc5, lk, D.can, D.canS, Qav]
end Go.Proofs
namespace Go.Proofs
open Go Go.Abs M3
set_option linter.unusedVariables false
set_option linter.unusedSimpArgs false
theorem QbT {a b : List UInt8} : Ok Try.prog 89 [.str a, .str b] (.int .i64 (QhV a b)) := by
 refine Ok.ofT Yi Try.func89 Qsc (Nat.le_of_ble_eq_true Z) ?_
 show TW _ _ tf89.body _ _
 refine Qf fun K hK => Qa Z (hK _ _ (Qb (kp2 Z Z) ?_))
 refine QH ?_ -- 0
 refine QJ (Qf fun K hK => Qa Z (Qa Z (Qqr Z Z (Qa Z (hK _ _ (Qb (kp3 Z Z Z) ?_))))))
 refine QC Z (fun h1 => ?_) (fun h1 => ?_)
 ·try rw [h1]
  try simp only [qB] at h1
  refine Qf fun K hK => Qa Z (hK _ _ (Qb (kp1 Z) ?_))
  refine Qv (Qw (Qm (Qx Z ?_)))
  simp_all [QhV]
 ·try rw [h1]
  try simp only [qB] at h1
  refine Qf fun K hK => Qa Z (Qa Z (Qqq Z Z (Qa Z (hK _ _ (Qb (kp1 Z) ?_)))))
  refine QC Z (fun h2 => ?_) (fun h2 => ?_)
  ·try rw [h2]
   try simp only [qB] at h2
   refine Qf fun K hK => Qa Z (hK _ _ (Qb (kp1 Z) ?_))
   refine Qv (Qw (Qm (Qx Z ?_)))
   simp_all [QhV]
  ·try rw [h2]
   try simp only [qB] at h2
   refine Qy (Ql (Qe (QZ) (Qf fun K hK => Qa Z (hK _ _ (Qb (kp1 Z) ?_)))))
   refine Qv (Qx Z ?_)
   simp_all [QhV]
theorem QbR {c : Int} : Ok Try.prog 74 [.int .u8 c] (.bool (Xp c)) := by
 refine Ok.ofT Yi Try.func74 QrX (Nat.le_of_ble_eq_true Z) ?_
 show TW _ _ tf74.body _ _
 refine Qf fun K hK => Qa Z (hK _ _ (Qb (kp1 Z) ?_))
 refine Qf fun K hK => Qa Z (Qhc Z Z (Qa Z ?_))
 refine QA (g := 5) Z (fun h1 => ?_) (fun h1 => ?_)
 ·try rw [h1]
  try simp only [qB] at h1
  refine Qg Z (Qa Z (Qg Z (Qqg Z Z (Qj Z Z (Qa Z (hK _ _ (Qb (kp1 Z) ?_)))))))
  refine Qv (Qt Z ?_)
  simp_all [Xp] <;> omega
 ·try rw [h1]
  try simp only [qB] at h1
  refine Qo Z (Qo Z (Qj Z Z (Qa Z (hK _ _ (Qb (kp1 Z) ?_)))))
  refine Qv (Qt Z ?_)
  simp_all [Xp] <;> omega
theorem Yo {s : List UInt8} (hl : s.length <= 1000000) : Ok Try.prog 68 [.str s] (.bool (Xh s)) := by
 refine Ok.ofT Yi Try.func68 QrR (Nat.le_of_ble_eq_true Z) ?_
 show TW _ _ tf68.body _ _
 refine Qf fun K hK => Qa Z (hK _ _ (Qb (kp1 Z) ?_))
 refine QH ?_ -- 0
 refine Qf fun K hK => Qa Z (hK _ _ (Qb (kp2 Z Z) ?_))
 refine QJ ?_
 refine Yb (ι := Nat) (fun i => ⟨[(0, .str s), (3, .int .i64 i)], []⟩) (fun i => i <= s.length /\ (s.take i).all X3 = true) (fun i => s.length - i) 0 ?_ ?_ ?_
 ·exact Zc (kp2 rfl rfl)
 ·exact ⟨Nat.zero_le _, rfl⟩
 intro i hI
 try dsimp only
 refine QH ?_ -- 1
 refine Qf fun K hK => Qa Z (Qa Z (Xe Z (YY Z Z (hK _ _ (Qb (kp3 Z Z Z) ?_)))))
 refine QC Z (fun h1 => ?_) (fun h1 => ?_)
 ·try rw [h1]
  try simp only [qB] at h1
  refine Qy (Qe (kp2 Z Z) ?_)
  refine QH ?_ -- 2
  refine QJ (Qf fun K hK => Qa Z (Qa Z (Xb Z Z (by omega) (QcF (by omega)) (YY Z Z (Qa Z ?_)))))
  refine QA (g := 14) Z (fun h2 => ?_) (fun h2 => ?_)
  ·try rw [h2]
   try simp only [qB] at h2
   refine Qo Z (Qo Z (Qo Z (Qo Z (Qj Z Z (hK _ _ (Qb (kp3 Z Z Z) ?_))))))
   refine ZD Z (Qf fun K hK => Qa Z (hK _ _ (Qb (kp1 Z) ?_)))
   refine Qv (Qw (Qm (Zw (Qw (Qm (Qt Z ?_))))))
   exact (QfY (i := i) (by omega) (by simp [X3]; omega)).symm
  ·try rw [h2]
   try simp only [qB] at h2
   refine Qg Z (Qa Z (Qg Z (Qa Z (Qg Z (Xb Z Z (by omega) (QcF (by omega)) (Qg Z (Qg0 Z Z (Qj Z Z (hK _ _ (Qb (kp3 Z Z Z) ?_))))))))))
   refine QC Z (fun h3 => ?_) (fun h3 => ?_)
   ·try rw [h3]
    try simp only [qB] at h3
    refine Qf fun K hK => Qa Z (hK _ _ (Qb (kp1 Z) ?_))
    refine Qv (Qw (Qm (Zw (Qw (Qm (Qt Z ?_))))))
    exact (QfY (i := i) (by omega) (by simp [X3]; omega)).symm
   ·try rw [h3]
    try simp only [qB] at h3
    refine Qy (Ql (Qe (kp2 Z Z) (Q4 fun K hK => Qa Z (Zb Z Z (by first | exact Qr (by omega) (by omega) | exact QW (by omega) (by omega) | exact Q8 (by omega) (by omega) | rfl) (Qa Z (hK _ ?_))))))
    refine Qp (i + 1) ?_ ?_ ?_
    ·exact Zc (kp2 rfl rfl)
    ·exact ⟨by omega, Yq (by omega) hI.2 (by simp [X3]; omega)⟩
    ·first | omega | (simp only; omega) | (dsimp only; omega)
 ·try rw [h1]
  try simp only [qB] at h1
  refine Z0 (Q6 (QM (QU (Qe (kp1 Z) (Qf fun K hK => Qa Z (Xe Z (Qg0 Z Z (Qa Z (hK _ _ (Qb (kp1 Z) ?_))))))))))
  refine Qv (Qt Z ?_)
  rw [QiW (i := i) (by omega) hI.2]; cases s <;> simp
theorem Qct {s : List UInt8} (hl : s.length <= 1000000) : Ok Try.prog 66 [.str s] (.bool (QeS s)) := by
 refine Ok.ofT Yi Try.func66 QrP (Nat.le_of_ble_eq_true Z) ?_
 show TW _ _ tf66.body _ _
 refine Qf fun K hK => Qa Z (hK _ _ (Qb (kp1 Z) ?_))
 refine QH ?_ -- 0
 refine Qf fun K hK => Qa Z (Xe Z (YY Z Z (Qa Z ?_)))
 refine QA (g := 8) Z (fun h1 => ?_) (fun h1 => ?_)
 ·try rw [h1]
  try simp only [qB] at h1
  refine Qo Z (Qo Z (Qo Z (Qj Z Z (hK _ _ (Qb (kp2 Z Z) ?_)))))
  refine ZD Z (Qf fun K hK => Qa Z (hK _ _ (Qb (kp1 Z) ?_)))
  refine Qv (Qm (Qt Z ?_))
  first | (have hz := XO (p := YW) (s := s) (i := i) (by omega) hI.2; simp [QeS, hz]; omega) | (have hz := X5 (p := YW) (s := s) (i := i) (by omega) (by simp [YW]; omega); simp [QeS, hz]; done) | (simp [QeS]; omega)
 ·try rw [h1]
  try simp only [qB] at h1
  refine Qg Z (Qa Z (Qg Z (Xe Z (Qg Z (Qg0 Z Z (Qj Z Z (hK _ _ (Qb (kp2 Z Z) ?_))))))))
  refine QC Z (fun h2 => ?_) (fun h2 => ?_)
  ·try rw [h2]
   try simp only [qB] at h2
   refine Qf fun K hK => Qa Z (hK _ _ (Qb (kp1 Z) ?_))
   refine Qv (Qm (Qt Z ?_))
   first | (have hz := XO (p := YW) (s := s) (i := i) (by omega) hI.2; simp [QeS, hz]; omega) | (have hz := X5 (p := YW) (s := s) (i := i) (by omega) (by simp [YW]; omega); simp [QeS, hz]; done) | (simp [QeS]; omega)
  ·try rw [h2]
   try simp only [qB] at h2
   refine Qy (Qe (kp1 Z) ?_)
   refine QH ?_ -- 1
   refine Qf fun K hK => Qa Z (hK _ _ (Qb (kp2 Z Z) ?_))
   refine QJ ?_
   refine Yb (ι := Nat) (fun i => ⟨[(0, .str s), (3, .int .i64 i)], []⟩) (fun i => i <= s.length /\ (s.take i).all YW = true) (fun i => s.length - i) 0 ?_ ?_ ?_
   ·exact Zc (kp2 rfl rfl)
   ·exact ⟨Nat.zero_le _, rfl⟩
   intro i hI
   try dsimp only
   refine QH ?_ -- 2
   refine Qf fun K hK => Qa Z (Qa Z (Xe Z (YY Z Z (hK _ _ (Qb (kp3 Z Z Z) ?_)))))
   refine QC Z (fun h3 => ?_) (fun h3 => ?_)
   ·try rw [h3]
    try simp only [qB] at h3
    refine Qy (Qe (kp2 Z Z) ?_)
    refine QH ?_ -- 3
    refine QJ (Qf fun K hK => Qa Z (Qa Z (Xb Z Z (by omega) (QcF (by omega)) (Qa Z (hK _ _ (Qb (kp3 Z Z Z) ?_))))))
    refine Qf fun K hK => Qa Z (YY Z Z (Qa Z ?_))
    refine QA (g := 24) Z (fun h4 => ?_) (fun h4 => ?_)
    ·try rw [h4]
     try simp only [qB] at h4
     refine Qo Z (Qo Z (Qj Z Z (Qa Z (Qg Z (Qa Z (Qg Z (YY Z Z (Qg Z (Qa Z ?_)))))))))
     refine QA (g := 31) Z (fun h5 => ?_) (fun h5 => ?_)
     ·try rw [h5]
      try simp only [qB] at h5
      refine Qo Z (Qo Z (Qg Z (Qj Z Z (Qj Z Z (Qa Z (Qg Z (Qa Z (Qg Z (Qa3 Z Z (Qj Z Z (hK _ _ (Qb (kp3 Z Z Z) ?_))))))))))))
      refine QC Z (fun h6 => ?_) (fun h6 => ?_)
      ·try rw [h6]
       try simp only [qB] at h6
       refine Qf fun K hK => Qa Z (hK _ _ (Qb (kp1 Z) ?_))
       refine Qv (Qw (Qm (Zw (Qw (Qm (Qt Z ?_))))))
       first | (have hz := XO (p := YW) (s := s) (i := i) (by omega) hI.2; simp [QeS, hz]; omega) | (have hz := X5 (p := YW) (s := s) (i := i) (by omega) (by simp [YW]; omega); simp [QeS, hz]; done) | (simp [QeS]; omega)
      ·try rw [h6]
       try simp only [qB] at h6
       refine Qy (Ql (Qe (kp2 Z Z) (Q4 fun K hK => Qa Z (Zb Z Z (by first | exact Qr (by omega) (by omega) | exact QW (by omega) (by omega) | exact Q8 (by omega) (by omega) | rfl) (Qa Z (hK _ ?_))))))
       refine Qp (i + 1) ?_ ?_ ?_
       ·exact Zc (kp2 rfl rfl)
       ·exact ⟨by omega, Yq (by omega) hI.2 (by simp [YW]; omega)⟩
       ·first | omega | (simp only; omega) | (dsimp only; omega)
     ·try rw [h5]
      try simp only [qB] at h5
      refine Qg Z (Qa Z (Qg Z (Qg0 Z Z (Qg Z (Qj Z Z (Qj Z Z (Qa Z ?_)))))))
      refine QA (g := 36) Z (fun h7 => ?_) (fun h7 => ?_)
      ·try rw [h7]
       try simp only [qB] at h7
       refine Qg Z (Qa Z (Qg Z (Qa3 Z Z (Qj Z Z (hK _ _ (Qb (kp3 Z Z Z) ?_))))))
       refine QC Z (fun h8 => ?_) (fun h8 => ?_)
       ·try rw [h8]
        try simp only [qB] at h8
        refine Qf fun K hK => Qa Z (hK _ _ (Qb (kp1 Z) ?_))
        refine Qv (Qw (Qm (Zw (Qw (Qm (Qt Z ?_))))))
        first | (have hz := XO (p := YW) (s := s) (i := i) (by omega) hI.2; simp [QeS, hz]; omega) | (have hz := X5 (p := YW) (s := s) (i := i) (by omega) (by simp [YW]; omega); simp [QeS, hz]; done) | (simp [QeS]; omega)
       ·try rw [h8]
        try simp only [qB] at h8
        refine Qy (Ql (Qe (kp2 Z Z) (Q4 fun K hK => Qa Z (Zb Z Z (by first | exact Qr (by omega) (by omega) | exact QW (by omega) (by omega) | exact Q8 (by omega) (by omega) | rfl) (Qa Z (hK _ ?_))))))
        refine Qp (i + 1) ?_ ?_ ?_
        ·exact Zc (kp2 rfl rfl)
        ·exact ⟨by omega, Yq (by omega) hI.2 (by simp [YW]; omega)⟩
        ·first | omega | (simp only; omega) | (dsimp only; omega)
      ·try rw [h7]
       try simp only [qB] at h7
       refine Qo Z (Qo Z (Qj Z Z (hK _ _ (Qb (kp3 Z Z Z) ?_))))
       refine Ya Z (Qy (Ql (Qe (kp2 Z Z) (Q4 fun K hK => Qa Z (Zb Z Z (by first | exact Qr (by omega) (by omega) | exact QW (by omega) (by omega) | exact Q8 (by omega) (by omega) | rfl) (Qa Z (hK _ ?_)))))))
       refine Qp (i + 1) ?_ ?_ ?_
       ·exact Zc (kp2 rfl rfl)
       ·exact ⟨by omega, Yq (by omega) hI.2 (by simp [YW]; omega)⟩
       ·first | omega | (simp only; omega) | (dsimp only; omega)
    ·try rw [h4]
     try simp only [qB] at h4
     refine Qg Z (Qa Z (Qg Z (Qg0 Z Z (Qj Z Z (Qa Z ?_)))))
     refine QA (g := 28) Z (fun h9 => ?_) (fun h9 => ?_)
     ·try rw [h9]
      try simp only [qB] at h9
      refine Qg Z (Qa Z (Qg Z (YY Z Z (Qg Z (Qa Z ?_)))))
      refine QA (g := 31) Z (fun h10 => ?_) (fun h10 => ?_)
      ·try rw [h10]
       try simp only [qB] at h10
       refine Qo Z (Qo Z (Qg Z (Qj Z Z (Qj Z Z (Qa Z (Qg Z (Qa Z (Qg Z (Qa3 Z Z (Qj Z Z (hK _ _ (Qb (kp3 Z Z Z) ?_))))))))))))
       refine QC Z (fun h11 => ?_) (fun h11 => ?_)
       ·try rw [h11]
        try simp only [qB] at h11
        refine Qf fun K hK => Qa Z (hK _ _ (Qb (kp1 Z) ?_))
        refine Qv (Qw (Qm (Zw (Qw (Qm (Qt Z ?_))))))
        first | (have hz := XO (p := YW) (s := s) (i := i) (by omega) hI.2; simp [QeS, hz]; omega) | (have hz := X5 (p := YW) (s := s) (i := i) (by omega) (by simp [YW]; omega); simp [QeS, hz]; done) | (simp [QeS]; omega)
       ·try rw [h11]
        try simp only [qB] at h11
        refine Qy (Ql (Qe (kp2 Z Z) (Q4 fun K hK => Qa Z (Zb Z Z (by first | exact Qr (by omega) (by omega) | exact QW (by omega) (by omega) | exact Q8 (by omega) (by omega) | rfl) (Qa Z (hK _ ?_))))))
        refine Qp (i + 1) ?_ ?_ ?_
        ·exact Zc (kp2 rfl rfl)
        ·exact ⟨by omega, Yq (by omega) hI.2 (by simp [YW]; omega)⟩
        ·first | omega | (simp only; omega) | (dsimp only; omega)
      ·try rw [h10]
       try simp only [qB] at h10
       refine Qg Z (Qa Z (Qg Z (Qg0 Z Z (Qg Z (Qj Z Z (Qj Z Z (Qa Z ?_)))))))
       refine QA (g := 36) Z (fun h12 => ?_) (fun h12 => ?_)
       ·try rw [h12]
        try simp only [qB] at h12
        refine Qg Z (Qa Z (Qg Z (Qa3 Z Z (Qj Z Z (hK _ _ (Qb (kp3 Z Z Z) ?_))))))
        refine QC Z (fun h13 => ?_) (fun h13 => ?_)
        ·try rw [h13]
         try simp only [qB] at h13
         refine Qf fun K hK => Qa Z (hK _ _ (Qb (kp1 Z) ?_))
         refine Qv (Qw (Qm (Zw (Qw (Qm (Qt Z ?_))))))
         first | (have hz := XO (p := YW) (s := s) (i := i) (by omega) hI.2; simp [QeS, hz]; omega) | (have hz := X5 (p := YW) (s := s) (i := i) (by omega) (by simp [YW]; omega); simp [QeS, hz]; done) | (simp [QeS]; omega)
        ·try rw [h13]
         try simp only [qB] at h13
         refine Qy (Ql (Qe (kp2 Z Z) (Q4 fun K hK => Qa Z (Zb Z Z (by first | exact Qr (by omega) (by omega) | exact QW (by omega) (by omega) | exact Q8 (by omega) (by omega) | rfl) (Qa Z (hK _ ?_))))))
         refine Qp (i + 1) ?_ ?_ ?_
         ·exact Zc (kp2 rfl rfl)
         ·exact ⟨by omega, Yq (by omega) hI.2 (by simp [YW]; omega)⟩
         ·first | omega | (simp only; omega) | (dsimp only; omega)
       ·try rw [h12]
        try simp only [qB] at h12
        refine Qo Z (Qo Z (Qj Z Z (hK _ _ (Qb (kp3 Z Z Z) ?_))))
        refine Ya Z (Qy (Ql (Qe (kp2 Z Z) (Q4 fun K hK => Qa Z (Zb Z Z (by first | exact Qr (by omega) (by omega) | exact QW (by omega) (by omega) | exact Q8 (by omega) (by omega) | rfl) (Qa Z (hK _ ?_)))))))
        refine Qp (i + 1) ?_ ?_ ?_
        ·exact Zc (kp2 rfl rfl)
        ·exact ⟨by omega, Yq (by omega) hI.2 (by simp [YW]; omega)⟩
        ·first | omega | (simp only; omega) | (dsimp only; omega)
     ·try rw [h9]
      try simp only [qB] at h9
      refine Qo Z (Qo Z (Qo Z (ZB Z (ZB Z (Qo Z (Qj Z Z (Qa Z (Qo Z (Qo Z (Qj Z Z (hK _ _ (Qb (kp3 Z Z Z) ?_))))))))))))
      refine Ya Z (Qy (Ql (Qe (kp2 Z Z) (Q4 fun K hK => Qa Z (Zb Z Z (by first | exact Qr (by omega) (by omega) | exact QW (by omega) (by omega) | exact Q8 (by omega) (by omega) | rfl) (Qa Z (hK _ ?_)))))))
      refine Qp (i + 1) ?_ ?_ ?_
      ·exact Zc (kp2 rfl rfl)
      ·exact ⟨by omega, Yq (by omega) hI.2 (by simp [YW]; omega)⟩
      ·first | omega | (simp only; omega) | (dsimp only; omega)
   ·try rw [h3]
    try simp only [qB] at h3
    refine Z0 (Q6 (QM (QU (Qe (QZ) (Qf fun K hK => Qa Z (hK _ _ (Qb (kp1 Z) ?_)))))))
    refine Qv (Qt Z ?_)
    first | (have hz := XO (p := YW) (s := s) (i := i) (by omega) hI.2; simp [QeS, hz]; omega) | (have hz := X5 (p := YW) (s := s) (i := i) (by omega) (by simp [YW]; omega); simp [QeS, hz]; done) | (simp [QeS]; omega)
theorem Ys {s : List UInt8} (hl : s.length <= 1000000) : Ok Try.prog 67 [.str s] (.tup [.int .i64 (YS s).1, .bool (YS s).2]) := by
 refine Ok.ofT Yi Try.func67 QrQ (Nat.le_of_ble_eq_true Z) ?_
 show TW _ _ tf67.body _ _
 refine Qf fun K hK => Qa Z (Qa Z (hK _ _ (Qb (kp1 Z) ?_)))
 refine Qk3 (ι := Unit) (fun _u => ⟨[(0, .str s)], []⟩) (fun _u => ¬ (s.length < 1 \/ 9 < s.length \/ (1 < s.length /\ s.head? = some 48))) ?_ ?_
 ·skip
  refine Qf fun K hK => Qa Z (Xe Z (YY Z Z (Qa Z ?_)))
  refine QA (g := 9) Z (fun h1 => ?_) (fun h1 => ?_)
  ·try rw [h1]
   try simp only [qB, Xp, Bool.and_eq_true, Bool.and_eq_false_iff] at h1
   refine Qo Z (Qo Z (Qo Z (Qj Z Z (Qa Z (Qo Z (Qo Z (Qo Z (Qo Z (ZB Z (ZB Z (ZB Z ?_)))))))))))
   refine Qo Z (Qj Z Z (hK _ _ (Qb (kp2 Z Z) ?_)))
   refine ZD Z (Qf fun K hK => Qa Z (Qa Z (hK _ _ (Qb (kp2 Z Z) ?_))))
   refine Qv (Qgw (Zz Z Z ?_))
   first | (rw [Qdp (s := s) (by omega)]; exact ⟨rfl, rfl⟩) | (rw [QbH (s := s) (by omega) (by assumption)]; exact ⟨rfl, rfl⟩) | (rw [Qdo (s := s) (i := i) (by omega) (by simp [X3]; omega)]; exact ⟨rfl, rfl⟩) | (rw [Qdn (s := s) (i := i) (by omega) (by omega)]; exact ⟨rfl, rfl⟩) | (rw [QfX (s := s) (i := i) hJ (by omega) hI.2.1 (by omega)]; exact ⟨rfl, rfl⟩)
  ·try rw [h1]
   try simp only [qB, Xp, Bool.and_eq_true, Bool.and_eq_false_iff] at h1
   refine Qg Z (Qa Z (Qg Z (Xe Z (Qg Z (Qg0 Z Z (Qj Z Z (Qa Z ?_)))))))
   refine QA (g := 14) Z (fun h2 => ?_) (fun h2 => ?_)
   ·try rw [h2]
    try simp only [qB, Xp, Bool.and_eq_true, Bool.and_eq_false_iff] at h2
    refine Qo Z (Qo Z (Qo Z (Qo Z (ZB Z (ZB Z (ZB Z (Qo Z (Qj Z Z (hK _ _ (Qb (kp2 Z Z) ?_))))))))))
    refine ZD Z (Qf fun K hK => Qa Z (Qa Z (hK _ _ (Qb (kp2 Z Z) ?_))))
    refine Qv (Qgw (Zz Z Z ?_))
    first | (rw [Qdp (s := s) (by omega)]; exact ⟨rfl, rfl⟩) | (rw [QbH (s := s) (by omega) (by assumption)]; exact ⟨rfl, rfl⟩) | (rw [Qdo (s := s) (i := i) (by omega) (by simp [X3]; omega)]; exact ⟨rfl, rfl⟩) | (rw [Qdn (s := s) (i := i) (by omega) (by omega)]; exact ⟨rfl, rfl⟩) | (rw [QfX (s := s) (i := i) hJ (by omega) hI.2.1 (by omega)]; exact ⟨rfl, rfl⟩)
   ·try rw [h2]
    try simp only [qB, Xp, Bool.and_eq_true, Bool.and_eq_false_iff] at h2
    refine Qg Z (Qa Z (Qg Z (Xe Z (Qg Z (Qg0 Z Z (Qg Z (Qa Z ?_)))))))
    refine QA (g := 18) Z (fun h3 => ?_) (fun h3 => ?_)
    ·try rw [h3]
     try simp only [qB, Xp, Bool.and_eq_true, Bool.and_eq_false_iff] at h3
     refine Qg Z (Qa Z (Qg Z (Xb Z Z (by omega) (QcF (i := 0) (by omega)) (Qg Z (Z5 Z Z (Qg Z (Qj Z Z (Qj Z Z (hK _ _ (Qb (kp2 Z Z) ?_))))))))))
     refine QC Z (fun h4 => ?_) (fun h4 => ?_)
     ·try rw [h4]
      try simp only [qB, Xp, Bool.and_eq_true, Bool.and_eq_false_iff] at h4
      refine Qf fun K hK => Qa Z (Qa Z (hK _ _ (Qb (kp2 Z Z) ?_)))
      refine Qv (Qgw (Zz Z Z ?_))
      first | (rw [Qdp (s := s) (by omega)]; exact ⟨rfl, rfl⟩) | (rw [QbH (s := s) (by omega) (by assumption)]; exact ⟨rfl, rfl⟩) | (rw [Qdo (s := s) (i := i) (by omega) (by simp [X3]; omega)]; exact ⟨rfl, rfl⟩) | (rw [Qdn (s := s) (i := i) (by omega) (by omega)]; exact ⟨rfl, rfl⟩) | (rw [QfX (s := s) (i := i) hJ (by omega) hI.2.1 (by omega)]; exact ⟨rfl, rfl⟩)
     ·try rw [h4]
      try simp only [qB, Xp, Bool.and_eq_true, Bool.and_eq_false_iff] at h4
      refine Qy ?_
      refine Yu () ?_ ?_
      ·exact Zc (kp1 rfl)
      ·rintro (q | q | q) <;> first | omega | exact QlH (s := s) (by omega) (by assumption) q.2
    ·try rw [h3]
     try simp only [qB, Xp, Bool.and_eq_true, Bool.and_eq_false_iff] at h3
     refine Qo Z (Qo Z (Qo Z (Qg Z (Qj Z Z (Qj Z Z (hK _ _ (Qb (kp2 Z Z) ?_)))))))
     refine Ya Z (Qy ?_)
     refine Yu () ?_ ?_
     ·exact Zc (kp1 rfl)
     ·rintro (q | q | q) <;> first | omega | exact QlH (s := s) (by omega) (by assumption) q.2
 intro _u hJ
 try dsimp only
 refine Qf fun K hK => Qa Z (hK _ _ (Qb (kp2 Z Z) ?_))
 refine QH ?_ -- 1
 refine Qf fun K hK => Qa Z (hK _ _ (Qb (kp3 Z Z Z) ?_))
 refine QJ ?_
 refine Yb (ι := Nat) (fun i => ⟨[(0, .str s), (4, .int .i64 (val (s.take i))), (5, .int .i64 i)], []⟩) (fun i => i <= s.length /\ (s.take i).all X3 = true /\ s.length <= 9) (fun i => s.length - i) 0 ?_ ?_ ?_
 ·first | exact Zc (kp3 rfl rfl rfl) | exact ZH (l := [0, 4, 5]) (kp3 rfl rfl rfl) Qz (by rw [Qkj (by omega)]; simp; omega) rfl rfl
 ·exact ⟨Nat.zero_le _, rfl, by omega⟩
 intro i hI
 have hv := Qqc (s := s.take i) hI.2.1
 have hp : 10 ^ (s.take i).length <= 10 ^ 9 := Nat.pow_le_pow_right (by omega) (by simp; omega)
 try dsimp only
 refine QH ?_ -- 2
 refine Qf fun K hK => Qa Z (Qa Z (Xe Z (YY Z Z (hK _ _ (Qb (kp4 Z Z Z Z) ?_)))))
 refine QC Z (fun h5 => ?_) (fun h5 => ?_)
 ·try rw [h5]
  try simp only [qB, Xp, Bool.and_eq_true, Bool.and_eq_false_iff] at h5
  refine Qy (Qe (kp3 Z Z Z) ?_)
  refine QH ?_ -- 3
  refine QJ ?_
  refine QH ?_ -- 4
  refine Qf fun K hK => Qa Z (Qa Z (Xb Z Z (by omega) (QcF (by omega)) (QB (QbR) Z Z (.inr Z) (Yn Z (hK _ _ (Qb (kp4 Z Z Z Z) ?_))))))
  refine QC Z (fun h6 => ?_) (fun h6 => ?_)
  ·try rw [h6]
   try simp only [qB, Xp, Bool.and_eq_true, Bool.and_eq_false_iff] at h6
   refine Qf fun K hK => Qa Z (Qa Z (hK _ _ (Qb (kp2 Z Z) ?_)))
   refine Qv (Qm (Qw (Qm (Zw (Qw (Qm (Zz Z Z ?_)))))))
   first | (rw [Qdp (s := s) (by omega)]; exact ⟨rfl, rfl⟩) | (rw [QbH (s := s) (by omega) (by assumption)]; exact ⟨rfl, rfl⟩) | (rw [Qdo (s := s) (i := i) (by omega) (by simp [X3]; omega)]; exact ⟨rfl, rfl⟩) | (rw [Qdn (s := s) (i := i) (by omega) (by omega)]; exact ⟨rfl, rfl⟩) | (rw [QfX (s := s) (i := i) hJ (by omega) hI.2.1 (by omega)]; exact ⟨rfl, rfl⟩)
  ·try rw [h6]
   try simp only [qB, Xp, Bool.and_eq_true, Bool.and_eq_false_iff] at h6
   refine Qy (Qe (kp3 Z Z Z) (Q4 fun K hK => Qa Z (Qpr Z Z (by first | exact Qr (by omega) (by omega) | exact QW (by omega) (by omega) | exact Q8 (by omega) (by omega) | rfl) (Qa Z (Qa Z (Xb Z Z (by omega) (QcF (by omega)) (Qa9 Z Z (by first | exact Qr (by omega) (by omega) | exact QW (by omega) (by omega) | exact Q8 (by omega) (by omega) | rfl) (Qk1 Z (by first | exact Qr (by omega) (by omega) | exact QW (by omega) (by omega) | exact Q8 (by omega) (by omega) | rfl) (Zb Z Z (by first | exact Qr (by omega) (by omega) | exact QW (by omega) (by omega) | exact Q8 (by omega) (by omega) | rfl) (Qa Z ?_))))))))))
   refine hK _ ?_
   refine Ql (Qe (kp3 Z Z Z) (Q4 fun K hK => Qa Z (Zb Z Z (by first | exact Qr (by omega) (by omega) | exact QW (by omega) (by omega) | exact Q8 (by omega) (by omega) | rfl) (Qa Z (hK _ ?_)))))
   refine Qp (i + 1) ?_ ?_ ?_
   ·first | exact Zc (kp3 rfl rfl rfl) | exact ZH (l := [0, 4, 5]) (kp3 rfl rfl rfl) Qz (by rw [Qkj (by omega)]; simp; omega) rfl rfl
   ·exact ⟨by omega, Yq (by omega) hI.2.1 (by simp [X3]; omega), hI.2.2⟩
   ·first | omega | (simp only; omega) | (dsimp only; omega)
 ·try rw [h5]
  try simp only [qB, Xp, Bool.and_eq_true, Bool.and_eq_false_iff] at h5
  refine Z0 (Q6 (QM (QU (Qe (kp1 Z) ?_))))
  refine QH ?_ -- 5
  refine Qf fun K hK => Qa Z (Qg0 Z Z (hK _ _ (Qb (kp2 Z Z) ?_)))
  refine QC Z (fun h7 => ?_) (fun h7 => ?_)
  ·try rw [h7]
   try simp only [qB, Xp, Bool.and_eq_true, Bool.and_eq_false_iff] at h7
   refine Qf fun K hK => Qa Z (Qa Z (hK _ _ (Qb (kp2 Z Z) ?_)))
   refine Qv (Qm (Zz Z Z ?_))
   first | (rw [Qdp (s := s) (by omega)]; exact ⟨rfl, rfl⟩) | (rw [QbH (s := s) (by omega) (by assumption)]; exact ⟨rfl, rfl⟩) | (rw [Qdo (s := s) (i := i) (by omega) (by simp [X3]; omega)]; exact ⟨rfl, rfl⟩) | (rw [Qdn (s := s) (i := i) (by omega) (by omega)]; exact ⟨rfl, rfl⟩) | (rw [QfX (s := s) (i := i) hJ (by omega) hI.2.1 (by omega)]; exact ⟨rfl, rfl⟩)
  ·try rw [h7]
   try simp only [qB, Xp, Bool.and_eq_true, Bool.and_eq_false_iff] at h7
   refine Qy (Qe (kp1 Z) (Qf fun K hK => Qa Z (Qa Z (Qa Z (hK _ _ (Qb (kp2 Z Z) ?_))))))
   refine Qv (Zz Z Z ?_)
   first | (rw [Qdp (s := s) (by omega)]; exact ⟨rfl, rfl⟩) | (rw [QbH (s := s) (by omega) (by assumption)]; exact ⟨rfl, rfl⟩) | (rw [Qdo (s := s) (i := i) (by omega) (by simp [X3]; omega)]; exact ⟨rfl, rfl⟩) | (rw [Qdn (s := s) (i := i) (by omega) (by omega)]; exact ⟨rfl, rfl⟩) | (rw [QfX (s := s) (i := i) hJ (by omega) hI.2.1 (by omega)]; exact ⟨rfl, rfl⟩)
end Go.Proofs
namespace Go.Proofs
open Go Go.Abs M3
set_option linter.unusedVariables false
set_option linter.unusedSimpArgs false
theorem Qcs {a b : List UInt8} (ha : a.length <= 1000000) (hb : b.length <= 1000000) : Ok Try.prog 88 [.str a, .str b] (.int .i64 (mOne a b)) := by
 refine Ok.ofT Yi Try.func88 Qsb (Nat.le_of_ble_eq_true Z) ?_
 show TW _ _ tf88.body _ _
 refine Qf fun K hK => Qa Z (hK _ _ (Qb (kp2 Z Z) ?_))
 refine Qf fun K hK => Qa Z (QB (Yo (by omega)) Z Z (.inr Z) (Qa Z (QB (Yo (by omega)) Z Z (.inr Z) (Qa Z (Qa Z (hK _ _ (Qb (kp4 Z Z Z Z) ?_)))))))
 refine QH ?_ -- 0
 refine QJ (Qf fun K hK => Qa Z (Qa Z ?_))
 refine QA (g := 17) Z (fun h1 => ?_) (fun h1 => ?_)
 ·try rw [h1]
  try simp only [qB] at h1
  refine Qg Z (Qa Z (Qj Z Z (Qa Z (hK _ _ (Qb (kp5 Z Z Z Z Z) ?_)))))
  refine QC Z (fun h2 => ?_) (fun h2 => ?_)
  ·try rw [h2]
   try simp only [qB] at h2
   refine Qf fun K hK => Qa Z (QB (Ys (by omega)) Z Z (.inr Z) (Qa Z (Zy Z Z (Zy Z Z (Qa Z (Qa Z (hK _ _ (Qb (kp2 Z Z) ?_))))))))
   refine Qf fun K hK => Qa Z (QB (Ys (by omega)) Z Z (.inr Z) (Qa Z (Zy Z Z (Zy Z Z (Qa Z (Qa Z (hK _ _ (Qb (kp2 Z Z) ?_))))))))
   refine Qf fun K hK => Qa Z (Qa Z (QB (Zp) Z Z (.inr Z) (Qa Z (hK _ _ (Qb (kp1 Z) ?_)))))
   refine Qv (Qw (Qm (Qx Z ?_)))
   simp [mOne, h1, h2]
  ·try rw [h2]
   try simp only [qB] at h2
   refine Qf fun K hK => Qa Z (Qa Z (hK _ _ (Qb (kp4 Z Z Z Z) ?_)))
   refine ZD Z (Qf fun K hK => Qa Z (hK _ _ (Qb (kp1 Z) ?_)))
   refine Qv (Qw (Qm (Qx Z ?_)))
   simp [mOne, h1, h2]
 ·try rw [h1]
  try simp only [qB] at h1
  refine Qo Z (Qj Z Z (Qa Z (hK _ _ (Qb (kp5 Z Z Z Z Z) ?_))))
  refine Ya Z (Qf fun K hK => Qa Z (Qa Z (hK _ _ (Qb (kp4 Z Z Z Z) ?_))))
  refine Ya Z (Qf fun K hK => Qa Z (Qa Z (hK _ _ (Qb (kp3 Z Z Z) ?_))))
  refine QC Z (fun h3 => ?_) (fun h3 => ?_)
  ·try rw [h3]
   try simp only [qB] at h3
   refine Qf fun K hK => Qa Z (hK _ _ (Qb (kp1 Z) ?_))
   refine Qv (Qw (Qm (Qx Z ?_)))
   simp [mOne, h1, h3]
  ·try rw [h3]
   try simp only [qB] at h3
   refine Qy (Ql (Qe (kp2 Z Z) (Qf fun K hK => Qa Z (Qa Z (QB (QbT) Z Z (.inr Z) (Qa Z (hK _ _ (Qb (kp1 Z) ?_))))))))
   refine Qv (Qx Z ?_)
   simp [mOne, h1, h3]
theorem Qca {a b : List UInt8} (ha : a.length <= 1000000) (hb : b.length <= 1000000) : Ok Try.prog 87 [.str a, .str b] (.int .i64 (Qfo a b)) := by
 refine Ok.ofT Yi Try.func87 Qsa (Nat.le_of_ble_eq_true Z) ?_
 show TW _ _ tf87.body _ _
 refine Qf fun K hK => Qa Z (hK _ _ (Qb (kp2 Z Z) ?_))
 refine QH ?_ -- 0
 refine QJ (Qf fun K hK => Qa Z (Qa Z (Qhb Z Z (Qa Z (hK _ _ (Qb (kp3 Z Z Z) ?_))))))
 refine QC Z (fun h1 => ?_) (fun h1 => ?_)
 ·try rw [h1]
  try simp only [qB, Q2] at h1
  refine Qf fun K hK => Qa Z (hK _ _ (Qb (kp1 Z) ?_))
  refine Qv (Qw (Qm (Qx Z ?_)))
  first | (simp_all [Qfo]; done) | (rw [hI.2.2, QbF (by omega) (by omega) (by assumption)]) | (rw [hI.2.2, QbE (by omega) (by omega) (by omega)]; simp [Q2])
 ·try rw [h1]
  try simp only [qB, Q2] at h1
  refine Qf fun K hK => Qa Z (Qhb Z Z (Qa Z (hK _ _ (Qb (kp3 Z Z Z) ?_))))
  refine QC Z (fun h2 => ?_) (fun h2 => ?_)
  ·try rw [h2]
   try simp only [qB, Q2] at h2
   refine Qf fun K hK => Qa Z (hK _ _ (Qb (kp1 Z) ?_))
   refine Qv (Qw (Qm (Qx Z ?_)))
   first | (simp_all [Qfo]; done) | (rw [hI.2.2, QbF (by omega) (by omega) (by assumption)]) | (rw [hI.2.2, QbE (by omega) (by omega) (by omega)]; simp [Q2])
  ·try rw [h2]
   try simp only [qB, Q2] at h2
   refine Qf fun K hK => Qa Z (Qhb Z Z (Qa Z (hK _ _ (Qb (kp3 Z Z Z) ?_))))
   refine QC Z (fun h3 => ?_) (fun h3 => ?_)
   ·try rw [h3]
    try simp only [qB, Q2] at h3
    refine Qf fun K hK => Qa Z (hK _ _ (Qb (kp1 Z) ?_))
    refine Qv (Qw (Qm (Qx Z ?_)))
    first | (simp_all [Qfo]; done) | (rw [hI.2.2, QbF (by omega) (by omega) (by assumption)]) | (rw [hI.2.2, QbE (by omega) (by omega) (by omega)]; simp [Q2])
   ·try rw [h3]
    try simp only [qB, Q2] at h3
    refine Qy (Ql (Qe (kp2 Z Z) (Qf fun K hK => Qa Z (QB (YF (by omega)) Z Z (.inl Z) (Qa Z (QB (YF (by omega)) Z Z (.inl Z) (Qa Z (Qa Z (hK _ _ (Qb (kp2 Z Z) ?_))))))))))
    refine QH ?_ -- 1
    refine Qf fun K hK => Qa Z (hK _ _ (Qb (kp3 Z Z Z) ?_))
    refine QJ ?_
    refine Yb (ι := Nat) (fun i => ⟨[(5, .sl (Qav (Yf a 46))), (6, .sl (Qav (Yf b 46))), (7, .int .i64 i)], []⟩) (fun i => i <= (Yf a 46).length /\ i <= (Yf b 46).length /\ Qfo a b = QkV ((Yf a 46).drop i) ((Yf b 46).drop i)) (fun i => (Yf a 46).length - i) 0 ?_ ?_ ?_
    ·exact Zc (kp3 rfl rfl rfl)
    ·exact ⟨Nat.zero_le _, Nat.zero_le _, by simp_all [Qfo]⟩
    intro i hI
    have sl := Qms (s := a) (c := 46)
    try dsimp only
    refine QH ?_ -- 2
    refine Qf fun K hK => Qa Z (Qa Z (Q5 Z Z (YY Z Z (Qa Z ?_))))
    refine QA (g := 27) Z (fun h4 => ?_) (fun h4 => ?_)
    ·try rw [h4]
     try simp only [qB, Q2] at h4
     refine Qg Z (Qa Z (Qg Z (Qa Z (Qg Z (Q5 Z Z (Qg Z (YY Z Z (Qj Z Z (hK _ _ (Qb (kp4 Z Z Z Z) ?_))))))))))
     refine QC Z (fun h5 => ?_) (fun h5 => ?_)
     ·try rw [h5]
      try simp only [qB, Q2] at h5
      refine Qy (Qe (kp3 Z Z Z) ?_)
      refine QH ?_ -- 3
      refine QJ (Qf fun K hK => Qa Z (Qa Z (QV Z Z Z (by omega) (QcG (by omega)) Z (Zr (ds0 := [1, 0]) Z Z Z Z Z (Qa Z (Qa Z (QV Z Z Z (by omega) (QcG (by omega)) Z (Zr (ds0 := [1, 0]) Z Z Z Z Z (Zh (ds0 := [0]) (Qcs (Qc1 (by omega) ha) (Qc1 (by omega) hb)) Z Z (.inr Z) Z Z (Qa Z ?_))))))))))
      refine hK _ _ (Qb (kp4 Z Z Z Z) ?_)
      refine Qf fun K hK => Qa Z (Qa3 Z Z (hK _ _ (Qb (kp5 Z Z Z Z Z) ?_)))
      refine QC Z (fun h6 => ?_) (fun h6 => ?_)
      ·try rw [h6]
       try simp only [qB, Q2] at h6
       refine Qf fun K hK => Qa Z (Qa Z (hK _ _ (Qb (kp1 Z) ?_)))
       refine Qv (Qw (Qm (Zw (Qw (Qm (Qx Z ?_))))))
       first | (simp_all [Qfo]; done) | (rw [hI.2.2, QbF (by omega) (by omega) (by assumption)]) | (rw [hI.2.2, QbE (by omega) (by omega) (by omega)]; simp [Q2])
      ·try rw [h6]
       try simp only [qB, Q2] at h6
       refine Qy (Ql (Qe (kp3 Z Z Z) (Q4 fun K hK => Qa Z (Zb Z Z (by first | exact Qr (by omega) (by omega) | exact QW (by omega) (by omega) | exact Q8 (by omega) (by omega) | rfl) (Qa Z (hK _ ?_))))))
       refine Qp (i + 1) ?_ ?_ ?_
       ·exact Zc (kp3 rfl rfl rfl)
       ·exact ⟨by omega, by omega, by rw [hI.2.2, Ql1 (by omega) (by omega) (by assumption)]⟩
       ·first | omega | (simp only; omega) | (dsimp only; omega)
     ·try rw [h5]
      try simp only [qB, Q2] at h5
      refine Z0 (Q6 (QM (QU (Qe (kp2 Z Z) (Qf fun K hK => Qa Z (Q5 Z Z (Qa Z (Q5 Z Z (QB (Zp) Z Z (.inr Z) (Qa Z ?_))))))))))
      refine hK _ _ (Qb (kp1 Z) ?_)
      refine Qv (Qx Z ?_)
      first | (simp_all [Qfo]; done) | (rw [hI.2.2, QbF (by omega) (by omega) (by assumption)]) | (rw [hI.2.2, QbE (by omega) (by omega) (by omega)]; simp [Q2])
    ·try rw [h4]
     try simp only [qB, Q2] at h4
     refine Qo Z (Qo Z (Qo Z (Qo Z (Qj Z Z (hK _ _ (Qb (kp4 Z Z Z Z) ?_))))))
     refine Ya Z (Z0 (Q6 (QM (QU (Qe (kp2 Z Z) (Qf fun K hK => Qa Z (Q5 Z Z (Qa Z (Q5 Z Z (QB (Zp) Z Z (.inr Z) ?_))))))))))
     refine Qa Z (hK _ _ (Qb (kp1 Z) ?_))
     refine Qv (Qx Z ?_)
     first | (simp_all [Qfo]; done) | (rw [hI.2.2, QbF (by omega) (by omega) (by assumption)]) | (rw [hI.2.2, QbE (by omega) (by omega) (by omega)]; simp [Q2])
theorem XR {s : List UInt8} {pre : Bool} (hl : s.length <= 1000000) : Ok Try.prog 55 [.str s, .bool pre] (.bool (Qbs s pre)) := by
 refine Ok.ofT Yi Try.func55 QrE (Nat.le_of_ble_eq_true Z) ?_
 show TW _ _ tf55.body _ _
 refine Qf fun K hK => Qa Z (hK _ _ (Qb (kp2 Z Z) ?_))
 refine QH ?_ -- 0
 refine Qf fun K hK => Qa Z (Qhb Z Z (hK _ _ (Qb (kp3 Z Z Z) ?_)))
 refine QC Z (fun h1 => ?_) (fun h1 => ?_)
 ·try rw [h1]
  try simp only [qB, Q2] at h1
  refine Qf fun K hK => Qa Z (hK _ _ (Qb (kp1 Z) ?_))
  refine Qv (Qm (Qt Z ?_))
  first | (simp_all [Qbs]; done) | (simp [Qbs, h1]; omega) | exact (QcP (i := i) (by assumption) (by omega) (by simp [QdQ, h1])).symm | exact (Qbt (i := i) (by omega) (by omega) hI.2).symm
 ·try rw [h1]
  try simp only [qB, Q2] at h1
  refine Qy (Qe (kp2 Z Z) (Qf fun K hK => Qa Z (QB (YF (by omega)) Z Z (.inl Z) (Qa Z (hK _ _ (Qb (kp2 Z Z) ?_))))))
  refine QH ?_ -- 1
  refine Qf fun K hK => Qa Z (Q5 Z Z (Qg0 Z Z (hK _ _ (Qb (kp3 Z Z Z) ?_))))
  refine QC Z (fun h2 => ?_) (fun h2 => ?_)
  ·try rw [h2]
   try simp only [qB, Q2] at h2
   refine Qf fun K hK => Qa Z (hK _ _ (Qb (kp1 Z) ?_))
   refine Qv (Qm (Qt Z ?_))
   first | (simp_all [Qbs]; done) | (simp [Qbs, h1, h2]; omega) | exact (QcP (i := i) (by assumption) (by omega) (by simp [QdQ, h1, h2])).symm | exact (Qbt (i := i) (by omega) (by omega) hI.2).symm
  ·try rw [h2]
   try simp only [qB, Q2] at h2
   refine Qy (Qe (kp2 Z Z) ?_)
   refine QH ?_ -- 2
   refine Qf fun K hK => Qa Z (hK _ _ (Qb (kp3 Z Z Z) ?_))
   refine QJ ?_
   refine Yb (ι := Nat) (fun i => ⟨[(1, .bool pre), (5, .sl (Qav (Yf s 46))), (6, .int .i64 i)], []⟩) (fun i => i <= (Yf s 46).length /\ ((Yf s 46).take i).all (QdQ pre) = true) (fun i => (Yf s 46).length - i) 0 ?_ ?_ ?_
   ·first | exact Zc (kp3 rfl rfl rfl) | exact ZH (l := [1, 5, 6]) (kp3 rfl rfl rfl) Qz (by simp [h1, h2]) rfl rfl
   ·exact ⟨Nat.zero_le _, rfl⟩
   intro i hI
   try dsimp only
   refine QH ?_ -- 3
   refine Qf fun K hK => Qa Z (Qa Z (Q5 Z Z (YY Z Z (hK _ _ (Qb (kp4 Z Z Z Z) ?_)))))
   refine QC Z (fun h3 => ?_) (fun h3 => ?_)
   ·try rw [h3]
    try simp only [qB, Q2] at h3
    refine Qy (Qe (kp3 Z Z Z) ?_)
    refine QH ?_ -- 4
    refine QJ ?_
    refine QH ?_ -- 5
    refine Qf fun K hK => Qa Z (Qa Z (QV Z Z Z (by omega) (QcG (by omega)) Z (QE Z Z Z (QB (Qct (Qc1 (by omega) hl)) Z Z (.inr Z) (Yn Z (hK _ _ (Qb (kp4 Z Z Z Z) ?_)))))))
    refine QC Z (fun h4 => ?_) (fun h4 => ?_)
    ·try rw [h4]
     try simp only [qB, Q2] at h4
     refine Qf fun K hK => Qa Z (hK _ _ (Qb (kp1 Z) ?_))
     refine Qv (Qm (Qw (Qm (Zw (Qw (Qm (Qt Z ?_)))))))
     first | (simp_all [Qbs]; done) | (simp [Qbs, h1, h2, h3, h4]; omega) | exact (QcP (i := i) (by assumption) (by omega) (by simp [QdQ, h1, h2, h3, h4])).symm | exact (Qbt (i := i) (by omega) (by omega) hI.2).symm
    ·try rw [h4]
     try simp only [qB, Q2] at h4
     refine Qy (Qe (kp3 Z Z Z) (Qf fun K hK => Qa Z (Qa Z (QV Z Z Z (by omega) (QcG (by omega)) Z (QE Z Z Z (QB (Ys (Qc1 (by omega) hl)) Z Z (.inr Z) (Qa Z (Zy Z Z (Zy Z Z (Qa Z ?_))))))))))
     refine Qa Z (hK _ _ (Qb (kp4 Z Z Z Z) ?_))
     refine Qf fun K hK => Qa Z (Qa Z ?_)
     refine QA (g := 37) Z (fun h5 => ?_) (fun h5 => ?_)
     ·try rw [h5]
      try simp only [qB, Q2] at h5
      refine Qg Z (Qa Z (Qg Z (Qa Z (Qg Z (QV Z Z Z (by omega) (QcG (by omega)) Z (Qg Z (QE Z Z Z (Qg Z (QB (Yo (Qc1 (by omega) hl)) Z Z (.inr Z) (Qj Z Z (Qa Z ?_)))))))))))
      refine QA (g := 44) Z (fun h6 => ?_) (fun h6 => ?_)
      ·try rw [h6]
       try simp only [qB, Q2] at h6
       refine Qg Z (Qa Z (Qg Z (Yn Z (Qj Z Z (hK _ _ (Qb (kp4 Z Z Z Z) ?_))))))
       refine QC Z (fun h7 => ?_) (fun h7 => ?_)
       ·try rw [h7]
        try simp only [qB, Q2] at h7
        refine Qf fun K hK => Qa Z (hK _ _ (Qb (kp1 Z) ?_))
        refine Qv (Qw (Qm (Zw (Qw (Qm (Qt Z ?_))))))
        first | (simp_all [Qbs]; done) | (simp [Qbs, h1, h2, h3, h4, h5, h6, h7]; omega) | exact (QcP (i := i) (by assumption) (by omega) (by simp [QdQ, h1, h2, h3, h4, h5, h6, h7])).symm | exact (Qbt (i := i) (by omega) (by omega) hI.2).symm
       ·try rw [h7]
        try simp only [qB, Q2] at h7
        refine Qy (Ql (Qe (kp3 Z Z Z) (Q4 fun K hK => Qa Z (Zb Z Z (by first | exact Qr (by omega) (by omega) | exact QW (by omega) (by omega) | exact Q8 (by omega) (by omega) | rfl) (Qa Z (hK _ ?_))))))
        refine Qp (i + 1) ?_ ?_ ?_
        ·first | exact Zc (kp3 rfl rfl rfl) | exact ZH (l := [1, 5, 6]) (kp3 rfl rfl rfl) Qz (by simp [h1, h2, h3, h4, h5, h6, h7]) rfl rfl
        ·exact ⟨by omega, Yq (by omega) hI.2 (by simp [QdQ, h1, h2, h3, h4, h5, h6, h7])⟩
        ·first | omega | (simp only; omega) | (dsimp only; omega)
      ·try rw [h6]
       try simp only [qB, Q2] at h6
       refine Qo Z (Qo Z (Qj Z Z (hK _ _ (Qb (kp4 Z Z Z Z) ?_))))
       refine Ya Z (Qy (Ql (Qe (kp3 Z Z Z) (Q4 fun K hK => Qa Z (Zb Z Z (by first | exact Qr (by omega) (by omega) | exact QW (by omega) (by omega) | exact Q8 (by omega) (by omega) | rfl) (Qa Z (hK _ ?_)))))))
       refine Qp (i + 1) ?_ ?_ ?_
       ·first | exact Zc (kp3 rfl rfl rfl) | exact ZH (l := [1, 5, 6]) (kp3 rfl rfl rfl) Qz (by simp [h1, h2, h3, h4, h5, h6]) rfl rfl
       ·exact ⟨by omega, Yq (by omega) hI.2 (by simp [QdQ, h1, h2, h3, h4, h5, h6])⟩
       ·first | omega | (simp only; omega) | (dsimp only; omega)
     ·try rw [h5]
      try simp only [qB, Q2] at h5
      refine Qo Z (Qo Z (Qo Z (Qo Z (Qo Z (Qj Z Z (Qa Z (Qo Z (Qo Z (Qj Z Z (hK _ _ (Qb (kp4 Z Z Z Z) ?_)))))))))))
      refine Ya Z (Qy (Ql (Qe (kp3 Z Z Z) (Q4 fun K hK => Qa Z (Zb Z Z (by first | exact Qr (by omega) (by omega) | exact QW (by omega) (by omega) | exact Q8 (by omega) (by omega) | rfl) (Qa Z (hK _ ?_)))))))
      refine Qp (i + 1) ?_ ?_ ?_
      ·first | exact Zc (kp3 rfl rfl rfl) | exact ZH (l := [1, 5, 6]) (kp3 rfl rfl rfl) Qz (by simp [h1, h2, h3, h4, h5]) rfl rfl
      ·exact ⟨by omega, Yq (by omega) hI.2 (by simp [QdQ, h1, h2, h3, h4, h5])⟩
      ·first | omega | (simp only; omega) | (dsimp only; omega)
   ·try rw [h3]
    try simp only [qB, Q2] at h3
    refine Z0 (Q6 (QM (QU (Qe (QZ) (Qf fun K hK => Qa Z (hK _ _ (Qb (kp1 Z) ?_)))))))
    refine Qv (Qt Z ?_)
    first | (simp_all [Qbs]; done) | (simp [Qbs, h1, h2, h3]; omega) | exact (QcP (i := i) (by assumption) (by omega) (by simp [QdQ, h1, h2, h3])).symm | exact (Qbt (i := i) (by omega) (by omega) hI.2).symm
theorem Zm {a b c : Int} {p q : List UInt8} (hp : p.length <= 1000000) (hq : q.length <= 1000000) : Ok Try.prog 39 [.agg [.int .i64 a, .int .i64 b, .int .i64 c, .str p, .str q]] (.bool (Qg4 a b c p q)) := by
 refine Ok.ofT Yi Try.func39 Qrq (Nat.le_of_ble_eq_true Z) ?_
 show TW _ _ tf39.body _ _
 refine Qf fun K hK => Z1 Z Z Z (Qa Z (hK _ _ (Qb (kp1 Z) ?_)))
 refine Qf fun K hK => Qk Z Z (QE Z Z Z (QB (Y1) Z Z (.inr Z) (Qa Z ?_)))
 refine QA (g := 6) Z (fun h1 => ?_) (fun h1 => ?_)
 ·try rw [h1]
  try simp only [qB] at h1
  refine Qg Z (Qk Z Z (Qg Z (QE Z Z Z (Qg Z (QB (Y1) Z Z (.inr Z) (Qj Z Z (Qa Z ?_)))))))
  refine QA (g := 11) Z (fun h2 => ?_) (fun h2 => ?_)
  ·try rw [h2]
   try simp only [qB] at h2
   refine Qg Z (Qk Z Z (Qg Z (QE Z Z Z (Qg Z (QB (Y1) Z Z (.inr Z) (Qj Z Z (Qa Z ?_)))))))
   refine QA (g := 16) Z (fun h3 => ?_) (fun h3 => ?_)
   ·try rw [h3]
    try simp only [qB] at h3
    refine Qg Z (Qk Z Z (Qg Z (QE Z Z Z (Qg Z (QB (XR (by omega)) Z Z (.inr Z) (Qj Z Z (Qa Z ?_)))))))
    refine QA (g := 21) Z (fun h4 => ?_) (fun h4 => ?_)
    ·try rw [h4]
     try simp only [qB] at h4
     refine Qg Z (Qk Z Z (Qg Z (QE Z Z Z (Qg Z (QB (XR (by omega)) Z Z (.inr Z) (Qj Z Z (Qa Z (hK _ _ (Qb (kp1 Z) ?_)))))))))
     refine Qv (Qt Z ?_)
     simp [Qg4, h1, h2, h3, h4]
    ·try rw [h4]
     try simp only [qB] at h4
     refine Qo Z (Qo Z (Qo Z (Qj Z Z (Qa Z (hK _ _ (Qb (kp1 Z) ?_))))))
     refine Qv (Qt Z ?_)
     simp [Qg4, h1, h2, h3, h4]
   ·try rw [h3]
    try simp only [qB] at h3
    refine Qo Z (Qo Z (Qo Z (Qj Z Z (Qa Z (Qo Z (Qo Z (Qo Z (Qj Z Z (Qa Z (hK _ _ (Qb (kp1 Z) ?_)))))))))))
    refine Qv (Qt Z ?_)
    simp [Qg4, h1, h2, h3]
  ·try rw [h2]
   try simp only [qB] at h2
   refine Qo Z (Qo Z (Qo Z (Qj Z Z (Qa Z (Qo Z (Qo Z (Qo Z (Qj Z Z (Qa Z (Qo Z (Qo Z ?_)))))))))))
   refine Qo Z (Qj Z Z (Qa Z (hK _ _ (Qb (kp1 Z) ?_))))
   refine Qv (Qt Z ?_)
   simp [Qg4, h1, h2]
 ·try rw [h1]
  try simp only [qB] at h1
  refine Qo Z (Qo Z (Qo Z (Qj Z Z (Qa Z (Qo Z (Qo Z (Qo Z (Qj Z Z (Qa Z (Qo Z (Qo Z ?_)))))))))))
  refine Qo Z (Qj Z Z (Qa Z (Qo Z (Qo Z (Qo Z (Qj Z Z (Qa Z (hK _ _ (Qb (kp1 Z) ?_)))))))))
  refine Qv (Qt Z ?_)
  simp [Qg4, h1]
end Go.Proofs
namespace Go.Proofs
open Go Go.Abs M3
set_option linter.unusedVariables false
set_option linter.unusedSimpArgs false
theorem Qa4 {a b c : Int} {p q : List UInt8} (hp : p.length <= 1000000) (hq : q.length <= 1000000) {a' b' c' : Int} {p' q' : List UInt8} (hp' : p'.length <= 1000000) (hq' : q'.length <= 1000000) : Ok Try.prog 86 [.agg [.int .i64 a, .int .i64 b, .int .i64 c, .str p, .str q], .agg [.int .i64 a', .int .i64 b', .int .i64 c', .str p', .str q']] (.int .i64 (QlW a b c p q a' b' c' p' q')) := by
 refine Ok.ofT Yi Try.func86 Qr9 (Nat.le_of_ble_eq_true Z) ?_
 show TW _ _ tf86.body _ _
 refine Qf fun K hK => Z1 Z Z Z (Z1 Z Z Z (Qa Z (hK _ _ (Qb (kp2 Z Z) ?_))))
 refine QH ?_ -- 0
 refine Qf fun K hK => QF (cs := [_, _, _, _, _]) Z Z Z Z (QB (Zm (by omega) (by omega)) Z Z (.inr Z) (Yn Z (Qa Z ?_)))
 refine QA (g := 11) Z (fun h1 => ?_) (fun h1 => ?_)
 ·try rw [h1]
  try simp only [qB] at h1
  refine Qo Z (Qo Z (Qo Z (Qj Z Z (hK _ _ (Qb (kp3 Z Z Z) ?_)))))
  refine ZD Z (Qf fun K hK => Qa Z (hK _ _ (Qb (kp1 Z) ?_)))
  refine Qv (Qm (Qx Z ?_))
  simp [QlW, h1]
 ·try rw [h1]
  try simp only [qB] at h1
  refine Qg Z (QF (cs := [_, _, _, _, _]) Z Z Z Z (Qg Z (QB (Zm (by omega) (by omega)) Z Z (.inr Z) (Qg Z (Yn Z (Qj Z Z (hK _ _ (Qb (kp3 Z Z Z) ?_))))))))
  refine QC Z (fun h2 => ?_) (fun h2 => ?_)
  ·try rw [h2]
   try simp only [qB] at h2
   refine Qf fun K hK => Qa Z (hK _ _ (Qb (kp1 Z) ?_))
   refine Qv (Qm (Qx Z ?_))
   simp [QlW, h1, h2]
  ·try rw [h2]
   try simp only [qB] at h2
   refine Qy (Qe (kp2 Z Z) ?_)
   refine QH ?_ -- 1
   refine Qf fun K hK => Qk Z Z (QE Z Z Z (Qk Z Z (QE Z Z Z (QB (Zp) Z Z (.inr Z) (Qa Z (hK _ _ (Qb (kp3 Z Z Z) ?_)))))))
   refine Qf fun K hK => Qa Z (Qa3 Z Z (hK _ _ (Qb (kp4 Z Z Z Z) ?_)))
   refine QC Z (fun h3 => ?_) (fun h3 => ?_)
   ·try rw [h3]
    try simp only [qB] at h3
    refine Qf fun K hK => Qa Z (Qa Z (hK _ _ (Qb (kp1 Z) ?_)))
    refine Qv (Qm (Qx Z ?_))
    simp [QlW, h1, h2, h3]
   ·try rw [h3]
    try simp only [qB] at h3
    refine Qy (Qe (kp2 Z Z) ?_)
    refine QH ?_ -- 2
    refine Qf fun K hK => Qk Z Z (QE Z Z Z (Qk Z Z (QE Z Z Z (QB (Zp) Z Z (.inr Z) (Qa Z (hK _ _ (Qb (kp3 Z Z Z) ?_)))))))
    refine Qf fun K hK => Qa Z (Qa3 Z Z (hK _ _ (Qb (kp4 Z Z Z Z) ?_)))
    refine QC Z (fun h4 => ?_) (fun h4 => ?_)
    ·try rw [h4]
     try simp only [qB] at h4
     refine Qf fun K hK => Qa Z (Qa Z (hK _ _ (Qb (kp1 Z) ?_)))
     refine Qv (Qm (Qx Z ?_))
     simp [QlW, h1, h2, h3, h4]
    ·try rw [h4]
     try simp only [qB] at h4
     refine Qy (Qe (kp2 Z Z) ?_)
     refine QH ?_ -- 3
     refine Qf fun K hK => Qk Z Z (QE Z Z Z (Qk Z Z (QE Z Z Z (QB (Zp) Z Z (.inr Z) (Qa Z (hK _ _ (Qb (kp3 Z Z Z) ?_)))))))
     refine Qf fun K hK => Qa Z (Qa3 Z Z (hK _ _ (Qb (kp4 Z Z Z Z) ?_)))
     refine QC Z (fun h5 => ?_) (fun h5 => ?_)
     ·try rw [h5]
      try simp only [qB] at h5
      refine Qf fun K hK => Qa Z (Qa Z (hK _ _ (Qb (kp1 Z) ?_)))
      refine Qv (Qm (Qx Z ?_))
      simp [QlW, h1, h2, h3, h4, h5]
     ·try rw [h5]
      try simp only [qB] at h5
      refine Qy (Qe (kp2 Z Z) (Qf fun K hK => Qk Z Z (QE Z Z Z (Qk Z Z (QE Z Z Z (QB (Qca (by omega) (by omega)) Z Z (.inr Z) (Qa Z (hK _ _ (Qb (kp1 Z) ?_)))))))))
      refine Qv (Qx Z ?_)
      simp [QlW, h1, h2, h3, h4, h5]
theorem Yp {e a b c : Int} {p q : List UInt8} {f : Bool} (hp : p.length <= 1000000) (hq : q.length <= 1000000) : Ok Try.prog 84 [.agg [.int .i64 e, .int .i64 a, .int .i64 b, .int .i64 c, .str p, .str q, .bool f]] (.bool (Qdl e a b c p q f)) := by
 refine Ok.ofT Yi Try.func84 Qr7 (Nat.le_of_ble_eq_true Z) ?_
 show TW _ _ tf84.body _ _
 refine Qf fun K hK => Z1 Z Z Z (Qa Z (hK _ _ (Qb (kp1 Z) ?_)))
 refine QH ?_ -- 0
 refine Qf fun K hK => Qk Z Z (QE Z Z Z (Z5 Z Z (hK _ _ (Qb (kp2 Z Z) ?_))))
 refine QC Z (fun h1 => ?_) (fun h1 => ?_)
 ·try rw [h1]
  try simp only [qB] at h1
  refine Qf fun K hK => Qk Z Z (QF (cs := [_, _, _, _, _]) Z Z Z Z (QB (Zm (by omega) (by omega)) Z Z (.inr Z) (Qa Z ?_)))
  refine QA (g := 9) Z (fun h2 => ?_) (fun h2 => ?_)
  ·try rw [h2]
   try simp only [qB] at h2
   refine Qg Z (Qk Z Z (Qg Z (Qk Z Z (Qg Z (QE Z Z Z (Qg Z (Qhb Z Z (Qj Z Z (Qa Z (hK _ _ (Qb (kp1 Z) ?_)))))))))))
   refine Qv (Qm (Qt Z ?_))
   simp_all [Qdl]
  ·try rw [h2]
   try simp only [qB] at h2
   refine Qo Z (Qo Z (Qo Z (Qo Z (Qj Z Z (Qa Z (hK _ _ (Qb (kp1 Z) ?_)))))))
   refine Qv (Qm (Qt Z ?_))
   simp_all [Qdl]
 ·try rw [h1]
  try simp only [qB] at h1
  refine Qy (Qe (kp1 Z) (Qf fun K hK => Qk Z Z (QE Z Z Z (Z5 Z Z (Qa Z ?_)))))
  refine QA (g := 18) Z (fun h3 => ?_) (fun h3 => ?_)
  ·try rw [h3]
   try simp only [qB] at h3
   refine Qo Z (Qo Z (Qo Z (Qj Z Z (Qa Z (Qg Z (Qk Z Z (Qg Z (QF (cs := [_, _, _, _, _]) Z Z Z Z (Qg Z (QS Z Z (Qg Z ?_)))))))))))
   refine Qjq Z Z Z (Qj Z Z (Qa Z ?_))
   refine QA (g := 29) Z (fun h4 => ?_) (fun h4 => ?_)
   ·try rw [h4]
    try simp only [qB] at h4
    refine Qg Z (Qk Z Z (Qg Z (QE Z Z Z (Qg Z (Yn Z (Qj Z Z (Qa Z (hK _ _ (Qb (kp1 Z) ?_)))))))))
    refine Qv (Qt Z ?_)
    simp_all [Qdl]
   ·try rw [h4]
    try simp only [qB] at h4
    refine Qo Z (Qo Z (Qo Z (Qj Z Z (Qa Z (hK _ _ (Qb (kp1 Z) ?_))))))
    refine Qv (Qt Z ?_)
    simp_all [Qdl]
  ·try rw [h3]
   try simp only [qB] at h3
   refine Qg Z (Qk Z Z (Qg Z (QE Z Z Z (Qg Z (Z5 Z Z (Qj Z Z (Qa Z ?_)))))))
   refine QA (g := 23) Z (fun h5 => ?_) (fun h5 => ?_)
   ·try rw [h5]
    try simp only [qB] at h5
    refine Qg Z (Qk Z Z (Qg Z (QF (cs := [_, _, _, _, _]) Z Z Z Z (Qg Z (QS Z Z (Qg Z (Qjq Z Z Z (Qj Z Z (Qa Z ?_)))))))))
    refine QA (g := 29) Z (fun h6 => ?_) (fun h6 => ?_)
    ·try rw [h6]
     try simp only [qB] at h6
     refine Qg Z (Qk Z Z (Qg Z (QE Z Z Z (Qg Z (Yn Z (Qj Z Z (Qa Z (hK _ _ (Qb (kp1 Z) ?_)))))))))
     refine Qv (Qt Z ?_)
     simp_all [Qdl]
    ·try rw [h6]
     try simp only [qB] at h6
     refine Qo Z (Qo Z (Qo Z (Qj Z Z (Qa Z (hK _ _ (Qb (kp1 Z) ?_))))))
     refine Qv (Qt Z ?_)
     simp_all [Qdl]
   ·try rw [h5]
    try simp only [qB] at h5
    refine Qo Z (Qo Z (Qo Z (Qo Z (Qj Z Z (Qa Z (Qo Z (Qo Z (Qo Z (Qj Z Z (Qa Z (hK _ _ (Qb (kp1 Z) ?_))))))))))))
    refine Qv (Qt Z ?_)
    simp_all [Qdl]
theorem Zl {e a b c : Int} {p q : List UInt8} {f : Bool} (hp : p.length <= 1000000) (hq : q.length <= 1000000) {e' a' b' c' : Int} {p' q' : List UInt8} {f' : Bool} (hp' : p'.length <= 1000000) (hq' : q'.length <= 1000000) : Ok Try.prog 82 [.agg [.int .i64 e, .int .i64 a, .int .i64 b, .int .i64 c, .str p, .str q, .bool f], .agg [.int .i64 e', .int .i64 a', .int .i64 b', .int .i64 c', .str p', .str q', .bool f']] (.int .i64 (QaR e a b c p q f e' a' b' c' p' q' f')) := by
 refine Ok.ofT Yi Try.func82 Qr5 (Nat.le_of_ble_eq_true Z) ?_
 show TW _ _ tf82.body _ _
 refine Qf fun K hK => Z1 Z Z Z (Z1 Z Z Z (Qa Z (hK _ _ (Qb (kp2 Z Z) ?_))))
 refine QH ?_ -- 0
 refine Qf fun K hK => QF (cs := [_, _, _, _, _, _, _]) Z Z Z Z (QB (Yp (by omega) (by omega)) Z Z (.inr Z) (Yn Z (Qa Z ?_)))
 refine QA (g := 9) Z (fun h1 => ?_) (fun h1 => ?_)
 ·try rw [h1]
  try simp only [qB] at h1
  refine Qo Z (Qo Z (Qo Z (Qj Z Z (hK _ _ (Qb (kp3 Z Z Z) ?_)))))
  refine ZD Z (Qf fun K hK => Qa Z (hK _ _ (Qb (kp1 Z) ?_)))
  refine Qv (Qm (Qx Z ?_))
  first | (simp [QaR, h1]; done) | (simp_all [QaR]; done)
 ·try rw [h1]
  try simp only [qB] at h1
  refine Qg Z (QF (cs := [_, _, _, _, _, _, _]) Z Z Z Z (Qg Z (QB (Yp (by omega) (by omega)) Z Z (.inr Z) (Qg Z (Yn Z (Qj Z Z (hK _ _ (Qb (kp3 Z Z Z) ?_))))))))
  refine QC Z (fun h2 => ?_) (fun h2 => ?_)
  ·try rw [h2]
   try simp only [qB] at h2
   refine Qf fun K hK => Qa Z (hK _ _ (Qb (kp1 Z) ?_))
   refine Qv (Qm (Qx Z ?_))
   first | (simp [QaR, h1, h2]; done) | (simp_all [QaR]; done)
  ·try rw [h2]
   try simp only [qB] at h2
   refine Qy (Qe (kp2 Z Z) ?_)
   refine QH ?_ -- 1
   refine Qf fun K hK => Qk Z Z (QE Z Z Z (Qk Z Z (QE Z Z Z ?_)))
   first | refine Qa3 rfl rfl ?_ | refine QmD rfl rfl ?_
   refine Qa Z ?_
   refine QA (g := 19) Z (fun h3 => ?_) (fun h3 => ?_)
   ·try rw [h3]
    try simp only [qB] at h3
    refine Qo Z (Qo Z (Qo Z (Qj Z Z (hK _ _ (Qb (kp3 Z Z Z) ?_)))))
    refine ZD Z (Qf fun K hK => Qk Z Z (QE Z Z Z (Qk Z Z (QE Z Z Z (QB (Zp) Z Z (.inr Z) (Qa Z (hK _ _ (Qb (kp1 Z) ?_))))))))
    refine Qv (Qm (Qx Z ?_))
    first | (simp [QaR, h1, h2, h3]; done) | (simp_all [QaR]; done)
   ·try rw [h3]
    try simp only [qB] at h3
    refine Qg Z (Qk Z Z (Qg Z (QE Z Z Z (Qg Z (Qa3 Z Z (Qj Z Z (hK _ _ (Qb (kp3 Z Z Z) ?_))))))))
    refine QC Z (fun h4 => ?_) (fun h4 => ?_)
    ·try rw [h4]
     try simp only [qB] at h4
     refine Qf fun K hK => Qk Z Z (QE Z Z Z (Qk Z Z (QE Z Z Z (QB (Zp) Z Z (.inr Z) (Qa Z (hK _ _ (Qb (kp1 Z) ?_)))))))
     refine Qv (Qm (Qx Z ?_))
     first | (simp [QaR, h1, h2, h3, h4]; done) | (simp_all [QaR]; done)
    ·try rw [h4]
     try simp only [qB] at h4
     refine Qy (Qe (kp2 Z Z) ?_)
     refine QH ?_ -- 2
     refine Qf fun K hK => Qk Z Z (QF (cs := [_, _, _, _, _]) Z Z Z Z (Qk Z Z (QF (cs := [_, _, _, _, _]) Z Z Z Z (QB (Qa4 (by omega) (by omega) (by omega) (by omega)) Z Z (.inr Z) (Qa Z (hK _ _ (Qb (kp3 Z Z Z) ?_)))))))
     refine Qf fun K hK => Qa Z (Qa3 Z Z (hK _ _ (Qb (kp4 Z Z Z Z) ?_)))
     refine QC Z (fun h5 => ?_) (fun h5 => ?_)
     ·try rw [h5]
      try simp only [qB] at h5
      refine Qf fun K hK => Qa Z (Qa Z (hK _ _ (Qb (kp1 Z) ?_)))
      refine Qv (Qm (Qx Z ?_))
      first | (simp [QaR, h1, h2, h3, h4, h5]; done) | (simp_all [QaR]; done)
     ·try rw [h5]
      try simp only [qB] at h5
      refine Qy (Qe (kp2 Z Z) ?_)
      refine QH ?_ -- 3
      refine QJ (Qf fun K hK => Qk Z Z (QE Z Z Z (Qk Z Z (QE Z Z Z (Qqo Z Z (Qa Z (hK _ _ (Qb (kp2 Z Z) ?_))))))))
      refine QC Z (fun h6 => ?_) (fun h6 => ?_)
      ·try rw [h6]
       try simp only [qB] at h6
       refine Qf fun K hK => Qa Z (hK _ _ (Qb (kp1 Z) ?_))
       refine Qv (Qw (Qm (Qx Z ?_)))
       first | (simp [QaR, h1, h2, h3, h4, h5, h6]; done) | (simp_all [QaR]; done)
      ·try rw [h6]
       try simp only [qB] at h6
       refine Qf fun K hK => Qk Z Z (QE Z Z Z (Qa Z (hK _ _ (Qb (kp1 Z) ?_))))
       refine QC Z (fun h7 => ?_) (fun h7 => ?_)
       ·try rw [h7]
        try simp only [qB] at h7
        refine Qf fun K hK => Qa Z (hK _ _ (Qb (kp1 Z) ?_))
        refine Qv (Qw (Qm (Qx Z ?_)))
        first | (simp [QaR, h1, h2, h3, h4, h5, h6, h7]; done) | (simp_all [QaR]; done)
       ·try rw [h7]
        try simp only [qB] at h7
        refine Qy (Ql (Qe (QZ) (Qf fun K hK => Qa Z (hK _ _ (Qb (kp1 Z) ?_)))))
        refine Qv (Qx Z ?_)
        first | (simp [QaR, h1, h2, h3, h4, h5, h6, h7]; done) | (simp_all [QaR]; done)
theorem Xa {e a b c : Int} {p q : List UInt8} {f : Bool} (hp : p.length <= 1000000) (hq : q.length <= 1000000) {e' a' b' c' : Int} {p' q' : List UInt8} {f' : Bool} (hp' : p'.length <= 1000000) (hq' : q'.length <= 1000000) : Ok Try.prog 81 [.agg [.int .i64 e, .int .i64 a, .int .i64 b, .int .i64 c, .str p, .str q, .bool f, .int .i64 e', .int .i64 a', .int .i64 b', .int .i64 c', .str p', .str q', .bool f']] (.bool (QgH e a b c p q f e' a' b' c' p' q' f')) := by
 refine Ok.ofT Yi Try.func81 Qr4 (Nat.le_of_ble_eq_true Z) ?_
 show TW _ _ tf81.body _ _
 refine Qf fun K hK => Z1 Z Z Z (Qa Z (hK _ _ (Qb (kp1 Z) ?_)))
 refine Qf fun K hK => Qk Z Z (QF (cs := [_, _, _, _, _, _, _]) Z Z Z Z (QB (Yp (by omega) (by omega)) Z Z (.inr Z) (Qa Z ?_)))
 refine QA (g := 6) Z (fun h1 => ?_) (fun h1 => ?_)
 ·try rw [h1]
  try simp only [qB] at h1
  refine Qg Z (Qk Z Z (Qg Z (QF (cs := [_, _, _, _, _, _, _]) Z Z Z Z (Qg Z (QB (Yp (by omega) (by omega)) Z Z (.inr Z) (Qj Z Z (Qa Z ?_)))))))
  refine QA (g := 11) Z (fun h2 => ?_) (fun h2 => ?_)
  ·try rw [h2]
   try simp only [qB] at h2
   refine Qg Z (Qk Z Z (Qg Z (QF (cs := [_, _, _, _, _, _, _]) Z Z Z Z (Qg Z (Qk Z Z (Qg Z (QF (cs := [_, _, _, _, _, _, _]) Z Z Z Z (Qg Z (QB (Zl (by omega) (by omega) (by omega) (by omega)) Z Z (.inr Z) (Qg Z (YY Z Z ?_)))))))))))
   refine Qj Z Z (Qa Z (hK _ _ (Qb (kp1 Z) ?_)))
   refine Qv (Qt Z ?_)
   first | (simp [QgH, h1, h2]; done) | (simp_all [QgH]; done)
  ·try rw [h2]
   try simp only [qB] at h2
   refine Qo Z (Qo Z (Qo Z (Qo Z (Qo Z (Qo Z (Qj Z Z (Qa Z (hK _ _ (Qb (kp1 Z) ?_)))))))))
   refine Qv (Qt Z ?_)
   first | (simp [QgH, h1, h2]; done) | (simp_all [QgH]; done)
 ·try rw [h1]
  try simp only [qB] at h1
  refine Qo Z (Qo Z (Qo Z (Qj Z Z (Qa Z (Qo Z (Qo Z (Qo Z (Qo Z (Qo Z (Qo Z (Qj Z Z ?_)))))))))))
  refine Qa Z (hK _ _ (Qb (kp1 Z) ?_))
  refine Qv (Qt Z ?_)
  first | (simp [QgH, h1]; done) | (simp_all [QgH]; done)
end Go.Proofs
namespace M3
open Go Go.Abs
end M3
namespace M3
open Go Go.Abs
end M3
namespace M3
open Go Go.Abs
end M3
namespace M25
open Go Go.Abs M3
def QfR (a b c : Int) : Bool := decide (a = 0) && decide (b = 0) && decide (c = 0)
def XE (a b c : Int) (p q : List UInt8) (part : Int) : Option (Int × Int × Int) :=
 if Qg4 a b c p q = false \/ part < 0 \/ 2 < part then none
 else
  let o := if part = 0 then (a + 1, 0, 0) else if part = 1 then (a, b + 1, 0) else (a, b, c + 1)
  if Qg4 o.1 o.2.1 o.2.2 [] [] = true then some o else none
def dOV (o : Option (Int × Int × Int)) : D := .tup [.agg [.int .i64 (o.getD (0, 0, 0)).1, .int .i64 (o.getD (0, 0, 0)).2.1, .int .i64 (o.getD (0, 0, 0)).2.2, .str [], .str []], .bool o.isSome]
def Xf (a b c : Int) (p q : List UInt8) : Nat -> Option (Int × Int × Int)
 | 0 => none
 | n + 1 => if (XE a b c p q n).isSome = true then XE a b c p q n else Xf a b c p q n
def QhT (a b c : Int) (p q : List UInt8) : Option (Int × Int × Int) :=
 if Qg4 a b c p q = false then none else if p ≠ [] then some (a, b, c) else Xf a b c p q 3
theorem QbG {a b c : Int} {p q : List UInt8} (h : Qg4 a b c p q = true) : (0 <= a /\ a <= 9999) /\ (0 <= b /\ b <= 9999) /\ (0 <= c /\ c <= 9999) := by
 simp only [Qg4, mFits, Bool.and_eq_true, decide_eq_true_eq] at h
 omega
theorem QiA {a b c : Int} {p q : List UInt8} {m : Nat} (hm : 0 < m) (h : (XE a b c p q ((m : Int) - 1)).isSome = false) : Xf a b c p q m = Xf a b c p q (m - 1) := by
 obtain ⟨n, rfl⟩ : ∃ n, m = n + 1 := ⟨m - 1, by omega⟩
 rw [show ((n + 1 : Nat) : Int) - 1 = (n : Int) by omega] at h
 rw [Xf, if_neg (by rw [h]; simp)]; rfl
theorem Qhk {a b c : Int} {p q : List UInt8} {m : Nat} (hm : 0 < m) (h : (XE a b c p q ((m : Int) - 1)).isSome = true) : Xf a b c p q m = XE a b c p q ((m : Int) - 1) := by
 obtain ⟨n, rfl⟩ : ∃ n, m = n + 1 := ⟨m - 1, by omega⟩
 rw [show ((n + 1 : Nat) : Int) - 1 = (n : Int) by omega] at h ⊢
 rw [Xf, if_pos h]
def dCu (x : Cu) : List D := [.int .i64 x.e, .int .i64 x.a, .int .i64 x.b, .int .i64 x.c, .str x.p, .str x.q, .bool x.f]
def QdL (s : Cu × Cu) : List D := dCu s.1 ++ dCu s.2
def ZF (l : List (Cu × Cu)) : D := .sl (l.map QdL)
def Qg3 (s : List (Cu × Cu) × List (Cu × Cu)) : D := .agg [ZF s.1, ZF s.2]
def Qb0 : Cu := ⟨-1, 0, 0, 0, [], [], false⟩
def Qfn : Cu := ⟨1, 0, 0, 0, [], [], false⟩
def QeO (a b c : Int) : Cu := if QfR a b c = true then Qb0 else ⟨0, a, b, c, [], [], false⟩
def QcK (a b c : Int) : Cu := match QhT a b c [] [] with
 | none => Qfn
 | some o => ⟨0, o.1, o.2.1, o.2.2, [], [], false⟩
def YV (a b c : Int) (p q : List UInt8) : List (Cu × Cu) × List (Cu × Cu) :=
 if Qg4 a b c p q = false then ([], []) else if p ≠ [] then ([], [(⟨0, a, b, c, p, [], false⟩, ⟨0, a, b, c, p, [], true⟩)]) else ([(QeO a b c, QcK a b c)], [])
def QfT (e a b c : Int) (p q : List UInt8) (f : Bool) : Bool := !decide (e = 0) || (!f && decide (p = []) && !QfR a b c)
def Cu.sm (x : Cu) : Prop := x.p.length <= 1000000 /\ x.q.length <= 1000000
def Sm (l : List (Cu × Cu)) : Prop := l.length <= 1000000 /\ ∀ s ∈ l, Cu.sm s.1 /\ Cu.sm s.2
theorem Sm.at {l : List (Cu × Cu)} (h : Sm l) {i : Nat} (hi : i < l.length) : (l[i].1.p.length <= 1000000 /\ l[i].1.q.length <= 1000000) /\ (l[i].2.p.length <= 1000000 /\ l[i].2.q.length <= 1000000) := h.2 _ (List.getElem_mem hi)
def QcO (s : Cu × Cu) : Bool := QgH s.1.e s.1.a s.1.b s.1.c s.1.p s.1.q s.1.f s.2.e s.2.a s.2.b s.2.c s.2.p s.2.q s.2.f
def QaS (x y : Cu) : Int := QaR x.e x.a x.b x.c x.p x.q x.f y.e y.a y.b y.c y.p y.q y.f
def Qpe (l : List (Cu × Cu)) (i : Nat) : Bool := match l[i]? with
 | none => true
 | some s => QcO s && (decide (i = 0) || match l[i - 1]? with | none => true | some r => decide (QaS r.2 s.1 < 0))
theorem Ql8 {l : List (Cu × Cu)} {i : Nat} (h : i < l.length) : Qpe l i = (QcO l[i] && (decide (i = 0) || decide (QaS (l[i - 1]'(by omega)).2 l[i].1 < 0))) := by
 unfold Qpe
 rw [List.getElem?_eq_getElem h, List.getElem?_eq_getElem (show i - 1 < l.length by omega)]
theorem Qn0 {l : List (Cu × Cu)} {i : Nat} (h : i < l.length) (h1 : QcO l[i] = true) (h2 : i = 0 \/ QaS (l[i - 1]'(by omega)).2 l[i].1 < 0) : Qpe l i = true := by
 rw [Ql8 h, h1]; simpa using h2
theorem QfZ {l : List (Cu × Cu)} {i : Nat} (h : i < l.length) (h1 : QcO l[i] = false \/ (i ≠ 0 /\ 0 <= QaS (l[i - 1]'(by omega)).2 l[i].1)) : Qpe l i = false := by
 rw [Ql8 h]
 rcases h1 with h1 | ⟨h1, h2⟩
 ·rw [h1]; rfl
 ·simp only [Bool.and_eq_false_iff, Bool.or_eq_false_iff, decide_eq_false_iff_not]
  exact .inr ⟨h1, by omega⟩
def QeP (l : List (Cu × Cu)) : Bool := (List.range l.length).all (Qpe l)
theorem QaT {n i : Nat} {p : Nat -> Bool} (h : i < n) (hp : p i = false) : (List.range n).all p = false := by
 rw [Bool.eq_false_iff]; intro ha
 rw [List.all_eq_true] at ha
 rw [ha i (List.mem_range.2 h)] at hp; cases hp
theorem QgP {i : Nat} {p : Nat -> Bool} (h : (List.range i).all p = true) (hp : p i = true) : (List.range (i + 1)).all p = true := by
 rw [List.range_succ, List.all_append, h]; simp [hp]
theorem Qd7 {i : Nat} {p : Nat -> Bool} {n : Nat} (h : (List.range i).all p = true) (hn : n <= i) : (List.range n).all p = true := by
 rw [List.all_eq_true] at h ⊢
 exact fun x hx => h x (List.mem_range.2 (Nat.lt_of_lt_of_le (List.mem_range.1 hx) hn))
def QoP (s : Cu × Cu) (a b c : Int) (p q : List UInt8) : Bool := QpU s.1.e s.1.a s.1.b s.1.c s.1.p s.1.q s.1.f s.2.e s.2.a s.2.b s.2.c s.2.p s.2.q s.2.f a b c p q
def QpT (l : List (Cu × Cu)) (a b c : Int) (p q : List UInt8) : Bool := QeP l && l.any fun s => QoP s a b c p q
def inC (x y : Cu) (s : Cu × Cu) : Bool := decide (QaS s.1 x <= 0) && decide (QaS y s.2 <= 0)
theorem QpJ {x y : Cu} {s : Cu × Cu} (h1 : QaS s.1 x <= 0) (h2 : QaS y s.2 <= 0) : inC x y s = true := by simp [inC, h1, h2]
theorem QpI {x y : Cu} {s : Cu × Cu} (h : ¬ QaS s.1 x <= 0 \/ ¬ QaS y s.2 <= 0) : inC x y s = false := by
 simp only [inC, Bool.and_eq_false_iff, decide_eq_false_iff_not]; exact h
def mIn (l : List (Cu × Cu)) (x y : Cu) : Bool := l.any (inC x y)
theorem Qix {α : Type} {s : List α} {p : α -> Bool} {i : Nat} (h : i < s.length) (hp : p s[i] = true) : s.any p = true := List.any_eq_true.2 ⟨_, List.getElem_mem h, hp⟩
theorem QnJ {α : Type} {s : List α} {p : α -> Bool} {i : Nat} (hi : s.length <= i) (h : (s.take i).any p = false) : s.any p = false := by rwa [List.take_of_length_le hi] at h
theorem Qk7 {α : Type} {s : List α} {p : α -> Bool} {i : Nat} (h : i < s.length) (ha : (s.take i).any p = false) (hp : p s[i] = false) : (s.take (i + 1)).any p = false := by
 rw [List.take_succ_eq_append_getElem h, List.any_append, ha]; simp [hp]
def Qa1 (x : Cu) : Bool := QfT x.e x.a x.b x.c x.p x.q x.f
def QeQ (s : List (Cu × Cu) × List (Cu × Cu)) : Bool := QeP s.1 && QeP s.2 && s.1.all fun x => Qa1 x.1 && Qa1 x.2
def QqH (s : List (Cu × Cu) × List (Cu × Cu)) (a b c : Int) (p q : List UInt8) : Bool :=
 QeQ s && Qg4 a b c p q && (if p = [] then QpT s.1 a b c p q else QpT s.2 a b c p q)
theorem Qan {s : List (Cu × Cu) × List (Cu × Cu)} (h : QeP s.1 = false \/ QeP s.2 = false) : QeQ s = false := by
 rw [QeQ]; rcases h with h | h <;> simp [h]
theorem Qam {s : List (Cu × Cu) × List (Cu × Cu)} {i : Nat} (hi : i < s.1.length) (h : Qa1 s.1[i].1 = false \/ Qa1 s.1[i].2 = false) : QeQ s = false := by
 have : (s.1.all fun x => Qa1 x.1 && Qa1 x.2) = false := X5 hi (by rcases h with h | h <;> simp [h])
 rw [QeQ, this, Bool.and_false]
theorem QcR {s : List (Cu × Cu) × List (Cu × Cu)} {i : Nat} (h1 : QeP s.1 = true) (h2 : QeP s.2 = true) (hi : s.1.length <= i) (h : (s.1.take i).all (fun x => Qa1 x.1 && Qa1 x.2) = true) : QeQ s = true := by
 rw [List.take_of_length_le hi] at h
 rw [QeQ, h1, h2, h]; rfl
def Qgh (l : List Cu) : D := .sl (l.map dCu)
theorem Qia {l : List Cu} : ∀ r ∈ l.map dCu, r.length = 7 := fun r hr => by obtain ⟨x, _, rfl⟩ := List.mem_map.1 hr; rfl
theorem Qnm {l : List Cu} {a b : Nat} : ∀ r ∈ ((l.map dCu).take a).drop b, r.length = 7 := fun r hr => Qia r (List.mem_of_mem_take (List.mem_of_mem_drop hr))
def Qbr : List Cu -> Cu -> List Cu
 | [], c => [c]
 | x :: r, c => if QaS x c < 0 then x :: Qbr r c else if QaS x c = 0 then x :: r else c :: x :: r
theorem Ql0 {l : List Cu} {c : Cu} {k : Nat} (hk : k < l.length) (h : QaS l[k] c < 0) (hi : Qbr l c = l.take k ++ Qbr (l.drop k) c) : Qbr l c = l.take (k + 1) ++ Qbr (l.drop (k + 1)) c := by
 rw [hi, List.drop_eq_getElem_cons hk, Qbr, if_pos h, List.take_succ_eq_append_getElem hk, List.append_assoc]; rfl
theorem QlZ {l : List Cu} {c : Cu} {k : Nat} (hk : k < l.length) (h : QaS l[k] c = 0) (hi : Qbr l c = l.take k ++ Qbr (l.drop k) c) : Qbr l c = l := by
 rw [hi, List.drop_eq_getElem_cons hk, Qbr, if_neg (by omega), if_pos h, <- List.drop_eq_getElem_cons hk, List.take_append_drop]
theorem Qj0 {l : List Cu} {c : Cu} {k : Nat} (h : l.length <= k \/ ∃ hk : k < l.length, ¬ QaS l[k] c < 0 /\ QaS l[k] c ≠ 0) (hi : Qbr l c = l.take k ++ Qbr (l.drop k) c) : Qbr l c = l.take k ++ c :: l.drop k := by
 rw [hi]
 rcases h with h | ⟨hk, h1, h2⟩
 ·rw [List.drop_eq_nil_of_le h, Qbr]
 ·rw [List.drop_eq_getElem_cons hk, Qbr, if_neg h1, if_neg h2]
theorem Qd1 : ∀ (l : List Cu) (c : Cu), (Qbr l c).length <= l.length + 1
 | [], c => by simp [Qbr]
 | x :: r, c => by
  have := Qd1 r c
  simp only [Qbr]
  (repeat' split) <;> simp <;> omega
theorem QgG : ∀ {l : List Cu} {c : Cu}, (∀ x ∈ l, Cu.sm x) -> Cu.sm c -> ∀ x ∈ Qbr l c, Cu.sm x
 | [], c, _, hc, x, hx => by simp [Qbr] at hx; exact hx ▸ hc
 | y :: r, c, hl, hc, x, hx => by
  simp only [Qbr] at hx
  split at hx
  ·rcases List.mem_cons.1 hx with rfl | hx
   ·exact hl _ (by simp)
   ·exact QgG (fun z hz => hl z (by simp [hz])) hc x hx
  ·split at hx
   ·exact hl x hx
   ·rcases List.mem_cons.1 hx with rfl | hx
    ·exact hc
    ·exact hl x hx
def YA (l : List (Cu × Cu)) : List Cu := l.foldl (fun out s => Qbr (Qbr out s.1) s.2) [Qb0, Qfn]
theorem Qnb {l : List (Cu × Cu)} {i : Nat} (h : i < l.length) : YA (l.take (i + 1)) = Qbr (Qbr (YA (l.take i)) l[i].1) l[i].2 := by
 rw [List.take_succ_eq_append_getElem h, YA, List.foldl_append]; rfl
theorem QfP : ∀ (l : List (Cu × Cu)) (out : List Cu), (l.foldl (fun out s => Qbr (Qbr out s.1) s.2) out).length <= out.length + 2 * l.length
 | [], out => by simp
 | s :: l, out => by
  have h1 := Qd1 out s.1
  have h2 := Qd1 (Qbr out s.1) s.2
  have := QfP l (Qbr (Qbr out s.1) s.2)
  simp only [List.foldl_cons, List.length_cons]; omega
theorem Qbo (l : List (Cu × Cu)) : (YA l).length <= 2 + 2 * l.length := QfP l _
theorem QhO : ∀ {l : List (Cu × Cu)} {out : List Cu}, (∀ s ∈ l, Cu.sm s.1 /\ Cu.sm s.2) -> (∀ x ∈ out, Cu.sm x) -> ∀ x ∈ l.foldl (fun out s => Qbr (Qbr out s.1) s.2) out, Cu.sm x
 | [], _, _, h => h
 | s :: l, out, hl, h => by
  rw [List.foldl_cons]
  exact QhO (fun t ht => hl t (by simp [ht])) (QgG (QgG h (hl s (by simp)).1) (hl s (by simp)).2)
theorem QjU {l : List (Cu × Cu)} (hl : ∀ s ∈ l, Cu.sm s.1 /\ Cu.sm s.2) : ∀ x ∈ YA l, Cu.sm x := QhO hl (by
 intro x hx
 simp only [List.mem_cons, List.not_mem_nil, or_false] at hx
 rcases hx with rfl | rfl <;> exact ⟨Nat.zero_le _, Nat.zero_le _⟩)
theorem Qd0 {l : List (Cu × Cu)} (hl : Sm l) (i : Nat) : (YA (l.take i)).length <= 2000002 /\ ∀ x ∈ YA (l.take i), Cu.sm x := by
 refine ⟨?_, QjU fun s hs => hl.2 s (List.mem_of_mem_take hs)⟩
 have := Qbo (l.take i)
 have h2 : (l.take i).length <= l.length := List.length_take_le' ..
 have := hl.1
 omega
def Qbq (l : List (Cu × Cu)) (x y : Cu) : List (Cu × Cu) := match l.getLast? with
 | some s => if QaS s.2 x = 0 then l.dropLast ++ [(s.1, y)] else l ++ [(x, y)]
 | none => l ++ [(x, y)]
theorem QhQ {l : List (Cu × Cu)} {x y : Cu} {i : Nat} (hi : i + 1 = l.length) (h : QaS (l[i]'(by omega)).2 x = 0) : Qbq l x y = l.set i ((l[i]'(by omega)).1, y) := by
 have hg : l.getLast? = some (l[i]'(by omega)) := by
  rw [List.getLast?_eq_getElem?, show l.length - 1 = i by omega, List.getElem?_eq_getElem]
 rw [Qbq, hg]
 simp only [h, if_true]
 rw [List.dropLast_eq_take, show l.length - 1 = i by omega, List.set_eq_take_append_cons_drop, if_pos (by omega), List.drop_eq_nil_of_le (by omega)]
theorem QcN {l : List (Cu × Cu)} {x y : Cu} (h : l = [] \/ ∃ i, ∃ hi : i + 1 = l.length, QaS (l[i]'(by omega)).2 x ≠ 0) : Qbq l x y = l ++ [(x, y)] := by
 rcases h with rfl | ⟨i, hi, h⟩
 ·rfl
 ·have hg : l.getLast? = some (l[i]'(by omega)) := by
   rw [List.getLast?_eq_getElem?, show l.length - 1 = i by omega, List.getElem?_eq_getElem]
  rw [Qbq, hg]
  simp only [if_neg h]
theorem QhR (l : List (Cu × Cu)) (x y : Cu) : (Qbq l x y).length <= l.length + 1 := by
 unfold Qbq
 split
 ·split
  ·simp
  ·simp
 ·simp
theorem QjW {l : List (Cu × Cu)} {x y : Cu} (hl : ∀ s ∈ l, Cu.sm s.1 /\ Cu.sm s.2) (hx : Cu.sm x) (hy : Cu.sm y) : ∀ s ∈ Qbq l x y, Cu.sm s.1 /\ Cu.sm s.2 := by
 intro s hs
 unfold Qbq at hs
 split at hs
 ·rename_i t ht
  have ht' := List.mem_of_getLast? ht
  split at hs
  ·rcases List.mem_append.1 hs with hs | hs
   ·exact hl s (List.dropLast_subset _ hs)
   ·simp at hs; subst hs; exact ⟨(hl t ht').1, hy⟩
  ·rcases List.mem_append.1 hs with hs | hs
   ·exact hl s hs
   ·simp at hs; subst hs; exact ⟨hx, hy⟩
 ·rcases List.mem_append.1 hs with hs | hs
  ·exact hl s hs
  ·simp at hs; subst hs; exact ⟨hx, hy⟩
theorem QjL {α β : Type} {l : List α} {f : α -> β} {i : Nat} (h : i + 1 < l.length) : (l.map f)[((i : Int) + 1).toNat]? = some (f l[i + 1]) := by
 rw [show ((i : Int) + 1).toNat = i + 1 by omega, List.getElem?_map, List.getElem?_eq_getElem h]; rfl
def Qbp (f : Cu -> Cu -> Bool) : List Cu -> List (Cu × Cu) -> List (Cu × Cu)
 | x :: y :: r, out => Qbp f (y :: r) (if f x y = true then Qbq out x y else out)
 | _, out => out
def QiS (l : List (Cu × Cu)) : List (Cu × Cu) := if l.all QcO = true then Qbp (mIn l) (YA l) [] else []
theorem QfQ {f : Cu -> Cu -> Bool} {c : List Cu} {out : List (Cu × Cu)} {i : Nat} (h : i + 1 < c.length) : Qbp f (c.drop i) out = Qbp f (c.drop (i + 1)) (if f c[i] c[i + 1] = true then Qbq out c[i] c[i + 1] else out) := by
 rw [List.drop_eq_getElem_cons (show i < c.length by omega), List.drop_eq_getElem_cons h, Qbp]
theorem QlX {f : Cu -> Cu -> Bool} {c : List Cu} {out : List (Cu × Cu)} {i : Nat} (h : c.length <= i + 1) : Qbp f (c.drop i) out = out := by
 have : (c.drop i).length <= 1 := by simp; omega
 match hd : c.drop i with
 | [] => rfl
 | [x] => rfl
 | x :: y :: r => rw [hd] at this; simp at this
def FillI (f : Cu -> Cu -> Bool) (c : List Cu) (i : Nat) (out : List (Cu × Cu)) : Prop :=
 out.length <= i /\ (∀ s ∈ out, Cu.sm s.1 /\ Cu.sm s.2) /\ Qbp f c [] = Qbp f (c.drop i) out
theorem FillI.zero {f : Cu -> Cu -> Bool} {c : List Cu} : FillI f c 0 [] := ⟨Nat.zero_le _, by simp, by simp⟩
theorem FillI.take {f : Cu -> Cu -> Bool} {c : List Cu} {i : Nat} {out : List (Cu × Cu)} (h : FillI f c i out) (hc : ∀ x ∈ c, Cu.sm x) (hi : i + 1 < c.length) (ht : f c[i] c[i + 1] = true) : FillI f c (i + 1) (Qbq out c[i] c[i + 1]) := by
 obtain ⟨h1, h2, h3⟩ := h
 refine ⟨Nat.le_trans (QhR ..) (by omega), QjW h2 (hc _ (List.getElem_mem _)) (hc _ (List.getElem_mem _)), ?_⟩
 rw [h3, QfQ hi, if_pos ht]
theorem FillI.skip {f : Cu -> Cu -> Bool} {c : List Cu} {i : Nat} {out : List (Cu × Cu)} (h : FillI f c i out) (hi : i + 1 < c.length) (ht : f c[i] c[i + 1] = false) : FillI f c (i + 1) out := by
 obtain ⟨h1, h2, h3⟩ := h
 exact ⟨by omega, h2, by rw [h3, QfQ hi, if_neg (by rw [ht]; simp)]⟩
theorem FillI.done {f : Cu -> Cu -> Bool} {c : List Cu} {i : Nat} {out : List (Cu × Cu)} (h : FillI f c i out) (hi : c.length <= i + 1) : Qbp f c [] = out := by rw [h.2.2, QlX hi]
theorem Qqb {i : Nat} : ((i : Int) + 1).toNat = i + 1 := by omega
theorem Yj {l : List (Cu × Cu)} (hl : Sm l) : ∀ x ∈ YA l, Cu.sm x := QjU hl.2
def QnY (a b : List (Cu × Cu)) : List (Cu × Cu) := if QeP a = true /\ QeP b = true then QiS (a ++ b) else []
def QiT (a : List (Cu × Cu)) : List (Cu × Cu) := if QeP a = true then Qbp (fun x y => !mIn a x y) (YA a) [] else []
theorem Qn3 {l : List (Cu × Cu)} : ∀ r ∈ l.map QdL, r.length = 14 := fun r hr => by obtain ⟨x, _, rfl⟩ := List.mem_map.1 hr; rfl
theorem Sm.app {a b : List (Cu × Cu)} (ha : Sm a) (hb : Sm b) (h : a.length + b.length <= 1000000) : Sm (a ++ b) := by
 refine ⟨by simp; omega, fun s hs => ?_⟩
 rcases List.mem_append.1 hs with hs | hs
 ·exact ha.2 s hs
 ·exact hb.2 s hs
theorem QqC {H : List (Nat × Box)} {S : Nat -> Bool} {k n : Nat} {b : Box} (hS : S k = true) (hb : lk H k = some b) (hp : b.pr = true) (hn : n = b.rows.length) : (D.osl k n).fz H S = .sl b.rows := by
 simp only [D.fz, D.fzS, hS, hb, if_true, hp, hn, and_self]
abbrev Qg1 := List (Cu × Cu) × List (Cu × Cu)
def QnZ (a b : Qg1) : Qg1 := if QeQ a = true /\ QeQ b = true then (QnY a.1 b.1, QnY a.2 b.2) else ([], [])
def QgE (a : Qg1) : Qg1 := if QeQ a = true then (QiT a.1, QiT a.2) else ([], [])
def mPl (v n : Int) : Int := if n < 1 then 0 else QeR v n
theorem QjZ {v n : Int} : 0 <= mPl v n := by
 unfold mPl; split
 ·omega
 ·exact Qnj (by omega)
theorem QjY {v n : Int} (h : 1 <= n) : mPl v n < n := by
 rw [mPl, if_neg (by omega)]; exact Qni (by omega)
def QhN (l : List Int) (i : Int) : Int := if i < 0 \/ (l.length : Int) <= i then i.tmod 3 else l.getD i.toNat 0
theorem QlV {l : List Int} {i : Int} (h0 : 0 <= i) (h : i < l.length) : QhN l i = l[i.toNat]'(by omega) := by
 rw [QhN, if_neg (by omega), List.getD_eq_getElem?_getD, List.getElem?_eq_getElem (by omega)]; rfl
def I64 (x : Int) : Prop := -9223372036854775808 <= x /\ x <= 9223372036854775807
theorem Qna {l : List Int} {i : Int} (hl : ∀ x ∈ l, I64 x) (hi : I64 i) : I64 (QhN l i) := by
 by_cases h : i < 0 \/ (l.length : Int) <= i
 ·rw [QhN, if_pos h]
  have h1 := Int.tmod_lt_of_pos i (show (0 : Int) < 3 by omega)
  have h2 := Int.lt_tmod_of_pos i (show (0 : Int) < 3 by omega)
  exact ⟨by omega, by omega⟩
 ·rw [QlV (by omega) (by omega)]
  exact hl _ (List.getElem_mem _)
theorem Qfe (x : Int) : I64 (IntKind.i64.wrap x) := by
 unfold IntKind.wrap I64
 simp only [IntKind.bits, IntKind.signed, Bool.true_and]
 split
 ·rename_i h
  have := of_decide_eq_true h
  omega
 ·rename_i h
  have : ¬ (x % 2 ^ 64 >= 2 ^ (64 - 1)) := fun hh => h (decide_eq_true hh)
  omega
theorem Qdj {α : Type} {k : Nat} {v : α} {l : List (Nat × α)} : lk ((k, v) :: l) k = some v := by rw [Qi, if_pos rfl]
theorem QdZ {α : Type} {k : Nat} {v : α} {l : List (Nat × α)} : (lk ((k, v) :: l) k).isSome = true := by rw [Qdj]; rfl
def gB (L : List Int) (I : Int) (et : Nat) : Box := ⟨[[ZJ L, .int .i64 I]], 2, et, true⟩
def nxI (I : Int) : Int := IntKind.i64.wrap (I + 1)
def nx (L : List Int) (I n : Int) : Int := mPl (QhN L (IntKind.i64.wrap (nxI I - 1))) n
def QeT (h m : Int) : Int := if Qal .and .i64 h m = h then 2 else if Qal .and .i64 h m = 0 then 0 else 1
def Qcg (h m : Int) : Int := if Qal .andNot .i64 h m = 0 then 2 else if Qal .and .i64 h m = 0 then 0 else 1
theorem Qi1 {i : Nat} (h : i <= 62) : 1 <= (2 : Int) ^ i /\ (2 : Int) ^ i <= 4611686018427387904 := by
 have h1 : (2 : Nat) ^ i <= 2 ^ 62 := Nat.pow_le_pow_right (by omega) h
 have h2 : 1 <= (2 : Nat) ^ i := Nat.one_le_two_pow
 have h3 : ((2 ^ i : Nat) : Int) = (2 : Int) ^ i := by simp
 rw [<- h3]
 have h4 : (2 : Nat) ^ 62 = 4611686018427387904 := by decide
 omega
structure Vr where
 a : Int
 b : Int
 c : Int
 p : List UInt8
 q : List UInt8
def dVr (v : Vr) : List D := [.int .i64 v.a, .int .i64 v.b, .int .i64 v.c, .str v.p, .str v.q]
def Vr.sm (v : Vr) : Prop := v.p.length <= 100 /\ v.q.length <= 100
def versions : List Vr := [⟨1, 0, 0, [], []⟩, ⟨1, 2, 0, [], []⟩, ⟨2, 0, 0, [97, 46, 49], []⟩, ⟨2, 0, 0, [], []⟩]
theorem Qjl : ∀ v ∈ versions, v.sm := by
 intro v hv
 simp only [versions, List.mem_cons, List.not_mem_nil, or_false] at hv
 rcases hv with rfl | rfl | rfl | rfl <;> exact ⟨by decide, by decide⟩
theorem QcV {i : Nat} : ((i : Int) - 1).toNat = i - 1 := by omega
end M25
namespace Go.Proofs
open Go Go.Abs M3 M25
set_option linter.unusedVariables false
set_option linter.unusedSimpArgs false
theorem XQ {a b c : Int} {p q : List UInt8} : Ok Try.prog 56 [.agg [.int .i64 a, .int .i64 b, .int .i64 c, .str p, .str q]] (.agg [.int .i64 a, .int .i64 b, .int .i64 c, .str p, .str []]) := by
 refine Ok.ofT Yi Try.func56 QrF (Nat.le_of_ble_eq_true Z) ?_
 show TW _ _ tf56.body _ _
 refine Qf fun K hK => Z1 Z Z Z (ZC Z (hK _ _ (Qb (kp2 Z Z) ?_)))
 refine Qf fun K hK => Qk Z Z (QT Z Z Z Z Z Z Z Z (hK _ _ (Qb (kp2 Z Z) ?_)))
 refine Qf fun K hK => QF (cs := [_, _, _, _, _]) Z Z Z Z (QT Z Z Z Z Z Z Z Z (hK _ _ (Qb (kp1 Z) ?_)))
 refine Qv (Zv (cs := [_, _, _, _, _]) Z Z Z Z ?_)
 exact rfl
theorem YG  : Ok Try.prog 58 [] (.agg [.int .i64 (-1), .int .i64 0, .int .i64 0, .int .i64 0, .str [], .str [], .bool false]) := by
 refine Ok.ofT Yi Try.func58 QrH (Nat.le_of_ble_eq_true Z) ?_
 show TW _ _ tf58.body _ _
 refine Qf fun K hK => ZC Z (hK _ _ (Qb (kp1 Z) ?_))
 refine Qf fun K hK => QS Z Z (QT Z Z Z Z Z Z Z Z (hK _ _ (Qb (kp1 Z) ?_)))
 refine Qv (Zv (cs := [_, _, _, _, _, _, _]) Z Z Z Z ?_)
 exact rfl
theorem YR  : Ok Try.prog 60 [] (.agg [.int .i64 1, .int .i64 0, .int .i64 0, .int .i64 0, .str [], .str [], .bool false]) := by
 refine Ok.ofT Yi Try.func60 QrJ (Nat.le_of_ble_eq_true Z) ?_
 show TW _ _ tf60.body _ _
 refine Qf fun K hK => ZC Z (hK _ _ (Qb (kp1 Z) ?_))
 refine Qf fun K hK => QS Z Z (QT Z Z Z Z Z Z Z Z (hK _ _ (Qb (kp1 Z) ?_)))
 refine Qv (Zv (cs := [_, _, _, _, _, _, _]) Z Z Z Z ?_)
 exact rfl
theorem Yt {a b c : Int} {p q : List UInt8} : Ok Try.prog 41 [.agg [.int .i64 a, .int .i64 b, .int .i64 c, .str p, .str q]] (.agg [.int .i64 0, .int .i64 a, .int .i64 b, .int .i64 c, .str p, .str [], .bool false]) := by
 refine Ok.ofT Yi Try.func41 Qrs (Nat.le_of_ble_eq_true Z) ?_
 show TW _ _ tf41.body _ _
 refine Qf fun K hK => Z1 Z Z Z (ZC Z (hK _ _ (Qb (kp2 Z Z) ?_)))
 refine Qf fun K hK => QF (cs := [_, _, _, _, _]) Z Z Z Z (QB (XQ) Z Z (.inl Z) (QS Z Z (QT Z Z Z Z Z Z Z Z (hK _ _ (Qb (kp1 Z) ?_)))))
 refine Qv (Zv (cs := [_, _, _, _, _, _, _]) Z Z Z Z ?_)
 exact rfl
theorem Qbe {a b c : Int} {p q : List UInt8} : Ok Try.prog 42 [.agg [.int .i64 a, .int .i64 b, .int .i64 c, .str p, .str q]] (.agg [.int .i64 0, .int .i64 a, .int .i64 b, .int .i64 c, .str p, .str [], .bool true]) := by
 refine Ok.ofT Yi Try.func42 Qrt (Nat.le_of_ble_eq_true Z) ?_
 show TW _ _ tf42.body _ _
 refine Qf fun K hK => Z1 Z Z Z (ZC Z (hK _ _ (Qb (kp2 Z Z) ?_)))
 refine Qf fun K hK => QF (cs := [_, _, _, _, _]) Z Z Z Z (QB (XQ) Z Z (.inl Z) (QS Z Z (QT Z Z Z Z Z Z Z Z (hK _ _ (Qb (kp1 Z) ?_)))))
 refine Qv (Zv (cs := [_, _, _, _, _, _, _]) Z Z Z Z ?_)
 exact rfl
theorem Xx {a b c : Int} {p q : List UInt8} : Ok Try.prog 57 [.agg [.int .i64 a, .int .i64 b, .int .i64 c, .str p, .str q]] (.bool (QfR a b c)) := by
 refine Ok.ofT Yi Try.func57 QrG (Nat.le_of_ble_eq_true Z) ?_
 show TW _ _ tf57.body _ _
 refine Qf fun K hK => Z1 Z Z Z (Qa Z (hK _ _ (Qb (kp1 Z) ?_)))
 refine Qf fun K hK => Qk Z Z (QE Z Z Z (Z5 Z Z (Qa Z ?_)))
 refine QA (g := 6) Z (fun h1 => ?_) (fun h1 => ?_)
 ·try rw [h1]
  try simp only [qB] at h1
  refine Qg Z (Qk Z Z (Qg Z (QE Z Z Z (Qg Z (Z5 Z Z (Qj Z Z (Qa Z ?_)))))))
  refine QA (g := 11) Z (fun h2 => ?_) (fun h2 => ?_)
  ·try rw [h2]
   try simp only [qB] at h2
   refine Qg Z (Qk Z Z (Qg Z (QE Z Z Z (Qg Z (Z5 Z Z (Qj Z Z (Qa Z (hK _ _ (Qb (kp1 Z) ?_)))))))))
   refine Qv (Qt Z ?_)
   simp_all [QfR]
  ·try rw [h2]
   try simp only [qB] at h2
   refine Qo Z (Qo Z (Qo Z (Qj Z Z (Qa Z (hK _ _ (Qb (kp1 Z) ?_))))))
   refine Qv (Qt Z ?_)
   simp_all [QfR]
 ·try rw [h1]
  try simp only [qB] at h1
  refine Qo Z (Qo Z (Qo Z (Qj Z Z (Qa Z (Qo Z (Qo Z (Qo Z (Qj Z Z (Qa Z (hK _ _ (Qb (kp1 Z) ?_)))))))))))
  refine Qv (Qt Z ?_)
  simp_all [QfR]
end Go.Proofs
namespace Go.Proofs
open Go Go.Abs M3 M25
set_option linter.unusedVariables false
set_option linter.unusedSimpArgs false
theorem Qb8 {a b c : Int} {p q : List UInt8} (hp : p.length <= 1000000) (hq : q.length <= 1000000) {part : Int} : Ok Try.prog 69 [.agg [.int .i64 a, .int .i64 b, .int .i64 c, .str p, .str q], .int .i64 part] (dOV (XE a b c p q part)) := by
 refine Ok.ofT Yi Try.func69 QrS (Nat.le_of_ble_eq_true Z) ?_
 show TW _ _ tf69.body _ _
 refine Qf fun K hK => Z1 Z Z Z (ZC Z (Qa Z (hK _ _ (Qb (kp3 Z Z Z) ?_))))
 refine QH ?_ -- 0
 refine Qf fun K hK => QF (cs := [_, _, _, _, _]) Z Z Z Z (QB (Zm (by omega) (by omega)) Z Z (.inr Z) (Yn Z (Qa Z ?_)))
 refine QA (g := 10) Z (fun h1 => ?_) (fun h1 => ?_)
 ·try rw [h1]
  try simp only [qB] at h1
  refine Qo Z (Qo Z (Qj Z Z (Qa Z (Qo Z (Qo Z (Qj Z Z (hK _ _ (Qb (kp4 Z Z Z Z) ?_))))))))
  refine ZD Z (Qf fun K hK => QS Z Z (QT Z Z Z Z Z Z Z Z (Qa Z (hK _ _ (Qb (kp2 Z Z) ?_)))))
  refine Qv (Qm (Post.eq (Xc (ds := [.int .i64 _, .int .i64 _, .int .i64 _, .str _, .str _]) (d' := .bool _) (cs := [_, _, _, _, _]) Z Z Z Z Z ⟨rfl, rfl⟩) ?_))
  first | (simp [XE, dOV, h1]; done) | (simp_all [XE, dOV]; done)
 ·try rw [h1]
  try simp only [qB] at h1
  refine Qg Z (Qa Z (Qg Z (YY Z Z (Qj Z Z (Qa Z ?_)))))
  refine QA (g := 14) Z (fun h2 => ?_) (fun h2 => ?_)
  ·try rw [h2]
   try simp only [qB] at h2
   refine Qo Z (Qo Z (Qj Z Z (hK _ _ (Qb (kp4 Z Z Z Z) ?_))))
   refine ZD Z (Qf fun K hK => QS Z Z (QT Z Z Z Z Z Z Z Z (Qa Z (hK _ _ (Qb (kp2 Z Z) ?_)))))
   refine Qv (Qm (Post.eq (Xc (ds := [.int .i64 _, .int .i64 _, .int .i64 _, .str _, .str _]) (d' := .bool _) (cs := [_, _, _, _, _]) Z Z Z Z Z ⟨rfl, rfl⟩) ?_))
   first | (simp [XE, dOV, h1, h2]; done) | (simp_all [XE, dOV]; done)
  ·try rw [h2]
   try simp only [qB] at h2
   refine Qg Z (Qa Z (Qg Z (Qg0 Z Z (Qj Z Z (hK _ _ (Qb (kp4 Z Z Z Z) ?_))))))
   refine QC Z (fun h3 => ?_) (fun h3 => ?_)
   ·try rw [h3]
    try simp only [qB] at h3
    refine Qf fun K hK => QS Z Z (QT Z Z Z Z Z Z Z Z (Qa Z (hK _ _ (Qb (kp2 Z Z) ?_))))
    refine Qv (Qm (Post.eq (Xc (ds := [.int .i64 _, .int .i64 _, .int .i64 _, .str _, .str _]) (d' := .bool _) (cs := [_, _, _, _, _]) Z Z Z Z Z ⟨rfl, rfl⟩) ?_))
    first | (simp [XE, dOV, h1, h2, h3]; done) | (simp_all [XE, dOV]; done)
   ·try rw [h3]
    try simp only [qB] at h3
    refine Qy (Qe (kp3 Z Z Z) (Qf fun K hK => ZC Z (hK _ _ (Qb (kp4 Z Z Z Z) ?_))))
    refine QH ?_ -- 1
    refine Qf fun K hK => Qa Z (hK _ _ (Qb (kp4 Z Z Z Z) ?_))
    refine QJ (Qf fun K hK => Z5 Z Z (Qa Z (hK _ _ (Qb (kp5 Z Z Z Z Z) ?_))))
    refine QC Z (fun h4 => ?_) (fun h4 => ?_)
    ·try rw [h4]
     try simp only [qB] at h4
     refine Q4 fun K hK => Qk Z Z (QE Z Z Z (Zb Z Z (Qr (by have := QbG (by simpa using h1); omega) (by have := QbG (by simpa using h1); omega)) (QS Z Z (QT Z Z Z Z Z Z Z Z (hK _ ?_)))))
     refine Ql (Qe (kp2 Z Z) ?_)
     refine QH ?_ -- 2
     refine Qf fun K hK => QF (cs := [_, _, _, _, _]) Z Z Z Z (QB (Zm (by simp) (by simp)) Z Z (.inr Z) (Yn Z (hK _ _ (Qb (kp3 Z Z Z) ?_))))
     refine QC Z (fun h5 => ?_) (fun h5 => ?_)
     ·try rw [h5]
      try simp only [qB] at h5
      refine Qf fun K hK => QS Z Z (QT Z Z Z Z Z Z Z Z (Qa Z (hK _ _ (Qb (kp2 Z Z) ?_))))
      refine Qv (Qm (Post.eq (Xc (ds := [.int .i64 _, .int .i64 _, .int .i64 _, .str _, .str _]) (d' := .bool _) (cs := [_, _, _, _, _]) Z Z Z Z Z ⟨rfl, rfl⟩) ?_))
      first | (simp [XE, dOV, h1, h2, h3, h4, h5]; done) | (simp_all [XE, dOV]; done)
     ·try rw [h5]
      try simp only [qB] at h5
      refine Qy (Qe (kp2 Z Z) (Qf fun K hK => QF (cs := [_, _, _, _, _]) Z Z Z Z (QT Z Z Z Z Z Z Z Z (Qa Z (hK _ _ (Qb (kp2 Z Z) ?_))))))
      refine Qv (Post.eq (Xc (ds := [.int .i64 _, .int .i64 _, .int .i64 _, .str _, .str _]) (d' := .bool _) (cs := [_, _, _, _, _]) Z Z Z Z Z ⟨rfl, rfl⟩) ?_)
      first | (simp [XE, dOV, h1, h2, h3, h4, h5]; done) | (simp_all [XE, dOV]; done)
    ·try rw [h4]
     try simp only [qB] at h4
     refine Qf fun K hK => Z5 Z Z (Qa Z (hK _ _ (Qb (kp4 Z Z Z Z) ?_)))
     refine QC Z (fun h6 => ?_) (fun h6 => ?_)
     ·try rw [h6]
      try simp only [qB] at h6
      refine Q4 fun K hK => Qk Z Z (QE Z Z Z (Qk Z Z (QE Z Z Z (Zb Z Z (Qr (by have := QbG (by simpa using h1); omega) (by have := QbG (by simpa using h1); omega)) (QS Z Z (QT Z Z Z Z Z Z Z Z (hK _ ?_)))))))
      refine Ql (Qe (kp2 Z Z) ?_)
      refine QH ?_ -- 2
      refine Qf fun K hK => QF (cs := [_, _, _, _, _]) Z Z Z Z (QB (Zm (by simp) (by simp)) Z Z (.inr Z) (Yn Z (hK _ _ (Qb (kp3 Z Z Z) ?_))))
      refine QC Z (fun h7 => ?_) (fun h7 => ?_)
      ·try rw [h7]
       try simp only [qB] at h7
       refine Qf fun K hK => QS Z Z (QT Z Z Z Z Z Z Z Z (Qa Z (hK _ _ (Qb (kp2 Z Z) ?_))))
       refine Qv (Qm (Post.eq (Xc (ds := [.int .i64 _, .int .i64 _, .int .i64 _, .str _, .str _]) (d' := .bool _) (cs := [_, _, _, _, _]) Z Z Z Z Z ⟨rfl, rfl⟩) ?_))
       first | (simp [XE, dOV, h1, h2, h3, h4, h6, h7]; done) | (simp_all [XE, dOV]; done)
      ·try rw [h7]
       try simp only [qB] at h7
       refine Qy (Qe (kp2 Z Z) (Qf fun K hK => QF (cs := [_, _, _, _, _]) Z Z Z Z (QT Z Z Z Z Z Z Z Z (Qa Z (hK _ _ (Qb (kp2 Z Z) ?_))))))
       refine Qv (Post.eq (Xc (ds := [.int .i64 _, .int .i64 _, .int .i64 _, .str _, .str _]) (d' := .bool _) (cs := [_, _, _, _, _]) Z Z Z Z Z ⟨rfl, rfl⟩) ?_)
       first | (simp [XE, dOV, h1, h2, h3, h4, h6, h7]; done) | (simp_all [XE, dOV]; done)
     ·try rw [h6]
      try simp only [qB] at h6
      refine Q4 fun K hK => Qk Z Z (QE Z Z Z (Qk Z Z (QE Z Z Z (Qk Z Z (QE Z Z Z (Zb Z Z (Qr (by have := QbG (by simpa using h1); omega) (by have := QbG (by simpa using h1); omega)) (QS Z Z (QT Z Z Z Z Z Z Z Z (hK _ ?_)))))))))
      refine Ql (Qe (kp2 Z Z) ?_)
      refine QH ?_ -- 2
      refine Qf fun K hK => QF (cs := [_, _, _, _, _]) Z Z Z Z (QB (Zm (by simp) (by simp)) Z Z (.inr Z) (Yn Z (hK _ _ (Qb (kp3 Z Z Z) ?_))))
      refine QC Z (fun h8 => ?_) (fun h8 => ?_)
      ·try rw [h8]
       try simp only [qB] at h8
       refine Qf fun K hK => QS Z Z (QT Z Z Z Z Z Z Z Z (Qa Z (hK _ _ (Qb (kp2 Z Z) ?_))))
       refine Qv (Qm (Post.eq (Xc (ds := [.int .i64 _, .int .i64 _, .int .i64 _, .str _, .str _]) (d' := .bool _) (cs := [_, _, _, _, _]) Z Z Z Z Z ⟨rfl, rfl⟩) ?_))
       first | (simp [XE, dOV, h1, h2, h3, h4, h6, h8]; done) | (simp_all [XE, dOV]; done)
      ·try rw [h8]
       try simp only [qB] at h8
       refine Qy (Qe (kp2 Z Z) (Qf fun K hK => QF (cs := [_, _, _, _, _]) Z Z Z Z (QT Z Z Z Z Z Z Z Z (Qa Z (hK _ _ (Qb (kp2 Z Z) ?_))))))
       refine Qv (Post.eq (Xc (ds := [.int .i64 _, .int .i64 _, .int .i64 _, .str _, .str _]) (d' := .bool _) (cs := [_, _, _, _, _]) Z Z Z Z Z ⟨rfl, rfl⟩) ?_)
       first | (simp [XE, dOV, h1, h2, h3, h4, h6, h8]; done) | (simp_all [XE, dOV]; done)
theorem Qb9 {a b c : Int} {p q : List UInt8} (hp : p.length <= 1000000) (hq : q.length <= 1000000) : Ok Try.prog 59 [.agg [.int .i64 a, .int .i64 b, .int .i64 c, .str p, .str q]] (dOV (QhT a b c p q)) := by
 refine Ok.ofT Yi Try.func59 QrI (Nat.le_of_ble_eq_true Z) ?_
 show TW _ _ tf59.body _ _
 refine Qf fun K hK => Z1 Z Z Z (ZC Z (Qa Z (hK _ _ (Qb (kp2 Z Z) ?_))))
 refine QH ?_ -- 0
 refine Qf fun K hK => QF (cs := [_, _, _, _, _]) Z Z Z Z (QB (Zm (by omega) (by omega)) Z Z (.inr Z) (Yn Z (hK _ _ (Qb (kp3 Z Z Z) ?_))))
 refine QC Z (fun h1 => ?_) (fun h1 => ?_)
 ·try rw [h1]
  try simp only [qB] at h1
  refine Qf fun K hK => QS Z Z (QT Z Z Z Z Z Z Z Z (Qa Z (hK _ _ (Qb (kp2 Z Z) ?_))))
  refine Qv (Qm (Post.eq (Xc (ds := [.int .i64 _, .int .i64 _, .int .i64 _, .str _, .str _]) (d' := .bool _) (cs := [_, _, _, _, _]) Z Z Z Z Z ⟨rfl, rfl⟩) ?_))
  simp [QhT, dOV, h1]
 ·try rw [h1]
  try simp only [qB] at h1
  refine Qy (Qe (kp2 Z Z) ?_)
  refine QH ?_ -- 1
  refine Qf fun K hK => Qk Z Z (QE Z Z Z (QmD Z Z (hK _ _ (Qb (kp3 Z Z Z) ?_))))
  refine QC Z (fun h2 => ?_) (fun h2 => ?_)
  ·try rw [h2]
   try simp only [qB] at h2
   refine Qf fun K hK => Qk Z Z (QE Z Z Z (Qk Z Z (QE Z Z Z (Qk Z Z (QE Z Z Z (QS Z Z (QT Z Z Z Z Z Z Z Z (Qa Z (hK _ _ (Qb (kp2 Z Z) ?_))))))))))
   refine Qv (Qm (Post.eq (Xc (ds := [.int .i64 _, .int .i64 _, .int .i64 _, .str _, .str _]) (d' := .bool _) (cs := [_, _, _, _, _]) Z Z Z Z Z ⟨rfl, rfl⟩) ?_))
   simp [QhT, dOV, h1, h2]
  ·try rw [h2]
   try simp only [qB] at h2
   refine Qy (Qe (kp2 Z Z) ?_)
   refine QH ?_ -- 2
   refine Qf fun K hK => Qa Z (hK _ _ (Qb (kp3 Z Z Z) ?_))
   refine QJ ?_
   refine Yb (ι := Nat) (fun m => ⟨[(1, .ref 1 0 0), (2, .ref 2 0 0), (4, .int .i64 ((m : Int) - 1))], [(1, ⟨[[.int .i64 a, .int .i64 b, .int .i64 c, .str p, .str q]], 5, 60, true⟩), (2, ⟨[[.int .i64 0, .int .i64 0, .int .i64 0, .str [], .str []]], 5, 60, true⟩)]⟩) (fun m => m <= 3 /\ Xf a b c p q 3 = Xf a b c p q m) (fun m => m) 3 ?_ ?_ ?_
   ·exact ZH (l := [1, 2, 4]) (lH := [1, 2]) (kp3 rfl rfl rfl) (Qq rfl (Qq rfl Qz)) rfl rfl rfl
   ·exact ⟨by omega, rfl⟩
   intro m hI
   obtain ⟨hI1, hI2⟩ := hI
   try dsimp only
   refine QH ?_ -- 3
   refine Qf fun K hK => Qa Z (Qhc Z Z (hK _ _ (Qb (kp4 Z Z Z Z) ?_)))
   refine QC Z (fun h3 => ?_) (fun h3 => ?_)
   ·try rw [h3]
    try simp only [qB] at h3
    rcases Nat.eq_zero_or_pos m with hm | hm <;> first | omega | skip
    refine Qy (Qe (kp3 Z Z Z) ?_)
    refine QH ?_ -- 4
    refine QJ (Qf fun K hK => QF (cs := [_, _, _, _, _]) Z Z Z Z (Qa Z (QB (Qb8 (by omega) (by omega)) Z Z (.inl Z) (Qa Z (Zy Z Z (Zy Z Z (ZC Z (QT Z Z Z Z Z Z Z Z (Qa Z (hK _ _ (Qb (kp5 Z Z Z Z Z) ?_)))))))))))
    refine Qf fun K hK => Qa Z (hK _ _ (Qb (kp5 Z Z Z Z Z) ?_))
    refine QC Z (fun h4 => ?_) (fun h4 => ?_)
    ·try rw [h4]
     try simp only [qB] at h4
     refine Qf fun K hK => QF (cs := [_, _, _, _, _]) Z Z Z Z (QT Z Z Z Z Z Z Z Z (Qa Z (hK _ _ (Qb (kp2 Z Z) ?_))))
     refine Qv (Qw (Qm (Zw (Qw (Qm (Post.eq (Xc (ds := [.int .i64 _, .int .i64 _, .int .i64 _, .str _, .str _]) (d' := .bool _) (cs := [_, _, _, _, _]) Z Z Z Z Z ⟨rfl, rfl⟩) ?_))))))
     subst h2
     simp [QhT, dOV, h1, hI2, Qhk hm h4, h4]
    ·try rw [h4]
     try simp only [qB] at h4
     refine Qy (Ql (Qe (kp3 Z Z Z) (Q4 fun K hK => Qa Z (Qa9 Z Z (by first | exact Qr (by omega) (by omega) | rfl) (Qa Z (hK _ ?_))))))
     refine Qp (m - 1) ?_ ?_ ?_
     ·refine ZH (l := [1, 2, 4]) (lH := [1, 2]) (kp3 Z Z Z) (Qq Z (Qq Z Qz)) ?_ Z rfl; simp only [List.cons.injEq, Prod.mk.injEq, D.int.injEq, and_true, true_and]; omega
     ·exact ⟨by omega, by rw [hI2]; exact QiA hm h4⟩
     ·show m - 1 < m; omega
   ·try rw [h3]
    try simp only [qB] at h3
    rcases Nat.eq_zero_or_pos m with hm | hm <;> first | omega | skip
    refine Z0 (Q6 (QM (QU (Qe (kp1 Z) (Qf fun K hK => QS Z Z (QT Z Z Z Z Z Z Z Z (Qa Z (hK _ _ (Qb (kp2 Z Z) ?_)))))))))
    refine Qv (Post.eq (Xc (ds := [.int .i64 _, .int .i64 _, .int .i64 _, .str _, .str _]) (d' := .bool _) (cs := [_, _, _, _, _]) Z Z Z Z Z ⟨rfl, rfl⟩) ?_)
    subst h2
    subst hm
    have hb : Xf a b c [] q 3 = none := hI2
    simp [QhT, dOV, h1, hb]
end Go.Proofs
namespace Go.Proofs
open Go Go.Abs M3 M25
set_option linter.unusedVariables false
set_option linter.unusedSimpArgs false
theorem Xy {e a b c : Int} {p q : List UInt8} {f : Bool} : Ok Try.prog 76 [.agg [.int .i64 e, .int .i64 a, .int .i64 b, .int .i64 c, .str p, .str q, .bool f]] (.bool (QfT e a b c p q f)) := by
 refine Ok.ofT Yi Try.func76 QrZ (Nat.le_of_ble_eq_true Z) ?_
 show TW _ _ tf76.body _ _
 refine Qf fun K hK => Z1 Z Z Z (Qa Z (hK _ _ (Qb (kp1 Z) ?_)))
 refine Qf fun K hK => Qk Z Z (QE Z Z Z (Qa3 Z Z (Qa Z ?_)))
 refine QA (g := 6) Z (fun h1 => ?_) (fun h1 => ?_)
 ·try rw [h1]
  try simp only [qB] at h1
  refine Qo Z (Qo Z (Qo Z (Qo Z (ZB Z (ZB Z (ZB Z (ZB Z (Qo Z (Qo Z (ZB Z (ZB Z ?_)))))))))))
  refine ZB Z (ZB Z (Qo Z (Qj Z Z (Qa Z (hK _ _ (Qb (kp1 Z) ?_))))))
  refine Qv (Qt Z ?_)
  simp_all [QfT]
 ·try rw [h1]
  try simp only [qB] at h1
  refine Qg Z (Qk Z Z (Qg Z (QE Z Z Z (Qg Z (Yn Z (Qg Z (Qa Z ?_)))))))
  refine QA (g := 10) Z (fun h2 => ?_) (fun h2 => ?_)
  ·try rw [h2]
   try simp only [qB] at h2
   refine Qg Z (Qk Z Z (Qg Z (Qk Z Z (Qg Z (QE Z Z Z (Qg Z (Qhb Z Z (Qg Z (Qj Z Z (Qg Z (Qa Z ?_)))))))))))
   refine QA (g := 16) Z (fun h3 => ?_) (fun h3 => ?_)
   ·try rw [h3]
    try simp only [qB] at h3
    refine Qg Z (Qk Z Z (Qg Z (QF (cs := [_, _, _, _, _]) Z Z Z Z (Qg Z (QB (Xx) Z Z (.inr Z) (Qg Z (Yn Z (Qg Z (Qj Z Z (Qj Z Z (Qa Z ?_)))))))))))
    refine hK _ _ (Qb (kp1 Z) ?_)
    refine Qv (Qt Z ?_)
    simp_all [QfT]
   ·try rw [h3]
    try simp only [qB] at h3
    refine Qo Z (Qo Z (Qo Z (Qo Z (Qg Z (Qj Z Z (Qj Z Z (Qa Z (hK _ _ (Qb (kp1 Z) ?_)))))))))
    refine Qv (Qt Z ?_)
    simp_all [QfT]
  ·try rw [h2]
   try simp only [qB] at h2
   refine Qo Z (Qo Z (Qo Z (Qo Z (Qg Z (Qj Z Z (Qg Z (Qa Z (Qo Z (Qo Z (Qo Z (Qo Z ?_)))))))))))
   refine Qg Z (Qj Z Z (Qj Z Z (Qa Z (hK _ _ (Qb (kp1 Z) ?_)))))
   refine Qv (Qt Z ?_)
   simp_all [QfT]
theorem QbU {a b c : Int} {p q : List UInt8} : Ok Try.prog 43 [.agg [.int .i64 a, .int .i64 b, .int .i64 c, .str p, .str q]] (.agg (dCu (QeO a b c))) := by
 refine Ok.ofT Yi Try.func43 Qru (Nat.le_of_ble_eq_true Z) ?_
 show TW _ _ tf43.body _ _
 refine Qf fun K hK => Z1 Z Z Z (ZC Z (hK _ _ (Qb (kp2 Z Z) ?_)))
 refine QH ?_ -- 0
 refine Qf fun K hK => QF (cs := [_, _, _, _, _]) Z Z Z Z (QB (Xx) Z Z (.inr Z) (hK _ _ (Qb (kp3 Z Z Z) ?_)))
 refine QC Z (fun h1 => ?_) (fun h1 => ?_)
 ·try rw [h1]
  try simp only [qB] at h1
  refine Qf fun K hK => QB (YG) Z Z (.inl Z) (QT Z Z Z Z Z Z Z Z (hK _ _ (Qb (kp1 Z) ?_)))
  refine Qv (Qm (Post.eq (Zv (ds := [.int .i64 _, .int .i64 _, .int .i64 _, .int .i64 _, .str _, .str _, .bool _]) (cs := [_, _, _, _, _, _, _]) Z Z Z Z Z) ?_))
  simp [QeO, dCu, Qb0, h1]
 ·try rw [h1]
  try simp only [qB] at h1
  refine Qy (Qe (kp2 Z Z) (Qf fun K hK => Qk Z Z (QE Z Z Z (Qk Z Z (QE Z Z Z (Qk Z Z (QE Z Z Z (QS Z Z (QB (Yt) Z Z (.inl Z) (QT Z Z Z Z Z Z Z Z ?_))))))))))
  refine hK _ _ (Qb (kp1 Z) ?_)
  refine Qv (Post.eq (Zv (ds := [.int .i64 _, .int .i64 _, .int .i64 _, .int .i64 _, .str _, .str _, .bool _]) (cs := [_, _, _, _, _, _, _]) Z Z Z Z Z) ?_)
  simp [QeO, dCu, Qb0, h1]
theorem Qbf {a b c : Int} {p q : List UInt8} : Ok Try.prog 44 [.agg [.int .i64 a, .int .i64 b, .int .i64 c, .str p, .str q]] (.agg (dCu (QcK a b c))) := by
 refine Ok.ofT Yi Try.func44 Qrv (Nat.le_of_ble_eq_true Z) ?_
 show TW _ _ tf44.body _ _
 refine Qf fun K hK => Z1 Z Z Z (ZC Z (hK _ _ (Qb (kp2 Z Z) ?_)))
 refine Qf fun K hK => Qk Z Z (QE Z Z Z (Qk Z Z (QE Z Z Z (Qk Z Z (QE Z Z Z (QS Z Z (QB (Qb9 (by simp) (by simp)) Z Z (.inl Z) (Qa Z (Zy Z Z (Zy Z Z ?_))))))))))
 refine ZC Z (QT Z Z Z Z Z Z Z Z (Qa Z (hK _ _ (Qb (kp3 Z Z Z) ?_))))
 refine QH ?_ -- 0
 refine Qf fun K hK => Qa Z (Yn Z (hK _ _ (Qb (kp3 Z Z Z) ?_)))
 refine QC Z (fun h1 => ?_) (fun h1 => ?_)
 ·try rw [h1]
  try simp only [qB] at h1
  refine Qf fun K hK => QB (YR) Z Z (.inl Z) (QT Z Z Z Z Z Z Z Z (hK _ _ (Qb (kp1 Z) ?_)))
  refine Qv (Qm (Post.eq (Zv (ds := [.int .i64 _, .int .i64 _, .int .i64 _, .int .i64 _, .str _, .str _, .bool _]) (cs := [_, _, _, _, _, _, _]) Z Z Z Z Z) ?_))
  cases hn : QhT a b c [] [] <;> simp [QcK, dCu, Qfn, hn] at *
 ·try rw [h1]
  try simp only [qB] at h1
  refine Qy (Qe (kp2 Z Z) (Qf fun K hK => QF (cs := [_, _, _, _, _]) Z Z Z Z (QB (Yt) Z Z (.inl Z) (QT Z Z Z Z Z Z Z Z (hK _ _ (Qb (kp1 Z) ?_))))))
  refine Qv (Post.eq (Zv (ds := [.int .i64 _, .int .i64 _, .int .i64 _, .int .i64 _, .str _, .str _, .bool _]) (cs := [_, _, _, _, _, _, _]) Z Z Z Z Z) ?_)
  cases hn : QhT a b c [] [] <;> simp [QcK, dCu, Qfn, hn] at *
theorem Xz  : Ok Try.prog 72 [] (ZF [(Qb0, Qfn)]) := by
 refine Ok.ofT Yi Try.func72 QrV (Nat.le_of_ble_eq_true Z) ?_
 show TW _ _ tf72.body _ _
 refine Qf fun K hK => Qa Z (hK _ _ (Qb (QZ) ?_))
 refine Qf fun K hK => QB (YG) Z Z (.inl Z) (QB (YR) Z Z (.inl Z) (QS Z Z (QG Z Z (Qa Z (hK _ _ (Qb (kp1 Z) ?_))))))
 refine Qv (Z8 Z ?_)
 rfl
theorem ZS  : Ok Try.prog 40 [] (Qg3 ([], [])) := by
 refine Ok.ofT Yi Try.func40 Qrr (Nat.le_of_ble_eq_true Z) ?_
 show TW _ _ tf40.body _ _
 refine Qf fun K hK => ZC Z (hK _ _ (Qb (kp1 Z) ?_))
 refine Qf fun K hK => QS Z Z (QT Z Z Z Z Z Z Z Z (hK _ _ (Qb (kp1 Z) ?_)))
 refine Qv (Post.eq (Zv (ds := [.sl _, .sl _]) (cs := [_, _]) Z Z Z Z Z) ?_)
 rfl
theorem Qcu  : Ok Try.prog 62 [] (Qg3 ([(Qb0, Qfn)], [(Qb0, Qfn)])) := by
 refine Ok.ofT Yi Try.func62 QrL (Nat.le_of_ble_eq_true Z) ?_
 show TW _ _ tf62.body _ _
 refine Qf fun K hK => ZC Z (hK _ _ (Qb (kp1 Z) ?_))
 refine Qf fun K hK => QB (Xz) Z Z (.inl Z) (QB (Xz) Z Z (.inl Z) (QS Z Z (QT Z Z Z Z Z Z Z Z (hK _ _ (Qb (kp1 Z) ?_)))))
 refine Qv (Post.eq (Zv (ds := [.sl _, .sl _]) (cs := [_, _]) Z Z Z Z Z) ?_)
 rfl
theorem Xw {a b c : Int} {p q : List UInt8} (hp : p.length <= 1000000) (hq : q.length <= 1000000) : Ok Try.prog 24 [.agg [.int .i64 a, .int .i64 b, .int .i64 c, .str p, .str q]] (Qg3 (YV a b c p q)) := by
 refine Ok.ofT Yi Try.func24 Qre (Nat.le_of_ble_eq_true Z) ?_
 show TW _ _ tf24.body _ _
 refine Qf fun K hK => Z1 Z Z Z (ZC Z (hK _ _ (Qb (kp2 Z Z) ?_)))
 refine QH ?_ -- 0
 refine Qf fun K hK => QF (cs := [_, _, _, _, _]) Z Z Z Z (QB (Zm (by omega) (by omega)) Z Z (.inr Z) (Yn Z (hK _ _ (Qb (kp3 Z Z Z) ?_))))
 refine QC Z (fun h1 => ?_) (fun h1 => ?_)
 ·try rw [h1]
  try simp only [qB] at h1
  refine Qf fun K hK => QB (ZS) Z Z (.inl Z) (QT Z Z Z Z Z Z Z Z (hK _ _ (Qb (kp1 Z) ?_)))
  refine Qv (Qm (Post.eq (Zv (ds := [.sl _, .sl _]) (cs := [_, _]) Z Z Z Z Z) ?_))
  simp [YV, Qg3, ZF, QdL, dCu, h1]
 ·try rw [h1]
  try simp only [qB] at h1
  refine Qy (Qe (kp2 Z Z) ?_)
  refine QH ?_ -- 1
  refine Qf fun K hK => Qk Z Z (QE Z Z Z (QmD Z Z (hK _ _ (Qb (kp3 Z Z Z) ?_))))
  refine QC Z (fun h2 => ?_) (fun h2 => ?_)
  ·try rw [h2]
   try simp only [qB] at h2
   refine Qf fun K hK => QY (ds0 := [6, 3, 2, 1, 0]) (cs := [_, _, _, _, _]) Z Z Z Z Z Z (Zh (ds0 := [3, 2, 1, 0]) (Yt) Z Z (.inl Z) Z Z (QY (ds0 := [4, 3, 2, 1, 0]) (cs := [_, _, _, _, _]) Z Z Z Z Z Z (Zh (ds0 := [3, 2, 1, 0]) (Qbe) Z Z (.inl Z) Z Z (QS Z Z (QG Z Z (QS Z Z (XB (ds0 := []) Z Z Z Z Z Z Z Z Z Z (hK _ _ (Qb (kp1 Z) ?_)))))))))
   refine Qv (Qm (Post.eq (Zv (ds := [.sl _, .sl _]) (cs := [_, _]) Z Z Z Z Z) ?_))
   simp [YV, Qg3, ZF, QdL, dCu, h1, h2]
  ·try rw [h2]
   try simp only [qB] at h2
   refine Qy (Qe (kp2 Z Z) (Qf fun K hK => QY (ds0 := [6, 3, 2, 1, 0]) (cs := [_, _, _, _, _]) Z Z Z Z Z Z (Zh (ds0 := [3, 2, 1, 0]) (QbU) Z Z (.inl Z) Z Z (QY (ds0 := [4, 3, 2, 1, 0]) (cs := [_, _, _, _, _]) Z Z Z Z Z Z (Zh (ds0 := [3, 2, 1, 0]) (Qbf) Z Z (.inl Z) Z Z (QS Z Z (QG Z Z (QS Z Z (XB (ds0 := []) Z Z Z Z Z Z Z Z Z Z (hK _ _ (Qb (kp1 Z) ?_)))))))))))
   refine Qv (Post.eq (Zv (ds := [.sl _, .sl _]) (cs := [_, _]) Z Z Z Z Z) ?_)
   subst h2
   simp [YV, Qg3, ZF, QdL, dCu, h1]
end Go.Proofs
namespace Go.Proofs
open Go Go.Abs M3 M25
set_option linter.unusedVariables false
set_option linter.unusedSimpArgs false
theorem Z6 {l : List (Cu × Cu)} (hl : Sm l) : Ok Try.prog 75 [ZF l] (.bool (QeP l)) := by
 refine Ok.ofT Yi Try.func75 QrY (Nat.le_of_ble_eq_true Z) ?_
 show TW _ _ tf75.body _ _
 have hn := hl.1
 refine Qf fun K hK => Qa Z (hK _ _ (Qb (kp1 Z) ?_))
 refine QH ?_ -- 0
 refine Qf fun K hK => Qa Z (hK _ _ (Qb (kp2 Z Z) ?_))
 refine QJ ?_
 refine Yb (ι := Nat) (fun i => ⟨[(0, ZF l), (3, .int .i64 i)], []⟩) (fun i => i <= l.length /\ (List.range i).all (Qpe l) = true) (fun i => l.length - i) 0 ?_ ?_ ?_
 ·exact Zc (kp2 rfl rfl)
 ·exact ⟨Nat.zero_le _, rfl⟩
 intro i hI
 try dsimp only
 refine QH ?_ -- 1
 refine Qf fun K hK => Qa Z (Qa Z (Q5 Z Z (YY Z Z (hK _ _ (Qb (kp3 Z Z Z) ?_)))))
 refine QC Z (fun h1 => ?_) (fun h1 => ?_)
 ·try rw [h1]
  try simp only [qA] at h1
  refine Qy (Qe (kp2 Z Z) ?_)
  refine QH ?_ -- 2
  refine QJ (Qf fun K hK => Qa Z (Qa Z (QV Z Z Z (by omega) (Zs (by omega)) Z (QY (ds0 := [20, 19, 18, 17, 16, 15, 14, 13, 12, 11, 10, 9, 8, 7, 6, 5, 4, 3, 2, 1, 0]) (cs := [_, _, _, _, _, _, _, _, _, _, _, _, _, _]) Z Z Z Z Z Z (Zh (ds0 := [19, 18, 17, 16, 15, 14, 13, 12, 11, 10, 9, 8, 7, 6, 5, 4, 3, 2, 1, 0]) (Xa (hl.at (i := i) (by omega)).1.1 (hl.at (i := i) (by omega)).1.2 (hl.at (i := i) (by omega)).2.1 (hl.at (i := i) (by omega)).2.2) Z Z (.inr Z) Z Z (Yn Z (Qa Z ?_)))))))
  refine QA (g := 16) Z (fun h2 => ?_) (fun h2 => ?_)
  ·try rw [h2]
   try simp only [qA] at h2
   refine Qo Z (Qo Z (Qo Z (ZB Z (ZB Z (ZB Z (ZB Z (ZB Z (ZB Z (ZB Z (ZB Z (ZB Z ?_)))))))))))
   refine ZB Z (ZB Z (ZB Z (ZB Z (Qo Z (Qj Z Z (hK _ _ (Qb (kp3 Z Z Z) ?_)))))))
   refine ZD Z (Qf fun K hK => Qa Z (hK _ _ (Qb (kp1 Z) ?_)))
   refine Qv (Qw (Qm (Zw (Qw (Qm (Qt Z ?_))))))
   first
    | exact (Qd7 hI.2 (by omega)).symm
    | exact (QaT (i := i) (by omega) (QfZ (by omega) (.inl h2))).symm
    | (simp only [QcV] at *; exact (QaT (i := i) (by omega) (QfZ (by omega) (.inr ⟨by omega, h4⟩))).symm)
  ·try rw [h2]
   try simp only [qA] at h2
   refine Qg Z (Qa Z (Qg Z (Qg0 Z Z (Qg Z (Qa Z ?_)))))
   refine QA (g := 19) Z (fun h3 => ?_) (fun h3 => ?_)
   ·try rw [h3]
    try simp only [qA] at h3
    refine Qg Z (Qa Z (Qg Z (Qa Z (Qg Z (Qa9 Z Z (by first | exact Qr (by omega) (by omega) | rfl) (Qg Z (QV Z Z Z (by omega) (ZW (by omega) (by omega)) Z (Qg Z (ZV Z Z (Qg Z (QY (ds0 := [3, 2, 1, 0]) (cs := [_, _, _, _, _, _, _]) Z Z Z Z Z Z ?_)))))))))))
    refine Qg Z (Qa Z (Qg Z (Qa Z (Qg Z (QV Z Z Z (by omega) (Zs (by omega)) Z (Qg Z (ZV Z Z (Qg Z (QY (ds0 := [3, 2, 1, 0]) (cs := [_, _, _, _, _, _, _]) Z Z Z Z Z Z (Qg Z (Zh (ds0 := [2, 1, 0]) (Zl (hl.at (i := ((i : Int) - 1).toNat) (by omega)).2.1 (hl.at (i := ((i : Int) - 1).toNat) (by omega)).2.2 (hl.at (i := i) (by omega)).1.1 (hl.at (i := i) (by omega)).1.2) Z Z (.inr Z) Z Z ?_)))))))))))
    refine Qg Z (Qhc Z Z (Qg Z (Qj Z Z (Qj Z Z (hK _ _ (Qb (kp3 Z Z Z) ?_))))))
    refine QC Z (fun h4 => ?_) (fun h4 => ?_)
    ·try rw [h4]
     try simp only [qA] at h4
     refine Qf fun K hK => Qa Z (hK _ _ (Qb (kp1 Z) ?_))
     refine Qv (Qw (Qm (Zw (Qw (Qm (Qt Z ?_))))))
     first
      | exact (Qd7 hI.2 (by omega)).symm
      | exact (QaT (i := i) (by omega) (QfZ (by omega) (.inl h2))).symm
      | (simp only [QcV] at *; exact (QaT (i := i) (by omega) (QfZ (by omega) (.inr ⟨by omega, h4⟩))).symm)
    ·try rw [h4]
     try simp only [qA] at h4
     refine Qy (Ql (Qe (kp2 Z Z) (Q4 fun K hK => Qa Z (Zb Z Z (by first | exact Qr (by omega) (by omega) | rfl) (Qa Z (hK _ ?_))))))
     refine Qp (i + 1) ?_ ?_ ?_
     ·exact Zc (kp2 rfl rfl)
     ·exact ⟨by omega, QgP hI.2 (Qn0 (by omega) h2 (by first | exact .inl (by omega) | (simp only [QcV] at *; exact .inr (Int.not_le.1 h4))))⟩
     ·first | omega | (simp only; omega) | (dsimp only; omega)
   ·try rw [h3]
    try simp only [qA] at h3
    refine Qo Z (Qo Z (Qo Z (Qo Z (Qo Z (Qo Z (Qo Z (Qo Z (Qo Z (Qo Z (Qo Z (Qo Z ?_)))))))))))
    refine Qo Z (Qg Z (Qj Z Z (Qj Z Z (hK _ _ (Qb (kp3 Z Z Z) ?_)))))
    refine Ya Z (Qy (Ql (Qe (kp2 Z Z) (Q4 fun K hK => Qa Z (Zb Z Z (by first | exact Qr (by omega) (by omega) | rfl) (Qa Z (hK _ ?_)))))))
    refine Qp (i + 1) ?_ ?_ ?_
    ·exact Zc (kp2 rfl rfl)
    ·exact ⟨by omega, QgP hI.2 (Qn0 (by omega) h2 (by first | exact .inl (by omega) | (simp only [QcV] at *; exact .inr (Int.not_le.1 h4))))⟩
    ·first | omega | (simp only; omega) | (dsimp only; omega)
 ·try rw [h1]
  try simp only [qA] at h1
  refine Z0 (Q6 (QM (QU (Qe (QZ) (Qf fun K hK => Qa Z (hK _ _ (Qb (kp1 Z) ?_)))))))
  refine Qv (Qt Z ?_)
  first
   | exact (Qd7 hI.2 (by omega)).symm
   | exact (QaT (i := i) (by omega) (QfZ (by omega) (.inl h2))).symm
   | (simp only [QcV] at *; exact (QaT (i := i) (by omega) (QfZ (by omega) (.inr ⟨by omega, h4⟩))).symm)
theorem Qau {l : List (Cu × Cu)} (hl : Sm l) {x y : Cu} (hx : Cu.sm x) (hy : Cu.sm y) : Ok Try.prog 79 [ZF l, .agg (dCu x), .agg (dCu y)] (.bool (mIn l x y)) := by
 refine Ok.ofT Yi Try.func79 Qr2 (Nat.le_of_ble_eq_true Z) ?_
 show TW _ _ tf79.body _ _
 have hn := hl.1
 refine Qf fun K hK => Z1 Z Z Z (Z1 Z Z Z (Qa Z (hK _ _ (Qb (kp3 Z Z Z) ?_))))
 refine QH ?_ -- 0
 refine Qf fun K hK => Qa Z (hK _ _ (Qb (kp4 Z Z Z Z) ?_))
 refine QJ ?_
 refine Yb (ι := Nat) (fun i => ⟨[(0, ZF l), (4, .ref 4 0 0), (5, .ref 5 0 0), (7, .int .i64 i)], [(4, ⟨[dCu x], 7, 87, true⟩), (5, ⟨[dCu y], 7, 87, true⟩)]⟩) (fun i => i <= l.length /\ (l.take i).any (inC x y) = false) (fun i => l.length - i) 0 ?_ ?_ ?_
 ·exact ZH (l := [0, 4, 5, 7]) (lH := [4, 5]) (kp4 rfl rfl rfl rfl) (Qq rfl (Qq rfl Qz)) rfl rfl rfl
 ·exact ⟨Nat.zero_le _, by simp⟩
 intro i hI
 try dsimp only
 refine QH ?_ -- 1
 refine Qf fun K hK => Qa Z (Qa Z (Q5 Z Z (YY Z Z (hK _ _ (Qb (kp5 Z Z Z Z Z) ?_)))))
 refine QC Z (fun h1 => ?_) (fun h1 => ?_)
 ·try rw [h1]
  try simp only [qA] at h1
  refine Qy (Qe (kp4 Z Z Z Z) ?_)
  refine QH ?_ -- 2
  refine QJ (Qf fun K hK => Qa Z (Qa Z (QV Z Z Z (by omega) (Zs (by omega)) Z (ZV Z Z (QY (ds0 := [11, 10, 9, 8, 7, 6, 5, 4, 3, 2, 1, 0]) (cs := [_, _, _, _, _, _, _]) Z Z Z Z Z Z (QY (ds0 := [11, 10, 9, 8, 7, 6, 5, 4, 3, 2, 1, 0]) (cs := [_, _, _, _, _, _, _]) Z Z Z Z Z Z (Zh (ds0 := [10, 9, 8, 7, 6, 5, 4, 3, 2, 1, 0]) (Zl (hl.at (i := i) (by omega)).1.1 (hl.at (i := i) (by omega)).1.2 hx.1 hx.2) Z Z (.inr Z) Z Z (Qqg Z Z (Qa Z ?_)))))))))
  refine QA (g := 22) Z (fun h2 => ?_) (fun h2 => ?_)
  ·try rw [h2]
   try simp only [qA] at h2
   refine Qg Z (QY (ds0 := [2, 1, 0]) (cs := [_, _, _, _, _, _, _]) Z Z Z Z Z Z (Qg Z (Qa Z (Qg Z (Qa Z (Qg Z (QV Z Z Z (by omega) (Zs (by omega)) Z (Qg Z (ZV Z Z (Qg Z (QY (ds0 := [2, 1, 0]) (cs := [_, _, _, _, _, _, _]) Z Z Z Z Z Z ?_)))))))))))
   refine Qg Z (Zh (ds0 := [1, 0]) (Zl hy.1 hy.2 (hl.at (i := i) (by omega)).2.1 (hl.at (i := i) (by omega)).2.2) Z Z (.inr Z) Z Z (Qg Z (Qqg Z Z (Qj Z Z (hK _ _ (Qb (kp5 Z Z Z Z Z) ?_))))))
   refine QC Z (fun h3 => ?_) (fun h3 => ?_)
   ·try rw [h3]
    try simp only [qA] at h3
    refine Qf fun K hK => Qa Z (hK _ _ (Qb (kp1 Z) ?_))
    refine Qv (Qw (Qm (Zw (Qw (Qm (Qt Z ?_))))))
    first
     | exact (QnJ (i := i) (by omega) hI.2).symm
     | exact (Qix (i := i) (by omega) (QpJ h2 h3)).symm
   ·try rw [h3]
    try simp only [qA] at h3
    refine Qy (Ql (Qe (kp4 Z Z Z Z) (Q4 fun K hK => Qa Z (Zb Z Z (by first | exact Qr (by omega) (by omega) | rfl) (Qa Z (hK _ ?_))))))
    refine Qp (i + 1) ?_ ?_ ?_
    ·exact ZH (l := [0, 4, 5, 7]) (lH := [4, 5]) (kp4 rfl rfl rfl rfl) (Qq rfl (Qq rfl Qz)) rfl rfl rfl
    ·exact ⟨by omega, Qk7 (by omega) hI.2 (QpI (by first | exact .inl h2 | exact .inr h3))⟩
    ·first | omega | (simp only; omega) | (dsimp only; omega)
  ·try rw [h2]
   try simp only [qA] at h2
   refine Qo Z (Qo Z (Qo Z (Qo Z (Qo Z (Qo Z (Qo Z (Qo Z (Qj Z Z (hK _ _ (Qb (kp5 Z Z Z Z Z) ?_))))))))))
   refine Ya Z (Qy (Ql (Qe (kp4 Z Z Z Z) (Q4 fun K hK => Qa Z (Zb Z Z (by first | exact Qr (by omega) (by omega) | rfl) (Qa Z (hK _ ?_)))))))
   refine Qp (i + 1) ?_ ?_ ?_
   ·exact ZH (l := [0, 4, 5, 7]) (lH := [4, 5]) (kp4 rfl rfl rfl rfl) (Qq rfl (Qq rfl Qz)) rfl rfl rfl
   ·exact ⟨by omega, Qk7 (by omega) hI.2 (QpI (by first | exact .inl h2 | exact .inr h3))⟩
   ·first | omega | (simp only; omega) | (dsimp only; omega)
 ·try rw [h1]
  try simp only [qA] at h1
  refine Z0 (Q6 (QM (QU (Qe (QZ) (Qf fun K hK => Qa Z (hK _ _ (Qb (kp1 Z) ?_)))))))
  refine Qv (Qt Z ?_)
  first
   | exact (QnJ (i := i) (by omega) hI.2).symm
   | exact (Qix (i := i) (by omega) (QpJ h2 h3)).symm
end Go.Proofs
namespace Go.Proofs
open Go Go.Abs M3 M25
set_option linter.unusedVariables false
set_option linter.unusedSimpArgs false
theorem Y2 {s : List (Cu × Cu) × List (Cu × Cu)} (h1s : Sm s.1) (h2s : Sm s.2) : Ok Try.prog 70 [Qg3 s] (.bool (QeQ s)) := by
 refine Ok.ofT Yi Try.func70 QrT (Nat.le_of_ble_eq_true Z) ?_
 show TW _ _ tf70.body _ _
 have hn := h1s.1
 refine Qf fun K hK => Z1 Z Z Z (Qa Z (hK _ _ (Qb (kp1 Z) ?_)))
 refine QH ?_ -- 0
 refine Qf fun K hK => Qk Z Z (QE Z Z Z (QB (Z6 h1s) Z Z (.inr Z) (Yn Z (Qa Z ?_))))
 refine QA (g := 8) Z (fun h1 => ?_) (fun h1 => ?_)
 ·try rw [h1]
  try simp only [qA] at h1
  refine Qo Z (Qo Z (Qo Z (Qo Z (Qj Z Z (hK _ _ (Qb (kp2 Z Z) ?_))))))
  refine ZD Z (Qf fun K hK => Qa Z (hK _ _ (Qb (kp1 Z) ?_)))
  refine Qv (Qm (Qt Z ?_))
  first
   | exact (QcR (i := i) h1 h2 (by omega) hI.2).symm
   | exact (Qam (i := i) (by omega) (.inl h4)).symm
   | exact (Qam (i := i) (by omega) (.inr h5)).symm
   | exact (Qan (.inl h1)).symm
   | exact (Qan (.inr h2)).symm
 ·try rw [h1]
  try simp only [qA] at h1
  refine Qg Z (Qk Z Z (Qg Z (QE Z Z Z (Qg Z (QB (Z6 h2s) Z Z (.inr Z) (Qg Z (Yn Z (Qj Z Z (hK _ _ (Qb (kp2 Z Z) ?_))))))))))
  refine QC Z (fun h2 => ?_) (fun h2 => ?_)
  ·try rw [h2]
   try simp only [qA] at h2
   refine Qf fun K hK => Qa Z (hK _ _ (Qb (kp1 Z) ?_))
   refine Qv (Qm (Qt Z ?_))
   first
    | exact (QcR (i := i) h1 h2 (by omega) hI.2).symm
    | exact (Qam (i := i) (by omega) (.inl h4)).symm
    | exact (Qam (i := i) (by omega) (.inr h5)).symm
    | exact (Qan (.inl h1)).symm
    | exact (Qan (.inr h2)).symm
  ·try rw [h2]
   try simp only [qA] at h2
   refine Qy (Qe (kp1 Z) ?_)
   refine QH ?_ -- 1
   refine Qf fun K hK => Qa Z (hK _ _ (Qb (kp2 Z Z) ?_))
   refine QJ ?_
   refine Yb (ι := Nat) (fun i => ⟨[(1, .ref 1 0 0), (3, .int .i64 i)], [(1, ⟨[[ZF s.1, ZF s.2]], 2, 67, true⟩)]⟩) (fun i => i <= s.1.length /\ (s.1.take i).all (fun x => Qa1 x.1 && Qa1 x.2) = true) (fun i => s.1.length - i) 0 ?_ ?_ ?_
   ·exact ZH (l := [1, 3]) (lH := [1]) (kp2 rfl rfl) (Qq rfl Qz) rfl rfl rfl
   ·exact ⟨Nat.zero_le _, by simp⟩
   intro i hI
   try dsimp only
   refine QH ?_ -- 2
   refine Qf fun K hK => Qa Z (Qk Z Z (QE Z Z Z (Q5 Z Z (YY Z Z (hK _ _ (Qb (kp3 Z Z Z) ?_))))))
   refine QC Z (fun h3 => ?_) (fun h3 => ?_)
   ·try rw [h3]
    try simp only [qA] at h3
    refine Qy (Qe (kp2 Z Z) ?_)
    refine QH ?_ -- 3
    refine QJ (Qf fun K hK => Qk Z Z (QE Z Z Z (Qa Z (QV Z Z Z (by omega) (Zs (by omega)) Z (ZV Z Z (QF (cs := [_, _, _, _, _, _, _]) Z Z Z Z (QB (Xy) Z Z (.inr Z) (Yn Z (Qa Z ?_)))))))))
    refine QA (g := 29) Z (fun h4 => ?_) (fun h4 => ?_)
    ·try rw [h4]
     try simp only [qA] at h4
     refine Qo Z (Qo Z (Qo Z (Qo Z (Qo Z (Qo Z (Qo Z (Qo Z (Qj Z Z (hK _ _ (Qb (kp3 Z Z Z) ?_))))))))))
     refine ZD Z (Qf fun K hK => Qa Z (hK _ _ (Qb (kp1 Z) ?_)))
     refine Qv (Qw (Qm (Zw (Qw (Qm (Qt Z ?_))))))
     first
      | exact (QcR (i := i) h1 h2 (by omega) hI.2).symm
      | exact (Qam (i := i) (by omega) (.inl h4)).symm
      | exact (Qam (i := i) (by omega) (.inr h5)).symm
      | exact (Qan (.inl h1)).symm
      | exact (Qan (.inr h2)).symm
    ·try rw [h4]
     try simp only [qA] at h4
     refine Qg Z (Qk Z Z (Qg Z (QE Z Z Z (Qg Z (Qa Z (Qg Z (QV Z Z Z (by omega) (Zs (by omega)) Z (Qg Z (ZV Z Z (Qg Z (QF (cs := [_, _, _, _, _, _, _]) Z Z Z Z ?_)))))))))))
     refine Qg Z (QB (Xy) Z Z (.inr Z) (Qg Z (Yn Z (Qj Z Z (hK _ _ (Qb (kp3 Z Z Z) ?_))))))
     refine QC Z (fun h5 => ?_) (fun h5 => ?_)
     ·try rw [h5]
      try simp only [qA] at h5
      refine Qf fun K hK => Qa Z (hK _ _ (Qb (kp1 Z) ?_))
      refine Qv (Qw (Qm (Zw (Qw (Qm (Qt Z ?_))))))
      first
       | exact (QcR (i := i) h1 h2 (by omega) hI.2).symm
       | exact (Qam (i := i) (by omega) (.inl h4)).symm
       | exact (Qam (i := i) (by omega) (.inr h5)).symm
       | exact (Qan (.inl h1)).symm
       | exact (Qan (.inr h2)).symm
     ·try rw [h5]
      try simp only [qA] at h5
      refine Qy (Ql (Qe (kp2 Z Z) (Q4 fun K hK => Qa Z (Zb Z Z (by first | exact Qr (by omega) (by omega) | rfl) (Qa Z (hK _ ?_))))))
      refine Qp (i + 1) ?_ ?_ ?_
      ·exact ZH (l := [1, 3]) (lH := [1]) (kp2 rfl rfl) (Qq rfl Qz) rfl rfl rfl
      ·exact ⟨by omega, Yq (by omega) hI.2 (by rw [show Qa1 s.1[i].1 = true from h4, show Qa1 s.1[i].2 = true from h5]; rfl)⟩
      ·first | omega | (simp only; omega) | (dsimp only; omega)
   ·try rw [h3]
    try simp only [qA] at h3
    refine Z0 (Q6 (QM (QU (Qe (QZ) (Qf fun K hK => Qa Z (hK _ _ (Qb (kp1 Z) ?_)))))))
    refine Qv (Qt Z ?_)
    first
     | exact (QcR (i := i) h1 h2 (by omega) hI.2).symm
     | exact (Qam (i := i) (by omega) (.inl h4)).symm
     | exact (Qam (i := i) (by omega) (.inr h5)).symm
     | exact (Qan (.inl h1)).symm
     | exact (Qan (.inr h2)).symm
end Go.Proofs
namespace Go.Proofs
open Go Go.Abs M3 M25
set_option linter.unusedVariables false
set_option linter.unusedSimpArgs false
theorem X8 {l : List Cu} {c : Cu} (hl : l.length <= 3000000) (hs : ∀ x ∈ l, Cu.sm x) (hc : Cu.sm c) : Ok Try.prog 83 [Qgh l, .agg (dCu c)] (Qgh (Qbr l c)) := by
 refine Ok.ofT Yi Try.func83 Qr6 (Nat.le_of_ble_eq_true Z) ?_
 show TW _ _ tf83.body _ _
 refine Qf fun K hK => Z1 Z Z Z (Qa Z (hK _ _ (Qb (kp2 Z Z) ?_)))
 refine Qf fun K hK => Qa Z (hK _ _ (Qb (kp3 Z Z Z) ?_))
 refine QH ?_ -- 0
 refine QJ ?_
 refine Yb (ι := Nat) (fun k => ⟨[(0, Qgh l), (3, .ref 3 0 0), (5, .int .i64 k)], [(3, ⟨[dCu c], 7, 87, true⟩)]⟩) (fun k => k <= l.length /\ Qbr l c = l.take k ++ Qbr (l.drop k) c) (fun k => l.length - k) 0 ?_ ?_ ?_
 ·exact ZH (l := [0, 3, 5]) (lH := [3]) (kp3 rfl rfl rfl) (Qq rfl Qz) rfl rfl rfl
 ·exact ⟨Nat.zero_le _, by simp⟩
 intro k hI
 try dsimp only
 refine QH ?_ -- 1
 refine Qf fun K hK => Qa Z (Qa Z (Q5 Z Z (YY Z Z (Qa Z ?_))))
 refine QA (g := 10) Z (fun h1 => ?_) (fun h1 => ?_)
 ·try rw [h1]
  try simp only [qA] at h1
  refine Qg Z (Qa Z (Qg Z (Qa Z (Qg Z (QV Z Z Z (by omega) (Zs (by omega)) Z (Qg Z (QY (ds0 := [2, 1, 0]) (cs := [_, _, _, _, _, _, _]) Z Z Z Z Z Z (Qg Z (QY (ds0 := [2, 1, 0]) (cs := [_, _, _, _, _, _, _]) Z Z Z Z Z Z (Qg Z (Zh (ds0 := [1, 0]) (Zl (hs _ (List.getElem_mem (by omega))).1 (hs _ (List.getElem_mem (by omega))).2 hc.1 hc.2) Z Z (.inr Z) Z Z ?_)))))))))))
  refine Qg Z (YY Z Z (Qj Z Z (hK _ _ (Qb (kp4 Z Z Z Z) ?_))))
  refine QC Z (fun h2 => ?_) (fun h2 => ?_)
  ·try rw [h2]
   try simp only [qA] at h2
   refine Qy (Qe (kp3 Z Z Z) (QJ (Q4 fun K hK => Qa Z (Zb Z Z (by first | exact Qr (by omega) (by omega) | rfl) (Qa Z (hK _ ?_))))))
   refine Ql ?_
   refine Qp (k + 1) ?_ ?_ ?_
   ·exact ZH (l := [0, 3, 5]) (lH := [3]) (kp3 rfl rfl rfl) (Qq rfl Qz) rfl rfl rfl
   ·exact ⟨by omega, Ql0 (by omega) h2 hI.2⟩
   ·first | omega | (simp only; omega) | (dsimp only; omega)
  ·try rw [h2]
   try simp only [qA] at h2
   refine Z0 (Q6 (QM (QU (Qe (kp3 Z Z Z) ?_))))
   refine QH ?_ -- 2
   refine Qf fun K hK => Qa Z (Qa Z (Q5 Z Z (YY Z Z (Qa Z ?_))))
   refine QA (g := 25) Z (fun h3 => ?_) (fun h3 => ?_)
   ·try rw [h3]
    try simp only [qA] at h3
    refine Qg Z (Qa Z (Qg Z (Qa Z (Qg Z (QV Z Z Z (by omega) (Zs (by omega)) Z (Qg Z (QY (ds0 := [2, 1, 0]) (cs := [_, _, _, _, _, _, _]) Z Z Z Z Z Z (Qg Z (QY (ds0 := [2, 1, 0]) (cs := [_, _, _, _, _, _, _]) Z Z Z Z Z Z (Qg Z (Zh (ds0 := [1, 0]) (Zl (hs _ (List.getElem_mem (by omega))).1 (hs _ (List.getElem_mem (by omega))).2 hc.1 hc.2) Z Z (.inr Z) Z Z ?_)))))))))))
    refine Qg Z (Z5 Z Z (Qj Z Z (hK _ _ (Qb (kp4 Z Z Z Z) ?_))))
    refine QC Z (fun h4 => ?_) (fun h4 => ?_)
    ·try rw [h4]
     try simp only [qA] at h4
     refine Qf fun K hK => Qa Z (Qa Z (hK _ _ (Qb (kp1 Z) ?_)))
     refine Qv (Qm (Z8 Z ?_))
     rw [QlZ (k := k) (by omega) (by assumption) hI.2]; rfl
    ·try rw [h4]
     try simp only [qA] at h4
     refine Qy (Qe (kp3 Z Z Z) (Qf fun K hK => Qa Z (Qa Z (Qf9 Z Z Z Z (by omega) (by omega) (by simp; omega) Qia Z (Qf8 (ds0 := [5, 1, 0]) Z Z (fun _ h => ⟨Qnm, h⟩) Z (.inl Z) (by simp) (by simp; omega) (by simp; omega) Z Z (QY (ds0 := [6, 5, 1, 0]) (cs := [_, _, _, _, _, _, _]) Z Z Z Z Z Z (QG Z Z (Qee (ds0 := [1, 0]) Z Z (by simp [D.ids, D.sid]) ⟨_, rfl, rfl, rfl, rfl, rfl⟩ Z Z (by simp) Z Z (by simp; omega) (by simp; omega) Z Z (Qa Z (Qa Z ?_))))))))))
     refine Qf9 Z Z Z Z (by omega) (by simp; omega) (by simp) Qia Z (Qee (ds0 := [0]) Z Z (by simp [D.ids, D.sid]) ⟨rfl, Qnm, rfl⟩ Z Z (by simp) Z Z (by simp; omega) (by simp; omega) Z Z (Qa Z (hK _ _ (Qb (kp1 Z) ?_))))
     refine Qv (Z8 Z ?_)
     rw [Qj0 (k := k) (by first | exact .inl (by omega) | exact .inr ⟨by omega, by assumption, by assumption⟩) hI.2]; simp [QaY, D.fz, D.fzS, Qc5, lk, D.can, D.canS, Qgh, D.sid, (show ∀ a b : Nat, a + 1 + b = a + (b + 1) from fun a b => by omega), List.take_of_length_le (show (l.map dCu).length <= l.length by simp)] <;> rfl
   ·try rw [h3]
    try simp only [qA] at h3
    exact absurd h1 h3
 ·try rw [h1]
  try simp only [qA] at h1
  refine Qo Z (Qo Z (Qo Z (Qo Z (Qo Z (Qo Z (Qo Z (Qj Z Z (hK _ _ (Qb (kp4 Z Z Z Z) ?_)))))))))
  refine Ya Z (Z0 (Q6 (QM (QU (Qe (kp3 Z Z Z) ?_)))))
  refine QH ?_ -- 2
  refine Qf fun K hK => Qa Z (Qa Z (Q5 Z Z (YY Z Z (Qa Z ?_))))
  refine QA (g := 25) Z (fun h5 => ?_) (fun h5 => ?_)
  ·try rw [h5]
   try simp only [qA] at h5
   exact absurd h5 h1
  ·try rw [h5]
   try simp only [qA] at h5
   refine Qo Z (Qo Z (Qo Z (Qo Z (Qo Z (Qo Z (Qo Z (Qj Z Z (hK _ _ (Qb (kp4 Z Z Z Z) ?_)))))))))
   refine Ya Z (Qy (Qe (kp3 Z Z Z) (Qf fun K hK => Qa Z (Qa Z (Qf9 Z Z Z Z (by omega) (by omega) (by simp; omega) Qia Z (Qf8 (ds0 := [5, 1, 0]) Z Z (fun _ h => ⟨Qnm, h⟩) Z (.inl Z) (by simp) (by simp; omega) (by simp; omega) Z Z (QY (ds0 := [6, 5, 1, 0]) (cs := [_, _, _, _, _, _, _]) Z Z Z Z Z Z (QG Z Z (Qee (ds0 := [1, 0]) Z Z (by simp [D.ids, D.sid]) ⟨_, rfl, rfl, rfl, rfl, rfl⟩ Z Z (by simp) Z Z (by simp; omega) (by simp; omega) Z Z (Qa Z ?_))))))))))
   refine Qa Z (Qf9 Z Z Z Z (by omega) (by simp; omega) (by simp) Qia Z (Qee (ds0 := [0]) Z Z (by simp [D.ids, D.sid]) ⟨rfl, Qnm, rfl⟩ Z Z (by simp) Z Z (by simp; omega) (by simp; omega) Z Z (Qa Z (hK _ _ (Qb (kp1 Z) ?_)))))
   refine Qv (Z8 Z ?_)
   rw [Qj0 (k := k) (by first | exact .inl (by omega) | exact .inr ⟨by omega, by assumption, by assumption⟩) hI.2]; simp [QaY, D.fz, D.fzS, Qc5, lk, D.can, D.canS, Qgh, D.sid, (show ∀ a b : Nat, a + 1 + b = a + (b + 1) from fun a b => by omega), List.take_of_length_le (show (l.map dCu).length <= l.length by simp)] <;> rfl
theorem XS {l : List (Cu × Cu)} (hl : Sm l) : Ok Try.prog 78 [ZF l] (Qgh (YA l)) := by
 refine Ok.ofT Yi Try.func78 Qr1 (Nat.le_of_ble_eq_true Z) ?_
 show TW _ _ tf78.body _ _
 have hn := hl.1
 refine Qf fun K hK => Qa Z (hK _ _ (Qb (kp1 Z) ?_))
 refine Qf fun K hK => QB (YG) Z Z (.inl Z) (QB (YR) Z Z (.inl Z) (QG Z Z (Qa Z (hK _ _ (Qb (kp2 Z Z) ?_)))))
 refine QH ?_ -- 0
 refine Qf fun K hK => Qa Z (hK _ _ (Qb (kp3 Z Z Z) ?_))
 refine QJ ?_
 refine Yb (ι := Nat) (fun i => ⟨[(0, ZF l), (3, Qgh (YA (l.take i))), (4, .int .i64 i)], []⟩) (fun i => i <= l.length) (fun i => l.length - i) 0 ?_ ?_ ?_
 ·exact le_trans (QlP 7 _ (by decide)) (ZH (l := [0, 3, 4]) (lH := []) (kp3 rfl rfl rfl) Qz rfl rfl rfl)
 ·exact Nat.zero_le _
 intro i hI
 try dsimp only
 refine QH ?_ -- 1
 refine Qf fun K hK => Qa Z (Qa Z (Q5 Z Z (YY Z Z (hK _ _ (Qb (kp4 Z Z Z Z) ?_)))))
 refine QC Z (fun h1 => ?_) (fun h1 => ?_)
 ·try rw [h1]
  try simp only [qA] at h1
  refine Qy (Qe (kp3 Z Z Z) ?_)
  refine QH ?_ -- 2
  refine QJ (Q4 fun K hK => Qa Z (Qa Z (Qa Z (QV Z Z Z (by omega) (Zs (by omega)) Z (ZV Z Z (QY (ds0 := [7, 1, 0]) (cs := [_, _, _, _, _, _, _]) Z Z Z Z Z Z (Zh (ds0 := [1, 0]) (X8 (Nat.le_trans (Qd0 hl i).1 (by omega)) (Qd0 hl i).2 (hl.2 _ (List.getElem_mem (by omega))).1) Z Z (.inl Z) Z Z (Qa Z (Qa Z (QV Z Z Z (by omega) (Zs (by omega)) Z ?_))))))))))
  refine ZV Z Z (QY (ds0 := [1, 0]) (cs := [_, _, _, _, _, _, _]) Z Z Z Z Z Z (Zh (ds0 := [0]) (X8 (Nat.le_trans (Qd1 _ _) (by have := (Qd0 hl i).1; omega)) (QgG (Qd0 hl i).2 (hl.2 _ (List.getElem_mem (by omega))).1) (hl.2 _ (List.getElem_mem (by omega))).2) Z Z (.inl Z) Z Z (Qa Z (hK _ ?_))))
  refine Ql (Qe (kp3 Z Z Z) (Q4 fun K hK => Qa Z (Zb Z Z (by first | exact Qr (by omega) (by omega) | rfl) (Qa Z (hK _ ?_)))))
  refine Qp (i + 1) ?_ ?_ ?_
  ·exact ZH (l := [0, 3, 4]) (lH := []) (kp3 rfl rfl rfl) Qz (by rw [Qnb (by omega)]; rfl) rfl rfl
  ·omega
  ·first | omega | (simp only; omega) | (dsimp only; omega)
 ·try rw [h1]
  try simp only [qA] at h1
  refine Z0 (Q6 (QM (QU (Qe (kp1 Z) (Qf fun K hK => Qa Z (Qa Z (hK _ _ (Qb (kp1 Z) ?_))))))))
  refine Qv (Z8 Z ?_)
  rw [List.take_of_length_le (show l.length <= i by omega)]; rfl
end Go.Proofs
namespace Go.Proofs
open Go Go.Abs M3 M25
set_option linter.unusedVariables false
set_option linter.unusedSimpArgs false
theorem XT {l : List (Cu × Cu)} {x y : Cu} (hn : l.length <= 3000000) (hl : ∀ s ∈ l, Cu.sm s.1 /\ Cu.sm s.2) (hx : Cu.sm x) (hy : Cu.sm y) : OkH Try.prog 80 [.osl 500000 l.length, .agg (dCu x), .agg (dCu y)] [(500000, ⟨l.map QdL, 14, 90, true⟩)] (.osl 500000 (Qbq l x y).length) [(500000, ⟨(Qbq l x y).map QdL, 14, 90, true⟩)] := by
 refine OkH.mv Yi Try.func80 Qr3 (Nat.le_of_ble_eq_true Z) Z ?_
 show TW _ _ tf80.body _ _
 refine Qf fun K hK => Z1 Z Z Z (Z1 Z Z Z (Qa Z (hK _ _ (Qb (kp3 Z Z Z) ?_))))
 refine QH ?_ -- 0
 refine Qf fun K hK => Qa Z (Q5 Z Z (Qa9 Z Z (by first | exact Qr (by omega) (by omega) | rfl) (Qa Z (hK _ _ (Qb (kp4 Z Z Z Z) ?_)))))
 refine Qf fun K hK => Qa Z (Qhc Z Z (Qa Z ?_))
 refine QA (g := 13) Z (fun h1 => ?_) (fun h1 => ?_)
 ·try rw [h1]
  try simp only [qA] at h1
  refine Qg Z (Qa Z (Qg Z (Qa Z (Qg Z (Qar (ds0 := [5, 4, 2, 1, 0]) Z Z Z (by simp) (by omega) (by omega) Z Z Z (Qg Z (Qk Z Z (Qg Z (QY (ds0 := [2, 1, 0]) (cs := [_, _, _, _, _, _, _]) Z (Z2 Z (ZW (by omega) (by omega))) Z Z Z Z (Qg Z (QY (ds0 := [2, 1, 0]) (cs := [_, _, _, _, _, _, _]) Z Z Z Z Z Z ?_)))))))))))
  refine Qg Z (Zh (ds0 := [1, 0]) (Zl (hl _ (List.getElem_mem (by omega))).2.1 (hl _ (List.getElem_mem (by omega))).2.2 hx.1 hx.2) Z Z (.inr Z) Z Z (Qg Z (Z5 Z Z (Qj Z Z (hK _ _ (Qb (kp5 Z Z Z Z Z) ?_))))))
  refine QC Z (fun h2 => ?_) (fun h2 => ?_)
  ·try rw [h2]
   try simp only [qA] at h2
   refine Qf fun K hK => Qa Z (Qa Z (QF (cs := [_, _, _, _, _, _, _]) Z Z Z Z (YX Z Z Z (by simp) (by omega) (by omega) Z (Qk Z Z (QT Z Z (ZW (by omega) (by omega)) Z Z Z Z Z (hK _ _ (Qb (kp1 Z) ?_)))))))
   refine Qf fun K hK => Qa Z (Qa Z (hK _ _ (Qb (kp1 Z) ?_)))
   refine Qv (Qm ?_)
   refine X0 Z ?_ (Qje ?_)
   ·rw [QhQ (i := ((l.length : Int) - 1).toNat) (by omega) h2]; simp [QmA, D.fz, D.fzS, Qfq, D.can, D.canS]
   ·rw [QhQ (i := ((l.length : Int) - 1).toNat) (by omega) h2]; simp [lk, List.map_set, QdL, dCu, setRow, D.sid]
  ·try rw [h2]
   try simp only [qA] at h2
   refine Qy (Qe (kp3 Z Z Z) (Qf fun K hK => Qa Z (QF (cs := [_, _, _, _, _, _, _]) Z Z Z Z (QF (cs := [_, _, _, _, _, _, _]) Z Z Z Z (QS Z Z (QG Z Z (QdA Z Z (fun _ h => Qb5 Z Z Z h) Z (by simp) Z Z Z (by simp; omega) (by simp; omega) (Qa Z (hK _ _ (Qb (kp1 Z) ?_))))))))))
   refine Qv ?_
   refine X0 Z ?_ (Qje ?_)
   ·rw [QcN (.inr ⟨((l.length : Int) - 1).toNat, by omega, h2⟩)]; simp [QmA, D.fz, D.fzS, Qfq, D.can, D.canS]
   ·rw [QcN (.inr ⟨((l.length : Int) - 1).toNat, by omega, h2⟩)]; simp [lk, QdL, dCu, D.sid]
 ·try rw [h1]
  try simp only [qA] at h1
  refine Qo Z (Qo Z (Qo Z (Qo Z (Qo Z (Qo Z (Qo Z (Qo Z (Qj Z Z (hK _ _ (Qb (kp5 Z Z Z Z Z) ?_))))))))))
  refine Ya Z (Qy (Qe (kp3 Z Z Z) (Qf fun K hK => Qa Z (QF (cs := [_, _, _, _, _, _, _]) Z Z Z Z (QF (cs := [_, _, _, _, _, _, _]) Z Z Z Z (QS Z Z (QG Z Z (QdA Z Z (fun _ h => Qb5 Z Z Z h) Z (by simp) Z Z Z (by simp; omega) (by simp; omega) (Qa Z (hK _ _ (Qb (kp1 Z) ?_)))))))))))
  refine Qv ?_
  have h0 : l = [] := List.eq_nil_of_length_eq_zero (by omega)
  refine X0 Z ?_ (Qje ?_)
  ·rw [QcN (.inl h0)]; simp [QmA, D.fz, D.fzS, Qfq, D.can, D.canS]
  ·rw [QcN (.inl h0)]; simp [lk, QdL, dCu, D.sid]
end Go.Proofs
namespace Go.Proofs
open Go Go.Abs M3 M25
set_option linter.unusedVariables false
set_option linter.unusedSimpArgs false
theorem Qcb {l : List (Cu × Cu)} (hl : Sm l) : Ok Try.prog 77 [ZF l] (.tup [ZF (QiS l), .bool (l.all QcO)]) := by
  refine Ok.ofT Yi Try.func77 Qr0 (Nat.le_of_ble_eq_true Z) ?_
  show TW _ _ tf77.body _ _
  have hn := hl.1
  have hc1 := Qbo l
  refine Qf fun K hK => Qa Z (Qa Z (hK _ _ (Qb (kp1 Z) ?_)))
  refine QH ?_ -- 0
  refine Qf fun K hK => Qa Z (hK _ _ (Qb (kp2 Z Z) ?_))
  refine QJ ?_
  refine Yb (ι := Nat) (fun i => ⟨[(0, ZF l), (4, .int .i64 i)], []⟩) (fun i => i <= l.length /\ (l.take i).all QcO = true) (fun i => l.length - i) 0 ?_ ?_ ?_
  · exact Zc (kp2 rfl rfl)
  · exact ⟨Nat.zero_le _, by simp⟩
  intro i hI
  try dsimp only
  refine QH ?_ -- 1
  refine Qf fun K hK => Qa Z (Qa Z (Q5 Z Z (YY Z Z (hK _ _ (Qb (kp3 Z Z Z) ?_)))))
  refine QC Z (fun h1 => ?_) (fun h1 => ?_)
  · try rw [h1]
    try simp only [qA] at h1
    refine Qy (Qe (kp2 Z Z) ?_)
    refine QH ?_ -- 2
    refine QJ (Qf fun K hK => Qa Z (Qa Z (QV Z Z Z (by omega) (Zs (by omega)) Z (QF (cs := [_, _, _, _, _, _, _, _, _, _, _, _, _, _]) Z Z Z Z (QB (Xa (hl.at (i := i) (by omega)).1.1 (hl.at (i := i) (by omega)).1.2 (hl.at (i := i) (by omega)).2.1 (hl.at (i := i) (by omega)).2.2) Z Z (.inr Z) (Yn Z (hK _ _ (Qb (kp3 Z Z Z) ?_))))))))
    refine QC Z (fun h2 => ?_) (fun h2 => ?_)
    · try rw [h2]
      try simp only [qA] at h2
      refine Qf fun K hK => Qa Z (Qa Z (hK _ _ (Qb (kp2 Z Z) ?_)))
      refine Qv (Qw (Qm (Zw (Qw (Qm ?_)))))
      first
        | exact Zz rfl rfl ⟨by rw [QiS, if_neg (by rw [X5 (i := i) (by omega) (by assumption)]; simp)]; rfl, by rw [X5 (i := i) (by omega) (by assumption)]; rfl⟩
        | (have ha : l.all QcO = true := XO (by omega) hI.2
           exact Zz rfl rfl ⟨by rw [QiS, if_pos ha, hI2.done (by omega)]; simp [QaY, D.fz, D.fzS, Qc5, lk, D.can, D.canS, ZF], by rw [ha]; rfl⟩)
    · try rw [h2]
      try simp only [qA] at h2
      refine Qy (Ql (Qe (kp2 Z Z) (Q4 fun K hK => Qa Z (Zb Z Z (by first | exact Qr (by omega) (by omega) | rfl) (Qa Z (hK _ ?_))))))
      refine Qp (i + 1) ?_ ?_ ?_
      · exact Zc (kp2 rfl rfl)
      · exact ⟨by omega, Yq (by omega) hI.2 (by assumption)⟩
      · first | omega | (simp only; omega) | (dsimp only; omega)
  · try rw [h1]
    try simp only [qA] at h1
    refine Z0 (Q6 (QM (QU (Qe (kp1 Z) (Qf fun K hK => Qa Z (hK _ _ (Qb (kp2 Z Z) ?_)))))))
    refine Qf fun K hK => Qa Z (QB (XS hl) Z Z (.inl Z) (Qa Z (hK _ _ (Qb (kp3 Z Z Z) ?_))))
    refine QH ?_ -- 3
    refine Qf fun K hK => Qa Z (hK _ _ (Qb (kp4 Z Z Z Z) ?_))
    refine QJ ?_
    refine Yb (ι := Nat × List (Cu × Cu)) (fun ⟨i, out⟩ => ⟨[(0, ZF l), (5, .osl 5 out.length), (6, Qgh (YA l)), (7, .int .i64 i)], [(5, ⟨out.map QdL, 14, 90, true⟩)]⟩) (fun ⟨i, out⟩ => i <= (YA l).length /\ FillI (mIn l) (YA l) i out) (fun ⟨i, out⟩ => (YA l).length - i) (0, []) ?_ ?_ ?_
    · exact le_trans (Qax 5 5 14 90 rfl rfl) (ZH (l := [0, 5, 6, 7]) (lH := [5]) (kp4 rfl rfl rfl rfl) (Qq rfl Qz) rfl rfl rfl)
    · exact ⟨Nat.zero_le _, FillI.zero⟩
    intro ⟨i, out⟩ hI
    obtain ⟨hI1, hI2⟩ := hI
    have hI3 := hI2.1
    try dsimp only
    refine QH ?_ -- 4
    refine Qf fun K hK => Qa Z (Zb Z Z (by first | exact Qr (by omega) (by omega) | rfl) (Qa Z (Q5 Z Z (YY Z Z (hK _ _ (Qb (kp5 Z Z Z Z Z) ?_))))))
    refine QC Z (fun h3 => ?_) (fun h3 => ?_)
    · try rw [h3]
      try simp only [qA] at h3
      refine Qy (Qe (kp4 Z Z Z Z) ?_)
      refine QH ?_ -- 5
      refine QJ (Qf fun K hK => Qa Z (Qa Z (Qa Z (QV Z Z Z (by omega) (Zs (by omega)) Z (QY (ds0 := [0]) (cs := [_, _, _, _, _, _, _]) Z Z Z Z Z Z (Qa Z (Qa Z (Zb Z Z (by first | exact Qr (by omega) (by omega) | rfl) (QV Z Z Z (by omega) (QjL (by omega)) Z (QY (ds0 := [0]) (cs := [_, _, _, _, _, _, _]) Z Z Z Z Z Z ?_))))))))))
      refine Zh (ds0 := []) (Qau hl (Yj hl _ (List.getElem_mem (by omega))) (Yj hl _ (List.getElem_mem (by omega)))) Z Z (.inr Z) Z Z (hK _ _ (Qb (kp5 Z Z Z Z Z) ?_))
      refine QC Z (fun h4 => ?_) (fun h4 => ?_)
      · try rw [h4]
        try simp only [qA] at h4
        refine Q4 fun K hK => Qa rfl (Qa rfl (Qa rfl (QV rfl rfl rfl (by omega) (Zs (by omega)) rfl (QY (ds0 := [1, 0]) (cs := [_, _, _, _, _, _, _]) rfl rfl rfl rfl rfl rfl (Qa rfl (Qa rfl (Zb rfl rfl (by first | exact Qr (by omega) (by omega) | rfl) (QV rfl rfl rfl (by omega) (QjL (by omega)) rfl (QY (ds0 := [1, 0]) (cs := [_, _, _, _, _, _, _]) rfl rfl rfl rfl rfl rfl (Qjp (ds0 := [0]) (QnO (k := 5) rfl rfl rfl (by decide) rfl (by decide) (by simp [D.ids, D.sid, dCu]) ⟨.osl 5 out.length, by simp, by simp [D.ids, D.sid]⟩ rfl rfl (XT (by omega) hI2.2.1 (Yj hl _ (List.getElem_mem (by omega))) (Yj hl _ (List.getElem_mem (by omega))))) (fun _ h => by cases h) rfl rfl ?_))))))))))
        refine Qa Z (hK _ ?_)
        refine Ql (Qe (kp4 Z Z Z Z) (Q4 fun K hK => Qa Z (Zb Z Z (by first | exact Qr (by omega) (by omega) | rfl) (Qa Z (hK _ ?_)))))
        refine Qp (i + 1, Qbq out (YA l)[i] (YA l)[i + 1]) ?_ ?_ ?_
        · exact le_trans (QlN (l := [0, 6, 7]) (t := 50) (u := 5) 5 (kp3 rfl rfl rfl) rfl rfl rfl rfl) (ZH (l := [0, 5, 6, 7]) (lH := [5]) (kp4 rfl rfl rfl rfl) (Qq rfl Qz) rfl rfl rfl)
        · exact ⟨by omega, hI2.take (Yj hl) (by omega) (by assumption)⟩
        · show (YA l).length - (i + 1) < (YA l).length - i; omega
      · try rw [h4]
        try simp only [qA] at h4
        refine Qy (Ql (Qe (kp4 Z Z Z Z) (Q4 fun K hK => Qa Z (Zb Z Z (by first | exact Qr (by omega) (by omega) | rfl) (Qa Z (hK _ ?_))))))
        refine Qp (i + 1, out) ?_ ?_ ?_
        · exact ZH (l := [0, 5, 6, 7]) (lH := [5]) (kp4 rfl rfl rfl rfl) (Qq rfl Qz) rfl rfl rfl
        · exact ⟨by omega, hI2.skip (by omega) (by assumption)⟩
        · show (YA l).length - (i + 1) < (YA l).length - i; omega
    · try rw [h3]
      try simp only [qA] at h3
      refine Z0 (Q6 (QM (QU (Qe (kp1 Z) (Qf fun K hK => Qa Z (Qa Z (Qa Z (hK _ _ (Qb (kp2 Z Z) ?_)))))))))
      refine Qv ?_
      first
        | exact Zz rfl rfl ⟨by rw [QiS, if_neg (by rw [X5 (i := i) (by omega) (by assumption)]; simp)]; rfl, by rw [X5 (i := i) (by omega) (by assumption)]; rfl⟩
        | (have ha : l.all QcO = true := XO (by omega) hI.2
           exact Zz rfl rfl ⟨by rw [QiS, if_pos ha, hI2.done (by omega)]; simp [QaY, D.fz, D.fzS, Qc5, lk, D.can, D.canS, ZF], by rw [ha]; rfl⟩)
end Go.Proofs
namespace Go.Proofs
open Go Go.Abs M3 M25
set_option linter.unusedVariables false
set_option linter.unusedSimpArgs false
theorem Qat {a b : List (Cu × Cu)} (ha : Sm a) (hb : Sm b) (hab : a.length + b.length <= 1000000) : Ok Try.prog 71 [ZF a, ZF b] (ZF (QnY a b)) := by
 refine Ok.ofT Yi Try.func71 QrU (Nat.le_of_ble_eq_true Z) ?_
 show TW _ _ tf71.body _ _
 refine Qf fun K hK => Qa Z (hK _ _ (Qb (kp2 Z Z) ?_))
 refine QH ?_ -- 0
 refine Qf fun K hK => Qa Z (QB (Z6 ha) Z Z (.inr Z) (Yn Z (Qa Z ?_)))
 refine QA (g := 10) Z (fun h1 => ?_) (fun h1 => ?_)
 ·try rw [h1]
  try simp only [qB] at h1
  refine Qo Z (Qo Z (Qo Z (Qj Z Z (hK _ _ (Qb (kp3 Z Z Z) ?_)))))
  refine ZD Z (Qf fun K hK => Qa Z (hK _ _ (Qb (kp1 Z) ?_)))
  refine Qv (Qm (Z8 Z ?_))
  rw [QnY, if_neg (by simp [h1])]; rfl
 ·try rw [h1]
  try simp only [qB] at h1
  refine Qg Z (Qa Z (Qg Z (QB (Z6 hb) Z Z (.inr Z) (Qg Z (Yn Z (Qj Z Z (hK _ _ (Qb (kp3 Z Z Z) ?_))))))))
  refine QC Z (fun h2 => ?_) (fun h2 => ?_)
  ·try rw [h2]
   try simp only [qB] at h2
   refine Qf fun K hK => Qa Z (hK _ _ (Qb (kp1 Z) ?_))
   refine Qv (Qm (Z8 Z ?_))
   rw [QnY, if_neg (by simp [h1, h2])]; rfl
  ·try rw [h2]
   try simp only [qB] at h2
   refine Qy (Qe (kp2 Z Z) (Qf fun K hK => Qa Z (Qpp Z Z (fun _ h => Qn8 Qn3 h) Z (.inl Z) (by simp) (by simp; omega) (by simp; omega) (Qa Z (QdA Z Z (fun _ h => Qn8 Qn3 h) Z (by simp) Z Z Z (by simp; omega) (by simp; omega) ?_)))))
   apply Qoh [17] (by simp)
   ·simp [St.freezeL, St.freeze, rem, D.fz, D.fzS, Box.fz, lk, D.scrub]; exact ⟨rfl, rfl⟩
   ·exact Qcb (ha.app hb hab)
   ·rfl
   ·simp [QaY, D.fz, D.fzS, Qc5, D.can, D.canS, ZF]
   ·exact .inl rfl
   refine Qa Z (Zy Z Z (Zy Z Z (Qa Z (Qa Z (hK _ _ (Qb (kp1 Z) ?_))))))
   refine Qf fun K hK => Qa Z (Qa Z (hK _ _ (Qb (kp1 Z) ?_)))
   refine Qv (Z8 Z ?_)
   rw [QnY, if_pos ⟨h1, h2⟩]; rfl
theorem X7 {a : List (Cu × Cu)} (ha : Sm a) : Ok Try.prog 73 [ZF a] (ZF (QiT a)) := by
 refine Ok.ofT Yi Try.func73 QrW (Nat.le_of_ble_eq_true Z) ?_
 show TW _ _ tf73.body _ _
 have hn := ha.1
 have hc1 := Qbo a
 refine Qf fun K hK => Qa Z (hK _ _ (Qb (kp1 Z) ?_))
 refine QH ?_ -- 0
 refine Qf fun K hK => Qa Z (QB (Z6 ha) Z Z (.inr Z) (Yn Z (hK _ _ (Qb (kp2 Z Z) ?_))))
 refine QC Z (fun h1 => ?_) (fun h1 => ?_)
 ·try rw [h1]
  try simp only [qA] at h1
  refine Qf fun K hK => Qa Z (hK _ _ (Qb (kp1 Z) ?_))
  refine Qv (Qm (Z8 Z ?_))
  rw [QiT, if_neg (by simp [h1])]; rfl
 ·try rw [h1]
  try simp only [qA] at h1
  refine Qy (Qe (kp1 Z) (Qf fun K hK => Qa Z (hK _ _ (Qb (kp2 Z Z) ?_))))
  refine Qf fun K hK => Qa Z (QB (XS ha) Z Z (.inl Z) (Qa Z (hK _ _ (Qb (kp3 Z Z Z) ?_))))
  refine QH ?_ -- 1
  refine Qf fun K hK => Qa Z (hK _ _ (Qb (kp4 Z Z Z Z) ?_))
  refine QJ ?_
  refine Yb (ι := Nat × List (Cu × Cu)) (fun ⟨i, out⟩ => ⟨[(0, ZF a), (3, .osl 3 out.length), (4, Qgh (YA a)), (5, .int .i64 i)], [(3, ⟨out.map QdL, 14, 90, true⟩)]⟩) (fun ⟨i, out⟩ => i <= (YA a).length /\ FillI (fun x y => !mIn a x y) (YA a) i out) (fun ⟨i, out⟩ => (YA a).length - i) (0, []) ?_ ?_ ?_
  ·exact le_trans (Qax 3 3 14 90 rfl rfl) (ZH (l := [0, 3, 4, 5]) (lH := [3]) (kp4 rfl rfl rfl rfl) (Qq rfl Qz) rfl rfl rfl)
  ·exact ⟨Nat.zero_le _, FillI.zero⟩
  intro ⟨i, out⟩ hI
  obtain ⟨hI1, hI2⟩ := hI
  have hI3 := hI2.1
  try dsimp only
  refine QH ?_ -- 2
  refine Qf fun K hK => Qa Z (Zb Z Z (by first | exact Qr (by omega) (by omega) | rfl) (Qa Z (Q5 Z Z (YY Z Z (hK _ _ (Qb (kp5 Z Z Z Z Z) ?_))))))
  refine QC Z (fun h2 => ?_) (fun h2 => ?_)
  ·try rw [h2]
   try simp only [qA] at h2
   refine Qy (Qe (kp4 Z Z Z Z) ?_)
   refine QH ?_ -- 3
   refine QJ (Qf fun K hK => Qa Z (Qa Z (Qa Z (QV Z Z Z (by omega) (Zs (by omega)) Z (QY (ds0 := [1, 0]) (cs := [_, _, _, _, _, _, _]) Z Z Z Z Z Z (Qa Z (Qa Z (Zb Z Z (by first | exact Qr (by omega) (by omega) | rfl) (QV Z Z Z (by omega) (QjL (by omega)) Z (QY (ds0 := [1, 0]) (cs := [_, _, _, _, _, _, _]) Z Z Z Z Z Z ?_))))))))))
   refine Zh (ds0 := [0]) (Qau ha (Yj ha _ (List.getElem_mem (by omega))) (Yj ha _ (List.getElem_mem (by omega)))) Z Z (.inr Z) Z Z (Yn Z (hK _ _ (Qb (kp5 Z Z Z Z Z) ?_)))
   refine QC Z (fun h3 => ?_) (fun h3 => ?_)
   ·try rw [h3]
    try simp only [qA] at h3
    refine Q4 fun K hK => Qa rfl (Qa rfl (Qa rfl (QV rfl rfl rfl (by omega) (Zs (by omega)) rfl (QY (ds0 := [1, 0]) (cs := [_, _, _, _, _, _, _]) rfl rfl rfl rfl rfl rfl (Qa rfl (Qa rfl (Zb rfl rfl (by first | exact Qr (by omega) (by omega) | rfl) (QV rfl rfl rfl (by omega) (QjL (by omega)) rfl (QY (ds0 := [1, 0]) (cs := [_, _, _, _, _, _, _]) rfl rfl rfl rfl rfl rfl (Qjp (ds0 := [0]) (QnO (k := 3) rfl rfl rfl (by decide) rfl (by decide) (by simp [D.ids, D.sid, dCu]) ⟨.osl 3 out.length, by simp, by simp [D.ids, D.sid]⟩ rfl rfl (XT (by omega) hI2.2.1 (Yj ha _ (List.getElem_mem (by omega))) (Yj ha _ (List.getElem_mem (by omega))))) (fun _ h => by cases h) rfl rfl ?_))))))))))
    refine Qa Z (hK _ ?_)
    refine Ql (Qe (kp4 Z Z Z Z) (Q4 fun K hK => Qa Z (Zb Z Z (by first | exact Qr (by omega) (by omega) | rfl) (Qa Z (hK _ ?_)))))
    refine Qp (i + 1, Qbq out (YA a)[i] (YA a)[i + 1]) ?_ ?_ ?_
    ·exact le_trans (QlN (l := [0, 4, 5]) (t := 40) (u := 3) 3 (kp3 rfl rfl rfl) rfl rfl rfl rfl) (ZH (l := [0, 3, 4, 5]) (lH := [3]) (kp4 rfl rfl rfl rfl) (Qq rfl Qz) rfl rfl rfl)
    ·exact ⟨by omega, hI2.take (Yj ha) (by omega) (by simp; assumption)⟩
    ·show (YA a).length - (i + 1) < (YA a).length - i; omega
   ·try rw [h3]
    try simp only [qA] at h3
    refine Qy (Ql (Qe (kp4 Z Z Z Z) (Q4 fun K hK => Qa Z (Zb Z Z (by first | exact Qr (by omega) (by omega) | rfl) (Qa Z (hK _ ?_))))))
    refine Qp (i + 1, out) ?_ ?_ ?_
    ·exact ZH (l := [0, 3, 4, 5]) (lH := [3]) (kp4 rfl rfl rfl rfl) (Qq rfl Qz) rfl rfl rfl
    ·exact ⟨by omega, hI2.skip (by omega) (by simp; assumption)⟩
    ·show (YA a).length - (i + 1) < (YA a).length - i; omega
  ·try rw [h2]
   try simp only [qA] at h2
   refine Z0 (Q6 (QM (QU (Qe (kp1 Z) (Qf fun K hK => Qa Z (Qa Z (hK _ _ (Qb (kp1 Z) ?_))))))))
   refine Qv (Z8 Z ?_)
   rw [QiT, if_pos h1, hI2.done (by omega)]; simp [QaY, D.fz, D.fzS, Qc5, lk, D.can, D.canS, ZF]
end Go.Proofs
namespace Go.Proofs
open Go Go.Abs M3 M25
set_option linter.unusedVariables false
set_option linter.unusedSimpArgs false
theorem Qc7 {a b : Qg1} (h1a : Sm a.1) (h2a : Sm a.2) (h1b : Sm b.1) (h2b : Sm b.2) (hl1 : a.1.length + b.1.length <= 1000000) (hl2 : a.2.length + b.2.length <= 1000000) : Ok Try.prog 61 [Qg3 a, Qg3 b] (Qg3 (QnZ a b)) := by
 refine Ok.ofT Yi Try.func61 QrK (Nat.le_of_ble_eq_true Z) ?_
 show TW _ _ tf61.body _ _
 refine Qf fun K hK => Z1 Z Z Z (Z1 Z Z Z (ZC Z (hK _ _ (Qb (kp3 Z Z Z) ?_))))
 refine QH ?_ -- 0
 refine Qf fun K hK => QF (cs := [_, _]) Z Z Z Z (QB (Y2 h1a h2a) Z Z (.inr Z) (Yn Z (Qa Z ?_)))
 refine QA (g := 8) Z (fun h1 => ?_) (fun h1 => ?_)
 ·try rw [h1]
  try simp only [qB] at h1
  refine Qo Z (Qo Z (Qo Z (Qj Z Z (hK _ _ (Qb (kp4 Z Z Z Z) ?_)))))
  refine ZD Z (Qf fun K hK => QB (ZS) Z Z (.inl Z) (QT Z Z Z Z Z Z Z Z (hK _ _ (Qb (kp1 Z) ?_))))
  refine Qv (Qm (Post.eq (Zv (ds := [.sl _, .sl _]) (cs := [_, _]) Z Z Z Z Z) ?_))
  rw [QnZ, if_neg (by simp [h1])]; rfl
 ·try rw [h1]
  try simp only [qB] at h1
  refine Qg Z (QF (cs := [_, _]) Z Z Z Z (Qg Z (QB (Y2 h1b h2b) Z Z (.inr Z) (Qg Z (Yn Z (Qj Z Z (hK _ _ (Qb (kp4 Z Z Z Z) ?_))))))))
  refine QC Z (fun h2 => ?_) (fun h2 => ?_)
  ·try rw [h2]
   try simp only [qB] at h2
   refine Qf fun K hK => QB (ZS) Z Z (.inl Z) (QT Z Z Z Z Z Z Z Z (hK _ _ (Qb (kp1 Z) ?_)))
   refine Qv (Qm (Post.eq (Zv (ds := [.sl _, .sl _]) (cs := [_, _]) Z Z Z Z Z) ?_))
   rw [QnZ, if_neg (by simp [h1, h2])]; rfl
  ·try rw [h2]
   try simp only [qB] at h2
   refine Qy (Qe (kp3 Z Z Z) (Qf fun K hK => Qk Z Z (Zr (ds0 := [7, 1, 0]) Z Z Z Z Z (Qk Z Z (Zr (ds0 := [7, 1, 0]) Z Z Z Z Z (Zh (ds0 := [1, 0]) (Qat h1a h1b hl1) Z Z (.inl Z) Z Z (Qk Z Z (Zr (ds0 := [2, 1, 0]) Z Z Z Z Z (Qk Z Z (Zr (ds0 := [2, 1, 0]) Z Z Z Z Z ?_))))))))))
   refine Zh (ds0 := [1, 0]) (Qat h2a h2b hl2) Z Z (.inl Z) Z Z (QS Z Z (XB (ds0 := []) Z Z Z Z Z Z Z Z Z Z (hK _ _ (Qb (kp1 Z) ?_))))
   refine Qv (Post.eq (Zv (ds := [.sl _, .sl _]) (cs := [_, _]) Z Z Z Z Z) ?_)
   rw [QnZ, if_pos ⟨h1, h2⟩]; rfl
theorem Qcv {a : Qg1} (h1a : Sm a.1) (h2a : Sm a.2) : Ok Try.prog 63 [Qg3 a] (Qg3 (QgE a)) := by
 refine Ok.ofT Yi Try.func63 QrM (Nat.le_of_ble_eq_true Z) ?_
 show TW _ _ tf63.body _ _
 refine Qf fun K hK => Z1 Z Z Z (ZC Z (hK _ _ (Qb (kp2 Z Z) ?_)))
 refine QH ?_ -- 0
 refine Qf fun K hK => QF (cs := [_, _]) Z Z Z Z (QB (Y2 h1a h2a) Z Z (.inr Z) (Yn Z (hK _ _ (Qb (kp3 Z Z Z) ?_))))
 refine QC Z (fun h1 => ?_) (fun h1 => ?_)
 ·try rw [h1]
  try simp only [qB] at h1
  refine Qf fun K hK => QB (ZS) Z Z (.inl Z) (QT Z Z Z Z Z Z Z Z (hK _ _ (Qb (kp1 Z) ?_)))
  refine Qv (Qm (Post.eq (Zv (ds := [.sl _, .sl _]) (cs := [_, _]) Z Z Z Z Z) ?_))
  rw [QgE, if_neg (by simp [h1])]; rfl
 ·try rw [h1]
  try simp only [qB] at h1
  refine Qy (Qe (kp2 Z Z) (Qf fun K hK => Qk Z Z (Zr (ds0 := [5, 1, 0]) Z Z Z Z Z (Zh (ds0 := [1, 0]) (X7 h1a) Z Z (.inl Z) Z Z (Qk Z Z (Zr (ds0 := [2, 1, 0]) Z Z Z Z Z (Zh (ds0 := [1, 0]) (X7 h2a) Z Z (.inl Z) Z Z (QS Z Z (XB (ds0 := []) Z Z Z Z Z Z Z Z Z Z (hK _ _ (Qb (kp1 Z) ?_)))))))))))
  refine Qv (Post.eq (Zv (ds := [.sl _, .sl _]) (cs := [_, _]) Z Z Z Z Z) ?_)
  rw [QgE, if_pos h1]; rfl
end Go.Proofs
