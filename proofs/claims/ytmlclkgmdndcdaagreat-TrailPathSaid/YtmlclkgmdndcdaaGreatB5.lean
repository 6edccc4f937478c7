/- Part 5 of the means of the proof: a verified abstract evaluator, the prepared functions, and contracts of functions. It states nothing of the claim by itself. -/
import Derived.Test.YtmlclkgmdndcdaaGreatB4
set_option linter.unusedSimpArgs false
set_option linter.unusedVariables false
namespace M25
open Go Go.Abs M3
/-! ### The boxes of a world under way -/
def fbx (ec : Nat) (us : List UR) : List (Nat × Box) := us.map fun u => (u.k, ⟨u.cs.map dCR, 8, ec, true⟩)
def Yg (us : List UR) : Prop := ∀ j, ∀ h : j < us.length, us[j].k = 500001 + j
theorem Qjt {us : List UR} {u : UR} (h : Yg us) (hu : u.k = 500001 + us.length) : Yg (us ++ [u]) := fun j hj => by
 rw [List.length_append, List.length_singleton] at hj
 by_cases e : j < us.length
 ·rw [List.getElem_append_left e]; exact h j e
 ·have : j = us.length := by omega
  subst this
  rw [List.getElem_append_right (Nat.le_refl _)]; simpa using hu
theorem Qf3 (ec : Nat) (us : List UR) : QoR (fbx ec us) := fun p hp => by
 obtain ⟨u, _, rfl⟩ := List.mem_map.1 hp; rfl
theorem Qhr {ec : Nat} : ∀ {us : List UR} {k : Nat} {b : Box}, lk (fbx ec us) k = some b -> ∃ u ∈ us, k = u.k /\ b = ⟨u.cs.map dCR, 8, ec, true⟩
 | [], _, _, h => by cases h
 | u :: us, k, b, h => by
  simp only [fbx, List.map_cons] at h
  rw [Qn] at h
  split at h
  ·rename_i e; cases h; exact ⟨u, by simp, e.symm, rfl⟩
  ·obtain ⟨v, hv, q⟩ := Qhr (us := us) h
   exact ⟨v, by simp [hv], q⟩
theorem QbC {us : List UR} (h : Yg us) {u : UR} (hu : u ∈ us) : 500001 <= u.k /\ u.k < 500001 + us.length := by
 obtain ⟨j, hj, rfl⟩ := List.getElem_of_mem hu
 have := h j hj
 omega
theorem Qh1 {ec : Nat} {us : List UR} (h : Yg us) : QtI 500001 (fbx ec us) := fun k b hk => by
 obtain ⟨u, hu, rfl, _⟩ := Qhr hk
 exact (QbC h hu).1
theorem Y3 {ec : Nat} {us : List UR} (h : Yg us) {k : Nat} (hk : k < 500001 \/ 500001 + us.length <= k) : lk (fbx ec us) k = none := by
 cases hh : lk (fbx ec us) k with
 | none => rfl
 | some b =>
  obtain ⟨u, hu, rfl, _⟩ := Qhr hh
  have := QbC h hu
  omega
theorem Qnv {ec : Nat} : ∀ {us : List UR} {n : Nat}, (∀ j, ∀ h : j < us.length, us[j].k = n + j) -> ∀ j, ∀ h : j < us.length, lk (fbx ec us) (n + j) = some ⟨us[j].cs.map dCR, 8, ec, true⟩
 | [], _, _, j, hj => by simp at hj
 | u :: us, n, hk, 0, _ => by
  have := hk 0 (by simp)
  simp only [List.getElem_cons_zero, Nat.add_zero] at this
  simp only [fbx, List.map_cons, Nat.add_zero]
  rw [Qn, if_pos this]; rfl
 | u :: us, n, hk, j + 1, hj => by
  have h0 := hk 0 (by simp)
  simp only [List.getElem_cons_zero, Nat.add_zero] at h0
  simp only [fbx, List.map_cons]
  rw [Qn, if_neg (by omega)]
  have := Qnv (ec := ec) (us := us) (n := n + 1) (fun i hi => by
   have := hk (i + 1) (by simpa using hi)
   simp only [List.getElem_cons_succ] at this
   omega) j (by simpa using hj)
  rw [show n + 1 + j = n + (j + 1) by omega] at this
  simp only [List.getElem_cons_succ]
  exact this
theorem Qnu {ec : Nat} {us : List UR} (h : Yg us) {j : Nat} (hj : j < us.length) : lk (fbx ec us) (500001 + j) = some ⟨us[j].cs.map dCR, 8, ec, true⟩ := Qnv h j hj
theorem Qlu (ec : Nat) (us : List UR) (u : UR) : fbx ec (us ++ [u]) = fbx ec us ++ [(u.k, ⟨u.cs.map dCR, 8, ec, true⟩)] := by simp [fbx]
theorem Qpe {ec : Nat} {us : List UR} (h : Yg us) {kg : Nat} {x y : Box} {u : UR} (hu : u.k = 500001 + us.length) (hkg : u.k ≠ kg) (k : Nat) :
  lk ((u.k, ⟨u.cs.map dCR, 8, ec, true⟩) :: (500000, x) :: (kg, y) :: fbx ec us) k = lk ((500000, x) :: (kg, y) :: fbx ec (us ++ [u])) k := by
 rw [Qlu]
 by_cases e : u.k = k
 ·subst e
  rw [Qz, Qn, if_neg (by omega), Qn, if_neg (Ne.symm hkg), Y4 (Y3 h (.inr (by omega))), Qz]
 ·rw [Qn, if_neg e, Qn, Qn, Qn, Qn]
  split
  ·rfl
  ·split
   ·rfl
   ·rw [Z0]
    cases h2 : lk (fbx ec us) k with
    | some v => rfl
    | none => rw [Qn, if_neg e]; rfl
def zr (v : Vr) (sh : Int) : CR := ⟨v, .int .i64 sh, .fsl [], .fsl []⟩
def QrS (u : UR) : Prop := u.cs.length <= 4 /\ ∀ z ∈ u.cs, ∃ v sh, z = zr v sh /\ Qg3 v
theorem Qql {u : UR} : (dUR u).flatMap D.sid = [u.k] := by simp [dUR, D.sid]
theorem QbP {us : List UR} {e et : Nat} {k : Nat} (h : k ∈ (Box.ids ⟨us.map dUR, e, et, false⟩)) : ∃ u ∈ us, k = u.k := by
 simp only [Box.ids, Bool.false_eq_true, if_false, List.mem_flatMap, List.mem_map] at h
 obtain ⟨r, ⟨u, hu, rfl⟩, hk⟩ := h
 have : k ∈ (dUR u).flatMap D.sid := List.mem_flatMap.2 hk
 rw [Qql] at this
 exact ⟨u, hu, by simpa using this⟩
theorem QrD {us : List UR} (h : Yg us) : ∀ r ∈ us.map dUR, ∀ d ∈ r, 500000 ∉ d.sid := fun r hr d hd hk => by
 obtain ⟨u, hu, rfl⟩ := List.mem_map.1 hr
 have : 500000 ∈ (dUR u).flatMap D.sid := List.mem_flatMap.2 ⟨d, hd, hk⟩
 rw [Qql] at this
 have h2 := QbC h hu
 simp only [List.mem_singleton] at this
 omega
theorem QhQ {B F : List (Nat × Box)} {j : Nat} (h : (lk F j).isSome = true) : (lk (B ++ F) j).isSome = true := by
 rw [Z0]; split
 ·rfl
 ·exact h
theorem QdT {ec : Nat} {us : List UR} (h : Yg us) {u : UR} (hu : u ∈ us) : (lk (fbx ec us) u.k).isSome = true := by
 obtain ⟨j, hj, rfl⟩ := List.getElem_of_mem hu
 rw [h j hj, Qnu h hj]; rfl
theorem Qh2 {ec : Nat} {us : List UR} {u : UR} (h : Yg us) (hu : u.k = 500001 + us.length) : lk (fbx ec (us ++ [u])) (500001 + us.length) = some ⟨u.cs.map dCR, 8, ec, true⟩ := by
 rw [Qlu, Y4 (Y3 h (.inr (Nat.le_refl _))), <- hu, Qz]
section
variable {l : List Nat} {fr fr1 fr' : List (Nat × D)} {B : List (Nat × Box)} {kg eg eu ec : Nat} {L : List Int} {J : Int} {us : List UR}
theorem QtL (hf : Zf l fr = fr1) (ef : fr1 = fr') (hK : Yg us) (hu : lk B 500000 = some ⟨us.map dUR, 3, eu, false⟩) (hg : lk B kg = some (gB L J eg)) (hB : ∀ p ∈ B, 500001 <= p.1 -> p.1 = kg) (hkg : kg ≠ 500000)
  (hfr : ∀ p ∈ fr', ∀ k ∈ p.2.ids, k = 500000 \/ k = kg \/ ∃ u ∈ us, k = u.k) : St.le ⟨fr, B ++ fbx ec us⟩ ⟨fr', [(500000, ⟨us.map dUR, 3, eu, false⟩), (kg, gB L J eg)] ++ fbx ec us⟩ := by
 have s0 : ∀ k, (k = 500000 \/ k = kg \/ ∃ u ∈ us, k = u.k) -> (lk ([(500000, (⟨us.map dUR, 3, eu, false⟩ : Box)), (kg, gB L J eg)] ++ fbx ec us) k).isSome = true := fun k hk => by
  rcases hk with rfl | rfl | ⟨u, hu, rfl⟩
  ·exact Q3
  ·exact Q0 Q3
  ·exact QhQ (QdT hK hu)
 refine QkC (N := 500001) hf ef (fun p hp => ?_) rfl (fun p hp j hj => s0 j ?_) (fun p hp h => ?_) (Qh1 hK) (Qf3 ec us) (fun p hp k hk => s0 k (hfr p hp k hk))
 ·simp only [List.mem_cons, List.not_mem_nil, or_false] at hp
  rcases hp with rfl | rfl
  ·exact hu
  ·exact hg
 ·simp only [List.mem_cons, List.not_mem_nil, or_false] at hp
  rcases hp with rfl | rfl
  ·exact .inr (.inr (QbP hj))
  ·simp [Box.ids, gB] at hj
 ·rw [hB p hp h]; exact Q0 Q3
theorem QrQ {cs : List CR} (hf : Zf l fr = fr1) (ef : fr1 = fr') (hK : Yg us) (hc : lk B (500001 + us.length) = some ⟨cs.map dCR, 8, ec, true⟩) (hu : lk B 500000 = some ⟨us.map dUR, 3, eu, false⟩) (hg : lk B kg = some (gB L J eg)) (hB : ∀ p ∈ B, 500001 <= p.1 -> p.1 = kg \/ p.1 = 500001 + us.length)
  (hfr : ∀ p ∈ fr', ∀ k ∈ p.2.ids, k = 500000 \/ k = kg \/ k = 500001 + us.length \/ ∃ u ∈ us, k = u.k) : St.le ⟨fr, B ++ fbx ec us⟩ ⟨fr', [(500001 + us.length, ⟨cs.map dCR, 8, ec, true⟩), (500000, ⟨us.map dUR, 3, eu, false⟩), (kg, gB L J eg)] ++ fbx ec us⟩ := by
 have s0 : ∀ k, (k = 500000 \/ k = kg \/ k = 500001 + us.length \/ ∃ u ∈ us, k = u.k) -> (lk ([(500001 + us.length, (⟨cs.map dCR, 8, ec, true⟩ : Box)), (500000, (⟨us.map dUR, 3, eu, false⟩ : Box)), (kg, gB L J eg)] ++ fbx ec us) k).isSome = true := fun k hk => by
  rcases hk with rfl | rfl | rfl | ⟨u, hu, rfl⟩
  ·exact Q0 Q3
  ·exact Q0 (Q0 Q3)
  ·exact Q3
  ·exact QhQ (QdT hK hu)
 refine QkC (N := 500001) hf ef (fun p hp => ?_) rfl (fun p hp j hj => s0 j ?_) (fun p hp h => ?_) (Qh1 hK) (Qf3 ec us) (fun p hp k hk => s0 k (hfr p hp k hk))
 ·simp only [List.mem_cons, List.not_mem_nil, or_false] at hp
  rcases hp with rfl | rfl | rfl
  ·exact hc
  ·exact hu
  ·exact hg
 ·simp only [List.mem_cons, List.not_mem_nil, or_false] at hp
  rcases hp with rfl | rfl | rfl
  ·simp [Box.ids] at hj
  ·exact .inr (.inr (.inr (QbP hj)))
  ·simp [Box.ids, gB] at hj
 ·rcases hB p hp h with e | e
  ·rw [e]; exact Q0 (Q0 Q3)
  ·rw [e]; exact Q3
theorem QsB {u : UR} (hf : Zf l fr = fr1) (ef : fr1 = fr') (hK : Yg us) (huk : u.k = 500001 + us.length) (hc : lk B (500001 + us.length) = some ⟨u.cs.map dCR, 8, ec, true⟩) (hu : lk B 500000 = some ⟨(us ++ [u]).map dUR, 3, eu, false⟩) (hg : lk B kg = some (gB L J eg)) (hB : ∀ p ∈ B, 500001 <= p.1 -> p.1 = kg \/ p.1 = 500001 + us.length) (hkg : 1000000 <= kg) (hlen : us.length <= 100)
  (hfr : ∀ p ∈ fr', ∀ k ∈ p.2.ids, k = 500000 \/ k = kg \/ ∃ v ∈ us ++ [u], k = v.k) : St.le ⟨fr, B ++ fbx ec us⟩ ⟨fr', [(500000, ⟨(us ++ [u]).map dUR, 3, eu, false⟩), (kg, gB L J eg)] ++ fbx ec (us ++ [u])⟩ := by
 have hK1 := Qjt hK huk
 have mv := fun k => Qpe (ec := ec) hK (kg := kg) (x := ⟨(us ++ [u]).map dUR, 3, eu, false⟩) (y := gB L J eg) huk (by omega) k
 have s0 : ∀ k, (k = 500000 \/ k = kg \/ ∃ v ∈ us ++ [u], k = v.k) -> (lk ([(u.k, (⟨u.cs.map dCR, 8, ec, true⟩ : Box)), (500000, (⟨(us ++ [u]).map dUR, 3, eu, false⟩ : Box)), (kg, gB L J eg)] ++ fbx ec us) k).isSome = true := fun k hk => by
  show (lk ((u.k, _) :: (500000, _) :: (kg, _) :: fbx ec us) k).isSome = true
  rw [mv]
  rcases hk with rfl | rfl | ⟨v, hv, rfl⟩
  ·exact Q3
  ·exact Q0 Q3
  ·exact Q0 (Q0 (QdT hK1 hv))
 refine le_trans (QkC (N := 500001) (A' := [(u.k, ⟨u.cs.map dCR, 8, ec, true⟩), (500000, ⟨(us ++ [u]).map dUR, 3, eu, false⟩), (kg, gB L J eg)]) hf ef (fun p hp => ?_) rfl (fun p hp j hj => s0 j ?_) (fun p hp h => ?_) (Qh1 hK) (Qf3 ec us) (fun p hp k hk => s0 k (hfr p hp k hk))) (Qii ⟨fun _ => rfl, mv⟩)
 ·simp only [List.mem_cons, List.not_mem_nil, or_false] at hp
  rcases hp with rfl | rfl | rfl
  ·rw [huk]; exact hc
  ·exact hu
  ·exact hg
 ·simp only [List.mem_cons, List.not_mem_nil, or_false] at hp
  rcases hp with rfl | rfl | rfl
  ·simp [Box.ids] at hj
  ·exact .inr (.inr (QbP hj))
  ·simp [Box.ids, gB] at hj
 ·rcases hB p hp h with e | e
  ·rw [e]; exact Q0 (Q0 Q3)
  ·rw [e, <- huk]; exact Q3
end
def u0 (v : Vr) : UR := ⟨[], [], 500001, [zr v (-1)]⟩
def v0 : Vr := ⟨0, 0, 0, [], []⟩
theorem QpY {kg a b : Nat} (h : 1000000 <= kg) (ha : a < 1000000) (hb : b < 1000000) : QaL a b kg = kg := by
 unfold QaL; rw [if_neg (by omega), if_neg (by omega)]
theorem QnU {l : List Nat} {fr fr1 fr' : List (Nat × D)} {kg eg eu ec : Nat} {L : List Int} {I : Int} (hkg : 1000000 <= kg) (hf : Zf l fr = fr1) (ef : fr1.map (fun p => (p.1, (p.2.ren (QaL 18 500000)).ren (QaL 16 500001))) = fr') :
  St.le ⟨fr, [(18, ⟨[[.str [], .str [], .osl 16 1]], 3, eu, false⟩), (16, ⟨[dCR (zr v0 (-1))], 8, ec, true⟩), (kg, gB L I eg)]⟩ ⟨fr', [(500000, ⟨[u0 v0].map dUR, 3, eu, false⟩), (kg, gB L I eg)] ++ fbx ec [u0 v0]⟩ := by
 subst hf ef
 have k1 := QpY (a := 18) (b := 500000) hkg (by decide) (by decide)
 have k2 := QpY (a := 16) (b := 500001) hkg (by decide) (by decide)
 refine le_trans (Qcl l fr _) (le_trans (Qik 18 500000 (by decide) (by decide) _) (le_trans (Qik 16 500001 (by decide) (by decide) _) ?_))
 have hH : ∀ k, lk ([(500000, (⟨[u0 v0].map dUR, 3, eu, false⟩ : Box)), (kg, gB L I eg)] ++ fbx ec [u0 v0]) k = lk (Qcy (QaL 16 500001) (Qcy (QaL 18 500000) [(18, ⟨[[.str [], .str [], .osl 16 1]], 3, eu, false⟩), (16, ⟨[dCR (zr v0 (-1))], 8, ec, true⟩), (kg, gB L I eg)])) k := fun k => by
  have e : Qcy (QaL 16 500001) (Qcy (QaL 18 500000) [(18, (⟨[[.str [], .str [], .osl 16 1]], 3, eu, false⟩ : Box)), (16, ⟨[dCR (zr v0 (-1))], 8, ec, true⟩), (kg, gB L I eg)]) = [(500000, ⟨[u0 v0].map dUR, 3, eu, false⟩), (500001, ⟨[dCR (zr v0 (-1))], 8, ec, true⟩), (kg, gB L I eg)] := by
   simp only [Qcy, List.map_cons, List.map_nil, k1, k2]; rfl
  rw [e]
  show lk ((500000, _) :: (kg, _) :: (500001, _) :: []) k = _
  rw [Qn, Qn, Qn, Qn, Qn, Qn]
  by_cases h1 : 500000 = k
  ·rw [if_pos h1, if_pos h1]
  ·rw [if_neg h1, if_neg h1]
   by_cases h2 : kg = k
   ·rw [if_pos h2, if_neg (by omega), if_pos h2]
   ·rw [if_neg h2, if_neg h2]; rfl
 refine QbD (by simp only [St.ren, List.map_map]; rfl) fun k => (hH k).symm
def names5 : List (List UInt8) := [[97, 110, 116], [98, 101, 101], [99, 111, 119], [100, 111, 103], [101, 108, 107]]
theorem Zg : names5.length = 5 := rfl
theorem QrE : versions.length = 4 := rfl
theorem QsD {i : Nat} (h : i < versions.length) : Qg3 versions[i] := by
 have := Qk9 _ (List.getElem_mem h)
 exact ⟨Nat.le_trans this.1 (by omega), Nat.le_trans this.2 (by omega)⟩
structure UnitsIn (us : List UR) : Prop where
 keys : Yg us
 fresh : ∀ u ∈ us, QrS u
 first : ∃ z rest, us = ⟨[], [], 500001, [z]⟩ :: rest
theorem UnitsIn.zero : UnitsIn [u0 v0] := by
 refine ⟨fun j hj => ?_, fun u hu => ?_, ⟨zr v0 (-1), [], rfl⟩⟩
 ·have : j = 0 := by simp at hj; exact hj
  subst this; rfl
 ·simp only [List.mem_singleton] at hu; subst hu
  refine ⟨by simp [u0], fun z hz => ?_⟩
  simp only [u0, List.mem_singleton] at hz; subst hz
  exact ⟨v0, -1, rfl, ⟨Nat.zero_le _, Nat.zero_le _⟩⟩
theorem UnitsIn.snoc {us : List UR} (h : UnitsIn us) {n f : List UInt8} {cs : List CR} (hc : cs.length <= 4) (hz : ∀ z ∈ cs, ∃ v sh, z = zr v sh /\ Qg3 v) : UnitsIn (us ++ [⟨n, f, 500001 + us.length, cs⟩]) := by
 obtain ⟨h1, h2, z, rest, h3⟩ := h
 refine ⟨Qjt h1 rfl, fun u hu => ?_, z, rest ++ [⟨n, f, 500001 + us.length, cs⟩], by rw [h3]; rfl⟩
 rcases List.mem_append.1 hu with hu | hu
 ·exact h2 u hu
 ·simp only [List.mem_singleton] at hu; subst hu; exact ⟨hc, hz⟩
def CsIn (n : Nat) (cs : List CR) : Prop := cs.length <= n /\ ∀ z ∈ cs, ∃ v sh, z = zr v sh /\ Qg3 v
theorem CsIn.nil (n : Nat) : CsIn n [] := ⟨Nat.zero_le _, by simp⟩
theorem CsIn.keep {n : Nat} {cs : List CR} (h : CsIn n cs) : CsIn (n + 1) cs := ⟨Nat.le_succ_of_le h.1, h.2⟩
theorem CsIn.snoc {n : Nat} {cs : List CR} (h : CsIn n cs) {v : Vr} (hv : Qg3 v) {sh : Int} : CsIn (n + 1) (cs ++ [zr v sh]) := by
 refine ⟨by simp; exact h.1, fun z hz => ?_⟩
 rcases List.mem_append.1 hz with hz | hz
 ·exact h.2 z hz
 ·simp only [List.mem_singleton] at hz; subst hz; exact ⟨v, sh, rfl, hv⟩
theorem CsIn.at {n : Nat} {cs : List CR} (h : CsIn n cs) {i : Nat} (hi : i < cs.length) : Qg3 cs[i].v := by
 obtain ⟨v, sh, e, hv⟩ := h.2 _ (List.getElem_mem hi)
 rw [e]; exact hv
theorem QlJ {α : Type} {k : Nat} {v v' : α} {l : List (Nat × α)} (h : v = v') : lk ((k, v) :: l) k = some v' := by rw [Qz, h]
theorem QjY {us : List UR} {e et : Nat} (h : Yg us) : Box.scrub (500001 + us.length) ⟨us.map dUR, e, et, false⟩ = ⟨us.map dUR, e, et, false⟩ := QjX fun hk => by
 obtain ⟨u, hu, e⟩ := QbP hk
 have := QbC h hu
 omega
theorem Qmf {us : List UR} (h : Yg us) {n f : List UInt8} {k m : Nat} (hk : k ≠ 500000) : ∀ r ∈ us.map dUR ++ [[D.str n, D.str f, D.osl k m]], ∀ d ∈ r, 500000 ∉ d.sid := fun r hr d hd => by
 rcases List.mem_append.1 hr with hr | hr
 ·exact QrD h r hr d hd
 ·simp only [List.mem_singleton] at hr; subst hr
  simp only [List.mem_cons, List.not_mem_nil, or_false] at hd
  rcases hd with rfl | rfl | rfl <;> simp [D.sid]
  exact Ne.symm hk
theorem QrC {us : List UR} {u : UR} : (us ++ [u]).map dUR = us.map dUR ++ [dUR u] := by simp
theorem Qq3 {cs : List CR} {z : CR} : (cs ++ [z]).map dCR = cs.map dCR ++ [dCR z] := by simp
theorem Qbo {us : List UR} (h : Yg us) {kg eu ec : Nat} {g1 g2 g3 : Box} (hkg : 1000000 <= kg) (h1 : g1.pr = true) (h2 : g2.pr = true) (hlen : us.length <= 100) :
  (∀ k, 1000000 <= k -> (lk [(kg, g1)] k).isSome = true -> (lk (((500000, (⟨us.map dUR, 3, eu, false⟩ : Box)) :: fbx ec us) ++ [(kg, g2), (kg, g1)]) k).isSome = true) /\
  (∀ k b, lk (((500000, (⟨us.map dUR, 3, eu, false⟩ : Box)) :: fbx ec us) ++ [(kg, g2), (kg, g1)]) k = some b -> 500000 <= k /\ ∀ j ∈ b.ids, (lk (((500000, (⟨us.map dUR, 3, eu, false⟩ : Box)) :: fbx ec us) ++ [(kg, g2), (kg, g1)]) j).isSome = true) /\
  (∀ k b, lk (((500000, (⟨us.map dUR, 3, eu, false⟩ : Box)) :: fbx ec us) ++ [(kg, g2), (kg, g1)]) k = some b -> lk ((kg, g2) :: (500000, ⟨us.map dUR, 3, eu, false⟩) :: (kg, g3) :: fbx ec us) k = some b) := by
 have cs : ∀ k b, lk (((500000, (⟨us.map dUR, 3, eu, false⟩ : Box)) :: fbx ec us) ++ [(kg, g2), (kg, g1)]) k = some b -> (k = 500000 /\ b = ⟨us.map dUR, 3, eu, false⟩) \/ (∃ u ∈ us, k = u.k /\ b = ⟨u.cs.map dCR, 8, ec, true⟩) \/ (k = kg /\ b = g2) := fun k b hk => by
  rw [List.cons_append, Qn] at hk
  split at hk
  ·rename_i e; cases hk; exact .inl ⟨e.symm, rfl⟩
  ·rw [Z0] at hk
   cases hh : lk (fbx ec us) k with
   | some v =>
    rw [hh] at hk; cases hk
    exact .inr (.inl (Qhr hh))
   | none =>
    rw [hh] at hk
    simp only at hk
    rw [Qn] at hk
    split at hk
    ·rename_i e; cases hk; exact .inr (.inr ⟨e.symm, rfl⟩)
    ·rename_i e
     rw [Qn, if_neg e] at hk; cases hk
 refine ⟨fun k _ hk => ?_, fun k b hk => ?_, fun k b hk => ?_⟩
 ·obtain ⟨b, hb⟩ := Option.isSome_iff_exists.1 hk
  obtain ⟨rfl, _⟩ := XK hb
  exact QhQ Q3
 ·rcases cs k b hk with ⟨rfl, rfl⟩ | ⟨u, hu, rfl, rfl⟩ | ⟨rfl, rfl⟩
  ·refine ⟨Nat.le_refl _, fun j hj => ?_⟩
   obtain ⟨u, hu, rfl⟩ := QbP hj
   rw [List.cons_append]
   refine Q0 ?_
   obtain ⟨b, hb⟩ := Option.isSome_iff_exists.1 (QdT (ec := ec) h hu)
   rw [YB hb]; rfl
  ·have := QbC h hu
   exact ⟨by omega, fun j hj => by simp [Box.ids] at hj⟩
  ·exact ⟨by omega, fun j hj => by rw [Qan h2] at hj; cases hj⟩
 ·rcases cs k b hk with ⟨rfl, rfl⟩ | ⟨u, hu, rfl, rfl⟩ | ⟨rfl, rfl⟩
  ·exact Qo (by omega) Qz
  ·have hm := QbC h hu
   obtain ⟨j, hj, rfl⟩ := List.getElem_of_mem hu
   refine Qo (by omega) (Qo (by omega) (Qo (by omega) ?_))
   rw [h j hj]; exact Qnu h hj
  ·exact Qz
end M25
namespace Go.Proofs
open Go Go.Abs M3 M25
set_option linter.unusedVariables false
set_option linter.unusedSimpArgs false
theorem QcV {kg : Nat} {L : List Int} {I most : Int} {eg eu ec : Nat} (heu : eu = 74) (hec : ec = 71) (hkg : 1000000 <= kg) (hL : ∀ x ∈ L, I64 x) (hm0 : 1 <= most) (hm1 : most <= 5) : ∃ d H2, (∃ us I2, (UnitsIn us /\ 2 <= us.length /\ us.length <= 11) /\ d = .osl 500000 us.length /\ H2 = ((500000, ⟨us.map dUR, 3, eu, false⟩) :: fbx ec us) ++ [(kg, gB L I2 eg), (kg, gB L I eg)]) /\ OkH Tryz.prog 39 [.ref kg 0 0, .int .i64 most] [(kg, gB L I eg)] d H2 := by
 subst heu hec
 have e3 : ¬ kg = 500000 := by omega
 have k1 := QpY (a := 18) (b := 500000) hkg (by decide) (by decide)
 have k2 := QpY (a := 16) (b := 500001) hkg (by decide) (by decide)
 refine OkH.ofX (R := fun d H2 => ∃ us I2, (UnitsIn us /\ 2 <= us.length /\ us.length <= 11) /\ d = .osl 500000 us.length /\ H2 = ((500000, ⟨us.map dUR, 3, 74, false⟩) :: fbx 71 us) ++ [(kg, gB L I2 eg), (kg, gB L I eg)]) ZY Tryz.func39 Qub (Nat.le_of_ble_eq_true Z) ?_
 show TX _ _ tf39.body _ _
 refine Zb fun K hK => Qa Z (hK _ _ (QQ (kp2 Z Z) ?_))
 refine Zb fun K hK => ?_
 refine QI Z (by repeat (first | exact Z | refine Zv (by first | decide | omega) ?_)) ?_
 refine Qa Z (hK _ _ (QQ (kp3 Z Z Z) ?_))
 refine Qm8 (QkA (l := [0, 1]) (B := [_]) (A := []) (H0 := [(kg, gB L I eg)]) 14 5 (kp2 rfl rfl) rfl rfl rfl rfl (by intro p hp hk; simp only [List.mem_cons, List.not_mem_nil, or_false] at hp; rcases hp with rfl | rfl <;> first | (simp [D.ids, D.sid, Zc, QZ, ZI] at hk; done) | (simp [D.ids, D.sid, Zc, QZ, ZI] at hk; omega)) (by intro p hp; cases hp) (by intro p hp h; simp only [List.mem_singleton] at hp; subst hp; simp only at h; omega) (fun k b h => by obtain ⟨rfl, rfl⟩ := XK h; exact hkg) (fun k b h j hj => by obtain ⟨rfl, rfl⟩ := XK h; simp [Box.ids, gB] at hj) (by intro p hp k hk; simp only [List.mem_cons, List.not_mem_nil, or_false] at hp; rcases hp with rfl | rfl <;> first | (simp [D.ids, D.sid, Zc, QZ, ZI] at hk; done) | (simp [D.ids, D.sid, Zc, QZ, ZI] at hk; subst hk; repeat (first | exact Q3 | refine Q0 ?_)))) ?_
 refine Zb fun K hK => QU Z Z ?_
 refine QI Z (by repeat (first | exact Z | refine Zv (by first | decide | omega) ?_)) ?_
 refine QU Z Z ?_
 refine QI Z (by repeat (first | exact Z | refine Zv (by first | decide | omega) ?_)) ?_
 refine Qa Z (hK _ _ (QQ (kp4 Z Z Z Z) ?_))
 refine Zb fun K hK => QF (Xx) Z Z (.inl Z) (Qa Z (hK _ _ (QQ (kp5 Z Z Z Z Z) ?_)))
 refine XH ?_ -- 0
 refine Zb fun K hK => Qa Z (hK _ _ (QQ (kp6 Z Z Z Z Z Z) ?_))
 refine Yz ?_
 refine QdC (ι := List UR × Int × Nat) (fun ⟨us, J, n⟩ => ⟨[(0, .ref kg 0 0), (1, .int .i64 most), (5, .sl (Qbd names5)), (6, .osl 500000 us.length), (7, .sl (versions.map dVr)), (8, .int .i64 n)], [(500000, ⟨(us).map dUR, 3, 74, false⟩), (kg, gB L (J) eg)] ++ fbx 71 (us)⟩) (fun ⟨us, J, n⟩ => UnitsIn us /\ us.length <= 1 + 2 * n /\ n <= 5 /\ 1 + n <= us.length) (fun ⟨us, J, n⟩ => 5 - n) ([u0 v0], I, 0) ?_ ?_ ?_
 ·refine QnU (l := [0, 1, 5, 6, 7, 8]) hkg (kp6 Z Z Z Z Z Z) ?_; simp only [List.map_cons, List.map_nil, D.ren, D.renS, k1, k2]; rfl
 ·exact ⟨UnitsIn.zero, by simp, by omega, by simp⟩
 intro ⟨us, J, n⟩ hI
 try dsimp only at hI
 have e1 : ¬ kg = 500001 + us.length := by omega
 have e2 : ¬ 500000 = 500001 + us.length := by omega
 have e4 : ¬ 500001 + us.length = 500000 := by omega
 have hx0 : 0 <= nx L J most := QlR
 have hx1 : nx L J most < most := QlQ (by omega)
 have hn5 := Zg
 have hv4 := QrE
 try dsimp only
 refine XH ?_ -- 1
 refine Zb fun K hK => Qa Z (Qa Z (Qa Z ?_))
 refine YL (Qcu (I := J) Z (by repeat (first | exact Qz | refine Qo (by omega) ?_)) hL (by omega)) ?_
 refine Q2 Z Z (by first | exact Qs (by omega) (by omega) | rfl) (Z9 Z Z (Qa Z ?_))
 refine QB (g := 26) Z (fun h1 => ?_) (fun h1 => ?_)
 ·try rw [h1]
  try simp only [qA] at h1
  refine Qh Z (Qa Z (Qh Z (Qa Z (Qh Z ?_))))
  first | refine QS rfl QW ?_ | refine QS rfl rfl ?_
  refine Qh Z (Z9 Z Z (Ql Z Z (hK _ _ (QQ (kp7 Z Z Z Z Z Z Z) ?_))))
  refine YS Z (fun h2 => ?_) (fun h2 => ?_)
  ·try rw [h2]
   try simp only [qA] at h2
   refine Xd (Q4 (kp6 Z Z Z Z Z Z) ?_)
   refine XH ?_ -- 2
   refine Yz (Zb fun K hK => Qa Z (hK _ _ (QQ (kp7 Z Z Z Z Z Z Z) ?_)))
   refine Zb fun K hK => Qa Z ?_
   refine YL (Qcu (I := nxI J) Z (by repeat (first | exact Qz | refine Qo (by omega) ?_)) hL (by omega)) ?_
   refine Qa Z (hK _ _ (QQ (kp8 Z Z Z Z Z Z Z Z) ?_))
   refine XH ?_ -- 3
   refine Zb fun K hK => Qa Z (hK _ _ (QQ (kp9 Z Z Z Z Z Z Z Z Z) ?_))
   refine Yz ?_
   refine QdC (ι := List CR × Nat) (fun ⟨cs, i⟩ => ⟨[(0, .ref kg 0 0), (1, .int .i64 most), (5, .sl (Qbd names5)), (6, .osl 500000 us.length), (7, .sl (versions.map dVr)), (8, .int .i64 n), (9, .osl (500001 + us.length) cs.length), (10, .int .i64 (nx L (nxI J) 16)), (11, .int .i64 i)], [(500001 + (us).length, ⟨(cs).map dCR, 8, 71, true⟩), (500000, ⟨(us).map dUR, 3, 74, false⟩), (kg, gB L (nxI (nxI J)) eg)] ++ fbx 71 (us)⟩) (fun ⟨cs, i⟩ => i <= 4 /\ CsIn i cs) (fun ⟨cs, i⟩ => 4 - i) ([], 0) ?_ ?_ ?_
   ·exact le_trans (YG 9 (500001 + us.length) 8 71 rfl (by repeat (first | exact Y3 hI.1.keys (.inr (by omega)) | refine Zv (by omega) ?_))) (QrQ (l := [0, 1, 5, 6, 7, 8, 9, 10, 11]) (B := [_, _, _, _, _]) (kp9 rfl rfl rfl rfl rfl rfl rfl rfl rfl) rfl hI.1.keys (by repeat (first | exact Qz | refine Qo (by omega) ?_)) (by repeat (first | exact Qz | refine Qo (by omega) ?_)) (by repeat (first | exact Qz | refine Qo (by omega) ?_)) (by intro p hp h; simp only [List.mem_cons, List.not_mem_nil, or_false] at hp; rcases hp with rfl | rfl | rfl | rfl | rfl <;> first | (simp only at h; omega) | exact .inl rfl | exact .inr rfl) (by intro p hp k hk; simp only [List.mem_cons, List.not_mem_nil, or_false] at hp; rcases hp with rfl | rfl | rfl | rfl | rfl | rfl | rfl | rfl | rfl <;> first | (simp [D.ids, D.sid, Zc, QZ, ZI] at hk; done) | (simp [D.ids, D.sid, Zc, QZ, ZI] at hk; subst hk; first | exact .inl rfl | exact .inr (.inl rfl) | exact .inr (.inr (.inl rfl)) | (refine .inr (.inr (.inl ?_)); simp; done) | (first | exact .inr (.inr ⟨_, List.mem_append_right _ (List.mem_singleton.2 rfl), rfl⟩) | exact .inr (.inr (.inr ⟨_, List.mem_append_right _ (List.mem_singleton.2 rfl), rfl⟩))))))
   ·exact ⟨by omega, CsIn.nil _⟩
   intro ⟨cs, i⟩ hC
   try dsimp only at hC
   have hcl := hC.2.1
   try dsimp only
   refine XH ?_ -- 4
   refine Zb fun K hK => Qa Z (Qa Z ?_)
   first | refine QS rfl QW ?_ | refine QS rfl rfl ?_
   refine Z9 Z Z (hK _ _ (QQ (QmE Z Z Z Z Z Z Z Z Z Z) ?_))
   refine YS Z (fun h3 => ?_) (fun h3 => ?_)
   ·try rw [h3]
    try simp only [qA] at h3
    refine Xd (Q4 (kp9 Z Z Z Z Z Z Z Z Z) ?_)
    refine XH ?_ -- 5
    refine Yz (Zb fun K hK => Qa Z (Qa Z (QiZ Z (QfI (by omega) (by omega)) (Qr0 Z Z (by omega) (Qb2 Z Z (ZD Z Z (hK _ _ (QQ (QmE Z Z Z Z Z Z Z Z Z Z) ?_))))))))
    refine YS Z (fun h4 => ?_) (fun h4 => ?_)
    ·try rw [h4]
     try simp only [qA] at h4
     refine ZW fun K hK => Qa Z (Qa Z (Qa Z (QL Z Z Z (by omega) (QT (by omega)) Z (QH (cs := [_, _, _, _, _]) Z Z Z Z (QU Z Z ?_)))))
     refine QI Z (by repeat (first | exact Y3 hI.1.keys (.inl (by omega)) | exact Y3 hK1.keys (.inl (by omega)) | refine Zv (by first | decide | omega) ?_)) ?_
     refine XW (hk0 := by omega) Z Z (fun _ h => XF Z Z Z h) (Qo (by omega) Qz) (by simp) Z Z Z (by simp; omega) (by simp; omega) (Qa Z (hK _ ?_))
     refine Qi (Q4 (kp9 Z Z Z Z Z Z Z Z Z) (ZW fun K hK => Qa Z (Q2 Z Z (by first | exact Qs (by omega) (by omega) | rfl) (Qa Z (hK _ ?_)))))
     refine Qm (cs ++ [zr (versions[i]'(by omega)) 0], i + 1) ?_ ?_ ?_
     ·exact le_trans (Qij (B := [_, _, _, _, _]) (500001 + us.length) (Qf3 _ _)) (QrQ (l := [0, 1, 5, 6, 7, 8, 9, 10, 11]) (B := [_, _, _, _, _]) (kp9 rfl rfl rfl rfl rfl rfl rfl rfl rfl) (by simp [D.scrub, e1, e2, e3, e4] <;> omega) hI.1.keys (by rw [List.map_append]; exact Qz) (by repeat (first | exact Qz | exact QlJ (QjY hI.1.keys) | refine Qo (by omega) ?_)) (by repeat (first | exact Qz | refine Qo (by omega) ?_)) (by intro p hp h; simp only [List.mem_cons, List.not_mem_nil, or_false] at hp; rcases hp with rfl | rfl | rfl | rfl | rfl <;> first | (simp only at h; omega) | exact .inl rfl | exact .inr rfl) (by intro p hp k hk; simp only [List.mem_cons, List.not_mem_nil, or_false] at hp; rcases hp with rfl | rfl | rfl | rfl | rfl | rfl | rfl | rfl | rfl <;> first | (simp [D.ids, D.sid, Zc, QZ, ZI] at hk; done) | (simp [D.ids, D.sid, Zc, QZ, ZI] at hk; subst hk; first | exact .inl rfl | exact .inr (.inl rfl) | exact .inr (.inr (.inl rfl)) | (refine .inr (.inr (.inl ?_)); simp; done) | (first | exact .inr (.inr ⟨_, List.mem_append_right _ (List.mem_singleton.2 rfl), rfl⟩) | exact .inr (.inr (.inr ⟨_, List.mem_append_right _ (List.mem_singleton.2 rfl), rfl⟩))))))
     ·try dsimp only
      exact ⟨by omega, hC.2.snoc (QsD (by omega))⟩
     ·show 4 - (i + 1) < 4 - i; omega
    ·try rw [h4]
     try simp only [qA] at h4
     refine Xd (Qi (Q4 (kp9 Z Z Z Z Z Z Z Z Z) (ZW fun K hK => Qa Z (Q2 Z Z (by first | exact Qs (by omega) (by omega) | rfl) (Qa Z (hK _ ?_))))))
     refine Qm (cs, i + 1) ?_ ?_ ?_
     ·exact QrQ (l := [0, 1, 5, 6, 7, 8, 9, 10, 11]) (B := [_, _, _]) (kp9 rfl rfl rfl rfl rfl rfl rfl rfl rfl) rfl hI.1.keys (by repeat (first | exact Qz | refine Qo (by omega) ?_)) (by repeat (first | exact Qz | refine Qo (by omega) ?_)) (by repeat (first | exact Qz | refine Qo (by omega) ?_)) (by intro p hp h; simp only [List.mem_cons, List.not_mem_nil, or_false] at hp; rcases hp with rfl | rfl | rfl <;> first | (simp only at h; omega) | exact .inl rfl | exact .inr rfl) (by intro p hp k hk; simp only [List.mem_cons, List.not_mem_nil, or_false] at hp; rcases hp with rfl | rfl | rfl | rfl | rfl | rfl | rfl | rfl | rfl <;> first | (simp [D.ids, D.sid, Zc, QZ, ZI] at hk; done) | (simp [D.ids, D.sid, Zc, QZ, ZI] at hk; subst hk; first | exact .inl rfl | exact .inr (.inl rfl) | exact .inr (.inr (.inl rfl)) | (refine .inr (.inr (.inl ?_)); simp; done) | (first | exact .inr (.inr ⟨_, List.mem_append_right _ (List.mem_singleton.2 rfl), rfl⟩) | exact .inr (.inr (.inr ⟨_, List.mem_append_right _ (List.mem_singleton.2 rfl), rfl⟩)))))
     ·try dsimp only
      exact ⟨by omega, hC.2.keep⟩
     ·show 4 - (i + 1) < 4 - i; omega
   ·try rw [h3]
    try simp only [qA] at h3
    refine QbR (YK (QC (QJ (Q4 (kp7 Z Z Z Z Z Z Z) (Zb fun K hK => Qa Z (Qa Z (Qa Z (QL Z Z Z (by omega) (QT (by omega)) Z (Qy Z Z Z (Qa Z ?_))))))))))
    refine QU Z Z ?_
    refine QI Z (by repeat (first | exact Y3 hI.1.keys (.inl (by omega)) | exact Y3 hK1.keys (.inl (by omega)) | refine Zv (by first | decide | omega) ?_)) ?_
    refine Qkh (hk0 := by decide) Z Z (fun _ h => XF Z Z Z h) (Qo (by omega) (Qo (by omega) Qz)) (by simp) Z Z (.inr (Qmf hI.1.keys (by omega))) (by simp; omega) (by simp; omega) (Qa Z (hK _ _ (QQ (kp7 Z Z Z Z Z Z Z) ?_)))
    have hc4 : CsIn 4 cs := ⟨by omega, hC.2.2⟩
    refine Qm8 (le_trans (Qij (B := [_, _, _, _, _]) 500000 (Qf3 _ _)) (QsB (u := (UR.mk (names5[n]'(by have := Zg; omega)) [] (500001 + us.length) cs)) (l := [0, 1, 5, 6, 7, 8, 9]) (fr' := [(0, .ref kg 0 0), (1, .int .i64 most), (5, .sl (Qbd names5)), (6, .osl 500000 (us ++ [(UR.mk (names5[n]'(by have := Zg; omega)) [] (500001 + us.length) cs)]).length), (7, .sl (versions.map dVr)), (8, .int .i64 n), (9, .osl (500001 + us.length) cs.length)]) (B := [_, _, _, _, _]) (kp7 rfl rfl rfl rfl rfl rfl rfl) (by simp [D.scrub, e1, e2, e3, e4]) hI.1.keys rfl (by repeat (first | exact Qz | refine Qo (by omega) ?_)) (by rw [List.map_append]; exact Qz) (by repeat (first | exact Qz | refine Qo (by omega) ?_)) (by intro p hp h; simp only [List.mem_cons, List.not_mem_nil, or_false] at hp; rcases hp with rfl | rfl | rfl | rfl | rfl <;> first | (simp only at h; omega) | exact .inl rfl | exact .inr rfl) hkg (by omega) (by intro p hp k hk; simp only [List.mem_cons, List.not_mem_nil, or_false] at hp; rcases hp with rfl | rfl | rfl | rfl | rfl | rfl | rfl <;> first | (simp [D.ids, D.sid, Zc, QZ, ZI] at hk; done) | (simp [D.ids, D.sid, Zc, QZ, ZI] at hk; subst hk; first | exact .inl rfl | exact .inr (.inl rfl) | (first | exact .inr (.inr ⟨_, List.mem_append_right _ (List.mem_singleton.2 rfl), rfl⟩) | exact .inr (.inr (.inr ⟨_, List.mem_append_right _ (List.mem_singleton.2 rfl), rfl⟩))))))) ?_
    have hK1 := hI.1.snoc (n := (names5[n]'(by have := Zg; omega))) (f := []) hc4.1 hc4.2
    have hl1 : (us ++ [(UR.mk (names5[n]'(by have := Zg; omega)) [] (500001 + us.length) cs)]).length = us.length + 1 := by simp
    have f1 : ¬ kg = 500001 + (us ++ [(UR.mk (names5[n]'(by have := Zg; omega)) [] (500001 + us.length) cs)]).length := by omega
    have f2 : ¬ 500000 = 500001 + (us ++ [(UR.mk (names5[n]'(by have := Zg; omega)) [] (500001 + us.length) cs)]).length := by omega
    have f4 : ¬ 500001 + (us ++ [(UR.mk (names5[n]'(by have := Zg; omega)) [] (500001 + us.length) cs)]).length = 500000 := by omega
    have f5 : ¬ 500001 + us.length = 500001 + (us ++ [(UR.mk (names5[n]'(by have := Zg; omega)) [] (500001 + us.length) cs)]).length := by omega
    refine Zb fun K hK => Qa Z (Z9 Z Z (Qa Z ?_))
    refine QB (g := 67) Z (fun h5 => ?_) (fun h5 => ?_)
    ·try rw [h5]
     try simp only [qA] at h5
     refine Qh Z (Qa Z (Qh Z ?_))
     refine YL (Qcu (I := nxI (nxI J)) Z (by repeat (first | exact Qz | refine Qo (by omega) ?_)) hL (by omega)) ?_
     refine Qh Z (ZD Z Z (Ql Z Z (hK _ _ (QQ (kp8 Z Z Z Z Z Z Z Z) ?_))))
     refine YS Z (fun h6 => ?_) (fun h6 => ?_)
     ·try rw [h6]
      try simp only [qA] at h6
      refine Zb fun K hK => Qa Z (hK _ _ (QQ (kp8 Z Z Z Z Z Z Z Z) ?_))
      refine XH ?_ -- 6
      refine Zb fun K hK => Qa Z (hK _ _ (QQ (kp9 Z Z Z Z Z Z Z Z Z) ?_))
      refine Yz ?_
      refine QdC (ι := List CR × Nat × Int) (fun ⟨c2, m, J3⟩ => ⟨[(0, .ref kg 0 0), (1, .int .i64 most), (5, .sl (Qbd names5)), (6, .osl 500000 (us ++ [(UR.mk (names5[n]'(by have := Zg; omega)) [] (500001 + us.length) cs)]).length), (7, .sl (versions.map dVr)), (8, .int .i64 n), (9, .osl (500001 + us.length) cs.length), (12, .osl (500001 + (us ++ [(UR.mk (names5[n]'(by have := Zg; omega)) [] (500001 + us.length) cs)]).length) c2.length), (13, .int .i64 m)], [(500001 + (us ++ [(UR.mk (names5[n]'(by have := Zg; omega)) [] (500001 + us.length) cs)]).length, ⟨(c2).map dCR, 8, 71, true⟩), (500000, ⟨(us ++ [(UR.mk (names5[n]'(by have := Zg; omega)) [] (500001 + us.length) cs)]).map dUR, 3, 74, false⟩), (kg, gB L (J3) eg)] ++ fbx 71 (us ++ [(UR.mk (names5[n]'(by have := Zg; omega)) [] (500001 + us.length) cs)])⟩) (fun ⟨c2, m, J3⟩ => m <= cs.length /\ CsIn m c2) (fun ⟨c2, m, J3⟩ => cs.length - m) ([], 0, nxI (nxI (nxI J))) ?_ ?_ ?_
      ·exact le_trans (YG 12 (500001 + (us ++ [(UR.mk (names5[n]'(by have := Zg; omega)) [] (500001 + us.length) cs)]).length) 8 71 rfl (by repeat (first | exact Y3 hK1.keys (.inr (by omega)) | refine Zv (by omega) ?_))) (QrQ (l := [0, 1, 5, 6, 7, 8, 9, 12, 13]) (B := [_, _, _, _]) (kp9 rfl rfl rfl rfl rfl rfl rfl rfl rfl) rfl hK1.keys (by repeat (first | exact Qz | refine Qo (by omega) ?_)) (by repeat (first | exact Qz | refine Qo (by omega) ?_)) (by repeat (first | exact Qz | refine Qo (by omega) ?_)) (by intro p hp h; simp only [List.mem_cons, List.not_mem_nil, or_false] at hp; rcases hp with rfl | rfl | rfl | rfl <;> first | (simp only at h; omega) | exact .inl rfl | exact .inr rfl) (by intro p hp k hk; simp only [List.mem_cons, List.not_mem_nil, or_false] at hp; rcases hp with rfl | rfl | rfl | rfl | rfl | rfl | rfl | rfl | rfl <;> first | (simp [D.ids, D.sid, Zc, QZ, ZI] at hk; done) | (simp [D.ids, D.sid, Zc, QZ, ZI] at hk; subst hk; first | exact .inl rfl | exact .inr (.inl rfl) | exact .inr (.inr (.inl rfl)) | (refine .inr (.inr (.inl ?_)); simp; done) | (first | exact .inr (.inr ⟨_, List.mem_append_right _ (List.mem_singleton.2 rfl), rfl⟩) | exact .inr (.inr (.inr ⟨_, List.mem_append_right _ (List.mem_singleton.2 rfl), rfl⟩))))))
      ·exact ⟨by omega, CsIn.nil _⟩
      intro ⟨c2, m, J3⟩ hM
      try dsimp only at hM
      have hcl2 := hM.2.1
      try dsimp only
      refine XH ?_ -- 7
      refine Zb fun K hK => Qa Z (Qa Z ?_)
      first | refine QS rfl QW ?_ | refine QS rfl rfl ?_
      refine Z9 Z Z (hK _ _ (QQ (QmE Z Z Z Z Z Z Z Z Z Z) ?_))
      refine YS Z (fun h7 => ?_) (fun h7 => ?_)
      ·try rw [h7]
       try simp only [qA] at h7
       refine Xd (Q4 (kp9 Z Z Z Z Z Z Z Z Z) ?_)
       refine XH ?_ -- 8
       refine Yz (Zb fun K hK => Qa Z ?_)
       refine YL (Qcu (I := J3) Z (by repeat (first | exact Qz | refine Qo (by omega) ?_)) hL (by omega)) ?_
       refine QiQ Z Z (hK _ _ (QQ (QmE Z Z Z Z Z Z Z Z Z Z) ?_))
       refine YS Z (fun h8 => ?_) (fun h8 => ?_)
       ·try rw [h8]
        try simp only [qA] at h8
        refine ZW fun K hK => Qa Z (Qa Z (Qa Z (Y1 Z Z (Qo (by omega) (Qo (by omega) (Qo (by omega) (Qo (by omega) (Qh2 (u := (UR.mk (names5[n]'(by have := Zg; omega)) [] (500001 + us.length) cs)) hI.1.keys Z))))) (by simp) (by omega) (by omega) Z (Qj Z (Zu (Qo (by omega) (Qo (by omega) (Qo (by omega) (Qo (by omega) (Qh2 (u := (UR.mk (names5[n]'(by have := Zg; omega)) [] (500001 + us.length) cs)) hI.1.keys Z)))))) (QH (cs := [_, _, _, _, _]) Z (Z8 (Qo (by omega) (Qo (by omega) (Qo (by omega) (Qo (by omega) (Qh2 (u := (UR.mk (names5[n]'(by have := Zg; omega)) [] (500001 + us.length) cs)) hI.1.keys Z))))) (QT (l := cs) (by omega))) Z Z (QU Z Z ?_))))))
        refine QI Z (by repeat (first | exact Y3 hI.1.keys (.inl (by omega)) | exact Y3 hK1.keys (.inl (by omega)) | refine Zv (by first | decide | omega) ?_)) ?_
        refine XW (hk0 := by omega) Z Z (fun _ h => XF Z Z Z h) (Qo (by omega) (Qo (by omega) Qz)) (by simp) Z Z Z (by simp; omega) (by simp; omega) (Qa Z (hK _ ?_))
        refine Qi (Q4 (kp9 Z Z Z Z Z Z Z Z Z) (ZW fun K hK => Qa Z (Q2 Z Z (by first | exact Qs (by omega) (by omega) | rfl) (Qa Z (hK _ ?_)))))
        refine Qm (c2 ++ [zr (cs[m]'(by omega)).v 0], m + 1, nxI J3) ?_ ?_ ?_
        ·exact le_trans (Qij (B := [_, _, _, _, _, _]) (500001 + (us ++ [(UR.mk (names5[n]'(by have := Zg; omega)) [] (500001 + us.length) cs)]).length) (Qf3 _ _)) (QrQ (l := [0, 1, 5, 6, 7, 8, 9, 12, 13]) (B := [_, _, _, _, _, _]) (kp9 rfl rfl rfl rfl rfl rfl rfl rfl rfl) (by simp [D.scrub, f1, f2, f4, f5] <;> omega) hK1.keys (by rw [Qq3 (cs := c2)]; exact Qz) (by repeat (first | exact Qz | exact QlJ (QjY hK1.keys) | refine Qo (by omega) ?_)) (by repeat (first | exact Qz | refine Qo (by omega) ?_)) (by intro p hp h; simp only [List.mem_cons, List.not_mem_nil, or_false] at hp; rcases hp with rfl | rfl | rfl | rfl | rfl | rfl <;> first | (simp only at h; omega) | exact .inl rfl | exact .inr rfl) (by intro p hp k hk; simp only [List.mem_cons, List.not_mem_nil, or_false] at hp; rcases hp with rfl | rfl | rfl | rfl | rfl | rfl | rfl | rfl | rfl <;> first | (simp [D.ids, D.sid, Zc, QZ, ZI] at hk; done) | (simp [D.ids, D.sid, Zc, QZ, ZI] at hk; subst hk; first | exact .inl rfl | exact .inr (.inl rfl) | exact .inr (.inr (.inl rfl)) | (refine .inr (.inr (.inl ?_)); simp; done) | (first | exact .inr (.inr ⟨_, List.mem_append_right _ (List.mem_singleton.2 rfl), rfl⟩) | exact .inr (.inr (.inr ⟨_, List.mem_append_right _ (List.mem_singleton.2 rfl), rfl⟩))))))
        ·try dsimp only
         exact ⟨by omega, hM.2.snoc (hC.2.at (by omega))⟩
        ·show cs.length - (m + 1) < cs.length - m; omega
       ·try rw [h8]
        try simp only [qA] at h8
        refine Xd (Qi (Q4 (kp9 Z Z Z Z Z Z Z Z Z) (ZW fun K hK => Qa Z (Q2 Z Z (by first | exact Qs (by omega) (by omega) | rfl) (Qa Z (hK _ ?_))))))
        refine Qm (c2, m + 1, nxI J3) ?_ ?_ ?_
        ·exact QrQ (l := [0, 1, 5, 6, 7, 8, 9, 12, 13]) (B := [_, _, _, _]) (kp9 rfl rfl rfl rfl rfl rfl rfl rfl rfl) rfl hK1.keys (by repeat (first | exact Qz | refine Qo (by omega) ?_)) (by repeat (first | exact Qz | refine Qo (by omega) ?_)) (by repeat (first | exact Qz | refine Qo (by omega) ?_)) (by intro p hp h; simp only [List.mem_cons, List.not_mem_nil, or_false] at hp; rcases hp with rfl | rfl | rfl | rfl <;> first | (simp only at h; omega) | exact .inl rfl | exact .inr rfl) (by intro p hp k hk; simp only [List.mem_cons, List.not_mem_nil, or_false] at hp; rcases hp with rfl | rfl | rfl | rfl | rfl | rfl | rfl | rfl | rfl <;> first | (simp [D.ids, D.sid, Zc, QZ, ZI] at hk; done) | (simp [D.ids, D.sid, Zc, QZ, ZI] at hk; subst hk; first | exact .inl rfl | exact .inr (.inl rfl) | exact .inr (.inr (.inl rfl)) | (refine .inr (.inr (.inl ?_)); simp; done) | (first | exact .inr (.inr ⟨_, List.mem_append_right _ (List.mem_singleton.2 rfl), rfl⟩) | exact .inr (.inr (.inr ⟨_, List.mem_append_right _ (List.mem_singleton.2 rfl), rfl⟩)))))
        ·try dsimp only
         exact ⟨by omega, hM.2.keep⟩
        ·show cs.length - (m + 1) < cs.length - m; omega
      ·try rw [h7]
       try simp only [qA] at h7
       refine QbR (YK (QC (QJ (Q4 (kp7 Z Z Z Z Z Z Z) (ZW fun K hK => Qa Z (Qa Z (Qa Z (QL Z Z Z (by omega) (QT (by omega)) Z (Qy Z Z Z (Qa Z ?_))))))))))
       refine QU Z Z ?_
       refine QI Z (by repeat (first | exact Y3 hI.1.keys (.inl (by omega)) | exact Y3 hK1.keys (.inl (by omega)) | refine Zv (by first | decide | omega) ?_)) ?_
       refine Qkh (hk0 := by decide) Z Z (fun _ h => XF Z Z Z h) (Qo (by omega) (Qo (by omega) Qz)) (by simp) Z Z (.inr (Qmf hK1.keys (by omega))) (by simp; omega) (by simp; omega) (Qa Z (hK _ ?_))
       refine Qi (Q4 (kp6 Z Z Z Z Z Z) (ZW fun K hK => Qa Z (Q2 Z Z (by first | exact Qs (by omega) (by omega) | rfl) (Qa Z (hK _ ?_)))))
       refine Qm (us ++ [(UR.mk (names5[n]'(by have := Zg; omega)) [] (500001 + us.length) cs)] ++ [(UR.mk (names5[n]'(by have := Zg; omega)) [102] (500001 + (us ++ [(UR.mk (names5[n]'(by have := Zg; omega)) [] (500001 + us.length) cs)]).length) c2)], J3, n + 1) ?_ ?_ ?_
       ·exact le_trans (Qij (B := [_, _, _, _, _]) 500000 (Qf3 _ _)) (QsB (u := (UR.mk (names5[n]'(by have := Zg; omega)) [102] (500001 + (us ++ [(UR.mk (names5[n]'(by have := Zg; omega)) [] (500001 + us.length) cs)]).length) c2)) (l := [0, 1, 5, 6, 7, 8]) (B := [_, _, _, _, _]) (kp6 rfl rfl rfl rfl rfl rfl) (by simp [D.scrub, f1, f2, e3, f4, e4] <;> omega) hK1.keys rfl (by repeat (first | exact Qz | refine Qo (by omega) ?_)) (by rw [QrC (u := (UR.mk (names5[n]'(by have := Zg; omega)) [102] (500001 + (us ++ [(UR.mk (names5[n]'(by have := Zg; omega)) [] (500001 + us.length) cs)]).length) c2))]; exact Qz) (by repeat (first | exact Qz | refine Qo (by omega) ?_)) (by intro p hp h; simp only [List.mem_cons, List.not_mem_nil, or_false] at hp; rcases hp with rfl | rfl | rfl | rfl | rfl <;> first | (simp only at h; omega) | exact .inl rfl | exact .inr rfl) hkg (by omega) (by intro p hp k hk; simp only [List.mem_cons, List.not_mem_nil, or_false] at hp; rcases hp with rfl | rfl | rfl | rfl | rfl | rfl <;> first | (simp [D.ids, D.sid, Zc, QZ, ZI] at hk; done) | (simp [D.ids, D.sid, Zc, QZ, ZI] at hk; subst hk; first | exact .inl rfl | exact .inr (.inl rfl) | (first | exact .inr (.inr ⟨_, List.mem_append_right _ (List.mem_singleton.2 rfl), rfl⟩) | exact .inr (.inr (.inr ⟨_, List.mem_append_right _ (List.mem_singleton.2 rfl), rfl⟩))))))
       ·try dsimp only
        exact ⟨hK1.snoc (by omega) hM.2.2, by simp; omega, by omega, by simp; omega⟩
       ·show 5 - (n + 1) < 5 - n; omega
     ·try rw [h6]
      try simp only [qA] at h6
      refine Xd (Qi (Q4 (kp6 Z Z Z Z Z Z) (ZW fun K hK => Qa Z (Q2 Z Z (by first | exact Qs (by omega) (by omega) | rfl) (Qa Z (hK _ ?_))))))
      refine Qm (us ++ [(UR.mk (names5[n]'(by have := Zg; omega)) [] (500001 + us.length) cs)], nxI (nxI (nxI J)), n + 1) ?_ ?_ ?_
      ·exact QtL (l := [0, 1, 5, 6, 7, 8]) (B := [_, _, _]) (kp6 rfl rfl rfl rfl rfl rfl) rfl hK1.keys (by repeat (first | exact Qz | refine Qo (by omega) ?_)) (by repeat (first | exact Qz | refine Qo (by omega) ?_)) (by intro p hp h; simp only [List.mem_cons, List.not_mem_nil, or_false] at hp; rcases hp with rfl | rfl | rfl <;> first | (simp only at h; omega) | rfl) (by omega) (by intro p hp k hk; simp only [List.mem_cons, List.not_mem_nil, or_false] at hp; rcases hp with rfl | rfl | rfl | rfl | rfl | rfl <;> first | (simp [D.ids, D.sid, Zc, QZ, ZI] at hk; done) | (simp [D.ids, D.sid, Zc, QZ, ZI] at hk; subst hk; first | exact .inl rfl | exact .inr (.inl rfl) | (first | exact .inr (.inr ⟨_, List.mem_append_right _ (List.mem_singleton.2 rfl), rfl⟩) | exact .inr (.inr (.inr ⟨_, List.mem_append_right _ (List.mem_singleton.2 rfl), rfl⟩)))))
      ·try dsimp only
       exact ⟨hK1, by simp; omega, by omega, by simp; omega⟩
      ·show 5 - (n + 1) < 5 - n; omega
    ·try rw [h5]
     try simp only [qA] at h5
     refine Qp Z (Qp Z (Qp Z (Ql Z Z (hK _ _ (QQ (kp8 Z Z Z Z Z Z Z Z) ?_)))))
     refine Qkj Z (Xd (Qi (Q4 (kp6 Z Z Z Z Z Z) (ZW fun K hK => Qa Z (Q2 Z Z (by first | exact Qs (by omega) (by omega) | rfl) (Qa Z (hK _ ?_)))))))
     refine Qm (us ++ [(UR.mk (names5[n]'(by have := Zg; omega)) [] (500001 + us.length) cs)], nxI (nxI J), n + 1) ?_ ?_ ?_
     ·exact QtL (l := [0, 1, 5, 6, 7, 8]) (B := [_, _]) (kp6 rfl rfl rfl rfl rfl rfl) rfl hK1.keys (by repeat (first | exact Qz | refine Qo (by omega) ?_)) (by repeat (first | exact Qz | refine Qo (by omega) ?_)) (by intro p hp h; simp only [List.mem_cons, List.not_mem_nil, or_false] at hp; rcases hp with rfl | rfl <;> first | (simp only at h; omega) | rfl) (by omega) (by intro p hp k hk; simp only [List.mem_cons, List.not_mem_nil, or_false] at hp; rcases hp with rfl | rfl | rfl | rfl | rfl | rfl <;> first | (simp [D.ids, D.sid, Zc, QZ, ZI] at hk; done) | (simp [D.ids, D.sid, Zc, QZ, ZI] at hk; subst hk; first | exact .inl rfl | exact .inr (.inl rfl) | (first | exact .inr (.inr ⟨_, List.mem_append_right _ (List.mem_singleton.2 rfl), rfl⟩) | exact .inr (.inr (.inr ⟨_, List.mem_append_right _ (List.mem_singleton.2 rfl), rfl⟩)))))
     ·try dsimp only
      exact ⟨hK1, by simp; omega, by omega, by simp; omega⟩
     ·show 5 - (n + 1) < 5 - n; omega
  ·try rw [h2]
   try simp only [qA] at h2
   refine QbR (YK (QC (QJ (Q4 (kp1 Z) (Zb fun K hK => Qa Z (Qa Z (hK _ _ (QQ (kp1 Z) ?_))))))))
   refine Qfc ?_
   refine ⟨.osl 500000 us.length, ((500000, ⟨us.map dUR, 3, 74, false⟩) :: fbx 71 us) ++ [(kg, gB L (nxI J) eg), (kg, gB L I eg)], ⟨us, _, ⟨hI.1, by omega, by omega⟩, rfl, rfl⟩, (Qbo (g3 := gB L J eg) hI.1.keys hkg Z Z (by omega)).1, (Qbo (g3 := gB L J eg) hI.1.keys hkg Z Z (by omega)).2.1, Xe Z Z (Qbo (g3 := gB L J eg) hI.1.keys hkg Z Z (by omega)).2.2⟩
 ·try rw [h1]
  try simp only [qA] at h1
  refine Qp Z (Qp Z (Qp Z (Qp Z (Ql Z Z (hK _ _ (QQ (kp7 Z Z Z Z Z Z Z) ?_))))))
  refine Qkj Z (QbR (YK (QC (QJ (Q4 (kp1 Z) (Zb fun K hK => Qa Z (Qa Z (hK _ _ (QQ (kp1 Z) ?_)))))))))
  refine Qfc ?_
  refine ⟨.osl 500000 us.length, ((500000, ⟨us.map dUR, 3, 74, false⟩) :: fbx 71 us) ++ [(kg, gB L (nxI J) eg), (kg, gB L I eg)], ⟨us, _, ⟨hI.1, by omega, by omega⟩, rfl, rfl⟩, (Qbo (g3 := gB L J eg) hI.1.keys hkg Z Z (by omega)).1, (Qbo (g3 := gB L J eg) hI.1.keys hkg Z Z (by omega)).2.1, Xe Z Z (Qbo (g3 := gB L J eg) hI.1.keys hkg Z Z (by omega)).2.2⟩
end Go.Proofs
namespace M25
open Go Go.Abs M3
/-! ### A world under way: one candidate after the other is filled -/
def PureC (z : CR) : Prop := z.x.sid = [] /\ z.y.sid = [] /\ z.z.sid = []
theorem PureC.all {z : CR} (h : PureC z) : ∀ d ∈ dCR z, d.sid = [] := fun d hd => by
 simp only [dCR, List.mem_cons, List.not_mem_nil, or_false] at hd
 rcases hd with rfl | rfl | rfl | rfl | rfl | rfl | rfl | rfl
 ·rfl
 ·rfl
 ·rfl
 ·rfl
 ·rfl
 ·exact h.1
 ·exact h.2.1
 ·exact h.2.2
def QeY (u : UR) (k : Nat) (z : CR) : UR := { u with cs := u.cs.set k z }
def QcQ (us : List UR) (i k : Nat) (z : CR) : List UR := us.modify i fun u => QeY u k z
theorem Zw (us : List UR) (i k : Nat) (z : CR) : (QcQ us i k z).length = us.length := List.length_modify ..
theorem Qmd (us : List UR) (i k : Nat) (z : CR) : (QcQ us i k z).map dUR = us.map dUR := by
 refine List.ext_getElem (by simp [QcQ]) fun j h1 h2 => ?_
 simp only [List.getElem_map, QcQ, List.getElem_modify]
 split <;> simp [dUR, QeY]
theorem Qa6 {us : List UR} {i k : Nat} {z : CR} {j : Nat} (h : j < us.length) : (QcQ us i k z)[j]'(by rw [Zw]; exact h) = if i = j then QeY us[j] k z else us[j] := by
 simp only [QcQ, List.getElem_modify]
theorem Qem {us : List UR} {i k : Nat} {z : CR} (h : Yg us) : Yg (QcQ us i k z) := fun j hj => by
 rw [Zw] at hj
 rw [Qa6 hj]
 split
 ·exact h j hj
 ·exact h j hj
def wA (us : List UR) (eu ec eg : Nat) (L : List Int) (J : Int) (b4 : Box) : List (Nat × Box) := [(500000, ⟨us.map dUR, 3, eu, false⟩), (12, gB L J eg), (4, b4)] ++ fbx ec us
theorem QbQ {us : List UR} {eu ec eg : Nat} {L : List Int} {J : Int} {b4 : Box} (h : Yg us) {k : Nat} {b : Box} (hk : lk (wA us eu ec eg L J b4) k = some b) : (k = 500000 /\ b = ⟨us.map dUR, 3, eu, false⟩) \/ (k = 12 /\ b = gB L J eg) \/ (k = 4 /\ b = b4) \/ ∃ j, ∃ hj : j < us.length, k = 500001 + j /\ b = ⟨us[j].cs.map dCR, 8, ec, true⟩ := by
 unfold wA at hk
 rcases Qgl hk with hk | ⟨_, hk⟩
 ·simp only [List.mem_cons, List.not_mem_nil, or_false, Prod.mk.injEq] at hk
  rcases hk with h | h | h
  ·exact .inl h
  ·exact .inr (.inl h)
  ·exact .inr (.inr (.inl h))
 ·obtain ⟨u, hu, e1, e2⟩ := Qhr hk
  obtain ⟨j, hj, rfl⟩ := List.getElem_of_mem hu
  exact .inr (.inr (.inr ⟨j, hj, e1.trans (h j hj), e2⟩))
section
variable {us : List UR} {eu ec eg : Nat} {L : List Int} {J : Int} {b4 : Box}
theorem QfF : lk (wA us eu ec eg L J b4) 500000 = some ⟨us.map dUR, 3, eu, false⟩ := rfl
theorem Qfb : lk (wA us eu ec eg L J b4) 12 = some (gB L J eg) := rfl
theorem QgR : lk (wA us eu ec eg L J b4) 4 = some b4 := rfl
theorem QdA (h : Yg us) {j : Nat} (hj : j < us.length) : lk (wA us eu ec eg L J b4) (500001 + j) = some ⟨us[j].cs.map dCR, 8, ec, true⟩ := by
 show lk ((500000, _) :: (12, _) :: (4, _) :: fbx ec us) _ = _
 rw [Qn, if_neg (by omega), Qn, if_neg (by omega), Qn, if_neg (by omega)]
 exact Qnu h hj
theorem Z3 (h : Yg us) {k : Nat} (h1 : k ≠ 500000) (h2 : k ≠ 12) (h3 : k ≠ 4) (h4 : k < 500001 \/ 500001 + us.length <= k) : lk (wA us eu ec eg L J b4) k = none := by
 show lk ((500000, _) :: (12, _) :: (4, _) :: fbx ec us) _ = _
 rw [Qn, if_neg (Ne.symm h1), Qn, if_neg (Ne.symm h2), Qn, if_neg (Ne.symm h3)]
 exact Y3 h h4
theorem Qla (h : Yg us) {k : Nat} (hk : k = 500000 \/ k = 12 \/ k = 4 \/ ∃ u ∈ us, k = u.k) : (lk (wA us eu ec eg L J b4) k).isSome = true := by
 rcases hk with rfl | rfl | rfl | ⟨u, hu, rfl⟩
 ·rfl
 ·rfl
 ·rfl
 ·obtain ⟨j, hj, rfl⟩ := List.getElem_of_mem hu
  rw [h j hj, QdA h hj]; rfl
theorem QaI (h : Yg us) (h4 : b4.pr = true) : Closed (wA us eu ec eg L J b4) := fun k b hk j hj => by
 rcases QbQ h hk with ⟨rfl, rfl⟩ | ⟨rfl, rfl⟩ | ⟨rfl, rfl⟩ | ⟨i, hi, rfl, rfl⟩
 ·exact Qla h (.inr (.inr (.inr (QbP hj))))
 ·simp [Box.ids, gB] at hj
 ·rw [Qan h4] at hj; cases hj
 ·simp [Box.ids] at hj
theorem QeO {α : Type} : ∀ {l : List α} {k : Nat} {a x : α}, x ∈ l.set k a -> x = a \/ x ∈ l
 | [], k, a, x, h => by simp at h
 | b :: l, 0, a, x, h => by
  simp only [List.set_cons_zero, List.mem_cons] at h ⊢
  rcases h with h | h
  ·exact .inl h
  ·exact .inr (.inr h)
 | b :: l, k + 1, a, x, h => by
  simp only [List.set_cons_succ, List.mem_cons] at h ⊢
  rcases h with h | h
  ·exact .inr (.inl h)
  ·rcases QeO h with h | h
   ·exact .inl h
   ·exact .inr (.inr h)
theorem Qgf {l : List Nat} {fr fr1 fr' : List (Nat × D)} {H : List (Nat × Box)} {i k : Nat} {row : List D} {p : Bool} (kk : Nat) (z' : CR) (hf : Zf l fr = fr1) (ef : fr1 = fr') (hK : Yg us) (hi : i < us.length) (hk : k < us[i].cs.length)
  (hKi : lk H (500001 + i) = some ⟨(us[i].cs.map dCR).set k row, 8, ec, p⟩) (hp : p = true -> row.map (D.fzS H (· == kk)) = row) (hrow : (row.map (D.fzS H (· == kk))).map D.canS = dCR z') (hoth : ∀ z ∈ us[i].cs, PureC z) (hz : PureC z')
  (hF : ∀ j, ∀ hj : j < us.length, j ≠ i -> lk H (500001 + j) = some ⟨us[j].cs.map dCR, 8, ec, true⟩) (hu : lk H 500000 = some ⟨us.map dUR, 3, eu, false⟩) (hg : lk H 12 = some (gB L J eg)) (h4 : lk H 4 = some b4) (hb4 : b4.pr = true) (hkk : kk < 500000 /\ kk ≠ 12 /\ kk ≠ 4) (hsm : ∀ j, 1000000 <= j -> lk H j = none) (hlen : us.length <= 100)
  (hfr : ∀ p ∈ fr', ∀ j ∈ p.2.ids, j = 500000 \/ j = 12 \/ j = 4 \/ ∃ u ∈ us, j = u.k) : St.le ⟨fr, H⟩ ⟨fr', wA (QcQ us i k z') eu ec eg L J b4⟩ := by
 subst hf ef
 have nokk : ∀ j, (j = 500000 \/ j = 12 \/ j = 4 \/ ∃ u ∈ us, j = u.k) -> j ≠ kk := fun j hj e => by
  subst e
  rcases hj with rfl | rfl | rfl | ⟨u, hu, rfl⟩
  ·omega
  ·exact hkk.2.1 rfl
  ·exact hkk.2.2 rfl
  ·have := (QbC hK hu).1; omega
 have eqkk : ∀ j, j ≠ kk -> (j == kk) = false := fun j hj => by simp [hj]
 have some1 : ∀ b j, (j = 500000 \/ j = 12 \/ j = 4 \/ ∃ u ∈ us, j = u.k) -> (lk ((500001 + i, b) :: wA us eu ec eg L J b4) j).isSome = true := fun b j hj => Q0 (Qla hK hj)
 have rowsz : ∀ r ∈ us[i].cs.map dCR, r.map (D.fzS H (· == kk)) = r := fun r hr => by
  obtain ⟨z, hzm, rfl⟩ := List.mem_map.1 hr
  exact Yx fun d hd => QeH fun j hj => by rw [(hoth z hzm).all d hd] at hj; cases hj
 have mapz : ((us[i].cs.map dCR).set k row).map (fun r => r.map (D.fzS H (· == kk))) = (us[i].cs.map dCR).set k (row.map (D.fzS H (· == kk))) := by
  refine List.ext_getElem (by simp) fun j h1 h2 => ?_
  simp only [List.getElem_map, List.getElem_set]
  split
  ·rfl
  ·exact rowsz _ (List.mem_map_of_mem (List.getElem_mem _))
 refine le_trans (Qcl l fr H) (le_trans (QnT kk (H' := (500001 + i, ⟨(us[i].cs.map dCR).set k (row.map (D.fzS H (· == kk))), 8, ec, p⟩) :: wA us eu ec eg L J b4) (by omega) (fr' := Zf l fr) (fun t d h => ⟨d, h, Qhi fun j hj => eqkk j (nokk j (hfr (t, d) (ZO h) j hj))⟩) (fun j b h => ?_) (fun t d h j hj => some1 _ j (hfr (t, d) (ZO h) j hj)) (fun j b h j2 hj2 => ?_) fun j hj hs => ?_) ?_)
 ·rw [Qn] at h
  split at h
  ·rename_i e; cases h; subst e
   refine ⟨by omega, _, hKi, ?_⟩
   cases p with
   | true => rw [hp rfl]; rfl
   | false => show Box.mk _ _ _ _ = _; rw [mapz]
  ·rename_i e
   rcases QbQ hK h with ⟨rfl, rfl⟩ | ⟨rfl, rfl⟩ | ⟨rfl, rfl⟩ | ⟨i2, hi2, rfl, rfl⟩
   ·refine ⟨by omega, _, hu, Xw (.inr fun j hj => eqkk j (nokk j (.inr (.inr (.inr (QbP hj))))))⟩
   ·exact ⟨Ne.symm hkk.2.1, _, hg, rfl⟩
   ·exact ⟨Ne.symm hkk.2.2, _, h4, Xw (.inl hb4)⟩
   ·exact ⟨by omega, _, hF i2 hi2 (fun e2 => e (by omega)), rfl⟩
 ·rw [Qn] at h
  split at h
  ·cases h
   cases hpp : p with
   | true => rw [Qan hpp] at hj2; cases hj2
   | false =>
   simp only [Box.ids, hpp, Bool.false_eq_true, if_false, List.mem_flatMap] at hj2
   obtain ⟨r, hr, d, hd, hj3⟩ := hj2
   rcases QeO hr with rfl | hr
   ·have : (d.canS).sid = [] := hz.all _ (by rw [<- hrow]; exact List.mem_map_of_mem hd)
    rw [QcC] at this
    rw [this] at hj3; cases hj3
   ·obtain ⟨z, hzm, rfl⟩ := List.mem_map.1 hr
    rw [(hoth z hzm).all d hd] at hj3; cases hj3
  ·exact Q0 (QaI hK hb4 j b h j2 hj2)
 ·rw [hsm j hj] at hs; cases hs
 ·refine le_trans (Qft k Qz) (le_trans (Qge Qz (fun e => ?_) (fun r hr d hd => ?_)) (QbD rfl fun j => ?_))
  ·have := congrArg List.length e
   simp only [List.length_modify, List.length_set, List.length_map, List.length_nil] at this
   omega
  ·rcases Qbj hr with h | ⟨y, hy, rfl⟩
   ·rcases QeO h with rfl | h
    ·have : (d.canS).sid = [] := hz.all _ (by rw [<- hrow]; exact List.mem_map_of_mem hd)
     rwa [QcC] at this
    ·obtain ⟨z, hzm, rfl⟩ := List.mem_map.1 h
     exact (hoth z hzm).all d hd
   ·obtain ⟨d0, hd0, rfl⟩ := List.mem_map.1 hd
    rw [QcC]
    rcases QeO hy with rfl | h
    ·have : (d0.canS).sid = [] := hz.all _ (by rw [<- hrow]; exact List.mem_map_of_mem hd0)
     rwa [QcC] at this
    ·obtain ⟨z, hzm, rfl⟩ := List.mem_map.1 h
     exact (hoth z hzm).all d0 hd0
  ·have erows : ((us[i].cs.map dCR).set k (row.map (D.fzS H (· == kk)))).modify k (fun r => r.map D.canS) = ((us[i].cs.set k z').map dCR) := by
    refine List.ext_getElem (by simp) fun m h1 h2 => ?_
    simp only [List.getElem_modify, List.getElem_set, List.getElem_map]
    by_cases e : k = m
    ·subst e
     simp only [if_true]
     exact hrow
    ·simp only [if_neg e]
   have hK' := Qem (i := i) (k := k) (z := z') hK
   by_cases e : 500001 + i = j
   ·subst e
    rw [Qz, QdA hK' (by rw [Zw]; exact hi)]
    simp only [Qa6 hi, if_true, erows]; rfl
   ·rw [Qn, if_neg e, Qn, if_neg e, Qn, if_neg e]
    cases h : lk (wA us eu ec eg L J b4) j with
    | none =>
     cases h' : lk (wA (QcQ us i k z') eu ec eg L J b4) j with
     | none => rfl
     | some b =>
      have : (lk (wA us eu ec eg L J b4) j).isSome = true := by
       rcases QbQ hK' h' with ⟨rfl, _⟩ | ⟨rfl, _⟩ | ⟨rfl, _⟩ | ⟨m, hm, rfl, _⟩
       ·rfl
       ·rfl
       ·rfl
       ·rw [Zw] at hm; rw [QdA hK hm]; rfl
      rw [h] at this; cases this
    | some b =>
     rcases QbQ hK h with ⟨rfl, rfl⟩ | ⟨rfl, rfl⟩ | ⟨rfl, rfl⟩ | ⟨m, hm, rfl, rfl⟩
     ·rw [QfF, Qmd]
     ·rfl
     ·rfl
     ·rw [QdA hK' (by rw [Zw]; exact hm)]
      simp only [Qa6 hm, if_neg (show ¬ i = m by omega)]
end
theorem Qd2 : ∀ {H : List (Nat × Box)} {j : Nat}, j ∈ H.map Prod.fst -> (lk H j).isSome = true
 | [], _, h => by cases h
 | (k, b) :: H, j, h => by
  by_cases e : k = j
  ·subst e; exact Q3
  ·refine Q0 (Qd2 ?_)
   simp only [List.map_cons, List.mem_cons] at h
   exact h.resolve_left (Ne.symm e)
theorem Qp1 {us : List UR} (h : Yg us) {i : Nat} (hi : i < us.length) : (us.map dUR)[((i : Nat) : Int).toNat]? = some [.str us[i].n, .str us[i].f, .osl (500001 + i) us[i].cs.length] := by
 rw [Int.toNat_natCast, List.getElem?_map, List.getElem?_eq_getElem hi, Option.map_some, dUR, h i hi]
theorem QsW {cs : List CR} {k : Nat} (hk : k < cs.length) : (cs.map dCR)[((k : Nat) : Int).toNat]? = some (dCR cs[k]) := by
 rw [Int.toNat_natCast, List.getElem?_map, List.getElem?_eq_getElem hk]; rfl
theorem Qk5 {us : List UR} {eu ec eg : Nat} {L : List Int} {J : Int} {b4 g1 : Box} (h : Yg us) (k : Nat) : lk (((500000, (⟨us.map dUR, 3, eu, false⟩ : Box)) :: fbx ec us) ++ ([(12, gB L J eg)] ++ [(12, g1), (4, b4)])) k = lk (wA us eu ec eg L J b4) k := by
 show lk ((500000, _) :: (fbx ec us ++ [(12, gB L J eg), (12, g1), (4, b4)])) k = lk ((500000, _) :: (12, _) :: (4, _) :: fbx ec us) k
 rw [Qn, Qn]
 split
 ·rfl
 ·rw [Z0]
  cases hh : lk (fbx ec us) k with
  | some v =>
   have := Qh1 h k v hh
   simp only
   rw [Qn, if_neg (by omega), Qn, if_neg (by omega), hh]
  | none =>
   simp only [Qn, hh]
   by_cases e : 12 = k
   ·rw [if_pos e, if_pos e]
   ·rw [if_neg e, if_neg e, if_neg e]; rfl
theorem Qmh {us : List UR} {eu ec eg : Nat} {L : List Int} {J : Int} {b4 : Box} (h : Yg us) (hv : ∀ y ∈ us, y.cs.length <= 16 /\ ∀ z ∈ y.cs, Qg3 z.v) : Fam (wA us eu ec eg L J b4) 12 500000 eu ec us := by
 refine ⟨by decide, ⟨false, rfl⟩, fun y hy => ?_, hv⟩
 obtain ⟨j, hj, rfl⟩ := List.getElem_of_mem hy
 refine ⟨by rw [h j hj]; omega, true, by rw [h j hj]; exact QdA h hj⟩
/-! ### Filled candidates -/
def QqO (n : Nat) (x : WantT) : Prop := 0 <= x.u /\ x.u < n /\ SetOk x.s
theorem WantIn.w {n : Nat} {x : WantT} (h : WantIn n x) : QqO n x := ⟨by have := h.1; omega, h.2.1, h.2.2⟩
structure QaM (n : Nat) (c : CandT) : Prop where
 v : Qg3 c.v
 nl : c.ns.length <= 10
 nr : ∀ r ∈ c.ns, r.length <= 2 /\ ∀ x ∈ r, QqO n x
 bl : c.bs.length <= 1
 bw : ∀ x ∈ c.bs, QqO n x
def QiS (c : CandT) : CR := ⟨c.v, .int .i64 c.sh, QZ c.ns, Zc c.bs⟩
def DoneC (n : Nat) (z : CR) : Prop := ∃ c, z = QiS c /\ QaM n c
def FreshC (z : CR) : Prop := ∃ v sh, z = zr v sh /\ Qg3 v
theorem DoneC.pure {n : Nat} {z : CR} (h : DoneC n z) : PureC z := by obtain ⟨c, rfl, _⟩ := h; exact ⟨rfl, rfl, rfl⟩
theorem FreshC.pure {z : CR} (h : FreshC z) : PureC z := by obtain ⟨v, sh, rfl, _⟩ := h; exact ⟨rfl, rfl, rfl⟩
theorem DoneC.vr {n : Nat} {z : CR} (h : DoneC n z) : Qg3 z.v := by obtain ⟨c, rfl, q⟩ := h; exact q.v
theorem FreshC.vr {z : CR} (h : FreshC z) : Qg3 z.v := by obtain ⟨v, sh, rfl, q⟩ := h; exact q
structure Prog (n : Nat) (us : List UR) (i k : Nat) : Prop where
 keys : Yg us
 len : us.length = n /\ 2 <= n /\ n <= 11
 cl : ∀ u ∈ us, u.cs.length <= 4
 done : ∀ j, ∀ hj : j < us.length, ∀ m, ∀ hm : m < us[j].cs.length, (j < i \/ (j = i /\ m < k)) -> DoneC n us[j].cs[m]
 fresh : ∀ j, ∀ hj : j < us.length, ∀ m, ∀ hm : m < us[j].cs.length, ¬ (j < i \/ (j = i /\ m < k)) -> FreshC us[j].cs[m]
theorem Prog.pure {n : Nat} {us : List UR} {i k : Nat} (h : Prog n us i k) {j : Nat} (hj : j < us.length) : ∀ z ∈ us[j].cs, PureC z /\ Qg3 z.v := fun z hz => by
 obtain ⟨m, hm, rfl⟩ := List.getElem_of_mem hz
 by_cases hd : j < i \/ (j = i /\ m < k)
 ·exact ⟨(h.done j hj m hm hd).pure, (h.done j hj m hm hd).vr⟩
 ·exact ⟨(h.fresh j hj m hm hd).pure, (h.fresh j hj m hm hd).vr⟩
theorem Prog.fam {n : Nat} {us : List UR} {i k : Nat} (h : Prog n us i k) : ∀ y ∈ us, y.cs.length <= 16 /\ ∀ z ∈ y.cs, Qg3 z.v := fun y hy => by
 obtain ⟨j, hj, rfl⟩ := List.getElem_of_mem hy
 exact ⟨Nat.le_trans (h.cl _ hy) (by omega), fun z hz => (h.pure hj z hz).2⟩
theorem Prog.put {n : Nat} {us : List UR} {i k : Nat} (h : Prog n us i k) (hi : i < us.length) (hk : k < us[i].cs.length) {z : CR} (hz : DoneC n z) : Prog n (QcQ us i k z) i (k + 1) := by
 have at' := fun (j : Nat) (hj : j < us.length) => Qa6 (i := i) (k := k) (z := z) hj
 refine ⟨Qem h.keys, by rw [Zw]; exact h.len, fun u hu => ?_, fun j hj m hm hd => ?_, fun j hj m hm hd => ?_⟩
 ·obtain ⟨j, hj, rfl⟩ := List.getElem_of_mem hu
  rw [Zw] at hj
  rw [at' j hj]
  split
  ·simp only [QeY, List.length_set]; exact h.cl _ (List.getElem_mem _)
  ·exact h.cl _ (List.getElem_mem _)
 ·rw [Zw] at hj
  have e := at' j hj
  by_cases hij : i = j
  ·subst hij
   rw [if_pos rfl] at e
   have hm' : m < (QeY us[i] k z).cs.length := by rw [<- e]; exact hm
   have e2 : (QcQ us i k z)[i].cs[m] = (QeY us[i] k z).cs[m]'hm' := by congr 1; rw [e]
   rw [e2]
   simp only [QeY, List.getElem_set]
   split
   ·exact hz
   ·simp only [QeY, List.length_set] at hm'
    exact h.done i hi m hm' (by omega)
  ·rw [if_neg hij] at e
   have hm' : m < us[j].cs.length := by rw [<- e]; exact hm
   have e2 : (QcQ us i k z)[j].cs[m] = us[j].cs[m]'hm' := by congr 1; rw [e]
   rw [e2]; exact h.done j hj m hm' (by omega)
 ·rw [Zw] at hj
  have e := at' j hj
  by_cases hij : i = j
  ·subst hij
   rw [if_pos rfl] at e
   have hm' : m < (QeY us[i] k z).cs.length := by rw [<- e]; exact hm
   have e2 : (QcQ us i k z)[i].cs[m] = (QeY us[i] k z).cs[m]'hm' := by congr 1; rw [e]
   rw [e2]
   simp only [QeY, List.length_set] at hm'
   simp only [QeY, List.getElem_set]
   rw [if_neg (by omega)]
   exact h.fresh i hi m hm' (by omega)
  ·rw [if_neg hij] at e
   have hm' : m < us[j].cs.length := by rw [<- e]; exact hm
   have e2 : (QcQ us i k z)[j].cs[m] = us[j].cs[m]'hm' := by congr 1; rw [e]
   rw [e2]; exact h.fresh j hj m hm' (by omega)
theorem Prog.next {n : Nat} {us : List UR} {i k : Nat} (h : Prog n us i k) (hi : i < us.length) (hk : us[i].cs.length <= k) : Prog n us (i + 1) 0 := by
 refine ⟨h.keys, h.len, h.cl, fun j hj m hm hd => h.done j hj m hm ?_, fun j hj m hm hd => h.fresh j hj m hm (by omega)⟩
 by_cases e : j = i
 ·subst e; exact .inr ⟨rfl, by omega⟩
 ·exact .inl (by omega)
theorem Prog.again {n : Nat} {us : List UR} {i k : Nat} (h : Prog n us i (k + 1)) (hi : i < us.length) (hk : k < us[i].cs.length) {z : CR} (hz : DoneC n z) : Prog n (QcQ us i k z) i (k + 1) := by
 have at' := fun (j : Nat) (hj : j < us.length) => Qa6 (i := i) (k := k) (z := z) hj
 refine ⟨Qem h.keys, by rw [Zw]; exact h.len, fun u hu => ?_, fun j hj m hm hd => ?_, fun j hj m hm hd => ?_⟩
 ·obtain ⟨j, hj, rfl⟩ := List.getElem_of_mem hu
  rw [Zw] at hj
  rw [at' j hj]
  split
  ·simp only [QeY, List.length_set]; exact h.cl _ (List.getElem_mem _)
  ·exact h.cl _ (List.getElem_mem _)
 ·rw [Zw] at hj
  have e := at' j hj
  by_cases hij : i = j
  ·subst hij
   rw [if_pos rfl] at e
   have hm' : m < (QeY us[i] k z).cs.length := by rw [<- e]; exact hm
   have e2 : (QcQ us i k z)[i].cs[m] = (QeY us[i] k z).cs[m]'hm' := by congr 1; rw [e]
   rw [e2]
   simp only [QeY, List.getElem_set]
   split
   ·exact hz
   ·simp only [QeY, List.length_set] at hm'
    exact h.done i hi m hm' (by omega)
  ·rw [if_neg hij] at e
   have hm' : m < us[j].cs.length := by rw [<- e]; exact hm
   have e2 : (QcQ us i k z)[j].cs[m] = us[j].cs[m]'hm' := by congr 1; rw [e]
   rw [e2]; exact h.done j hj m hm' (by omega)
 ·rw [Zw] at hj
  have e := at' j hj
  by_cases hij : i = j
  ·subst hij
   rw [if_pos rfl] at e
   have hm' : m < (QeY us[i] k z).cs.length := by rw [<- e]; exact hm
   have e2 : (QcQ us i k z)[i].cs[m] = (QeY us[i] k z).cs[m]'hm' := by congr 1; rw [e]
   rw [e2]
   simp only [QeY, List.length_set] at hm'
   simp only [QeY, List.getElem_set]
   rw [if_neg (by omega)]
   exact h.fresh i hi m hm' (by omega)
  ·rw [if_neg hij] at e
   have hm' : m < us[j].cs.length := by rw [<- e]; exact hm
   have e2 : (QcQ us i k z)[j].cs[m] = us[j].cs[m]'hm' := by congr 1; rw [e]
   rw [e2]; exact h.fresh j hj m hm' (by omega)
theorem QnS {l : List Nat} {fr fr1 fr' : List (Nat × D)} {us : List UR} {eu ec eg e1 e3 : Nat} {L : List Int} {J : Int} {b4 bK : Box} {i : Nat} {x : WantT} (hf : Zf l fr = fr1) (ef : fr1 = fr') (hK : Yg us) (hi : i < us.length) (hb4 : b4.pr = true) (hbK : ∀ j ∈ bK.ids, j = 64)
  (hfr : ∀ p ∈ fr', ∀ j ∈ p.2.ids, j = 500000 \/ j = 12 \/ j = 4 \/ ∃ u ∈ us, j = u.k) :
  St.le ⟨fr, (500001 + i, bK) :: (64, ⟨[[.osl 63 1]], 1, e1, false⟩) :: (63, ⟨[Qff x], 3, e3, true⟩) :: wA us eu ec eg L J b4⟩ ⟨fr', (500001 + i, bK) :: (64, ⟨[[Zc [x]]], 1, e1, true⟩) :: wA us eu ec eg L J b4⟩ := by
 subst hf ef
 have no63 : ∀ j, (j = 500000 \/ j = 12 \/ j = 4 \/ ∃ u ∈ us, j = u.k) -> j ≠ 63 := fun j hj e => by
  subst e
  rcases hj with h | h | h | ⟨u, hu, h⟩
  ·cases h
  ·cases h
  ·cases h
  ·have := (QbC hK hu).1; omega
 have eq63 : ∀ j, j ≠ 63 -> (j == 63) = false := fun j hj => by simp [hj]
 have up : ∀ b b' j, (lk (wA us eu ec eg L J b4) j).isSome = true -> (lk ((500001 + i, b) :: (64, b') :: wA us eu ec eg L J b4) j).isSome = true := fun b b' j hj => Q0 (Q0 hj)
 refine le_trans (Qcl l fr _) (le_trans (QnT 63 (H' := (500001 + i, bK) :: (64, ⟨[[Zc [x]]], 1, e1, false⟩) :: wA us eu ec eg L J b4) (by decide) (fr' := Zf l fr) (fun t d h => ⟨d, h, Qhi fun j hj => eq63 j (no63 j (hfr (t, d) (ZO h) j hj))⟩) (fun j b h => ?_) (fun t d h j hj => up _ _ j (Qla hK (hfr (t, d) (ZO h) j hj))) (fun j b h j2 hj2 => ?_) fun j hj hs => ?_) ?_)
 ·rw [Qn] at h
  split at h
  ·rename_i e; cases h; subst e
   refine ⟨by omega, _, Qz, Xw (.inr fun j hj => ?_)⟩
   rw [hbK j hj]; rfl
  ·rename_i e
   rw [Qn] at h
   split at h
   ·rename_i e2; cases h; subst e2
    refine ⟨by decide, _, Qo e Qz, ?_⟩
    have h63 : lk ((500001 + i, bK) :: (64, (⟨[[.osl 63 1]], 1, e1, false⟩ : Box)) :: (63, ⟨[Qff x], 3, e3, true⟩) :: wA us eu ec eg L J b4) 63 = some ⟨[Qff x], 3, e3, true⟩ := Qo (by omega) (Qo (by decide) Qz)
    simp only [Box.fz, Bool.false_eq_true, if_false, List.map_cons, List.map_nil, D.fzS, beq_self_eq_true, if_true, h63, List.length_singleton, and_self, Zc]
   ·rename_i e2
    have h2 : lk ((500001 + i, bK) :: (64, (⟨[[.osl 63 1]], 1, e1, false⟩ : Box)) :: (63, ⟨[Qff x], 3, e3, true⟩) :: wA us eu ec eg L J b4) j = some b := by
     have hj : j ≠ 63 := by
      rcases QbQ hK h with ⟨rfl, _⟩ | ⟨rfl, _⟩ | ⟨rfl, _⟩ | ⟨m, _, rfl, _⟩ <;> omega
     exact Qo e (Qo e2 (Qo (Ne.symm hj) h))
    rcases QbQ hK h with ⟨rfl, rfl⟩ | ⟨rfl, rfl⟩ | ⟨rfl, rfl⟩ | ⟨m, hm, rfl, rfl⟩
    ·exact ⟨by decide, _, h2, Xw (.inr fun j hj => eq63 j (no63 j (.inr (.inr (.inr (QbP hj))))))⟩
    ·exact ⟨by decide, _, h2, rfl⟩
    ·exact ⟨by decide, _, h2, Xw (.inl hb4)⟩
    ·exact ⟨by omega, _, h2, rfl⟩
 ·rw [Qn] at h
  split at h
  ·cases h
   rw [hbK j2 hj2]; exact Q0 Q3
  ·rw [Qn] at h
   split at h
   ·cases h; simp [Box.ids, D.sid, Zc] at hj2
   ·exact up _ _ j2 (QaI hK hb4 j b h j2 hj2)
 ·by_cases e : 500001 + i = j
  ·subst e; exact Q3
  ·rw [Qn, if_neg e, Qn, if_neg (by omega), Qn, if_neg (by omega)] at hs
   exact up _ _ j hs
 ·have h64 : lk ((500001 + i, bK) :: (64, (⟨[[Zc [x]]], 1, e1, false⟩ : Box)) :: wA us eu ec eg L J b4) 64 = some ⟨[[Zc [x]]], 1, e1, false⟩ := Qo (by omega) Qz
  refine le_trans (Qge h64 (by simp) (by intro r hr d hd; simp only [List.mem_singleton] at hr; subst hr; simp only [List.mem_singleton] at hd; subst hd; rfl)) (QbD rfl fun j => ?_)
  by_cases e : 64 = j
  ·subst e; rw [Qz, Qn, if_neg (by omega), Qz]
  ·by_cases eK : 500001 + i = j
   ·subst eK; rw [Qn, if_neg e, Qz, Qz]
   ·rw [Qn, if_neg e, Qn, if_neg eK, Qn, if_neg e, Qn, if_neg eK, Qn, if_neg e]
theorem Qnq {n : Nat} : ∀ {cs : List CR}, (∀ z ∈ cs, DoneC n z) -> ∃ l : List CandT, cs = l.map QiS /\ ∀ c ∈ l, QaM n c
 | [], _ => ⟨[], rfl, by simp⟩
 | z :: cs, h => by
  obtain ⟨l, h1, h2⟩ := Qnq (cs := cs) fun y hy => h y (by simp [hy])
  obtain ⟨c, rfl, hc⟩ := h z (by simp)
  exact ⟨c :: l, by rw [h1]; rfl, fun y hy => by
   rcases List.mem_cons.1 hy with rfl | hy
   ·exact hc
   ·exact h2 y hy⟩
def Qr3 (n : Nat) (u : UR) (x : QoW) : Prop := x.n = u.n /\ x.f = u.f /\ u.cs = x.cs.map QiS /\ ∀ c ∈ x.cs, QaM n c
theorem Qnr {n : Nat} : ∀ {us : List UR}, (∀ u ∈ us, ∀ z ∈ u.cs, DoneC n z) -> ∃ w : Qq, w.length = us.length /\ ∀ j, ∀ h : j < us.length, ∀ h' : j < w.length, Qr3 n us[j] w[j]
 | [], _ => ⟨[], rfl, fun j h => by simp at h⟩
 | u :: us, h => by
  obtain ⟨w, h1, h2⟩ := Qnr (us := us) fun y hy => h y (by simp [hy])
  obtain ⟨l, q1, q2⟩ := Qnq (h u (by simp))
  refine ⟨⟨u.n, u.f, l⟩ :: w, by simp [h1], fun j hj hj' => ?_⟩
  cases j with
  | zero => exact ⟨rfl, rfl, q1, q2⟩
  | succ j => simp only [List.getElem_cons_succ]; exact h2 j (by simpa using hj) (by simpa using hj')
structure QoX (w : Qq) : Prop where
 sm : WSm w
 len : 2 <= w.length /\ w.length <= 11
 cs : ∀ u ∈ w, u.cs.length <= 4
 cand : ∀ u ∈ w, ∀ c ∈ u.cs, QaM w.length c
theorem Qrl {w : Qq} (h2 : 2 <= w.length) (h11 : w.length <= 11) (hc : ∀ u ∈ w, u.cs.length <= 4) (hd : ∀ u ∈ w, ∀ c ∈ u.cs, QaM w.length c) : QoX w := by
 refine ⟨⟨by omega, fun u hu => Nat.le_trans (hc u hu) (by omega), fun u hu c hcm => (hd u hu c hcm).v, fun u hu c hcm => ⟨Nat.le_trans (hd u hu c hcm).nl (by omega), Nat.le_trans (hd u hu c hcm).bl (by omega)⟩, fun u hu c hcm r hr => Nat.le_trans ((hd u hu c hcm).nr r hr).1 (by omega), fun u hu c hcm r hr x hx => (((hd u hu c hcm).nr r hr).2 x hx).2.2.sm, fun u hu c hcm x hx => ((hd u hu c hcm).bw x hx).2.2.sm⟩, ⟨h2, h11⟩, hc, hd⟩
theorem Qpt {n : Nat} {us : List UR} {eu ec eg : Nat} {L : List Int} {J : Int} {b4 : Box} {k : Nat} (h : Prog n us us.length k) (hb4 : b4.pr = true) :
  ∃ w : Qq, w.length = us.length /\ QoX w /\ ∀ {l : List Nat} {fr fr1 fr' : List (Nat × D)}, Zf l fr = fr1 -> fr1 = fr' -> (∀ p ∈ fr', ∀ j ∈ p.2.ids, j = 500000 \/ j = 4) -> St.le ⟨fr, wA us eu ec eg L J b4⟩ ⟨fr', [(500000, ⟨w.map YX, 3, eu, true⟩), (4, b4)]⟩ := by
 obtain ⟨w, hw1, hw2⟩ := Qnr (n := n) (us := us) fun u hu z hz => by
  obtain ⟨j, hj, rfl⟩ := List.getElem_of_mem hu
  obtain ⟨m, hm, rfl⟩ := List.getElem_of_mem hz
  exact h.done j hj m hm (.inl hj)
 have hcs : ∀ u ∈ w, u.cs.length <= 4 /\ ∀ c ∈ u.cs, QaM n c := fun u hu => by
  obtain ⟨j, hj, rfl⟩ := List.getElem_of_mem hu
  obtain ⟨_, _, q3, q4⟩ := hw2 j (by omega) hj
  have := h.cl us[j] (List.getElem_mem _)
  rw [q3, List.length_map] at this
  exact ⟨this, q4⟩
 have hlen := h.len
 refine ⟨w, hw1, Qrl (by omega) (by omega) (fun u hu => (hcs u hu).1) (fun u hu c hc => by have := (hcs u hu).2 c hc; rwa [show w.length = n by omega]), ?_⟩
 intro l fr fr1 fr' hf ef hfr
 subst hf ef
 have hK := h.keys
 let S : Nat -> Bool := fun k => decide (500001 <= k) && decide (k < 1000000)
 have hS1 : ∀ k, k < 500001 -> S k = false := fun k hk => by
  show (decide (500001 <= k) && decide (k < 1000000)) = false
  rw [decide_eq_false (by omega)]; rfl
 have hS2 : ∀ k, 500001 <= k -> k < 1000000 -> S k = true := fun k h1 h2 => by
  show (decide (500001 <= k) && decide (k < 1000000)) = true
  rw [decide_eq_true h1, decide_eq_true h2]; rfl
 have hrow : ∀ j, ∀ h1 : j < us.length, ∀ h2 : j < w.length, (dUR us[j]).map (D.fzS (wA us eu ec eg L J b4) S) = YX w[j] := fun j h1 h2 => by
  obtain ⟨q1, q2, q3, q4⟩ := hw2 j h1 h2
  have hk := hK j h1
  have hc := QdA (eu := eu) (ec := ec) (eg := eg) (L := L) (J := J) (b4 := b4) hK h1
  generalize us[j] = u at q1 q2 q3 hk hc
  generalize w[j] = x at q1 q2 q3 q4
  obtain ⟨un, uf, uk, ucs⟩ := u
  simp only at q1 q2 q3 hk hc
  subst hk q3
  simp only [dUR, YX, List.map_cons, List.map_nil, D.fzS]
  rw [hS2 _ (by omega) (by omega), hc]
  simp only [if_true, true_and, List.length_map, q1, q2, Qlp, List.map_map]
  rfl
 have hrows : (us.map dUR).map (fun r => r.map (D.fzS (wA us eu ec eg L J b4) S)) = w.map YX := by
  refine List.ext_getElem (by simp [hw1]) fun j h1 h2 => ?_
  simp only [List.getElem_map]
  exact hrow j (by simpa using h1) (by simpa using h2)
 refine le_trans (Qcl l fr _) (le_trans (Qre S (fun k hk => by
  simp only [S, Bool.and_eq_true, decide_eq_true_eq] at hk; exact hk.2) (fr' := Zf l fr) (H' := [(500000, ⟨w.map YX, 3, eu, false⟩), (4, b4)]) (fun t d hd => ⟨d, hd, Qhi fun j hj => ?_⟩) (fun j b hj => ?_) (fun t d hd j hj => ?_) (fun j b hb i hi => ?_) fun j hj hs => ?_) (le_trans (Qge (k := 500000) (b := ⟨w.map YX, 3, eu, false⟩) rfl (fun e => ?_) (fun r hr d hd => ?_)) (QbD rfl fun j => ?_)))
 ·rcases hfr (t, d) (ZO hd) j hj with rfl | rfl
  ·exact hS1 _ (by decide)
  ·exact hS1 _ (by decide)
 ·rw [Qn] at hj
  split at hj
  ·rename_i e; cases hj; subst e
   refine ⟨hS1 _ (by decide), _, QfF, ?_⟩
   simp only [Box.fz, Bool.false_eq_true, if_false, hrows]
  ·rw [Qn] at hj
   split at hj
   ·rename_i e; cases hj; subst e
    exact ⟨hS1 _ (by decide), _, QgR, Xw (.inl hb4)⟩
   ·cases hj
 ·rcases hfr (t, d) (ZO hd) j hj with rfl | rfl
  ·rfl
  ·rfl
 ·rw [Qn] at hb
  split at hb
  ·cases hb
   simp only [Box.ids, Bool.false_eq_true, if_false, List.mem_flatMap, List.mem_map] at hi
   obtain ⟨r, ⟨u, _, rfl⟩, d, hd, hi⟩ := hi
   simp only [YX, List.mem_cons, List.not_mem_nil, or_false] at hd
   rcases hd with rfl | rfl | rfl <;> simp [D.sid, Qlp] at hi
  ·rw [Qn] at hb
   split at hb
   ·cases hb; rw [Qan hb4] at hi; cases hi
   ·cases hb
 ·obtain ⟨b, hb⟩ := Option.isSome_iff_exists.1 hs
  rcases QbQ hK hb with ⟨rfl, _⟩ | ⟨rfl, _⟩ | ⟨rfl, _⟩ | ⟨m, hm, rfl, _⟩ <;> omega
 ·have := congrArg List.length e
  simp only [List.length_map, List.length_nil] at this
  omega
 ·obtain ⟨u, _, rfl⟩ := List.mem_map.1 hr
  simp only [YX, List.mem_cons, List.not_mem_nil, or_false] at hd
  rcases hd with rfl | rfl | rfl <;> rfl
 ·by_cases e : 500000 = j
  ·subst e; rfl
  ·rw [Qn, if_neg e, Qn, if_neg e]; rw [Qn (k := 500000), if_neg e]
def Qkv (us : List UR) (i : Nat) : Nat := match us[i]? with
 | some u => u.cs.length
 | none => 0
theorem Qa2 {us : List UR} {i : Nat} (h : i < us.length) : Qkv us i = us[i].cs.length := by rw [Qkv, List.getElem?_eq_getElem h]
theorem QaS (us : List UR) (i k : Nat) (z : CR) : Qkv (QcQ us i k z) i = Qkv us i := by
 by_cases h : i < us.length
 ·rw [Qa2 h, Qa2 (by rw [Zw]; exact h), Qa6 h, if_pos rfl]
  simp [QeY]
 ·have e : (QcQ us i k z).length = us.length := Zw ..
  rw [Qkv, Qkv, List.getElem?_eq_none (show us.length <= i by omega), List.getElem?_eq_none (show (QcQ us i k z).length <= i by omega)]
theorem QjZ {us : List UR} {i k : Nat} {z : CR} (hi : i < us.length) (hk : k < us[i].cs.length) {us2 : List UR} (e : us2 = QcQ us i k z) (hi2 : i < us2.length) (hk2 : k < us2[i].cs.length) : us2[i].cs[k] = z := by
 subst e
 have e1 := Qa6 (i := i) (k := k) (z := z) hi
 rw [if_pos rfl] at e1
 have e2 : (QcQ us i k z)[i].cs[k] = (QeY us[i] k z).cs[k]'(by simpa [QeY] using hk) := by congr 1; rw [e1]
 rw [e2]; simp [QeY]
theorem Qq2 {cs : List CR} {k : Nat} {z : CR} (hk : k < cs.length) (hz : cs[k] = z) : (cs.map dCR)[((k : Nat) : Int).toNat]? = some (dCR z) := by rw [QsW hk, hz]
theorem Qqz {cs : List CR} {k : Nat} {row : List D} (hk : k < cs.length) : ((cs.map dCR).set ((k : Nat) : Int).toNat row)[((k : Nat) : Int).toNat]? = some row := by
 rw [Int.toNat_natCast, List.getElem?_set_self (by simpa using hk)]
theorem Qjx {K k e t : Nat} {L : List (List D)} {r1 r2 : List D} {p : Bool} {H : List (Nat × Box)} : lk ((K, (⟨(L.set k r1).set k r2, e, t, p⟩ : Box)) :: H) K = some ⟨L.set k r2, e, t, p⟩ := by rw [Qz, List.set_set]
theorem Qfs {H : List (Nat × Box)} {kk m e t : Nat} {ys : List (List D)} {v : Vr} {sh : Int} (h : lk H kk = some ⟨ys, e, t, true⟩) (hm : m = ys.length) : ([D.int .i64 v.a, .int .i64 v.b, .int .i64 v.c, .str v.p, .str v.q, .int .i64 sh, .osl kk m, .fsl []].map (D.fzS H (· == kk))).map D.canS = [.int .i64 v.a, .int .i64 v.b, .int .i64 v.c, .str v.p, .str v.q, .int .i64 sh, .sl ys, .sl []] := by
 simp only [List.map_cons, List.map_nil, D.fzS, beq_self_eq_true, if_true, h, hm, and_self, D.canS]
theorem QnD {H : List (Nat × Box)} {kk m e t : Nat} {ys : List (List D)} {v : Vr} {sh : Int} {ns : List (List WantT)} (h : lk H kk = some ⟨ys, e, t, true⟩) (hm : m = ys.length) : ([D.int .i64 v.a, .int .i64 v.b, .int .i64 v.c, .str v.p, .str v.q, .int .i64 sh, QZ ns, .osl kk m].map (D.fzS H (· == kk))).map D.canS = [.int .i64 v.a, .int .i64 v.b, .int .i64 v.c, .str v.p, .str v.q, .int .i64 sh, QZ ns, .sl ys] := by
 simp only [QZ, List.map_cons, List.map_nil, D.fzS, beq_self_eq_true, if_true, h, hm, and_self, D.canS]
theorem QsE {us : List UR} {eu ec eg : Nat} {L : List Int} {J J2 : Int} {b4 : Box} (k : Nat) : lk ((12, gB L J2 eg) :: wA us eu ec eg L J b4) k = lk (wA us eu ec eg L J2 b4) k := by
 show lk ((12, _) :: (500000, _) :: (12, _) :: (4, _) :: fbx ec us) k = lk ((500000, _) :: (12, _) :: (4, _) :: fbx ec us) k
 by_cases e : 12 = k
 ·subst e; rfl
 ·rw [Qn, if_neg e, Qn, Qn (k := 500000)]
  split
  ·rfl
  ·rw [Qn, if_neg e, Qn (k := 12), if_neg e]
theorem QkT {cs : List CR} {k e t : Nat} {row : List D} (h : ∀ z ∈ cs, PureC z) (hr : ∀ d ∈ row, ∀ j ∈ d.sid, j = 64) : ∀ j ∈ Box.ids ⟨(cs.map dCR).set k row, e, t, false⟩, j = 64 := fun j hj => by
 simp only [Box.ids, Bool.false_eq_true, if_false, List.mem_flatMap] at hj
 obtain ⟨r, hrm, d, hd, hj⟩ := hj
 rcases QeO hrm with rfl | hrm
 ·exact hr d hd j hj
 ·obtain ⟨z, hz, rfl⟩ := List.mem_map.1 hrm
  rw [(h z hz).all d hd] at hj; cases hj
theorem QtP {us : List UR} {eu ec eg : Nat} {L : List Int} {J : Int} {b4 b64 : Box} {n i k : Nat} (h : Prog n us i k) (hi : i < us.length) (hk : k < us[i].cs.length) {zx : CR} (hv : Qg3 zx.v) (hrow : zx.x.sid = [] /\ zx.y.sid = [64] /\ zx.z.sid = []) (hb4 : b4.pr = true) (h64 : b64.pr = true) :
  Fam ((500001 + i, ⟨(us[i].cs.map dCR).set k (dCR zx), 8, ec, false⟩) :: (64, b64) :: wA us eu ec eg L J b4) 12 500000 eu ec (QcQ us i k zx) /\ Closed ((500001 + i, ⟨(us[i].cs.map dCR).set k (dCR zx), 8, ec, false⟩) :: (64, b64) :: wA us eu ec eg L J b4) := by
 refine ⟨⟨by decide, ⟨false, ?_⟩, fun y hy => ?_, fun y hy => ?_⟩, ?_⟩
 ·rw [Qn, if_neg (by omega), Qn, if_neg (by decide), QfF, Qmd]
 ·obtain ⟨j, hj, rfl⟩ := List.getElem_of_mem hy
  have hK' := Qem (i := i) (k := k) (z := zx) h.keys
  have hj' := hj
  rw [Zw] at hj'
  refine ⟨by rw [hK' j hj]; omega, ?_⟩
  rw [hK' j hj]
  by_cases e : i = j
  ·subst e
   refine ⟨false, ?_⟩
   rw [Qz, Qa6 hj', if_pos rfl, QeY, List.map_set]
  ·refine ⟨true, ?_⟩
   rw [Qn, if_neg (by omega), Qn, if_neg (by omega), QdA h.keys hj', Qa6 hj', if_neg e]
 ·obtain ⟨j, hj, rfl⟩ := List.getElem_of_mem hy
  have hj' := hj
  rw [Zw] at hj'
  rw [Qa6 hj']
  have hfam := h.fam us[j] (List.getElem_mem _)
  split
  ·refine ⟨by simpa [QeY] using hfam.1, fun z hz => ?_⟩
   rcases QeO hz with rfl | hz
   ·exact hv
   ·exact hfam.2 z hz
  ·exact hfam
 ·refine ((QaI h.keys hb4).pr h64).cons fun j hj => ?_
  have := QkT (e := 8) (t := ec) (k := k) (row := dCR zx) (fun z hz => (h.pure hi z hz).1) (fun d hd j hj => by
   simp only [dCR, List.mem_cons, List.not_mem_nil, or_false] at hd
   rcases hd with rfl | rfl | rfl | rfl | rfl | rfl | rfl | rfl
   ·cases hj
   ·cases hj
   ·cases hj
   ·cases hj
   ·cases hj
   ·rw [hrow.1] at hj; cases hj
   ·rw [hrow.2.1] at hj; simpa using hj
   ·rw [hrow.2.2] at hj; cases hj) j hj
  subst this; exact Q3
theorem Prog.start {us : List UR} (h : UnitsIn us) (h2 : 2 <= us.length) (h11 : us.length <= 11) : Prog us.length us 0 0 := by
 refine ⟨h.keys, ⟨rfl, h2, h11⟩, fun u hu => (h.fresh u hu).1, fun j hj m hm hd => by omega, fun j hj m hm _ => ?_⟩
 obtain ⟨v, sh, e, hv⟩ := (h.fresh _ (List.getElem_mem hj)).2 _ (List.getElem_mem hm)
 exact ⟨v, sh, e, hv⟩
theorem QeB {n : Nat} {m : Int} {v : Vr} {sh : Int} {ns : List (List WantT)} (hv : Qg3 v) (h : QfK n m ns) (hm : m <= 3) : QaM n ⟨v, sh, ns, []⟩ :=
 ⟨hv, by show ns.length <= 10; have := h.1; omega, fun r hr => ⟨(h.2 r hr).1, fun x hx => ((h.2 r hr).2 x hx).w⟩, Nat.zero_le _, fun x hx => by cases hx⟩
theorem Qjd {n i : Nat} {m : Int} {v : Vr} {sh : Int} {ns : List (List WantT)} (hv : Qg3 v) (h : QfK n m ns) (hm : m <= 3) (h1 : 1 <= i) (hi : i < n) : QaM n ⟨v, sh, [⟨(i : Int) - 1, Xr v.a v.b v.c v.p v.q⟩] :: ns, []⟩ := by
 refine ⟨hv, by show (_ :: ns).length <= 10; have := h.1; simp only [List.length_cons]; omega, fun r hr => ?_, Nat.zero_le _, fun x hx => by cases hx⟩
 rcases List.mem_cons.1 hr with rfl | hr
 ·refine ⟨by simp, fun x hx => ?_⟩
  simp only [List.mem_singleton] at hx; subst hx
  have := QcG (a := v.a) (b := v.b) (c := v.c) (q := v.q) hv.1
  exact ⟨by show 0 <= (i : Int) - 1; omega, by show (i : Int) - 1 < n; omega, this.1.up (by omega), this.2.up (by omega)⟩
 ·exact ⟨(h.2 r hr).1, fun x hx => ((h.2 r hr).2 x hx).w⟩
theorem Qjc {n : Nat} {v : Vr} {sh : Int} {ns : List (List WantT)} (h : QaM n ⟨v, sh, ns, []⟩) {x : WantT} (hx : WantIn n x) : QaM n ⟨v, sh, ns, [x]⟩ := ⟨h.v, h.nl, h.nr, by simp, by intro y hy; simp only [List.mem_singleton] at hy; subst hy; exact hx.w⟩
theorem Qj0 {us : List UR} {i k : Nat} {z : CR} (hi : i < us.length) (hk : k < us[i].cs.length) {us2 : List UR} (e : QcQ us i k z = us2) (hi2 : i < us2.length) : k < us2[i].cs.length := by
 rw [<- Qa2 hi2, <- e, QaS, Qa2 hi]; exact hk
theorem Qqw {l : List (List WantT)} : ∀ r ∈ l.map (fun r => [Zc r]), r.length = 1 := fun r hr => by obtain ⟨x, _, rfl⟩ := List.mem_map.1 hr; rfl
end M25
namespace Go.Proofs
open Go Go.Abs M3 M25
set_option linter.unusedVariables false
set_option linter.unusedSimpArgs false
theorem Qrq {kg : Nat} {L : List Int} {I most : Int} {eg eu ec : Nat} (heu : eu = 74) (hec : ec = 71) (hL : ∀ x ∈ L, I64 x) (hm0 : 1 <= most) (hm1 : most <= 5) :
  ∃ us I2, (UnitsIn us /\ 2 <= us.length /\ us.length <= 11) /\ ∀ (st : St) (args : List Opd), Zx st args = some [.ref kg 0 0, .int .i64 most] -> lk st.H kg = some (gB L I eg) -> (∀ j, 500000 <= j -> lk st.H j = none) -> Qbt Tryz.prog 39 args st [(kg, gB L I eg)] ((500000, ⟨us.map dUR, 3, eu, false⟩) :: fbx ec us) [(kg, gB L I2 eg)] (.osl 500000 us.length) := by
 obtain ⟨d, H2, ⟨us, I2, hus, rfl, rfl⟩, hok⟩ := QcV (kg := upN kg) (I := I) (eg := eg) heu hec (by unfold upN; omega) hL hm0 hm1
 refine ⟨us, I2, hus, fun st args ha hg hs => ⟨_, ha, fun k b h => ?_, fun k b h j hj => ?_, fun x hx j hj => ?_, fun k b h => ?_, fun k b h => ?_, fun k hk => ?_, hok⟩⟩
 ·obtain ⟨rfl, rfl⟩ := XK h; exact hg
 ·obtain ⟨rfl, rfl⟩ := XK h; simp [Box.ids, gB] at hj
 ·simp only [List.mem_cons, List.not_mem_nil, or_false] at hx
  rcases hx with rfl | rfl
  ·simp [D.ids, D.sid] at hj; subst hj; exact Q3
  ·simp [D.ids, D.sid] at hj
 ·obtain ⟨rfl, rfl⟩ := XK h
  exact ⟨Q3, fun j hj => by simp [Box.ids, gB] at hj⟩
 ·have hK := hus.1.keys
  rw [Qn] at h
  split at h
  ·rename_i e; cases h; subst e
   refine ⟨by decide, hs _ (Nat.le_refl _), fun j hj => ?_⟩
   obtain ⟨u, hu, rfl⟩ := QbP hj
   exact Q0 (QdT hK hu)
  ·obtain ⟨u, hu, rfl, rfl⟩ := Qhr h
   have := QbC hK hu
   exact ⟨by omega, hs _ (by omega), fun j hj => by simp [Box.ids] at hj⟩
 ·simp [D.ids, D.sid] at hk; subst hk; exact Q3
theorem QkM {H : List (Nat × Box)} {kg ku : Nat} {L : List Int} {I most : Int} {eg eu ec : Nat} {us : List UR} (hg : lk H kg = some (gB L I eg)) (hU : Fam H kg ku eu ec us) (hC : Closed H) (hL : ∀ x ∈ L, I64 x) (h2 : 2 <= us.length) (hn : us.length <= 48) (hm0 : 0 <= most) (hm1 : most <= 10) :
  ∃ ns I2, QfK us.length most ns /\ ∀ (st : St) (args : List Opd), Zx st args = some [.ref kg 0 0, .osl ku us.length, .int .i64 most] -> (∀ j x, lk H j = some x -> lk st.H j = some x) -> Qbt Tryz.prog 40 args st H [] [(kg, gB L I2 eg)] (QZ ns) := by
 obtain ⟨d, H2, ⟨ns, I2, hx, rfl, rfl⟩, hok⟩ := QcU (H := upH H) (kg := upN kg) (ku := upN ku) (L := L) (I := I) (most := most) (eg := eg) (eu := eu) (ec := ec) (us := us.map UR.ren) (by unfold upN; omega) (by rw [QaV, hg]; rfl) hU.up Qk6 (Qe1 hC) hL (by simpa using h2) (by simpa using hn) hm0 hm1
 obtain ⟨pu, hu⟩ := hU.u
 rw [List.length_map] at hx hok
 refine ⟨ns, I2, hx, fun st args ha hF => Qll (b' := gB L I2 eg) (ds' := [.ref (upN kg) 0 0, .osl (upN ku) us.length, .int .i64 most]) ha hF hC (fun x hx j hj => ?_) (Zu hg) Z Z Z Z hok⟩
 simp only [List.mem_cons, List.not_mem_nil, or_false] at hx
 rcases hx with rfl | rfl | rfl
 ·simp [D.ids, D.sid] at hj; subst hj; exact Zu hg
 ·simp [D.ids, D.sid] at hj; subst hj; exact Zu hu
 ·simp [D.ids, D.sid] at hj
theorem QcT {ws : List Int} (hL : ∀ x ∈ ws, I64 x) {most : Int} (hm0 : 1 <= most) (hm1 : most <= 5) : ∃ d, (∃ w, QoX w /\ d = Z6 w) /\ Ok Tryz.prog 10 [ZI ws, .int .i64 most] d := by
 refine Ok.ofX (R := fun d => (∃ w, QoX w /\ d = Z6 w)) ZY Tryz.func10 QtT (Nat.le_of_ble_eq_true Z) ?_
 show TX _ _ tf10.body _ _
 obtain ⟨us0, J0, ⟨hU, hu2, hu11⟩, hc0⟩ := Qrq (kg := 12) (L := ws) (I := 0) (most := most) (eg := 63) rfl rfl hL hm0 hm1
 have hU0 := Prog.start hU hu2 hu11
 obtain ⟨z0, rest0, hfirst⟩ := hU.first
 have hi0 : 0 < us0.length := by omega
 have hcl0 : us0[0].cs = [z0] := by subst hfirst; rfl
 have hk0 : 0 < us0[0].cs.length := by rw [hcl0]; exact Nat.zero_lt_one
 obtain ⟨va, sha, hza, hva⟩ := hU0.fresh 0 hi0 0 hk0 (by omega)
 obtain ⟨ns0, J00, hns0, hc00⟩ := QkM (H := wA (us0) 74 71 63 ws (J0) ⟨[[.fsl []]], 1, 26, true⟩) (most := 3) Qfb (Qmh hU.keys hU0.fam) (QaI hU.keys rfl) hL hu2 (by omega) (by decide) (by decide)
 refine Zb fun K hK => ZF Z (hK _ _ (QQ (kp3 Z Z Z) ?_))
 refine Zb fun K hK => Qa Z (QU Z Z (Zz Z Z Z (Qa Z (hK _ _ (QQ (kp3 Z Z Z) ?_)))))
 refine Zb fun K hK => Qa rfl (Qa rfl (YL (hc0 _ _ rfl rfl (by intro j hj; rw [Qn, if_neg (by omega), Qn, if_neg (by omega)]; rfl)) (Qa rfl (hK _ _ (QQ (kp3 rfl rfl rfl) ?_)))))
 refine Qm8 (QbD Z (Qk5 hU.keys)) (Zb fun K hK => Qa Z (XX (ds0 := [7, 6, 2, 1, 0]) Z Z Z (by simp) (by omega) (by omega) Z (by first | rfl | ((try simp only [QZ, D.ids, D.sid]); simp only [Dr.ok, Zo, Zp, Zq, List.all_append, List.all_cons, List.all_nil, Bool.and_true, Bool.true_and]; (try rw [ZG (by rfl)]); simp [D.ids, D.sid]; done) | ((try simp only [QZ, D.ids, D.sid]); simp only [Dr.ok, Zo, Zp, Zq, List.all_append, List.all_cons, List.all_nil, Bool.and_true, Bool.true_and]; (try rw [ZG (by rfl)]); simp [D.ids, D.sid]; omega)) Z (Qj Z Z (QR (ds0 := [2, 1, 0]) Z (Z8 Z (Qp1 (i := 0) hU.keys hi0)) Z (by first | rfl | ((try simp only [QZ, D.ids, D.sid]); simp only [Dr.ok, Zo, Zp, Zq, List.all_append, List.all_cons, List.all_nil, Bool.and_true, Bool.true_and]; (try rw [ZG (by rfl)]); simp [D.ids, D.sid]; done) | ((try simp only [QZ, D.ids, D.sid]); simp only [Dr.ok, Zo, Zp, Zq, List.all_append, List.all_cons, List.all_nil, Bool.and_true, Bool.true_and]; (try rw [ZG (by rfl)]); simp [D.ids, D.sid]; omega)) Z (Qa Z (Qa Z (Qki (ds0 := [0]) (hc00 _ _ Z (fun _ _ h => h)) (fun j hj => Qd2 hj) (by first | rfl | ((try simp only [QZ, D.ids, D.sid]); simp only [Dr.ok, Zo, Zp, Zq, List.all_append, List.all_cons, List.all_nil, Bool.and_true, Bool.true_and]; (try rw [ZG (by rfl)]); simp [D.ids, D.sid]; done) | ((try simp only [QZ, D.ids, D.sid]); simp only [Dr.ok, Zo, Zp, Zq, List.all_append, List.all_cons, List.all_nil, Bool.and_true, Bool.true_and]; (try rw [ZG (by rfl)]); simp [D.ids, D.sid]; omega)) Z (XX (ds0 := [1, 0]) Z Z (Qo (by omega) (QdA (j := 0) hU.keys hi0)) (by simp) (by omega) (by omega) Z (by first | rfl | ((try simp only [QZ, D.ids, D.sid]); simp only [Dr.ok, Zo, Zp, Zq, List.all_append, List.all_cons, List.all_nil, Bool.and_true, Bool.true_and]; (try rw [ZG (by rfl)]); simp [D.ids, D.sid]; done) | ((try simp only [QZ, D.ids, D.sid]); simp only [Dr.ok, Zo, Zp, Zq, List.all_append, List.all_cons, List.all_nil, Bool.and_true, Bool.true_and]; (try rw [ZG (by rfl)]); simp [D.ids, D.sid]; omega)) Z (Qj Z (Zu (Qo (by omega) (QdA (j := 0) hU.keys hi0))) (Xu (ds0 := []) Z (Qo (by omega) (QdA (j := 0) hU.keys hi0)) (Qq2 (k := 0) hk0 hza) Z Z Z Z Z (by first | rfl | ((try simp only [QZ, D.ids, D.sid]); simp only [Dr.ok, Zo, Zp, Zq, List.all_append, List.all_cons, List.all_nil, Bool.and_true, Bool.true_and]; (try rw [ZG (by rfl)]); simp [D.ids, D.sid]; done) | ((try simp only [QZ, D.ids, D.sid]); simp only [Dr.ok, Zo, Zp, Zq, List.all_append, List.all_cons, List.all_nil, Bool.and_true, Bool.true_and]; (try rw [ZG (by rfl)]); simp [D.ids, D.sid]; omega)) Z ?_))))))))))
 refine hK _ _ (QQ (kp3 Z Z Z) ?_)
 refine XH ?_ -- 0
 refine Zb fun K hK => Qa Z (hK _ _ (QQ (kp4 Z Z Z Z) ?_))
 refine Yz ?_
 have hPs : Prog us0.length (QcQ us0 0 0 (QiS (CandT.mk va sha ns0 []))) 1 0 := (hU0.put hi0 hk0 ⟨_, rfl, QeB hva hns0 (by decide)⟩).next (by rw [Zw]; exact hi0) (by rw [<- Qa2 (by rw [Zw]; exact hi0), QaS, Qa2 hi0, hcl0]; exact Nat.le_refl 1)
 refine QdC (ι := List UR × Int × Nat) (fun ⟨usA, JA, i⟩ => ⟨[(4, .ref 4 0 0), (5, .ref 12 0 0), (6, .osl 500000 usA.length), (7, .int .i64 i)], wA (usA) 74 71 63 ws (JA) ⟨[[.fsl []]], 1, 26, true⟩⟩) (fun ⟨usA, JA, i⟩ => Prog us0.length usA i 0 /\ 1 <= i /\ i <= us0.length) (fun ⟨usA, JA, i⟩ => us0.length - i) (QcQ us0 0 0 (QiS (CandT.mk va sha ns0 [])), J00, 1) ?_ ?_ ?_
 ·exact Qgf (l := [4, 5, 6, 7]) (i := 0) (k := 0) (row := [.int .i64 va.a, .int .i64 va.b, .int .i64 va.c, .str va.p, .str va.q, .int .i64 sha, QZ ns0, .fsl []]) (p := true) 13 (QiS (CandT.mk va sha ns0 [])) (kp4 rfl rfl rfl rfl) (by rw [Zw] <;> rfl) hU.keys hi0 hk0 Qz (fun _ => rfl) rfl (fun z hz => (hU0.pure hi0 z hz).1) ⟨rfl, rfl, rfl⟩ (fun j hj hne => (Qo (by omega) (Qo (by omega) (QdA hU.keys hj)))) (by repeat (first | exact Qz | exact QfF | exact Qfb | exact QgR | refine Qo (by omega) ?_)) (by repeat (first | exact Qz | exact QfF | exact Qfb | exact QgR | refine Qo (by omega) ?_)) (by repeat (first | exact Qz | exact QfF | exact Qfb | exact QgR | refine Qo (by omega) ?_)) rfl (by decide) (by intro j hj; repeat (first | exact Z3 hU.keys (by omega) (by omega) (by omega) (.inr (by omega)) | refine Zv (by omega) ?_)) (by omega) (by intro p hp j hj; simp only [List.mem_cons, List.not_mem_nil, or_false] at hp; rcases hp with rfl | rfl | rfl | rfl <;> first | (simp [D.ids, D.sid] at hj; done) | (simp [D.ids, D.sid] at hj; subst hj; first | exact .inl rfl | exact .inr (.inl rfl) | exact .inr (.inr (.inl rfl)) | exact .inr (.inr (.inr ⟨us0[0], List.getElem_mem hi0, rfl⟩))))
 ·exact ⟨hPs, Nat.le_refl _, by omega⟩
 intro ⟨usA, JA, i⟩ hPA
 try dsimp only at hPA
 have hlA := hPA.1.len.1
 try dsimp only
 refine XH ?_ -- 1
 refine Zb fun K hK => Qa Z (Qa Z ?_)
 first | refine QS rfl QW ?_ | refine QS rfl rfl ?_
 refine Z9 Z Z (hK _ _ (QQ (kp5 Z Z Z Z Z) ?_))
 refine YS Z (fun h1 => ?_) (fun h1 => ?_)
 ·try rw [h1]
  try simp only [qA] at h1
  refine Xd (Q4 (kp4 Z Z Z Z) ?_)
  refine XH ?_ -- 2
  refine Yz (Zb fun K hK => Qa Z (hK _ _ (QQ (kp5 Z Z Z Z Z) ?_)))
  refine Yz ?_
  refine QdC (ι := List UR × Int × Nat) (fun ⟨us, J, k⟩ => ⟨[(4, .ref 4 0 0), (5, .ref 12 0 0), (6, .osl 500000 us.length), (7, .int .i64 i), (8, .int .i64 k)], wA (us) 74 71 63 ws (J) ⟨[[.fsl []]], 1, 26, true⟩⟩) (fun ⟨us, J, k⟩ => Prog us0.length us i k) (fun ⟨us, J, k⟩ => Qkv us i - k) (usA, JA, 0) ?_ ?_ ?_
  ·exact Zk (l := [4, 5, 6, 7, 8]) (kp5 rfl rfl rfl rfl rfl)
  ·exact hPA.1
  intro ⟨us, J, k⟩ hP
  try dsimp only at hP
  have hl := hP.len.1
  have hi : i < us.length := by omega
  have h1i := hPA.2.1
  have hcl4 := hP.cl us[i] (List.getElem_mem hi)
  try dsimp only
  refine XH ?_ -- 3
  refine Zb fun K hK => Qa Z (Qa Z (Qa Z (Y1 Z Z Z (by simp) (by omega) (by omega) Z (Qj Z Z (Qy Z (Z8 Z (Qp1 hP.keys hi)) Z ?_)))))
  first | refine QS rfl QW ?_ | refine QS rfl rfl ?_
  refine Z9 Z Z (hK _ _ (QQ (kp6 Z Z Z Z Z Z) ?_))
  refine YS Z (fun h2 => ?_) (fun h2 => ?_)
  ·try rw [h2]
   try simp only [qA] at h2
   try (have hk : k < us[i].cs.length := (by omega); obtain ⟨v, sh, hz, hv⟩ := hP.fresh i hi k hk (by omega))
   refine Xd (Q4 (kp5 Z Z Z Z Z) ?_)
   refine XH ?_ -- 4
   refine Yz (Zb fun K hK => Qa Z (Qa Z (Y1 Z Z Z (by simp) (by omega) (by omega) Z (Qj Z Z (Qy Z (Z8 Z (Qp1 hP.keys hi)) Z (Qa Z (Y1 Z Z (QdA hP.keys hi) (by simp) (by omega) (by omega) Z (Qa Z (hK _ _ (QQ (kp6 Z Z Z Z Z Z) ?_))))))))))
   refine XH ?_ -- 5
   refine Zb fun K hK => Qa Z (Qa Z (Y1 Z Z Z (by simp) (by omega) (by omega) Z (Qj Z Z (Qy Z (Z8 Z (Qp1 hP.keys hi)) Z (QoS Z Z (hK _ _ (QQ (kp7 Z Z Z Z Z Z Z) ?_)))))))
   refine YS Z (fun h3 => ?_) (fun h3 => ?_)
   ·try rw [h3]
    try simp only [qA] at h3
    refine ZW fun K hK => Qa Z (Qa Z (Qag Z Z (by first | exact Qs (by omega) (by omega) | rfl) (Qa Z (Yi Z Z (Qj Z (Zu (QdA hP.keys hi)) (QH (cs := [_, _, _, _, _]) Z (Z8 (QdA hP.keys hi) (Qq2 hk hz)) Z Z (QF (Qac hv.1 hv.2) Z Z (.inl Z) (QU Z Z ?_))))))))
    refine QI Z (by repeat (first | exact Z3 hU.keys (by omega) (by omega) (by omega) (.inl (by omega)) | exact Z3 hP.keys (by omega) (by omega) (by omega) (.inl (by omega)) | exact Z3 hP2.keys (by omega) (by omega) (by omega) (.inl (by omega)) | refine Zv (by omega) ?_)) ?_
    refine QI Z (by repeat (first | exact Z3 hU.keys (by omega) (by omega) (by omega) (.inl (by omega)) | exact Z3 hP.keys (by omega) (by omega) (by omega) (.inl (by omega)) | exact Z3 hP2.keys (by omega) (by omega) (by omega) (.inl (by omega)) | refine Zv (by omega) ?_)) ?_
    refine Yi Z Z (Qj Z (Zu (Qo (by omega) (Qo (by omega) (QdA hP.keys hi)))) (Q5 Z (Qo (by omega) (Qo (by omega) (QdA hP.keys hi))) (Qq2 hk hz) Z Z Z Z Z (hK _ ?_)))
    refine Q4 (kp6 Z Z Z Z Z Z) ?_
    first | (refine Qm8 (QnS (l := [4, 5, 6, 7, 8, 9]) (fr' := [(4, .ref 4 0 0), (5, .ref 12 0 0), (6, .osl 500000 us.length), (7, .int .i64 i), (8, .int .i64 k), (9, .ref (500001 + i) k 0)]) (x := (WantT.mk ((i : Int) - 1) (Xr v.a v.b v.c v.p v.q))) (kp6 rfl rfl rfl rfl rfl rfl) rfl hP.keys hi rfl (QkT (fun z hz => (hP.pure hi z hz).1) (by intro d hd j hj; simp [dCR, setRow, zr] at hd; rcases hd with rfl | rfl | rfl | rfl | rfl | rfl | rfl | rfl <;> simp [D.sid] at hj <;> exact hj)) (by intro p hp j hj; simp only [List.mem_cons, List.not_mem_nil, or_false] at hp; rcases hp with rfl | rfl | rfl | rfl | rfl | rfl <;> first | (simp [D.ids, D.sid] at hj; done) | (simp [D.ids, D.sid] at hj; subst hj; first | exact .inl rfl | exact .inr (.inl rfl) | exact .inr (.inr (.inl rfl)) | exact .inr (.inr (.inr ⟨us[i], List.getElem_mem hi, (hP.keys i hi).symm⟩))))) ?_) | skip
    refine Zb fun K hK => Qa Z (Qa Z (Yi Z Z (Qj Z Q3 (QR (ds0 := [3, 0]) Z (Z8 Qz (Qqz hk)) Z (by first | rfl | ((try simp only [QZ, D.ids, D.sid]); simp only [Dr.ok, Zo, Zp, Zq, List.all_append, List.all_cons, List.all_nil, Bool.and_true, Bool.true_and]; (try rw [ZG (by rfl)]); simp [D.ids, D.sid]; done) | ((try simp only [QZ, D.ids, D.sid]); simp only [Dr.ok, Zo, Zp, Zq, List.all_append, List.all_cons, List.all_nil, Bool.and_true, Bool.true_and]; (try rw [ZG (by rfl)]); simp [D.ids, D.sid]; omega)) Z (Qa Z (Qa Z ?_))))))
    have hfx := QtP (eu := 74) (ec := 71) (eg := 63) (L := ws) (J := J) (b4 := ⟨[[.fsl []]], 1, 26, true⟩) (b64 := ⟨[[Zc [(WantT.mk ((i : Int) - 1) (Xr v.a v.b v.c v.p v.q))]]], 1, 69, true⟩) (zx := (CR.mk v (.int .i64 sh) (.osl 64 1) (.fsl []))) hP hi hk hv ⟨rfl, rfl, rfl⟩ rfl rfl
    obtain ⟨ns, J1, hns, hc1⟩ := QkM (H := (500001 + i, ⟨(us[i].cs.map dCR).set k (dCR (CR.mk v (.int .i64 sh) (.osl 64 1) (.fsl []))), 8, 71, false⟩) :: (64, ⟨[[Zc [(WantT.mk ((i : Int) - 1) (Xr v.a v.b v.c v.p v.q))]]], 1, 69, true⟩) :: wA (us) 74 71 63 ws (J) ⟨[[.fsl []]], 1, 26, true⟩) (most := 2) (Qo (by omega) (Qo (by omega) Qfb)) hfx.1 hfx.2 hL (by first | omega | (rw [Zw]; omega)) (by first | omega | (rw [Zw]; omega)) (by decide) (by decide)
    rw [Zw] at hns
    refine Qki (ds0 := [3, 0]) (hc1 _ _ (by rw [Zw]; rfl) (fun _ _ h => h)) (fun j hj => Qd2 hj) (by first | rfl | ((try simp only [QZ, D.ids, D.sid]); simp only [Dr.ok, Zo, Zp, Zq, List.all_append, List.all_cons, List.all_nil, Bool.and_true, Bool.true_and]; (try rw [ZG (by rfl)]); simp [D.ids, D.sid]; done) | ((try simp only [QZ, D.ids, D.sid]); simp only [Dr.ok, Zo, Zp, Zq, List.all_append, List.all_cons, List.all_nil, Bool.and_true, Bool.true_and]; (try rw [ZG (by rfl)]); simp [D.ids, D.sid]; omega)) Z ?_
    refine Qb3 (ds0 := [0]) Z Z (by simp [D.ids, D.sid, QZ]) ⟨rfl, Qqw, rfl⟩ (by repeat (first | exact Z3 hU.keys (by omega) (by omega) (by omega) (.inl (by omega)) | exact Z3 hP.keys (by omega) (by omega) (by omega) (.inl (by omega)) | exact Z3 hP2.keys (by omega) (by omega) (by omega) (.inl (by omega)) | refine Zv (by omega) ?_)) (Qo (by omega) (Qo (by omega) Qz)) Z Z Z (by have := hns.1; simp; omega) (by have := hns.1; simp; omega) (by first | rfl | ((try simp only [QZ, D.ids, D.sid]); simp only [Dr.ok, Zo, Zp, Zq, List.all_append, List.all_cons, List.all_nil, Bool.and_true, Bool.true_and]; (try rw [ZG (by rfl)]); simp [D.ids, D.sid]; done) | ((try simp only [QZ, D.ids, D.sid]); simp only [Dr.ok, Zo, Zp, Zq, List.all_append, List.all_cons, List.all_nil, Bool.and_true, Bool.true_and]; (try rw [ZG (by rfl)]); simp [D.ids, D.sid]; omega)) Z ?_
    refine Yi Z Z (Qj Z (Zu (Qo (by omega) (Qo (by omega) (Qo (by omega) Qz)))) (Xu (ds0 := []) Z (Qo (by omega) (Qo (by omega) (Qo (by omega) Qz))) (Qqz hk) Z Z Z Z Z (by first | rfl | ((try simp only [QZ, D.ids, D.sid]); simp only [Dr.ok, Zo, Zp, Zq, List.all_append, List.all_cons, List.all_nil, Bool.and_true, Bool.true_and]; (try rw [ZG (by rfl)]); simp [D.ids, D.sid]; done) | ((try simp only [QZ, D.ids, D.sid]); simp only [Dr.ok, Zo, Zp, Zq, List.all_append, List.all_cons, List.all_nil, Bool.and_true, Bool.true_and]; (try rw [ZG (by rfl)]); simp [D.ids, D.sid]; omega)) Z (hK _ _ (QQ (kp6 Z Z Z Z Z Z) ?_))))
    first | (refine Qm8 (Qgf (l := [4, 5, 6, 7, 8, 9]) (eu := 74) (ec := 71) (eg := 63) (L := ws) (J := J1) (b4 := ⟨[[.fsl []]], 1, 26, true⟩) (fr' := [(4, .ref 4 0 0), (5, .ref 12 0 0), (6, .osl 500000 us.length), (7, .int .i64 i), (8, .int .i64 k), (9, .ref (500001 + i) k 0)]) (row := [.int .i64 v.a, .int .i64 v.b, .int .i64 v.c, .str v.p, .str v.q, .int .i64 sh, .osl 75 (1 + (ns.map (fun r => [Zc r])).length), .fsl []]) (p := false) 75 (QiS (CandT.mk v sh ([(WantT.mk ((i : Int) - 1) (Xr v.a v.b v.c v.p v.q))] :: ns) [])) (kp6 rfl rfl rfl rfl rfl rfl) rfl hP.keys hi hk Qjx (fun h => by cases h) (Qfs (Qo (by omega) Qz) (by first | (simp; done) | (simp; omega))) (fun z hz => (hP.pure hi z hz).1) ⟨rfl, rfl, rfl⟩ (fun j hj hne => (Qo (by omega) (Qo (by omega) (Qo (by omega) (Qo (by omega) (Qo (by omega) (Qo (by omega) (QdA hP.keys hj)))))))) (by repeat (first | exact Qz | exact QfF | exact Qfb | exact QgR | refine Qo (by omega) ?_)) (by repeat (first | exact Qz | exact QfF | exact Qfb | exact QgR | refine Qo (by omega) ?_)) (by repeat (first | exact Qz | exact QfF | exact Qfb | exact QgR | refine Qo (by omega) ?_)) rfl (by decide) (by intro j hj; repeat (first | exact Z3 hP.keys (by omega) (by omega) (by omega) (.inr (by omega)) | refine Zv (by omega) ?_)) (by omega) (by intro p hp j hj; simp only [List.mem_cons, List.not_mem_nil, or_false] at hp; rcases hp with rfl | rfl | rfl | rfl | rfl | rfl <;> first | (simp [D.ids, D.sid] at hj; done) | (simp [D.ids, D.sid] at hj; subst hj; first | exact .inl rfl | exact .inr (.inl rfl) | exact .inr (.inr (.inl rfl)) | exact .inr (.inr (.inr ⟨us[i], List.getElem_mem hi, (hP.keys i hi).symm⟩))))) ?_; have hc2 : QaM us0.length (CandT.mk v sh ([(WantT.mk ((i : Int) - 1) (Xr v.a v.b v.c v.p v.q))] :: ns) []) := (by rw [<- hl]; exact Qjd hv hns (by decide) h1i hi); generalize hns2 : ([(WantT.mk ((i : Int) - 1) (Xr v.a v.b v.c v.p v.q))] :: ns) = ns2 at hc2 ⊢) | (refine Qm8 (Qgf (l := [4, 5, 6, 7, 8, 9]) (eu := 74) (ec := 71) (eg := 63) (L := ws) (J := J1) (b4 := ⟨[[.fsl []]], 1, 26, true⟩) (fr' := [(4, .ref 4 0 0), (5, .ref 12 0 0), (6, .osl 500000 us.length), (7, .int .i64 i), (8, .int .i64 k), (9, .ref (500001 + i) k 0)]) (row := [.int .i64 v.a, .int .i64 v.b, .int .i64 v.c, .str v.p, .str v.q, .int .i64 sh, .osl 75 (0 + (ns.map (fun r => [Zc r])).length), .fsl []]) (p := false) 75 (QiS (CandT.mk v sh ns [])) (kp6 rfl rfl rfl rfl rfl rfl) rfl hP.keys hi hk Qz (fun h => by cases h) (Qfs (Qo (by omega) Qz) (by first | (simp; done) | (simp; omega))) (fun z hz => (hP.pure hi z hz).1) ⟨rfl, rfl, rfl⟩ (fun j hj hne => (Qo (by omega) (Qo (by omega) (Qo (by omega) (QdA hP.keys hj))))) (by repeat (first | exact Qz | exact QfF | exact Qfb | exact QgR | refine Qo (by omega) ?_)) (by repeat (first | exact Qz | exact QfF | exact Qfb | exact QgR | refine Qo (by omega) ?_)) (by repeat (first | exact Qz | exact QfF | exact Qfb | exact QgR | refine Qo (by omega) ?_)) rfl (by decide) (by intro j hj; repeat (first | exact Z3 hP.keys (by omega) (by omega) (by omega) (.inr (by omega)) | refine Zv (by omega) ?_)) (by omega) (by intro p hp j hj; simp only [List.mem_cons, List.not_mem_nil, or_false] at hp; rcases hp with rfl | rfl | rfl | rfl | rfl | rfl <;> first | (simp [D.ids, D.sid] at hj; done) | (simp [D.ids, D.sid] at hj; subst hj; first | exact .inl rfl | exact .inr (.inl rfl) | exact .inr (.inr (.inl rfl)) | exact .inr (.inr (.inr ⟨us[i], List.getElem_mem hi, (hP.keys i hi).symm⟩))))) ?_; have hc2 : QaM us0.length (CandT.mk v sh ns []) := (by rw [<- hl]; exact QeB hv hns (by decide)); generalize hns2 : ns = ns2 at hc2 ⊢)
    generalize hus2 : QcQ us i k (QiS (CandT.mk v sh ns2 [])) = us2
    have hP2 : Prog us0.length us2 i (k + 1) := hus2 ▸ hP.put hi hk ⟨_, rfl, hc2⟩
    have hl2 : us2.length = us.length := by rw [<- hus2, Zw]
    have hi2 : i < us2.length := by omega
    have hk2 : k < us2[i].cs.length := Qj0 hi hk hus2 hi2
    have hz2 : us2[i].cs[k] = QiS (CandT.mk v sh ns2 []) := QjZ hi hk hus2.symm hi2 hk2
    refine Zb fun K hK => Qa Z (YL (Qcu (I := J1) Z Qfb hL (by omega)) (ZD Z Z (hK _ _ (QQ (kp7 Z Z Z Z Z Z Z) ?_))))
    refine YS Z (fun h4 => ?_) (fun h4 => ?_)
    ·try rw [h4]
     try simp only [qA] at h4
     refine ZW fun K hK => Qa Z (Qa Z (Qa Z ?_))
     obtain ⟨xb, J3, hxb, hcb⟩ := Ql4 (H := (12, gB ws (nxI J1) 63) :: wA (us2) 74 71 63 ws (J1) ⟨[[.fsl []]], 1, 26, true⟩) Qz (Qmh hP2.keys hP2.fam).cons ((QaI hP2.keys rfl).pr rfl) hL (by omega) (by omega)
     refine YL (hcb _ _ (by rw [hl2]; rfl) (fun _ _ h => h)) ?_
     refine QI Z (by repeat (first | exact Z3 hU.keys (by omega) (by omega) (by omega) (.inl (by omega)) | exact Z3 hP.keys (by omega) (by omega) (by omega) (.inl (by omega)) | exact Z3 hP2.keys (by omega) (by omega) (by omega) (.inl (by omega)) | refine Zv (by omega) ?_)) ?_
     refine Yi Z Z (Qj Z (Zu (Qo (by omega) (Qo (by omega) (Qo (by omega) (QdA hP2.keys hi2))))) (Q5 Z (Qo (by omega) (Qo (by omega) (Qo (by omega) (QdA hP2.keys hi2)))) (Qq2 hk2 hz2) Z Z Z Z Z (hK _ ?_)))
     refine Qi (Q4 (kp5 Z Z Z Z Z) (ZW fun K hK => Qa Z (Q2 Z Z (by first | exact Qs (by omega) (by omega) | rfl) (Qa Z (hK _ ?_)))))
     refine Qm (QcQ us2 i k (QiS (CandT.mk v sh ns2 [xb])), J3, k + 1) ?_ ?_ ?_
     ·exact Qgf (l := [4, 5, 6, 7, 8]) (row := [.int .i64 v.a, .int .i64 v.b, .int .i64 v.c, .str v.p, .str v.q, .int .i64 sh, QZ ns2, .osl 85 1]) (p := false) 85 (QiS (CandT.mk v sh ns2 [xb])) (kp5 rfl rfl rfl rfl rfl) (by rw [Zw, hl2] <;> rfl) hP2.keys hi2 hk2 Qz (fun h => by cases h) (QnD (Qo (by omega) Qz) rfl) (fun z hz => (hP2.pure hi2 z hz).1) ⟨rfl, rfl, rfl⟩ (fun j hj hne => (Qo (by omega) (Qo (by omega) (Qo (by omega) (Qo (by omega) (QdA hP2.keys hj)))))) (by repeat (first | exact Qz | exact QfF | exact Qfb | exact QgR | refine Qo (by omega) ?_)) (by repeat (first | exact Qz | exact QfF | exact Qfb | exact QgR | refine Qo (by omega) ?_)) (by repeat (first | exact Qz | exact QfF | exact Qfb | exact QgR | refine Qo (by omega) ?_)) rfl (by decide) (by intro j hj; repeat (first | exact Z3 hP2.keys (by omega) (by omega) (by omega) (.inr (by omega)) | refine Zv (by omega) ?_)) (by omega) (by intro p hp j hj; simp only [List.mem_cons, List.not_mem_nil, or_false] at hp; rcases hp with rfl | rfl | rfl | rfl | rfl <;> first | (simp [D.ids, D.sid] at hj; done) | (simp [D.ids, D.sid] at hj; subst hj; first | exact .inl rfl | exact .inr (.inl rfl) | exact .inr (.inr (.inl rfl)) | exact .inr (.inr (.inr ⟨us2[i], List.getElem_mem hi2, (hP2.keys i hi2).symm⟩))))
     ·exact hP2.again hi2 hk2 ⟨_, rfl, Qjc hc2 (by have := hxb; rwa [hl2, hl] at this)⟩
     ·show Qkv (QcQ us2 i k _) i - (k + 1) < Qkv us i - k; rw [QaS, <- hus2, QaS, Qa2 hi]; omega
    ·try rw [h4]
     try simp only [qA] at h4
     refine Xd (Qi (Q4 (kp5 Z Z Z Z Z) (ZW fun K hK => Qa Z (Q2 Z Z (by first | exact Qs (by omega) (by omega) | rfl) (Qa Z (hK _ ?_))))))
     refine Qm (us2, nxI J1, k + 1) ?_ ?_ ?_
     ·exact le_trans (Zk (l := [4, 5, 6, 7, 8]) (kp5 rfl rfl rfl rfl rfl)) (QbD (by rw [hl2] <;> rfl) QsE)
     ·exact hP2
     ·show Qkv us2 i - (k + 1) < Qkv us i - k; rw [<- hus2, QaS, Qa2 hi]; omega
   ·try rw [h3]
    try simp only [qA] at h3
    refine Xd (Q4 (kp6 Z Z Z Z Z Z) ?_)
    first | (refine Qm8 (QnS (l := [4, 5, 6, 7, 8, 9]) (fr' := [(4, .ref 4 0 0), (5, .ref 12 0 0), (6, .osl 500000 us.length), (7, .int .i64 i), (8, .int .i64 k), (9, .ref (500001 + i) k 0)]) (x := (WantT.mk ((i : Int) - 1) (Xr v.a v.b v.c v.p v.q))) (kp6 rfl rfl rfl rfl rfl rfl) rfl hP.keys hi rfl (QkT (fun z hz => (hP.pure hi z hz).1) (by intro d hd j hj; simp [dCR, setRow, zr] at hd; rcases hd with rfl | rfl | rfl | rfl | rfl | rfl | rfl | rfl <;> simp [D.sid] at hj <;> exact hj)) (by intro p hp j hj; simp only [List.mem_cons, List.not_mem_nil, or_false] at hp; rcases hp with rfl | rfl | rfl | rfl | rfl | rfl <;> first | (simp [D.ids, D.sid] at hj; done) | (simp [D.ids, D.sid] at hj; subst hj; first | exact .inl rfl | exact .inr (.inl rfl) | exact .inr (.inr (.inl rfl)) | exact .inr (.inr (.inr ⟨us[i], List.getElem_mem hi, (hP.keys i hi).symm⟩))))) ?_) | skip
    refine Zb fun K hK => Qa Z (Qa Z (Yi Z Z (Qj Z (Zu (QdA hP.keys hi)) (QR (ds0 := [3, 0]) Z (Z8 (QdA hP.keys hi) (Qq2 hk hz)) Z (by first | rfl | ((try simp only [QZ, D.ids, D.sid]); simp only [Dr.ok, Zo, Zp, Zq, List.all_append, List.all_cons, List.all_nil, Bool.and_true, Bool.true_and]; (try rw [ZG (by rfl)]); simp [D.ids, D.sid]; done) | ((try simp only [QZ, D.ids, D.sid]); simp only [Dr.ok, Zo, Zp, Zq, List.all_append, List.all_cons, List.all_nil, Bool.and_true, Bool.true_and]; (try rw [ZG (by rfl)]); simp [D.ids, D.sid]; omega)) Z (Qa Z (Qa Z ?_))))))
    obtain ⟨ns, J1, hns, hc1⟩ := QkM (H := wA (us) 74 71 63 ws (J) ⟨[[.fsl []]], 1, 26, true⟩) (most := 2) Qfb (Qmh hP.keys hP.fam) (QaI hP.keys rfl) hL (by first | omega | (rw [Zw]; omega)) (by first | omega | (rw [Zw]; omega)) (by decide) (by decide)
    refine Qki (ds0 := [3, 0]) (hc1 _ _ Z (fun _ _ h => h)) (fun j hj => Qd2 hj) (by first | rfl | ((try simp only [QZ, D.ids, D.sid]); simp only [Dr.ok, Zo, Zp, Zq, List.all_append, List.all_cons, List.all_nil, Bool.and_true, Bool.true_and]; (try rw [ZG (by rfl)]); simp [D.ids, D.sid]; done) | ((try simp only [QZ, D.ids, D.sid]); simp only [Dr.ok, Zo, Zp, Zq, List.all_append, List.all_cons, List.all_nil, Bool.and_true, Bool.true_and]; (try rw [ZG (by rfl)]); simp [D.ids, D.sid]; omega)) Z ?_
    refine Qes (ds0 := [0]) Z Z (fun _ h => ⟨Qqw, h⟩) (by repeat (first | exact Z3 hU.keys (by omega) (by omega) (by omega) (.inl (by omega)) | exact Z3 hP.keys (by omega) (by omega) (by omega) (.inl (by omega)) | exact Z3 hP2.keys (by omega) (by omega) (by omega) (.inl (by omega)) | refine Zv (by omega) ?_)) (.inl Z) (by simp) (by have := hns.1; simp; omega) (by have := hns.1; simp; omega) (by first | rfl | ((try simp only [QZ, D.ids, D.sid]); simp only [Dr.ok, Zo, Zp, Zq, List.all_append, List.all_cons, List.all_nil, Bool.and_true, Bool.true_and]; (try rw [ZG (by rfl)]); simp [D.ids, D.sid]; done) | ((try simp only [QZ, D.ids, D.sid]); simp only [Dr.ok, Zo, Zp, Zq, List.all_append, List.all_cons, List.all_nil, Bool.and_true, Bool.true_and]; (try rw [ZG (by rfl)]); simp [D.ids, D.sid]; omega)) Z ?_
    refine Yi Z Z (Qj Z (Zu (Qo (by omega) (Qo (by omega) (QdA hP.keys hi)))) (Xu (ds0 := []) Z (Qo (by omega) (Qo (by omega) (QdA hP.keys hi))) (Qq2 hk hz) Z Z Z Z Z (by first | rfl | ((try simp only [QZ, D.ids, D.sid]); simp only [Dr.ok, Zo, Zp, Zq, List.all_append, List.all_cons, List.all_nil, Bool.and_true, Bool.true_and]; (try rw [ZG (by rfl)]); simp [D.ids, D.sid]; done) | ((try simp only [QZ, D.ids, D.sid]); simp only [Dr.ok, Zo, Zp, Zq, List.all_append, List.all_cons, List.all_nil, Bool.and_true, Bool.true_and]; (try rw [ZG (by rfl)]); simp [D.ids, D.sid]; omega)) Z (hK _ _ (QQ (kp6 Z Z Z Z Z Z) ?_))))
    first | (refine Qm8 (Qgf (l := [4, 5, 6, 7, 8, 9]) (eu := 74) (ec := 71) (eg := 63) (L := ws) (J := J1) (b4 := ⟨[[.fsl []]], 1, 26, true⟩) (fr' := [(4, .ref 4 0 0), (5, .ref 12 0 0), (6, .osl 500000 us.length), (7, .int .i64 i), (8, .int .i64 k), (9, .ref (500001 + i) k 0)]) (row := [.int .i64 v.a, .int .i64 v.b, .int .i64 v.c, .str v.p, .str v.q, .int .i64 sh, .osl 75 (1 + (ns.map (fun r => [Zc r])).length), .fsl []]) (p := false) 75 (QiS (CandT.mk v sh ([(WantT.mk ((i : Int) - 1) (Xr v.a v.b v.c v.p v.q))] :: ns) [])) (kp6 rfl rfl rfl rfl rfl rfl) rfl hP.keys hi hk Qjx (fun h => by cases h) (Qfs (Qo (by omega) Qz) (by first | (simp; done) | (simp; omega))) (fun z hz => (hP.pure hi z hz).1) ⟨rfl, rfl, rfl⟩ (fun j hj hne => (Qo (by omega) (Qo (by omega) (Qo (by omega) (Qo (by omega) (Qo (by omega) (Qo (by omega) (QdA hP.keys hj)))))))) (by repeat (first | exact Qz | exact QfF | exact Qfb | exact QgR | refine Qo (by omega) ?_)) (by repeat (first | exact Qz | exact QfF | exact Qfb | exact QgR | refine Qo (by omega) ?_)) (by repeat (first | exact Qz | exact QfF | exact Qfb | exact QgR | refine Qo (by omega) ?_)) rfl (by decide) (by intro j hj; repeat (first | exact Z3 hP.keys (by omega) (by omega) (by omega) (.inr (by omega)) | refine Zv (by omega) ?_)) (by omega) (by intro p hp j hj; simp only [List.mem_cons, List.not_mem_nil, or_false] at hp; rcases hp with rfl | rfl | rfl | rfl | rfl | rfl <;> first | (simp [D.ids, D.sid] at hj; done) | (simp [D.ids, D.sid] at hj; subst hj; first | exact .inl rfl | exact .inr (.inl rfl) | exact .inr (.inr (.inl rfl)) | exact .inr (.inr (.inr ⟨us[i], List.getElem_mem hi, (hP.keys i hi).symm⟩))))) ?_; have hc2 : QaM us0.length (CandT.mk v sh ([(WantT.mk ((i : Int) - 1) (Xr v.a v.b v.c v.p v.q))] :: ns) []) := (by rw [<- hl]; exact Qjd hv hns (by decide) h1i hi); generalize hns2 : ([(WantT.mk ((i : Int) - 1) (Xr v.a v.b v.c v.p v.q))] :: ns) = ns2 at hc2 ⊢) | (refine Qm8 (Qgf (l := [4, 5, 6, 7, 8, 9]) (eu := 74) (ec := 71) (eg := 63) (L := ws) (J := J1) (b4 := ⟨[[.fsl []]], 1, 26, true⟩) (fr' := [(4, .ref 4 0 0), (5, .ref 12 0 0), (6, .osl 500000 us.length), (7, .int .i64 i), (8, .int .i64 k), (9, .ref (500001 + i) k 0)]) (row := [.int .i64 v.a, .int .i64 v.b, .int .i64 v.c, .str v.p, .str v.q, .int .i64 sh, .osl 75 (0 + (ns.map (fun r => [Zc r])).length), .fsl []]) (p := false) 75 (QiS (CandT.mk v sh ns [])) (kp6 rfl rfl rfl rfl rfl rfl) rfl hP.keys hi hk Qz (fun h => by cases h) (Qfs (Qo (by omega) Qz) (by first | (simp; done) | (simp; omega))) (fun z hz => (hP.pure hi z hz).1) ⟨rfl, rfl, rfl⟩ (fun j hj hne => (Qo (by omega) (Qo (by omega) (Qo (by omega) (QdA hP.keys hj))))) (by repeat (first | exact Qz | exact QfF | exact Qfb | exact QgR | refine Qo (by omega) ?_)) (by repeat (first | exact Qz | exact QfF | exact Qfb | exact QgR | refine Qo (by omega) ?_)) (by repeat (first | exact Qz | exact QfF | exact Qfb | exact QgR | refine Qo (by omega) ?_)) rfl (by decide) (by intro j hj; repeat (first | exact Z3 hP.keys (by omega) (by omega) (by omega) (.inr (by omega)) | refine Zv (by omega) ?_)) (by omega) (by intro p hp j hj; simp only [List.mem_cons, List.not_mem_nil, or_false] at hp; rcases hp with rfl | rfl | rfl | rfl | rfl | rfl <;> first | (simp [D.ids, D.sid] at hj; done) | (simp [D.ids, D.sid] at hj; subst hj; first | exact .inl rfl | exact .inr (.inl rfl) | exact .inr (.inr (.inl rfl)) | exact .inr (.inr (.inr ⟨us[i], List.getElem_mem hi, (hP.keys i hi).symm⟩))))) ?_; have hc2 : QaM us0.length (CandT.mk v sh ns []) := (by rw [<- hl]; exact QeB hv hns (by decide)); generalize hns2 : ns = ns2 at hc2 ⊢)
    generalize hus2 : QcQ us i k (QiS (CandT.mk v sh ns2 [])) = us2
    have hP2 : Prog us0.length us2 i (k + 1) := hus2 ▸ hP.put hi hk ⟨_, rfl, hc2⟩
    have hl2 : us2.length = us.length := by rw [<- hus2, Zw]
    have hi2 : i < us2.length := by omega
    have hk2 : k < us2[i].cs.length := Qj0 hi hk hus2 hi2
    have hz2 : us2[i].cs[k] = QiS (CandT.mk v sh ns2 []) := QjZ hi hk hus2.symm hi2 hk2
    refine Zb fun K hK => Qa Z (YL (Qcu (I := J1) Z Qfb hL (by omega)) (ZD Z Z (hK _ _ (QQ (kp7 Z Z Z Z Z Z Z) ?_))))
    refine YS Z (fun h5 => ?_) (fun h5 => ?_)
    ·try rw [h5]
     try simp only [qA] at h5
     refine ZW fun K hK => Qa Z (Qa Z (Qa Z ?_))
     obtain ⟨xb, J3, hxb, hcb⟩ := Ql4 (H := (12, gB ws (nxI J1) 63) :: wA (us2) 74 71 63 ws (J1) ⟨[[.fsl []]], 1, 26, true⟩) Qz (Qmh hP2.keys hP2.fam).cons ((QaI hP2.keys rfl).pr rfl) hL (by omega) (by omega)
     refine YL (hcb _ _ (by rw [hl2]; rfl) (fun _ _ h => h)) ?_
     refine QI Z (by repeat (first | exact Z3 hU.keys (by omega) (by omega) (by omega) (.inl (by omega)) | exact Z3 hP.keys (by omega) (by omega) (by omega) (.inl (by omega)) | exact Z3 hP2.keys (by omega) (by omega) (by omega) (.inl (by omega)) | refine Zv (by omega) ?_)) ?_
     refine Yi Z Z (Qj Z (Zu (Qo (by omega) (Qo (by omega) (Qo (by omega) (QdA hP2.keys hi2))))) (Q5 Z (Qo (by omega) (Qo (by omega) (Qo (by omega) (QdA hP2.keys hi2)))) (Qq2 hk2 hz2) Z Z Z Z Z (hK _ ?_)))
     refine Qi (Q4 (kp5 Z Z Z Z Z) (ZW fun K hK => Qa Z (Q2 Z Z (by first | exact Qs (by omega) (by omega) | rfl) (Qa Z (hK _ ?_)))))
     refine Qm (QcQ us2 i k (QiS (CandT.mk v sh ns2 [xb])), J3, k + 1) ?_ ?_ ?_
     ·exact Qgf (l := [4, 5, 6, 7, 8]) (row := [.int .i64 v.a, .int .i64 v.b, .int .i64 v.c, .str v.p, .str v.q, .int .i64 sh, QZ ns2, .osl 85 1]) (p := false) 85 (QiS (CandT.mk v sh ns2 [xb])) (kp5 rfl rfl rfl rfl rfl) (by rw [Zw, hl2] <;> rfl) hP2.keys hi2 hk2 Qz (fun h => by cases h) (QnD (Qo (by omega) Qz) rfl) (fun z hz => (hP2.pure hi2 z hz).1) ⟨rfl, rfl, rfl⟩ (fun j hj hne => (Qo (by omega) (Qo (by omega) (Qo (by omega) (Qo (by omega) (QdA hP2.keys hj)))))) (by repeat (first | exact Qz | exact QfF | exact Qfb | exact QgR | refine Qo (by omega) ?_)) (by repeat (first | exact Qz | exact QfF | exact Qfb | exact QgR | refine Qo (by omega) ?_)) (by repeat (first | exact Qz | exact QfF | exact Qfb | exact QgR | refine Qo (by omega) ?_)) rfl (by decide) (by intro j hj; repeat (first | exact Z3 hP2.keys (by omega) (by omega) (by omega) (.inr (by omega)) | refine Zv (by omega) ?_)) (by omega) (by intro p hp j hj; simp only [List.mem_cons, List.not_mem_nil, or_false] at hp; rcases hp with rfl | rfl | rfl | rfl | rfl <;> first | (simp [D.ids, D.sid] at hj; done) | (simp [D.ids, D.sid] at hj; subst hj; first | exact .inl rfl | exact .inr (.inl rfl) | exact .inr (.inr (.inl rfl)) | exact .inr (.inr (.inr ⟨us2[i], List.getElem_mem hi2, (hP2.keys i hi2).symm⟩))))
     ·exact hP2.again hi2 hk2 ⟨_, rfl, Qjc hc2 (by have := hxb; rwa [hl2, hl] at this)⟩
     ·show Qkv (QcQ us2 i k _) i - (k + 1) < Qkv us i - k; rw [QaS, <- hus2, QaS, Qa2 hi]; omega
    ·try rw [h5]
     try simp only [qA] at h5
     refine Xd (Qi (Q4 (kp5 Z Z Z Z Z) (ZW fun K hK => Qa Z (Q2 Z Z (by first | exact Qs (by omega) (by omega) | rfl) (Qa Z (hK _ ?_))))))
     refine Qm (us2, nxI J1, k + 1) ?_ ?_ ?_
     ·exact le_trans (Zk (l := [4, 5, 6, 7, 8]) (kp5 rfl rfl rfl rfl rfl)) (QbD (by rw [hl2] <;> rfl) QsE)
     ·exact hP2
     ·show Qkv us2 i - (k + 1) < Qkv us i - k; rw [<- hus2, QaS, Qa2 hi]; omega
  ·try rw [h2]
   try simp only [qA] at h2
   try (have hk : k < us[i].cs.length := (by omega); obtain ⟨v, sh, hz, hv⟩ := hP.fresh i hi k hk (by omega))
   refine QbR (YK (QC (QJ (Qi (Q4 (kp4 Z Z Z Z) (ZW fun K hK => Qa Z (Q2 Z Z (by first | exact Qs (by omega) (by omega) | rfl) (Qa Z (hK _ ?_)))))))))
   refine Qm (us, J, i + 1) ?_ ?_ ?_
   ·exact Zk (l := [4, 5, 6, 7]) (kp4 rfl rfl rfl rfl)
   ·try dsimp only
    exact ⟨hP.next hi (by omega), by omega, by omega⟩
   ·show us0.length - (i + 1) < us0.length - i; omega
 ·try rw [h1]
  try simp only [qA] at h1
  refine QbR (YK (QC (QJ (Q4 (kp2 Z Z) ?_))))
  have hend : i = usA.length := by have := hPA.1.len.1; omega
  obtain ⟨w, hwl, hwm, hle⟩ := Qpt (eu := 74) (ec := 71) (eg := 63) (L := ws) (J := JA) (b4 := ⟨[[.fsl []]], 1, 26, true⟩) (hend ▸ hPA.1) rfl
  refine Qm8 (hle (fr' := [(4, .ref 4 0 0), (6, .osl 500000 usA.length)]) (l := [4, 6]) (kp2 rfl rfl) rfl (by intro p hp j hj; simp only [List.mem_cons, List.not_mem_nil, or_false] at hp; rcases hp with rfl | rfl <;> (simp [D.ids, D.sid] at hj; subst hj; first | exact .inl rfl | exact .inr rfl))) (Zb fun K hK => Qa rfl (QU rfl rfl (Q5 rfl rfl rfl rfl rfl rfl rfl rfl (hK _ _ (QQ (kp1 rfl) ?_)))))
  refine Qfc ?_
  refine ⟨_, ⟨w, hwm, rfl⟩, ?_⟩
  exact ZJ (cs := [.osl 500000 usA.length]) (ds := [.sl (w.map YX)]) rfl rfl rfl rfl (by simp [Qbp, D.fz, D.fzS, Qer, lk, D.can, D.canS, hwl])
end Go.Proofs
namespace M25
open Go Go.Abs M3
/-! ### Trails that may be -/
theorem XA {w : Qq} {l : List QK} {s : QK} : YR w (l ++ [s]) = (YR w l && Qak w l s) := by
 rw [QlO, QlO, List.length_append, List.length_singleton, List.range_succ, List.all_append]
 congr 1
 ·rw [Bool.eq_iff_iff, List.all_eq_true, List.all_eq_true]
  refine forall_congr' fun i => ?_
  constructor
  ·intro h hi
   have := h hi
   rw [List.mem_range] at hi
   rw [Qed (by simp; omega)] at this
   rw [Qed hi]
   rw [List.take_append_of_le_length (by omega), List.getElem_append_left hi] at this
   exact this
  ·intro h hi
   have := h hi
   rw [List.mem_range] at hi
   rw [Qed hi] at this
   rw [Qed (by simp; omega), List.take_append_of_le_length (by omega), List.getElem_append_left hi]
   exact this
 ·simp only [List.all_cons, List.all_nil, Bool.and_true]
  rw [Qed (by simp), List.take_append_of_le_length (Nat.le_refl _), List.take_length, List.getElem_append_right (Nat.le_refl _)]
  simp
theorem Qj5 {w : Qq} {l : List QK} {s : QK} (h : Qak w l s = true) : XG s.m (Ze w l s.u) = s.m := by
 unfold Qak at h
 simp only [Bool.and_eq_true, decide_eq_true_eq] at h
 exact h.1.2
theorem QeL {x y : Int} (h : XG x y = x) (hy : Lo y) : Lo x := by
 have hx : I64 x := by rw [<- h]; exact Qid x y
 refine Lo.of hx fun i hi => ?_
 cases ht : tb x i
 ·rfl
 ·have := (Xp hx).1 h i ht
  rw [hy.hi hi] at this; cases this
theorem Qau {w : Qq} : ∀ (n : Nat) (l : List QK), l.length = n -> YR w l = true -> QdB w l
 | 0, l, hl, _ => by rw [List.eq_nil_of_length_eq_zero hl]; intro s hs; cases hs
 | n + 1, l, hl, h => by
  have hne : l ≠ [] := by intro e; subst e; simp at hl
  have e := (List.dropLast_concat_getLast hne).symm
  rw [e, XA, Bool.and_eq_true] at h
  have hp := Qau n l.dropLast (by simp [hl]) h.1
  rw [e]
  exact QmN hp (QeL (Qj5 h.2) (Qds hp _))
theorem Qmu {w : Qq} {l l' : List QK} {t : TermT} {c : Int} (h : YR w l = true) (hd : Yu w l t c = some l') : YR w l' = true := by
 have hp := Qau _ l rfl h
 unfold Yu at hd
 split at hd
 ·cases hd
 ·rename_i h1
  split at hd
  ·cases hd
  ·rename_i h2
   cases hd
   rw [XA, h, Bool.true_and]
   have hin : inW w t.u = true := by
    cases e : inW w t.u
    ·exact absurd (.inr e) h1
    ·rfl
   have hc : ¬ c < 0 := fun e => h1 (.inl e)
   rw [Qa3] at hin
   rw [Z2 hin.1 hin.2 (by show -1 <= c; omega)]
   simp only
   rw [if_neg (by omega), Qdz]
   rw [Qdz] at h2
   have hx := Qds hp t.u
   have hb : XG (QiR (Ze w l t.u) t.m) (Ze w l t.u) = QiR (Ze w l t.u) t.m := (Xp (Qie _ _)).2 fun i hi => by
    rw [Qme] at hi; simp at hi; exact hi.1
   rw [decide_eq_true hb, decide_eq_false (fun e => h2 (.inl e)), decide_eq_false (fun e => h2 (.inr e))]
   simp
theorem Qms {w : Qq} {l l' : List QK} {u p : Int} (h : YR w l = true) (hd : YO w l u p = some l') : YR w l' = true := by
 unfold YO at hd
 split at hd
 ·cases hd
 ·split at hd
  ·cases hd
  ·split at hd
   ·rename_i hs
    cases hd
    rw [XA, h, Bool.true_and]; exact hs
   ·cases hd
theorem Qmr {w : Qq} {l : List QK} {u p : Int} : ((YO w l u p).getD []).length <= l.length + 1 := by
 unfold YO
 split
 ·simp
 ·split
  ·simp
  ·split <;> simp
theorem Qoy {w : Qq} {db : List (List TermT)} : ∀ (n : Nat) {l : List QK}, YR w l = true -> YR w (Qfj w db n l).1 = true
 | 0, l, h => h
 | n + 1, l, h => by
  rw [Qfj]
  split
  ·exact h
  ·refine Qoy n ?_
   cases hd : Yu w l ⟨(Yv w db l).2, Qd7 w (db.getD (Yv w db l).1.toNat []) (Yv w db l).2⟩ (Yv w db l).1 with
   | none => rfl
   | some l' => exact Qmu h hd
def TrOk (w : Qq) (t : List QK) : Prop := YR w t = true /\ t.length <= 20000
theorem TrOk.plain {w : Qq} {t : List QK} (h : TrOk w t) : QdB w t := Qau _ t rfl h.1
theorem QpP {w : Qq} (hw : w.length <= 48) {db : List (List TermT)} {l : List QK} : (Qgu w db l).1.length <= l.length + 865 := by
 have := Qox (w := w) (db := db) (w.length * 18 + 1) l
 unfold Qgu; omega
theorem getD_some {α : Type} {o : Option (List α)} (h : o.isSome = true) : o = some (o.getD []) := by
 cases o with
 | none => cases h
 | some x => rfl
theorem QiL {a : Int} {n : Nat} (h0 : 0 <= a) (hn : 0 < n) : 0 <= a.tmod (n : Int) /\ a.tmod (n : Int) < n :=
 ⟨Int.tmod_nonneg _ h0, Int.tmod_lt_of_pos a (by omega)⟩
end M25
namespace Go.Proofs
open Go Go.Abs M3 M25
set_option linter.unusedVariables false
set_option linter.unusedSimpArgs false
theorem QcS {w : Qq} (hw : WSm w) (h0 : 0 < w.length) {db : List (List TermT)} (hd : db.length <= 100000000) (hi : ∀ x ∈ db, x.length <= 1000000) {l : List Int} (hL : ∀ x ∈ l, I64 x) (hl : l.length <= 1000000) : ∃ d, (∃ t a, TrOk w t /\ d = .tup [Zt t, .int .i64 a]) /\ Ok Tryz.prog 11 [Z6 w, dDb db, ZI l] d := by
 refine Ok.ofX (R := fun d => (∃ t a, TrOk w t /\ d = .tup [Zt t, .int .i64 a])) ZY Tryz.func11 QtU (Nat.le_of_ble_eq_true Z) ?_
 show TX _ _ tf11.body _ _
 have hn := hw.len
 refine Zb fun K hK => Zz Z Z Z (Qa Z (Qa Z (hK _ _ (QQ (kp3 Z Z Z) ?_))))
 refine Zb fun K hK => Qa Z (hK _ _ (QQ (kp4 Z Z Z Z) ?_))
 refine XH ?_ -- 0
 refine Zb fun K hK => Qa Z (hK _ _ (QQ (kp5 Z Z Z Z Z) ?_))
 refine Yz ?_
 refine QdC (ι := Nat × List QK) (fun ⟨i, t⟩ => ⟨[(1, dDb db), (2, ZI l), (3, .ref 3 0 0), (8, Zt t), (9, .int .i64 i)], [(3, ⟨[[.sl ((w).map YX)]], 1, 26, true⟩)]⟩) (fun ⟨i, t⟩ => i <= 12 /\ YR w t = true /\ t.length <= i * 1000) (fun ⟨i, t⟩ => 12 - i) (0, []) ?_ ?_ ?_
 ·exact le_trans (Qrf 8 rfl) (Q8 (l := [1, 2, 3, 8, 9]) (lH := [3]) (kp5 rfl rfl rfl rfl rfl) (Qg rfl Qr) rfl rfl rfl)
 ·exact ⟨by decide, rfl, Nat.le_refl _⟩
 intro ⟨i, t⟩ hI
 try dsimp only at hI
 obtain ⟨hI1, hI2, hI3⟩ := hI
 have hrl := QpP hn (db := db) (l := t)
 have hrm : YR w (Qgu w db t).1 = true := Qoy _ hI2
 try dsimp only
 refine XH ?_ -- 1
 refine Zb fun K hK => Qa Z (Qa Z ?_)
 first | refine QS rfl QW ?_ | refine QS rfl rfl ?_
 refine QqL Z Z (Qa Z ?_)
 refine QB (g := 21) Z (fun h1 => ?_) (fun h1 => ?_)
 ·try rw [h1]
  try simp only [qA] at h1
  refine Qh Z (Qa Z (Qh Z (Z9 Z Z (Ql Z Z (hK _ _ (QQ (kp6 Z Z Z Z Z Z) ?_))))))
  refine YS Z (fun h2 => ?_) (fun h2 => ?_)
  ·try rw [h2]
   try simp only [qA] at h2
   refine Xd (Q4 (kp5 Z Z Z Z Z) ?_)
   refine XH ?_ -- 2
   refine Yz (Zb fun K hK => QH (cs := [_]) Z Z Z Z (Qa Z (Qa Z (QF (Qdj hw hd hi (by omega)) Z Z (.inl Z) (Qa Z (Zd Z Z (Zd Z Z (Qa Z (Qa Z (hK _ _ (QQ (kp6 Z Z Z Z Z Z) ?_)))))))))))
   refine Zb fun K hK => Qa Z (Qa Z (hK _ _ (QQ (kp6 Z Z Z Z Z Z) ?_)))
   refine XH ?_ -- 3
   refine Zb fun K hK => Qa Z (Qet Z Z (Qa Z ?_))
   refine QB (g := 37) Z (fun h3 => ?_) (fun h3 => ?_)
   ·try rw [h3]
    try simp only [qA] at h3
    refine Qp Z (Qp Z (Qp Z (Qp Z (Ql Z Z (hK _ _ (QQ (kp7 Z Z Z Z Z Z Z) ?_))))))
    refine QqP Z (Zb fun K hK => Qa Z (Qa Z (Qa Z (Qa Z (hK _ _ (QQ (kp2 Z Z) ?_))))))
    refine Qfc (QaZ (Qu (QaZ (Q9 (Qu (QaZ ?_))))))
    refine ⟨_, ⟨(Qgu w db t).1, (Qgu w db t).2, ⟨hrm, by omega⟩, rfl⟩, ?_⟩
    exact QV rfl rfl ⟨rfl, rfl⟩
   ·try rw [h3]
    try simp only [qA] at h3
    refine Qh Z (Qa Z (Qh Z (Qa Z (Qh Z ?_))))
    first | refine QS rfl QW ?_ | refine QS rfl rfl ?_
    refine Qh Z (ZD Z Z (Ql Z Z (hK _ _ (QQ (kp7 Z Z Z Z Z Z Z) ?_))))
    refine YS Z (fun h4 => ?_) (fun h4 => ?_)
    ·try rw [h4]
     try simp only [qA] at h4
     refine Zb fun K hK => Qa Z (Qa Z (Qa Z (Qa Z (hK _ _ (QQ (kp2 Z Z) ?_)))))
     refine Qfc (QaZ (Qu (QaZ (Q9 (Qu (QaZ ?_))))))
     refine ⟨_, ⟨(Qgu w db t).1, (Qgu w db t).2, ⟨hrm, by omega⟩, rfl⟩, ?_⟩
     exact QV rfl rfl ⟨rfl, rfl⟩
    ·try rw [h4]
     try simp only [qA] at h4
     refine Xd (Q4 (kp5 Z Z Z Z Z) (Zb fun K hK => Qa Z (Qa Z (QL Z Z Z (by omega) (QT (by omega)) Z (QR (ds0 := [1, 0]) Z Z Z Z Z (Qj Z Z (QR (ds0 := [2, 1, 0]) Z Z Z Z Z ?_)))))))
     first | refine QS rfl QW ?_ | refine QS rfl rfl ?_
     refine QX (ds0 := [0]) (Y8 (by omega) (hL _ (List.getElem_mem (by omega)))) Z Z (.inr Z) Z Z (Qa Z (hK _ _ (QQ (kp6 Z Z Z Z Z Z) ?_)))
     refine Zb fun K hK => QH (cs := [_]) Z Z Z Z (Qa Z (Qa Z (QF (Z4 hw (by omega)) Z Z (.inr Z) (QF (Qaa) Z Z (.inl Z) (Qa Z (hK _ _ (QQ (kp7 Z Z Z Z Z Z Z) ?_)))))))
     refine Zb fun K hK => Qa Z (hK _ _ (QQ (kp8 Z Z Z Z Z Z Z Z) ?_))
     refine Yz ?_
     refine QdC (ι := Nat) (fun k => ⟨[(1, dDb db), (2, ZI l), (3, .ref 3 0 0), (8, Zt (Qgu w db t).1), (9, .int .i64 i), (12, .int .i64 (mPl (l[i]'(by omega)) w.length)), (13, ZI (X5 (Ze w (Qgu w db t).1 (mPl (l[i]'(by omega)) w.length)))), (14, .int .i64 k)], [(3, ⟨[[.sl ((w).map YX)]], 1, 26, true⟩)]⟩) (fun k => k <= (X5 (Ze w (Qgu w db t).1 (mPl (l[i]'(by omega)) w.length))).length) (fun k => (X5 (Ze w (Qgu w db t).1 (mPl (l[i]'(by omega)) w.length))).length - k) 0 ?_ ?_ ?_
     ·exact Q8 (l := [1, 2, 3, 8, 9, 12, 13, 14]) (lH := [3]) (kp8 rfl rfl rfl rfl rfl rfl rfl rfl) (Qg rfl Qr) rfl rfl rfl
     ·exact Nat.zero_le _
     intro k hK0
     have hel : (X5 (Ze w (Qgu w db t).1 (mPl (l[i]'(by omega)) w.length))).length <= 17 := QeF _ 17
     have hp0 := QlR (v := l[i]'(by omega)) (n := 7)
     have hp7 := QlQ (v := l[i]'(by omega)) (n := 7) (by omega)
     try dsimp only
     refine XH ?_ -- 4
     refine Zb fun K hK => Qa Z (Qa Z ?_)
     first | refine QS rfl QW ?_ | refine QS rfl rfl ?_
     refine Z9 Z Z (hK _ _ (QQ (kp9 Z Z Z Z Z Z Z Z Z) ?_))
     refine YS Z (fun h5 => ?_) (fun h5 => ?_)
     ·try rw [h5]
      try simp only [qA] at h5
      refine Xd (Q4 (kp8 Z Z Z Z Z Z Z Z) ?_)
      refine XH ?_ -- 5
      refine Yz (Zb fun K hK => QP (ds0 := [5, 4, 3, 2, 1, 0]) (cs := [_]) Z Z Z Z Z Z (Qa Z (Qa Z (Qa Z (Qa Z (Qa Z (Qa Z (QL Z Z Z (by omega) (QT (by omega)) Z (QR (ds0 := [12, 11, 8, 7, 6, 5, 4, 3, 2, 1, 0]) Z Z Z Z Z (QX (ds0 := [11, 8, 7, 6, 5, 4, 3, 2, 1, 0]) (Y8 (by omega) (hL _ (List.getElem_mem (by omega)))) Z Z (.inr Z) Z Z ?_))))))))))
      refine Q2 Z Z (by first | exact Qs (by omega) (by omega) | rfl) (Qa Z ?_)
      first | refine QS rfl QW ?_ | refine QS rfl rfl ?_
      refine QoT Z Z (by omega) (QL Z Z Z (by exact (QiL (by omega) (by omega)).1) (ZA (QiL (by omega) (by omega)).1 (QiL (by omega) (by omega)).2) Z (QR (ds0 := [5, 4, 3, 2, 1, 0]) Z Z Z Z Z (QX (ds0 := [4, 3, 2, 1, 0]) (QbX hw (by omega)) Z Z (.inl Z) Z Z (Qa Z (Zd Z Z (Zd Z Z (Qa Z (Qa Z (hK _ _ (QQ (QmE Z Z Z Z Z Z Z Z Z Z) ?_))))))))))
      refine Zb fun K hK => Qa Z (hK _ _ (QQ (QmE Z Z Z Z Z Z Z Z Z Z) ?_))
      refine YS Z (fun h6 => ?_) (fun h6 => ?_)
      ·try rw [h6]
       try simp only [qA] at h6
       refine Zb fun K hK => Qa Z (Qa Z (hK _ _ (QQ (kp5 Z Z Z Z Z) ?_)))
       refine QbR (Qmn (by decide) (YK (QC (QJ (Qi (Q4 (kp5 Z Z Z Z Z) (ZW fun K hK => Qa Z (Q2 Z Z (by first | exact Qs (by omega) (by omega) | rfl) (Qa Z (hK _ ?_))))))))))
       refine Qm (i + 1, ((YO w (Qgu w db t).1 (mPl (l[i]'(by omega)) w.length) ((X5 (Ze w (Qgu w db t).1 (mPl (l[i]'(by omega)) w.length)))[((k : Int) + (mPl (l[i]'(by omega)) 7)).tmod ((X5 (Ze w (Qgu w db t).1 (mPl (l[i]'(by omega)) w.length))).length : Int) |>.toNat]'(by have := QiL (a := (k : Int) + (mPl (l[i]'(by omega)) 7)) (n := (X5 (Ze w (Qgu w db t).1 (mPl (l[i]'(by omega)) w.length))).length) (by omega) (by omega); omega)))).getD []) ?_ ?_ ?_
       ·exact Q8 (l := [1, 2, 3, 8, 9]) (lH := [3]) (kp5 rfl rfl rfl rfl rfl) (Qg rfl Qr) rfl rfl rfl
       ·exact ⟨by show i + 1 <= 12; omega, Qms hrm (getD_some h6), Nat.le_trans Qmr (by omega)⟩
       ·show 12 - (i + 1) < 12 - i; omega
      ·try rw [h6]
       try simp only [qA] at h6
       refine Xd (Qi (Q4 (kp8 Z Z Z Z Z Z Z Z) (ZW fun K hK => Qa Z (Q2 Z Z (by first | exact Qs (by omega) (by omega) | rfl) (Qa Z (hK _ ?_))))))
       refine Qm (k + 1) ?_ ?_ ?_
       ·exact Q8 (l := [1, 2, 3, 8, 9, 12, 13, 14]) (lH := [3]) (kp8 rfl rfl rfl rfl rfl rfl rfl rfl) (Qg rfl Qr) rfl rfl rfl
       ·show k + 1 <= _; omega
       ·show (X5 (Ze w (Qgu w db t).1 (mPl (l[i]'(by omega)) w.length))).length - (k + 1) < (X5 (Ze w (Qgu w db t).1 (mPl (l[i]'(by omega)) w.length))).length - k; omega
     ·try rw [h5]
      try simp only [qA] at h5
      refine QbR (YK (QC (QJ (Qi (Q4 (kp5 Z Z Z Z Z) (ZW fun K hK => Qa Z (Q2 Z Z (by first | exact Qs (by omega) (by omega) | rfl) (Qa Z (hK _ ?_)))))))))
      refine Qm (i + 1, (Qgu w db t).1) ?_ ?_ ?_
      ·exact Q8 (l := [1, 2, 3, 8, 9]) (lH := [3]) (kp5 rfl rfl rfl rfl rfl) (Qg rfl Qr) rfl rfl rfl
      ·exact ⟨by show i + 1 <= 12; omega, hrm, by show (Qgu w db t).1.length <= (i + 1) * 1000; omega⟩
      ·show 12 - (i + 1) < 12 - i; omega
  ·try rw [h2]
   try simp only [qA] at h2
   refine QbR (YK (QC (QJ (Q4 (kp1 Z) (Zb fun K hK => Qa Z (Qa Z (Qa Z (hK _ _ (QQ (kp2 Z Z) ?_)))))))))
   refine Qfc ?_
   refine ⟨_, ⟨t, -1, ⟨hI2, by omega⟩, rfl⟩, ?_⟩
   exact QV rfl rfl ⟨rfl, rfl⟩
 ·try rw [h1]
  try simp only [qA] at h1
  refine Qp Z (Qp Z (Ql Z Z (hK _ _ (QQ (kp6 Z Z Z Z Z Z) ?_))))
  refine Qkj Z (QbR (YK (QC (QJ (Q4 (kp1 Z) (Zb fun K hK => Qa Z (Qa Z (Qa Z (hK _ _ (QQ (kp2 Z Z) ?_))))))))))
  refine Qfc ?_
  refine ⟨_, ⟨t, -1, ⟨hI2, by omega⟩, rfl⟩, ?_⟩
  exact QV rfl rfl ⟨rfl, rfl⟩
end Go.Proofs
namespace M25
open Go Go.Abs M3
/-! ### What every program says -/
/-! ### A world's facts, and more -/
end M25
namespace M25
open Go Go.Abs M3
/-! ### What a run is: steps, one open after the other -/
inductive Qm7 (w : Qq) (db : List (List TermT)) : List QK -> List QK -> Prop
 | nil (l : List QK) : Qm7 w db l l
 | cons {l x : List QK} (a k : Nat) (ho : QrV w db l a k) (h : Qm7 w db (l ++ [QtO w l ((db[a]'ho.ha)[k]'ho.hk) a]) x) : Qm7 w db l x
section
variable {w : Qq} {db : List (List TermT)}
def Below (w : Qq) (b l : List QK) : Prop := ∀ u i, tb (Ze w b u) i = true -> tb (Ze w l u) i = true
theorem Below.refl (l : List QK) : Below w l l := fun _ _ h => h
/-! ### Sound: a choice stays -/
end
end M25
namespace M25
open Go Go.Abs M3
end M25
namespace Go.Proofs
open Go Go.Abs M3 M25
set_option linter.unusedVariables false
set_option linter.unusedSimpArgs false
end Go.Proofs
namespace M25
open Go Go.Abs M3
/-! ### Powers of two -/
theorem QkO : ∀ (n : Nat), n ≠ 0 -> n &&& (n - 1) = 0 -> ∃ k, n = 2 ^ k := by
 intro n
 induction n using Nat.strongRecOn with
 | ind n ih =>
  intro h0 h
  have hd : (n &&& (n - 1)) / 2 = n / 2 &&& (n - 1) / 2 := Nat.and_div_two
  rw [h] at hd
  rcases Nat.mod_two_eq_zero_or_one n with e | e
  ·have h1 : (n - 1) / 2 = n / 2 - 1 := by omega
   rw [h1] at hd
   obtain ⟨k, hk⟩ := ih (n / 2) (by omega) (by omega) hd.symm
   exact ⟨k + 1, by rw [Nat.pow_succ]; omega⟩
  ·have h1 : (n - 1) / 2 = n / 2 := by omega
   rw [h1, Nat.and_self] at hd
   exact ⟨0, by simp; omega⟩
theorem Qkk (k : Nat) : 2 ^ k &&& (2 ^ k - 1) = 0 := by
 refine Nat.eq_of_testBit_eq fun i => ?_
 rw [Nat.testBit_and, Nat.testBit_two_pow, Nat.testBit_two_pow_sub_one, Nat.zero_testBit]
 by_cases h : k = i
 ·subst h; simp
 ·simp [h]
theorem Qli {n m : Nat} (hn : n < 9223372036854775808) (hm : m < 9223372036854775808) : XG (n : Int) (m : Int) = ((n &&& m : Nat) : Int) := by
 have h := Nat.and_le_left (n := n) (m := m)
 refine QhJ (Qid _ _) ⟨by omega, by omega⟩ fun i => ?_
 rw [Qj7]
 by_cases hi : i < 64
 ·rw [QhK _ hi, QhK _ hi, QhK _ hi, Nat.testBit_and]
 ·rw [QmW _ (by omega), QmW _ (by omega), QmW _ (by omega)]; rfl
def mOne (m : Int) : Bool := decide (1 < m) && decide (XG m (m - 1) = 0)
theorem Qrp {m : Int} (h : Lo m) : mOne m = true ↔ ∃ k, 1 <= k /\ k < 17 /\ m = 2 ^ k := by
 obtain ⟨n, rfl⟩ := Int.eq_ofNat_of_zero_le h.1
 have h2 := h.2
 unfold mOne
 simp only [Bool.and_eq_true, decide_eq_true_eq]
 constructor
 ·rintro ⟨h1, hb⟩
  rw [show (n : Int) - 1 = ((n - 1 : Nat) : Int) by omega, Qli (by omega) (by omega)] at hb
  obtain ⟨k, hk⟩ := QkO n (by omega) (by omega)
  have h17 : (2 : Nat) ^ 17 = 131072 := by decide
  refine ⟨k, ?_, ?_, by rw [hk]; simp⟩
  ·cases k with
   | zero => simp at hk; omega
   | succ k => omega
  ·refine Classical.byContradiction fun hn => ?_
   have := Nat.pow_le_pow_right (show 0 < 2 by omega) (show 17 <= k by omega)
   omega
 ·rintro ⟨k, h1, h3, hk⟩
  have e : n = 2 ^ k := by
   have : ((2 ^ k : Nat) : Int) = (2 : Int) ^ k := by simp
   omega
  have h4 : 2 ^ 1 <= 2 ^ k := Nat.pow_le_pow_right (by omega) h1
  refine ⟨by omega, ?_⟩
  rw [show (n : Int) - 1 = ((n - 1 : Nat) : Int) by omega, Qli (by omega) (by omega), e, Qkk]; rfl
theorem Qhb {k : Nat} (hk : k < 64) : ∀ n, n <= 64 -> Yb (2 ^ k) n = if k < n then [(k : Int) - 1] else []
 | 0, _ => by rw [if_neg (by omega)]; rfl
 | n + 1, hn => by
  rw [Yb, Qhb hk n (by omega)]
  have hb := QhT (x := (2 : Int) ^ k) (k := n) (by omega)
  rw [Qde hk] at hb
  by_cases e : n = k
  ·subst e
   rw [if_neg (by omega), if_neg (by rw [hb]; simp), if_pos (by omega)]; rfl
  ·rw [if_pos (hb.2 (decide_eq_false e)), List.append_nil]
   by_cases h : k < n
   ·rw [if_pos h, if_pos (by omega)]
   ·rw [if_neg h, if_neg (by omega)]
theorem QgB {k : Nat} (hk : k < 17) : Yq (2 ^ k) = (k : Int) - 1 := by
 rw [Yq, X5, Qhb (by omega) 17 (by omega), if_pos hk]; rfl
theorem QeG {m x : Int} : ∀ n, n <= 64 -> (x ∈ Yb m n ↔ ∃ k, k < n /\ tb m k = true /\ x = (k : Int) - 1)
 | 0, _ => by simp [Yb]
 | n + 1, hn => by
  rw [Yb, List.mem_append, QeG n (by omega)]
  have hb := QhT (x := m) (k := n) (by omega)
  constructor
  ·rintro (⟨k, h1, h2, h3⟩ | h)
   ·exact ⟨k, by omega, h2, h3⟩
   ·split at h
    ·cases h
    ·rename_i hn2
     simp only [List.mem_singleton] at h
     refine ⟨n, by omega, ?_, h⟩
     cases ht : tb m n
     ·exact absurd (hb.2 ht) hn2
     ·rfl
  ·rintro ⟨k, h1, h2, h3⟩
   by_cases e : k = n
   ·subst e
    right
    rw [if_neg (by rw [hb, h2]; simp), h3]; simp
   ·exact .inl ⟨k, by omega, h2, h3⟩
theorem Ql2 : ∀ {l : List Int}, 0 <= QmL l -> ∃ x, l = [x] /\ 0 <= x
 | [], h => by simp [QmL] at h
 | [x], h => ⟨x, rfl, h⟩
 | _ :: _ :: _, h => by simp [QmL] at h
theorem QjN {m : Int} (h : Lo m) : 0 <= Yq m ↔ ∃ k, 1 <= k /\ k < 17 /\ m = 2 ^ k := by
 constructor
 ·intro hp
  obtain ⟨x, hx, h0⟩ := Ql2 hp
  have hm := QeG (m := m) (x := x) 17 (by omega)
  rw [<- X5, hx] at hm
  obtain ⟨k, h1, h2, h3⟩ := hm.1 (by simp)
  refine ⟨k, by omega, h1, QhJ h.i64 (QlK (by omega)).i64 fun i => ?_⟩
  rw [Qde (by omega)]
  by_cases e : i = k
  ·subst e; simp [h2]
  ·rw [decide_eq_false e]
   cases hi : tb m i
   ·rfl
   ·exfalso
    have hi17 : i < 17 := Classical.byContradiction fun hn => by rw [h.hi (by omega)] at hi; cases hi
    have := (QeG (m := m) (x := (i : Int) - 1) 17 (by omega)).2 ⟨i, hi17, hi, rfl⟩
    rw [<- X5, hx, List.mem_singleton] at this
    omega
 ·rintro ⟨k, h1, h2, rfl⟩
  rw [QgB h2]; omega
theorem Qsq {m : Int} (h : Lo m) : mOne m = decide (0 <= Yq m) := by
 rw [Bool.eq_iff_iff, Qrp h, decide_eq_true_eq, QjN h]
/-! ### Qm7 that may be: the program's -/
def mFits (w : Qq) (l : List QK) (s : QK) : Bool :=
 if YC w s.u = 0 \/ s.c < -1 \/ s.m = 0 \/ ¬ QiR s.m (QaW w l s.u) = 0 then false
 else if s.c = -1 then mOne s.m && !Ym l s.u && decide (s.l = IntKind.i64.wrap (ZV l + 1))
 else !decide (s.m = QaW w l s.u) && decide (s.l = ZV l)
theorem Qq8 {w : Qq} {l : List QK} {s : QK} (hl : QdB w l) (hs : I64 s.m) : mFits w l s = Qak w l s := by
 unfold mFits
 by_cases h1 : YC w s.u = 0
 ·rw [if_pos (.inl h1)]
  rw [X2] at h1
  unfold Qak; rw [h1]; rfl
 ·have hin : inW w s.u = true := by
   cases e : inW w s.u
   ·exact absurd (X2.2 e) h1
   ·rfl
  rw [Qil hin]
  have hi := Qa3.1 hin
  by_cases h2 : s.c < -1
  ·rw [if_pos (.inr (.inl h2)), Xl (.inr (.inr h2))]
  ·rw [Z2 hi.1 hi.2 (by omega)]
   have hlo := Qds hl s.u
   have hb : QiR s.m (Ze w l s.u) = 0 ↔ XG s.m (Ze w l s.u) = s.m := not_zero.trans (Xp hs).symm
   by_cases h4 : QiR s.m (Ze w l s.u) = 0
   ·have hlm : Lo s.m := QeL (hb.1 h4) hlo
    rw [decide_eq_true (hb.1 h4), Bool.true_and]
    by_cases h3 : s.m = 0
    ·rw [if_pos (.inr (.inr (.inl h3)))]
     rw [h3]
     split
     ·have : Yq 0 = -1 := by decide
      rw [this]; rfl
     ·simp
    ·rw [if_neg (by simp [h1, h2, h3, h4])]
     split
     ·rw [Qsq hlm]
     ·rw [decide_eq_false h3]; rfl
   ·rw [if_pos (.inr (.inr (.inr h4))), decide_eq_false (fun e => h4 (hb.2 e))]; rfl
def Qjl (w : Qq) (l : List QK) (i : Nat) : Bool := match l[i]? with
 | some s => mFits w (l.take i) s
 | none => true
theorem Qf4 {w : Qq} {l : List QK} {i : Nat} (h : i < l.length) : Qjl w l i = mFits w (l.take i) l[i] := by
 rw [Qjl, List.getElem?_eq_getElem h]
def Qpy (w : Qq) (l : List QK) : Bool := (List.range l.length).all (Qjl w l)
theorem QjG {w : Qq} {l : List QK} (hI : ∀ s ∈ l, I64 s.m) : ∀ n, n <= l.length -> (List.range n).all (Qjl w l) = YR w (l.take n)
 | 0, _ => rfl
 | n + 1, hn => by
  have ih := QjG (w := w) hI n (by omega)
  rw [List.range_succ, List.all_append, ih, List.take_succ_eq_append_getElem (by omega), XA]
  cases hm : YR w (l.take n)
  ·rfl
  ·simp only [List.all_cons, List.all_nil, Bool.and_true, Bool.true_and]
   rw [Qf4 (by omega), Qq8 (Qau _ _ rfl hm) (hI _ (List.getElem_mem _))]
theorem QlU {w : Qq} {l : List QK} (hI : ∀ s ∈ l, I64 s.m) : Qpy w l = YR w l := by
 rw [Qpy, QjG hI l.length (Nat.le_refl _), List.take_length]
/-! ### Deciding -/
def Xf (w : Qq) (l : List QK) (u p : Int) : Option (List QK) := match uAt w u with
 | none => none
 | some x => if p < 0 \/ (x.cs.length : Int) <= p then none
  else if XG (Ze w l u) (2 ^ (p + 1).toNat) = 0 \/ Ym l u = true then none else some (l ++ [⟨u, 2 ^ (p + 1).toNat, IntKind.i64.wrap (ZV l + 1), -1⟩])
theorem Qsb {p : Int} (h0 : 0 <= p) (h1 : p < 16) : IntKind.i64.wrap (2 * 2 ^ min p.toNat 64) = 2 ^ (p + 1).toNat := by
 rw [show min p.toNat 64 = p.toNat by omega, show (p + 1).toNat = p.toNat + 1 by omega, Int.pow_succ, Int.mul_comm]
 have := QlK (k := p.toNat + 1) (by omega)
 rw [Int.pow_succ] at this
 exact Qif this.i64
theorem Qbe {w : Qq} (hw : ∀ u ∈ w, u.cs.length <= 16) {l : List QK} (hl : QdB w l) (u p : Int) : Xf w l u p = YO w l u p := by
 unfold Xf YO
 cases hu : uAt w u with
 | none => rfl
 | some x =>
  simp only
  by_cases hp : p < 0 \/ (x.cs.length : Int) <= p
  ·rw [if_pos hp, if_pos hp]
  ·rw [if_neg hp, if_neg hp]
   have hux : 0 <= u /\ u < w.length /\ x ∈ w := by
    unfold uAt at hu
    split at hu
    ·cases hu
    ·have := (List.getElem?_eq_some_iff.1 hu).1
     exact ⟨by omega, by omega, List.mem_of_getElem? hu⟩
   have hx := hw x hux.2.2
   rw [Qsb (by omega) (by omega)]
   have hk : (p + 1).toNat < 17 := by omega
   have hlm : Lo ((2 : Int) ^ (p + 1).toNat) := QlK (by omega)
   rw [Z2 hux.1 hux.2.1 (by show (-1 : Int) <= -1; omega)]
   simp only [if_true]
   have hb : XG (Ze w l u) (2 ^ (p + 1).toNat) = 0 ↔ tb (Ze w l u) (p + 1).toNat = false := QhT (by omega)
   have hb2 : XG (2 ^ (p + 1).toNat) (Ze w l u) = 2 ^ (p + 1).toNat ↔ tb (Ze w l u) (p + 1).toNat = true := by
    rw [Xp hlm.i64]
    constructor
    ·intro h; exact h _ (by rw [Qde (by omega)]; simp)
    ·intro h i hi
     rw [Qde (by omega)] at hi
     rw [of_decide_eq_true hi]; exact h
   have hpl : decide (0 <= Yq (2 ^ (p + 1).toNat)) = true := by rw [decide_eq_true_eq, QgB hk]; omega
   rw [hpl]
   cases ht : tb (Ze w l u) (p + 1).toNat
   ·rw [if_pos (.inl (hb.2 ht)), if_neg (by rw [decide_eq_false (by rw [hb2, ht]; simp)]; simp)]
   ·have h1 : ¬ XG (Ze w l u) (2 ^ (p + 1).toNat) = 0 := by rw [hb, ht]; simp
    cases hd : Ym l u
    ·rw [if_neg (by simp [h1]), decide_eq_true (hb2.2 ht)]; simp
    ·rw [if_pos (.inr rfl)]; simp
end M25
namespace M25
open Go Go.Abs M3
/-! ### Back, Sure, When -/
/-! ### What valid trails are -/
theorem QkI {w : Qq} : ∀ (n : Nat) {l : List QK}, YR w l = true -> YR w (l.take n) = true := by
 intro n l
 by_cases hn : l.length <= n
 ·intro h; rw [List.take_of_length_le hn]; exact h
 ·intro h
  have hall : ∀ (k : Nat) (l : List QK), YR w l = true -> l.length <= n + k -> YR w (l.take n) = true := by
   intro k
   induction k with
   | zero => intro l h hl; rw [List.take_of_length_le (by omega)]; exact h
   | succ k ih =>
    intro l h hl
    by_cases hn : l.length <= n
    ·rw [List.take_of_length_le hn]; exact h
    ·have hne : l ≠ [] := by intro e; subst e; simp at hn
     have e := (List.dropLast_concat_getLast hne).symm
     rw [e, XA, Bool.and_eq_true] at h
     have := ih l.dropLast h.1 (by simp; omega)
     rw [e, List.take_append_of_le_length (by simp; omega)]
     exact this
  exact hall l.length l h (by omega)
theorem Qn9 {w : Qq} {l : List QK} {i : Nat} (h : YR w l = true) (hi : i < l.length) : Qak w (l.take i) l[i] = true := by
 have := QkI (i + 1) h
 rw [List.take_succ_eq_append_getElem hi, XA, Bool.and_eq_true] at this
 exact this.2
theorem QpV {w : Qq} {l : List QK} {s : QK} (h : Qak w l s = true) {i : Nat} (hi : tb s.m i = true) : tb (Ze w l s.u) i = true := by
 have h1 := Qj5 h
 have : tb (XG s.m (Ze w l s.u)) i = true := by rw [h1]; exact hi
 rw [Qj7, Bool.and_eq_true] at this
 exact this.2
theorem Qrz {w : Qq} {l : List QK} {s : QK} (h : Qak w l s = true) : s.m ≠ 0 := by
 intro h0
 unfold Qak at h
 rw [Bool.and_eq_true] at h
 have h2 := h.2
 split at h2
 ·rw [h0, show Yq 0 = -1 from by decide] at h2; simp at h2
 ·rw [h0] at h2; simp at h2
theorem QnW {w : Qq} {l : List QK} (h : YR w l = true) {n k : Nat} (hnk : n <= k) {u : Int} {i : Nat} (hi : tb (Ze w (l.take k) u) i = true) : tb (Ze w (l.take n) u) i = true := by
 have key : ∀ d, tb (Ze w (l.take (n + d)) u) i = true -> tb (Ze w (l.take n) u) i = true := by
  intro d
  induction d with
  | zero => exact fun h => h
  | succ d ih =>
   intro hi
   refine ih ?_
   by_cases hl : n + d < l.length
   ·rw [show n + (d + 1) = n + d + 1 by omega, List.take_succ_eq_append_getElem hl, X3] at hi
    split at hi
    ·rename_i hu
     have := QpV (Qn9 h hl) hi
     rw [hu.1] at this; exact this
    ·exact hi
   ·rw [List.take_of_length_le (by omega)] at hi ⊢; exact hi
 exact key (k - n) (by rw [show n + (k - n) = k by omega]; exact hi)
theorem Qrg {w : Qq} {l : List QK} (h : YR w l = true) {u : Int} (hu : inW w u = true) : Ze w l u ≠ 0 := by
 have key : ∀ n, Ze w (l.take n) u ≠ 0 := by
  intro n
  induction n with
  | zero =>
   show YC w u ≠ 0
   intro e; rw [X2, hu] at e; cases e
  | succ n ih =>
   by_cases hl : n < l.length
   ·rw [List.take_succ_eq_append_getElem hl, X3]
    split
    ·exact Qrz (Qn9 h hl)
    ·exact ih
   ·rw [List.take_of_length_le (by omega)] at ih ⊢; exact ih
 have := key l.length
 rwa [List.take_length] at this
def Qdf (w : Qq) (l : List QK) (inc : List TermT) : Nat -> Nat -> Int
 | 0, _ => -1
 | r + 1, n => if Qdu w (l.take n) inc = true then n else Qdf w l inc r (n + 1)
def Qiw (w : Qq) (l : List QK) (inc : List TermT) : Int := Qdf w l inc (l.length + 1) 0
theorem Qp3 {w : Qq} {l : List QK} {inc : List TermT} {n : Nat} (hn : n < l.length + 1) (hs : Qdu w (l.take n) inc = true) (h : Qiw w l inc = Qdf w l inc (l.length + 1 - n) n) : Qiw w l inc = n := by
 rw [h, show l.length + 1 - n = (l.length - n) + 1 by omega, Qdf, if_pos hs]
theorem QrF {w : Qq} {l : List QK} {inc : List TermT} {n : Nat} (hn : n < l.length + 1) (hs : Qdu w (l.take n) inc = false) (h : Qiw w l inc = Qdf w l inc (l.length + 1 - n) n) : Qiw w l inc = Qdf w l inc (l.length + 1 - (n + 1)) (n + 1) := by
 rw [h, show l.length + 1 - n = (l.length - n) + 1 by omega, Qdf, if_neg (by rw [hs]; simp), show l.length + 1 - (n + 1) = l.length - n by omega]
theorem Qp2 {w : Qq} {l : List QK} {inc : List TermT} {n : Nat} (hn : l.length + 1 <= n) (h : Qiw w l inc = Qdf w l inc (l.length + 1 - n) n) : Qiw w l inc = -1 := by
 rw [h, show l.length + 1 - n = 0 by omega, Qdf]
def QaT (w : Qq) (l : List QK) (inc : List TermT) (n : Nat) : List Int := inc.map fun t => Ze w (l.take n) t.u
theorem Yt (w : Qq) (l : List QK) (inc : List TermT) (n : Nat) : (QaT w l inc n).length = inc.length := by simp [QaT]
def Qb1 (w : Qq) (l : List QK) (inc : List TermT) (n k : Nat) : List Int := (QaT w l inc n).take k ++ (QaT w l inc (n - 1)).drop k
theorem QfA {w : Qq} {l : List QK} {inc : List TermT} {n k : Nat} (hk : k <= inc.length) : (Qb1 w l inc n k).length = inc.length := by
 simp [Qb1, Yt]; omega
theorem QjI (w : Qq) (l : List QK) (inc : List TermT) (n : Nat) : Qb1 w l inc n 0 = QaT w l inc (n - 1) := by simp [Qb1]
theorem QlX {w : Qq} {l : List QK} {inc : List TermT} {n k : Nat} (hk : inc.length <= k) : Qb1 w l inc n k = QaT w l inc n := by
 rw [Qb1, List.take_of_length_le (by rw [Yt]; exact hk), List.drop_eq_nil_of_le (by rw [Yt]; exact hk), List.append_nil]
theorem QkJ {w : Qq} {l : List QK} {inc : List TermT} {n k : Nat} (hk : k < inc.length) (h : k < (Qb1 w l inc n k).length) : (Qb1 w l inc n k)[k] = Ze w (l.take (n - 1)) inc[k].u := by
 simp only [Qb1]
 rw [List.getElem_append_right (by simp [Yt]; omega)]
 simp [QaT, Yt, List.length_take, Nat.min_eq_left (show k <= inc.length by omega)]
theorem Qob {w : Qq} {l : List QK} {inc : List TermT} {n k : Nat} (hk : k < inc.length) : Qb1 w l inc n (k + 1) = (Qb1 w l inc n k).set k (Ze w (l.take n) inc[k].u) := by
 have h1 : k < (QaT w l inc n).length := by rw [Yt]; exact hk
 have h2 : k < (QaT w l inc (n - 1)).length := by rw [Yt]; exact hk
 rw [Qb1, Qb1, List.take_succ_eq_append_getElem h1, List.drop_eq_getElem_cons h2]
 rw [List.set_append_right _ _ (by simp [Yt]; omega)]
 simp [Yt, Nat.min_eq_left (show k <= inc.length by omega), QaT]
theorem Qgw {w : Qq} {l : List QK} {inc : List TermT} {n k : Nat} (hk : k < inc.length) (h : Ze w (l.take n) inc[k].u = Ze w (l.take (n - 1)) inc[k].u) : Qb1 w l inc n (k + 1) = Qb1 w l inc n k := by
 rw [Qob hk, h, <- QkJ hk (by rw [QfA (by omega)]; exact hk), List.set_getElem_self]
theorem Qgj {w : Qq} {l : List QK} {n : Nat} (h0 : 0 < n) (hn : n <= l.length) (u : Int) : Ze w (l.take n) u = if (l[n - 1]'(by omega)).u = u /\ inW w u = true then (l[n - 1]'(by omega)).m else Ze w (l.take (n - 1)) u := by
 rw [QcB (k := n - 1) (by omega) (by omega), X3]
theorem QoN {w : Qq} {l : List QK} (h : YR w l = true) {n : Nat} {u : Int} : Ze w (l.take n) u = 0 ↔ inW w u = false := by
 constructor
 ·intro e
  cases hu : inW w u
  ·rfl
  ·exact absurd e (Qrg (QkI n h) hu)
 ·exact Qim
/-! ### Levels -/
theorem QlG {w : Qq} : ∀ (n : Nat) {l : List QK}, l.length = n -> n <= 1000000 -> YR w l = true -> 0 <= ZV l /\ ZV l <= n /\ ∀ s ∈ l, s.l <= ZV l
 | 0, l, hl, _, _ => by rw [List.eq_nil_of_length_eq_zero hl]; exact ⟨Int.le_refl _, Int.le_refl _, by simp⟩
 | n + 1, l, hl, hn, h => by
  have hne : l ≠ [] := by intro e; subst e; simp at hl
  have e := (List.dropLast_concat_getLast hne).symm
  rw [e, XA, Bool.and_eq_true] at h
  obtain ⟨h1, h2, h3⟩ := QlG n (l := l.dropLast) (by simp [hl]) (by omega) h.1
  have hlv : ZV l = (l.getLast hne).l := by rw [ZV, List.getLast?_eq_some_getLast hne]
  have hs := h.2
  unfold Qak at hs
  rw [Bool.and_eq_true] at hs
  have hs2 := hs.2
  have hw : IntKind.i64.wrap (ZV l.dropLast + 1) = ZV l.dropLast + 1 := Qs (by omega) (by omega)
  have hx : (l.getLast hne).l = ZV l.dropLast + 1 \/ (l.getLast hne).l = ZV l.dropLast := by
   split at hs2
   ·simp only [Bool.and_eq_true, decide_eq_true_eq] at hs2
    rw [hw] at hs2; exact .inl hs2.2
   ·simp only [Bool.and_eq_true, decide_eq_true_eq] at hs2
    exact .inr hs2.2
  refine ⟨by omega, by omega, fun s hs => ?_⟩
  rw [e] at hs
  rcases List.mem_append.1 hs with hs | hs
  ·have := h3 s hs; omega
  ·simp only [List.mem_singleton] at hs; subst hs; omega
theorem QkD (l : List QK) (s : QK) : ZV (l ++ [s]) = s.l := by rw [ZV, List.getLast?_concat]
end M25
namespace M25
open Go Go.Abs M3
def Qqp {α : Type} (p : α -> Bool) (l : List α) : Int := match l.findIdx? p with
 | some i => i
 | none => -1
theorem QdY {α : Type} {p : α -> Bool} {l : List α} {i : Nat} (h : i < l.length) (ha : (l.take i).any p = false) (hp : p l[i] = true) : Qqp p l = i := by
 have e : l.findIdx? p = some i := by
  rw [List.findIdx?_eq_some_iff_getElem]
  refine ⟨h, hp, fun j hj => ?_⟩
  have := List.any_eq_false.1 ha l[j] (by
   rw [List.mem_take_iff_getElem]
   exact ⟨j, by omega, rfl⟩)
  simpa using this
 rw [Qqp, e]
theorem Qsf {α : Type} {p : α -> Bool} {l : List α} {i : Nat} (h : l.length <= i) (ha : (l.take i).any p = false) : Qqp p l = -1 := by
 have e : l.findIdx? p = none := by
  rw [List.findIdx?_eq_none_iff]
  rw [List.take_of_length_le h] at ha
  intro x hx
  simpa using List.any_eq_false.1 ha x hx
 rw [Qqp, e]
theorem Qra {α : Type} (p : α -> Bool) (l : List α) : decide (Qqp p l >= 0) = l.any p := by
 cases e : l.findIdx? p with
 | none =>
  rw [Qqp, e]
  rw [List.findIdx?_eq_none_iff] at e
  have : l.any p = false := List.any_eq_false.2 fun x hx => by simpa using e x hx
  rw [this]; rfl
 | some i =>
  rw [Qqp, e]
  rw [List.findIdx?_eq_some_iff_getElem] at e
  obtain ⟨h, hp, _⟩ := e
  rw [QhP h hp]
  simp
theorem QiN {w : Qq} {u : Int} (h0 : 0 <= u) (h1 : u < w.length) : uAt w u = some (w[u.toNat]'(by omega)) := by
 rw [uAt, if_neg (by omega), List.getElem?_eq_getElem]
theorem Qo8 {w : Qq} {l : List QK} {u p : Int} (h : YC w u = 0) : Xf w l u p = none := by
 have h2 : uAt w u = none := by
  have hi := X2.1 h
  rw [uAt]
  split
  ·rfl
  ·refine List.getElem?_eq_none ?_
   apply Classical.byContradiction
   intro hn
   rw [Qgc (by omega) (by omega)] at hi
   cases hi
 rw [Xf, h2]
theorem Qo7 {w : Qq} {l : List QK} {u p : Int} (h : p < 0) : Xf w l u p = none := by
 rw [Xf]
 split
 ·rfl
 ·rw [if_pos (.inl h)]
theorem Qo6 {w : Qq} {l : List QK} {u p : Int} (h0 : 0 <= u) (h1 : u < w.length) (h : ((w[u.toNat]'(by omega)).cs.length : Int) <= p) : Xf w l u p = none := by
 rw [Xf, QiN h0 h1]; exact if_pos (.inr h)
theorem Qnl {w : Qq} {l : List QK} {u p : Int} (h0 : 0 <= u) (h1 : u < w.length) (h2 : 0 <= p) (h3 : p < (w[u.toNat]'(by omega)).cs.length) (h : XG (Ze w l u) (2 ^ (p + 1).toNat) = 0 \/ Ym l u = true) : Xf w l u p = none := by
 rw [Xf, QiN h0 h1]; dsimp only; rw [if_neg (by omega), if_pos h]
theorem Qo9 {w : Qq} {l : List QK} {u p : Int} (h0 : 0 <= u) (h1 : u < w.length) (h2 : 0 <= p) (h3 : p < (w[u.toNat]'(by omega)).cs.length) (h4 : ¬ XG (Ze w l u) (2 ^ (p + 1).toNat) = 0) (h5 : Ym l u = false) :
  Xf w l u p = some (l ++ [⟨u, 2 ^ (p + 1).toNat, IntKind.i64.wrap (ZV l + 1), -1⟩]) := by
 rw [Xf, QiN h0 h1]; dsimp only; rw [if_neg (by omega), if_neg (by simp [h4, h5])]
theorem Qr5 {w : Qq} {l : List QK} {u : Int} (h : inW w u = true) (m : Int) : XG (QaW w l u) m = XG (Ze w l u) m := by rw [Qil h]
theorem Qq9 {w : Qq} {u : Int} (h : ¬ YC w u = 0) : inW w u = true /\ 0 <= u /\ u < w.length := by
 have e : inW w u = true := by
  cases e : inW w u
  ·exact absurd (X2.2 e) h
  ·rfl
 exact ⟨e, Qa3.1 e⟩
/-! ### The first row of lefts -/
def Qfh (w : Qq) (inc : List TermT) (i : Nat) : List Int := (inc.take i).map (fun t => YC w t.u) ++ List.replicate (inc.length - i) 0
theorem QnC (w : Qq) (inc : List TermT) {i : Nat} (h : i <= inc.length) : (Qfh w inc i).length = inc.length := by simp [Qfh]; omega
theorem Qhg (w : Qq) (inc : List TermT) : Qfh w inc 0 = List.replicate inc.length 0 := by simp [Qfh]
theorem Qjk {w : Qq} {inc : List TermT} {i : Nat} (h : inc.length <= i) (l : List QK) : Qfh w inc i = QaT w l inc 0 := by
 rw [Qfh, List.take_of_length_le h, show inc.length - i = 0 by omega, List.replicate_zero, List.append_nil]
 refine List.map_congr_left fun t _ => ?_
 rw [List.take_zero]; rfl
theorem Qlv {w : Qq} {inc : List TermT} {i : Nat} (h : i < inc.length) : Qfh w inc (i + 1) = (Qfh w inc i).set i (YC w inc[i].u) := by
 rw [Qfh, Qfh, List.set_append_right _ _ (by simp; omega), List.take_succ_eq_append_getElem h, List.map_append, show inc.length - i = (inc.length - (i + 1)) + 1 by omega, List.replicate_succ]
 simp [List.length_take, Nat.min_eq_left (Nat.le_of_lt h)]
end M25
namespace Go.Proofs
open Go Go.Abs M3 M25
set_option linter.unusedVariables false
set_option linter.unusedSimpArgs false
theorem Z5 {l : List QK} {f : Nat} {caps : List D} {p : QK -> Bool} (hl : l.length <= 10000000) (hcc : caps.all D.capOk = true) (hca : ∀ s : St, caps.map (Qbp s) = caps) (hcb : ∀ H, caps.map (D.fzS H Qer) = caps) (hf : ∀ x ∈ l, Ok Tryz.prog f (.agg (QdQ x) :: caps) (.bool (p x))) : Ok Tryz.prog 63 [Zt l, .clo f caps] (.int .i64 (Qqp p l)) := by
 refine Ok.ofT ZY Tryz.func63 Quw (Nat.le_of_ble_eq_true Z) ?_
 show TW _ _ tf63.body _ _
 refine Qf fun K hK => Qa Z (hK _ _ (Qb (kp2 Z Z) ?_))
 refine QE ?_ -- 0
 refine Qf fun K hK => Qa Z ?_
 first | refine QS rfl QW ?_ | refine QS rfl rfl ?_
 refine Qa Z (hK _ _ (Qb (kp4 Z Z Z Z) ?_))
 refine QD ?_
 refine Zs (ι := Nat) (fun i => ⟨[(0, Zt l), (1, .clo f caps), (7, .int .i64 l.length), (8, .int .i64 i)], []⟩) (fun i => i <= l.length /\ (l.take i).any p = false) (fun i => l.length - i) 0 ?_ ?_ ?_
 ·exact Zk (kp4 rfl rfl rfl rfl)
 ·exact ⟨Nat.zero_le _, by simp⟩
 intro i hI
 try dsimp only
 refine Qf fun K hK => Z9 Z Z (hK _ _ (Qb (kp5 Z Z Z Z Z) ?_))
 refine QE ?_ -- 1
 refine Qx Z (fun h1 => ?_) (fun h1 => ?_)
 ·try rw [h1]
  try simp only [qA] at h1
  refine Qw (Qe (kp4 Z Z Z Z) ?_)
  refine QE ?_ -- 2
  refine QD (Qf fun K hK => Qa Z (Qa Z (hK _ _ (Qb (kp5 Z Z Z Z Z) ?_))))
  refine Qf fun K hK => Qa Z (Qa Z (Qa Z (QL Z Z Z (by omega) (QT (by omega)) Z (QH (cs := [_, _, _, _]) Z Z Z Z (QqJ Z hcc Z (hf _ (List.getElem_mem (show i < l.length by omega))) (by rw [List.map_append, hca]; rfl) (.inr Z) (hK _ _ (Qb (kp6 Z Z Z Z Z Z) ?_)))))))
  refine Qx Z (fun h2 => ?_) (fun h2 => ?_)
  ·try rw [h2]
   try simp only [qA] at h2
   refine Qf fun K hK => Qa Z (Qa Z (hK _ _ (Qb (kp1 Z) ?_)))
   refine Qv (Qu (Qk (Q9 (Qu (Qk (QA Z ?_))))))
   rw [QdY (i := i) (by omega) hI.2 h2]
  ·try rw [h2]
   try simp only [qA] at h2
   refine Qw (Qi (Qe (kp4 Z Z Z Z) (QO fun K hK => Q2 Z Z (by first | exact Qs (by omega) (by omega) | exact Zh (by omega) (by omega) | exact Zr (by omega) (by omega) | rfl) (Qa Z (hK _ ?_)))))
   refine Qm (i + 1) ?_ ?_ ?_
   ·exact Zk (kp4 rfl rfl rfl rfl)
   ·exact ⟨by omega, Qg5 (by omega) hI.2 h2⟩
   ·first | omega | (simp only; omega) | (dsimp only; omega)
 ·try rw [h1]
  try simp only [qA] at h1
  refine Zl (QN (QC (QJ (Qe (Q7) (Qf fun K hK => Qa Z (hK _ _ (Qb (kp1 Z) ?_)))))))
  refine Qv (QA Z ?_)
  rw [Qsf (i := i) (by omega) hI.2]
theorem ZZ {l : List QK} {f : Nat} {caps : List D} (p : QK -> Bool) (hl : l.length <= 10000000) (hcc : caps.all D.capOk = true) (hca : ∀ s : St, caps.map (Qbp s) = caps) (hcb : ∀ H, caps.map (D.fzS H Qer) = caps) (hf : ∀ x ∈ l, Ok Tryz.prog f (.agg (QdQ x) :: caps) (.bool (p x))) : Ok Tryz.prog 86 [Zt l, .clo f caps] (.bool (l.any p)) := by
 refine Ok.ofT ZY Tryz.func86 QuQ (Nat.le_of_ble_eq_true Z) ?_
 show TW _ _ tf86.body _ _
 refine Qf fun K hK => Qa Z (hK _ _ (Qb (kp2 Z Z) ?_))
 refine Qf fun K hK => Qa Z (Qa Z (QF (Z5 (p := p) hl hcc hca hcb hf) Z (by show [_, D.clo _ _] = _; simp only [hcb]; rfl) (.inr Z) (Qet Z Z (Qa Z (hK _ _ (Qb (kp1 Z) ?_))))))
 refine Qv (Qt Z ?_)
 rw [<- Qra]
theorem Qex {s : QK} {u : Int} : Ok Tryz.prog 87 [.agg (QdQ s), .ptr [.int .i64 u]] (.bool (decide (s.u = u) && decide (s.c = -1))) := by
 refine Ok.ofT ZY Tryz.func87 QuR (Nat.le_of_ble_eq_true Z) ?_
 show TW _ _ tf87.body _ _
 refine Qf fun K hK => Zz Z Z Z (Qa Z (hK _ _ (Qb (kp2 Z Z) ?_)))
 refine Qf fun K hK => Qj Z Z (Qy Z Z Z (ZD Z Z (Qa Z ?_)))
 refine QB (g := 7) Z (fun h1 => ?_) (fun h1 => ?_)
 ·try rw [h1]
  try simp only [qB] at h1
  refine Qh Z (Qj Z Z (Qh Z (Qy Z Z Z (Qh Z (Qy Z Z Z (Qh Z ?_))))))
  first | refine ZD rfl rfl ?_ | refine QfM rfl rfl ?_
  refine Ql Z Z (Qa Z (hK _ _ (Qb (kp1 Z) ?_)))
  refine Qv (Qt Z ?_)
  simp [h1]
 ·try rw [h1]
  try simp only [qB] at h1
  refine Qp Z (Qp Z (Qp Z (Qp Z (Ql Z Z (Qa Z (hK _ _ (Qb (kp1 Z) ?_)))))))
  refine Qv (Qt Z ?_)
  simp [h1]
theorem Qcd {l : List QK} (hl : l.length <= 10000000) {u : Int} : Ok Tryz.prog 61 [Zt l, .int .i64 u] (.bool (Ym l u)) := by
 refine Ok.ofT ZY Tryz.func61 Quu (Nat.le_of_ble_eq_true Z) ?_
 show TW _ _ tf61.body _ _
 refine Qf fun K hK => Zz Z Z Z (Qa Z (hK _ _ (Qb (kp2 Z Z) ?_)))
 refine Qf fun K hK => Qa Z (Qp9 Z Z (QF (ZZ (l := l) (fun s => decide (s.u = u) && decide (s.c = -1)) hl Z (fun _ => rfl) (fun _ => rfl) (fun s _ => Qex)) Z Z (.inr Z) (Qa Z (hK _ _ (Qb (kp1 Z) ?_)))))
 refine Qv (Qt Z ?_)
 rfl
theorem Qkp {m : Int} (hm : I64 m) : Ok Tryz.prog 85 [.int .i64 m] (.bool (mOne m)) := by
 refine Ok.ofT ZY Tryz.func85 QuP (Nat.le_of_ble_eq_true Z) ?_
 show TW _ _ tf85.body _ _
 have hm1 := hm.1
 have hm2 := hm.2
 refine Qf fun K hK => Qa Z (hK _ _ (Qb (kp1 Z) ?_))
 refine Qf fun K hK => Qa Z (QiQ Z Z (Qa Z ?_))
 refine QB (g := 5) Z (fun h1 => ?_) (fun h1 => ?_)
 ·try rw [h1]
  try simp only [qB] at h1
  refine Qh Z (Qa Z (Qh Z (Qa Z (Qh Z (Qag Z Z (by first | exact Qs (by omega) (by omega) | exact Zh (by omega) (by omega) | exact Zr (by omega) (by omega) | rfl) (Qh Z (Qb2 Z Z (Qh Z (ZD Z Z (Ql Z Z (Qa Z ?_)))))))))))
  refine hK _ _ (Qb (kp1 Z) ?_)
  refine Qv (Qt Z ?_)
  simp [M25.mOne, h1]
 ·try rw [h1]
  try simp only [qB] at h1
  refine Qp Z (Qp Z (Qp Z (Qp Z (Qp Z (Ql Z Z (Qa Z (hK _ _ (Qb (kp1 Z) ?_))))))))
  refine Qv (Qt Z ?_)
  simp [M25.mOne, h1]
theorem Qjb {w : Qq} (hw : WSm w) {l : List QK} (hl : l.length <= 10000000) {s : QK} (hs : I64 s.m) : Ok Tryz.prog 58 [Z6 w, Zt l, .agg (QdQ s)] (.bool (mFits w l s)) := by
 refine Ok.ofT ZY Tryz.func58 Qur (Nat.le_of_ble_eq_true Z) ?_
 show TW _ _ tf58.body _ _
 refine Qf fun K hK => Zz Z Z Z (Zz Z Z Z (Qa Z (hK _ _ (Qb (kp3 Z Z Z) ?_))))
 refine Qf fun K hK => QH (cs := [_]) Z Z Z Z (Qa Z (Qj Z Z (Qy Z Z Z (QF (Qce hw hl) Z Z (.inr Z) (Qa Z (hK _ _ (Qb (kp4 Z Z Z Z) ?_)))))))
 refine QE ?_ -- 0
 refine QD (Qf fun K hK => QH (cs := [_]) Z Z Z Z (Qj Z Z (Qy Z Z Z (QF (QaC hw) Z Z (.inr Z) (ZD Z Z (Qa Z ?_))))))
 refine QB (g := 19) Z (fun h1 => ?_) (fun h1 => ?_)
 ·try rw [h1]
  try simp only [qA] at h1
  refine Qp Z (Qp Z (Qp Z (Ql Z Z (Qa Z (Qp Z (Qp Z (Qp Z (Ql Z Z (Qa Z (Qp Z (Qp Z ?_)))))))))))
  refine Qp Z (Qp Z (Qp Z (Ql Z Z (Qa Z (hK _ _ (Qb (kp4 Z Z Z Z) ?_))))))
  refine Zm Z (Qf fun K hK => Qa Z (hK _ _ (Qb (kp1 Z) ?_)))
  refine Qv (Qu (Qk (Qt Z ?_)))
  rw [M25.mFits]; simp_all
 ·try rw [h1]
  try simp only [qA] at h1
  refine Qh Z (Qj Z Z (Qh Z (Qy Z Z Z (Qh Z (Z9 Z Z (Ql Z Z (Qa Z ?_)))))))
  refine QB (g := 24) Z (fun h2 => ?_) (fun h2 => ?_)
  ·try rw [h2]
   try simp only [qA] at h2
   refine Qp Z (Qp Z (Qp Z (Ql Z Z (Qa Z (Qp Z (Qp Z (Qp Z (Qp Z (Qp Z (Ql Z Z (Qa Z ?_)))))))))))
   refine hK _ _ (Qb (kp4 Z Z Z Z) ?_)
   refine Zm Z (Qf fun K hK => Qa Z (hK _ _ (Qb (kp1 Z) ?_)))
   refine Qv (Qu (Qk (Qt Z ?_)))
   rw [M25.mFits]; simp_all
  ·try rw [h2]
   try simp only [qA] at h2
   refine Qh Z (Qj Z Z (Qh Z (Qy Z Z Z (Qh Z (ZD Z Z (Ql Z Z (Qa Z ?_)))))))
   refine QB (g := 29) Z (fun h3 => ?_) (fun h3 => ?_)
   ·try rw [h3]
    try simp only [qA] at h3
    refine Qp Z (Qp Z (Qp Z (Qp Z (Qp Z (Ql Z Z (Qa Z (hK _ _ (Qb (kp4 Z Z Z Z) ?_))))))))
    refine Zm Z (Qf fun K hK => Qa Z (hK _ _ (Qb (kp1 Z) ?_)))
    refine Qv (Qu (Qk (Qt Z ?_)))
    rw [M25.mFits]; simp_all
   ·try rw [h3]
    try simp only [qA] at h3
    refine Qh Z (Qj Z Z (Qh Z (Qy Z Z Z (Qh Z (Qa Z (Qh Z (Qfm Z Z (Qh Z (XY Z Z (Ql Z Z (Qa Z ?_)))))))))))
    refine hK _ _ (Qb (kp4 Z Z Z Z) ?_)
    refine Qx Z (fun h4 => ?_) (fun h4 => ?_)
    ·try rw [h4]
     try simp only [qA] at h4
     refine Qf fun K hK => Qa Z (hK _ _ (Qb (kp1 Z) ?_))
     refine Qv (Qu (Qk (Qt Z ?_)))
     rw [M25.mFits]; simp_all
    ·try rw [h4]
     try simp only [qA] at h4
     refine Qf fun K hK => Qj Z Z (Qy Z Z Z (ZD Z Z (Qa Z (hK _ _ (Qb (kp4 Z Z Z Z) ?_)))))
     refine Qx Z (fun h5 => ?_) (fun h5 => ?_)
     ·try rw [h5]
      try simp only [qA] at h5
      refine Qf fun K hK => Qj Z Z (QR (ds0 := [16, 15, 14, 13, 12, 11, 10, 9, 8, 7, 6, 5, 4, 3, 2, 1, 0]) Z Z Z Z Z (QX (ds0 := [15, 14, 13, 12, 11, 10, 9, 8, 7, 6, 5, 4, 3, 2, 1, 0]) (Qkp hs) Z Z (.inr Z) Z Z (Qa Z ?_)))
      refine QB (g := 43) Z (fun h6 => ?_) (fun h6 => ?_)
      ·try rw [h6]
       try simp only [qA] at h6
       refine Qh Z (Qa Z (Qh Z (Qj Z Z (Qh Z (QR (ds0 := [11, 10, 9, 8, 7, 6, 5, 4, 3, 2, 1, 0]) Z Z Z Z Z (Qh Z (QX (ds0 := [10, 9, 8, 7, 6, 5, 4, 3, 2, 1, 0]) (Qcd hl) Z Z (.inr Z) Z Z (Qh Z (Yh Z (Ql Z Z (Qa Z ?_)))))))))))
       refine QB (g := 50) Z (fun h7 => ?_) (fun h7 => ?_)
       ·try rw [h7]
        try simp only [qA] at h7
        refine Qh Z (Qj Z Z (Qh Z (QR (ds0 := [2, 1, 0]) Z Z Z Z Z (Qh Z (Qa Z (Qh Z (QX (ds0 := [3, 2, 1, 0]) (Y2 hl) Z Z (.inr Z) Z Z (Qh Z (Q2 Z Z Z (Qh Z (ZD Z Z ?_)))))))))))
        refine Ql Z Z (Qa Z (hK _ _ (Qb (kp1 Z) ?_)))
        refine Qv (Qu (Qk (Qt Z ?_)))
        rw [M25.mFits]; simp_all
       ·try rw [h7]
        try simp only [qA] at h7
        refine Qp Z (Qp Z (Qp Z (Qp Z (Qp Z (Qp Z (Ql Z Z (Qa Z (hK _ _ (Qb (kp1 Z) ?_)))))))))
        refine Qv (Qu (Qk (Qt Z ?_)))
        rw [M25.mFits]; simp_all
      ·try rw [h6]
       try simp only [qA] at h6
       refine Qp Z (Qp Z (Qp Z (Qp Z (Qp Z (Ql Z Z (Qa Z (Qp Z (Qp Z (Qp Z (Qp Z (Qp Z ?_)))))))))))
       refine Qp Z (Ql Z Z (Qa Z (hK _ _ (Qb (kp1 Z) ?_))))
       refine Qv (Qu (Qk (Qt Z ?_)))
       rw [M25.mFits]; simp_all
     ·try rw [h5]
      try simp only [qA] at h5
      refine Qw (Qi (Qe (kp3 Z Z Z) (Qf fun K hK => Qj Z Z (QR (ds0 := [8, 7, 6, 5, 4, 3, 2, 1, 0]) Z Z Z Z Z (Qa Z (XY Z Z (Qa Z ?_)))))))
      refine QB (g := 62) Z (fun h8 => ?_) (fun h8 => ?_)
      ·try rw [h8]
       try simp only [qA] at h8
       refine Qh Z (Qj Z Z (Qh Z (QR (ds0 := [2, 1, 0]) Z Z Z Z Z (Qh Z (Qa Z (Qh Z (QX (ds0 := [2, 1, 0]) (Y2 hl) Z Z (.inr Z) Z Z (Qh Z (ZD Z Z (Ql Z Z (Qa Z ?_)))))))))))
       refine hK _ _ (Qb (kp1 Z) ?_)
       refine Qv (Qt Z ?_)
       rw [M25.mFits]; simp_all
      ·try rw [h8]
       try simp only [qA] at h8
       refine Qp Z (Qp Z (Qp Z (Qp Z (Qp Z (Ql Z Z (Qa Z (hK _ _ (Qb (kp1 Z) ?_))))))))
       refine Qv (Qt Z ?_)
       rw [M25.mFits]; simp_all
theorem Qko {w : Qq} (hw : WSm w) {l : List QK} (hl : l.length <= 10000000) (hm : ∀ s ∈ l, I64 s.m) : Ok Tryz.prog 26 [Z6 w, Zt l] (.bool (YR w l)) := by
 refine Ok.ofT ZY Tryz.func26 Qt4 (Nat.le_of_ble_eq_true Z) ?_
 show TW _ _ tf26.body _ _
 refine Qf fun K hK => Zz Z Z Z (Qa Z (hK _ _ (Qb (kp2 Z Z) ?_)))
 refine QE ?_ -- 0
 refine Qf fun K hK => Qa Z ?_
 first | refine QS rfl QW ?_ | refine QS rfl rfl ?_
 refine Qa Z (hK _ _ (Qb (kp5 Z Z Z Z Z) ?_))
 refine QD ?_
 refine Zs (ι := Nat) (fun i => ⟨[(1, Zt l), (2, .ref 2 0 0), (7, Zt l), (8, .int .i64 l.length), (9, .int .i64 i)], [(2, ⟨[[.sl ((w).map YX)]], 1, 26, true⟩)]⟩) (fun i => i <= l.length /\ (List.range i).all (Qjl w l) = true) (fun i => l.length - i) 0 ?_ ?_ ?_
 ·exact Q8 (l := [1, 2, 7, 8, 9]) (lH := [2]) (kp5 rfl rfl rfl rfl rfl) (Qg rfl Qr) rfl rfl rfl
 ·exact ⟨Nat.zero_le _, rfl⟩
 intro i hI
 try dsimp only
 refine Qf fun K hK => Z9 Z Z (hK _ _ (Qb (kp6 Z Z Z Z Z Z) ?_))
 refine QE ?_ -- 1
 refine Qx Z (fun h1 => ?_) (fun h1 => ?_)
 ·try rw [h1]
  try simp only [qA] at h1
  refine Qw (Qe (kp5 Z Z Z Z Z) ?_)
  refine QE ?_ -- 2
  refine QD (Qf fun K hK => Qa Z (QL Z Z Z (by omega) (QT (by omega)) Z (QH (cs := [_, _, _, _]) Z Z Z Z (ZF Z (Qa Z (Q5 Z Z Z Z Z Z Z Z (hK _ _ (Qb (kp7 Z Z Z Z Z Z Z) ?_))))))))
  refine Qf fun K hK => QP (ds0 := [1, 0]) (cs := [_]) Z Z Z Z Z Z (Qa Z (Qa Z (Qa Z (Qlf Z Z Z Z Z (by omega) (by omega) (by simp; omega) QmQ (QmU) (QP (ds0 := [1, 0]) (cs := [_, _, _, _]) Z Z Z Z Z Z (QX (ds0 := [0]) (Qjb (l := l.take i) hw (by have := List.length_take_le' i l; omega) (hm _ (List.getElem_mem (show i < l.length by omega)))) Z Z (.inr Z) Z Z (Yh Z (hK _ _ (Qb (kp6 Z Z Z Z Z Z) ?_)))))))))
  refine Qx Z (fun h2 => ?_) (fun h2 => ?_)
  ·try rw [h2]
   try simp only [qA] at h2
   refine Qf fun K hK => Qa Z (hK _ _ (Qb (kp1 Z) ?_))
   refine Qv (Qu (Qk (Q9 (Qu (Qk (Qt Z ?_))))))
   rw [<- QlU hm, Qpy, QbK (i := i) (by omega) (by rw [Qf4 (by omega)]; exact h2)]
  ·try rw [h2]
   try simp only [qA] at h2
   refine Qw (Qi (Qe (kp5 Z Z Z Z Z) (QO fun K hK => Q2 Z Z (by first | exact Qs (by omega) (by omega) | exact Zh (by omega) (by omega) | exact Zr (by omega) (by omega) | rfl) (Qa Z (hK _ ?_)))))
   refine Qm (i + 1) ?_ ?_ ?_
   ·exact Q8 (l := [1, 2, 7, 8, 9]) (lH := [2]) (kp5 rfl rfl rfl rfl rfl) (Qg rfl Qr) rfl rfl rfl
   ·exact ⟨by omega, QiD hI.2 (by rw [Qf4 (by omega)]; exact h2)⟩
   ·first | omega | (simp only; omega) | (dsimp only; omega)
 ·try rw [h1]
  try simp only [qA] at h1
  refine Zl (QN (QC (QJ (Qe (Q7) (Qf fun K hK => Qa Z (hK _ _ (Qb (kp1 Z) ?_)))))))
  refine Qv (Qt Z ?_)
  rw [<- QlU hm, Qpy, QfE hI.2 (by omega)]
theorem QgS {w : Qq} (hw : WSm w) {l : List QK} (hl : l.length <= 10000000) (hp : QdB w l) {u p : Int} : Ok Tryz.prog 33 [Z6 w, Zt l, .int .i64 u, .int .i64 p] (dOS (YO w l u p)) := by
 refine Ok.ofT ZY Tryz.func33 Qt7 (Nat.le_of_ble_eq_true Z) ?_
 show TW _ _ tf33.body _ _
 refine Qf fun K hK => Zz Z Z Z (Qa Z (Qa Z (hK _ _ (Qb (kp4 Z Z Z Z) ?_))))
 refine QE ?_ -- 0
 refine Qf fun K hK => QH (cs := [_]) Z Z Z Z (Qa Z (QF (QaC hw) Z Z (.inr Z) (ZD Z Z (Qa Z ?_))))
 refine QB (g := 15) Z (fun h1 => ?_) (fun h1 => ?_)
 ·try rw [h1]
  try simp only [qA] at h1
  refine Qp Z (Qp Z (Ql Z Z (Qa Z (Qp Z (Qp Z (Qp Z (Qp Z (Qp Z (Qp Z (Qp Z (Qp Z ?_)))))))))))
  refine Qp Z (Ql Z Z (hK _ _ (Qb (kp5 Z Z Z Z Z) ?_)))
  refine Zm Z (Qf fun K hK => Qa Z (Qa Z (hK _ _ (Qb (kp2 Z Z) ?_))))
  refine Qv (Qk ?_)
  rw [<- Qbe hw.cs hp, Qo8 h1]
  exact QV rfl rfl ⟨rfl, rfl⟩
 ·try rw [h1]
  try simp only [qA] at h1
  obtain ⟨hin, h1a, h1b⟩ := Qq9 h1; have hcs := hw.cs _ (List.getElem_mem (show u.toNat < w.length by omega))
  refine Qh Z (Qa Z (Qh Z (Z9 Z Z (Ql Z Z (Qa Z ?_)))))
  refine QB (g := 19) Z (fun h2 => ?_) (fun h2 => ?_)
  ·try rw [h2]
   try simp only [qA] at h2
   refine Qp Z (Qp Z (Qp Z (Qp Z (Qp Z (Qp Z (Qp Z (Qp Z (Qp Z (Ql Z Z (hK _ _ (Qb (kp5 Z Z Z Z Z) ?_)))))))))))
   refine Zm Z (Qf fun K hK => Qa Z (Qa Z (hK _ _ (Qb (kp2 Z Z) ?_))))
   refine Qv (Qk ?_)
   rw [<- Qbe hw.cs hp, Qo7 h2]
   exact QV rfl rfl ⟨rfl, rfl⟩
  ·try rw [h2]
   try simp only [qA] at h2
   refine Qh Z (Qa Z (Qh Z (Qj Z Z (Qh Z (Qy Z Z Z (Qh Z (Qa Z (Qh Z (QL Z Z Z (by omega) (ZA (by omega) (by omega)) Z (Qh Z (Za Z Z ?_)))))))))))
   refine Qh Z (Qy Z Z Z (Qh Z ?_))
   first | refine QS rfl QW ?_ | refine QS rfl rfl ?_
   refine Qh Z (Qet Z Z (Ql Z Z (hK _ _ (Qb (kp5 Z Z Z Z Z) ?_))))
   refine Qx Z (fun h3 => ?_) (fun h3 => ?_)
   ·try rw [h3]
    try simp only [qA] at h3
    refine Qf fun K hK => Qa Z (Qa Z (hK _ _ (Qb (kp2 Z Z) ?_)))
    refine Qv (Qk ?_)
    rw [<- Qbe hw.cs hp, Qo6 h1a h1b h3]
    exact QV rfl rfl ⟨rfl, rfl⟩
   ·try rw [h3]
    try simp only [qA] at h3
    refine Qw (Qe (kp4 Z Z Z Z) (Qf fun K hK => Qa Z (Q2 Z Z (by first | exact Qs (by omega) (by omega) | exact Zh (by omega) (by omega) | exact Zr (by omega) (by omega) | rfl) (QoU Z Z (by omega) (Qka (by omega)) (Qa Z (hK _ _ (Qb (kp4 Z Z Z Z) ?_)))))))
    refine QE ?_ -- 1
    refine Qf fun K hK => QH (cs := [_]) Z Z Z Z (Qa Z (Qa Z (QF (Qce hw hl) Z Z (.inr Z) (Qa Z (Qb2 Z Z (ZD Z Z (Qa Z ?_)))))))
    refine QB (g := 40) Z (fun h4 => ?_) (fun h4 => ?_)
    ·try rw [h4]
     try simp only [qA] at h4
     refine Qp Z (Qp Z (Qp Z (Ql Z Z (hK _ _ (Qb (kp4 Z Z Z Z) ?_)))))
     refine Zm Z (Qf fun K hK => Qa Z (Qa Z (hK _ _ (Qb (kp2 Z Z) ?_))))
     refine Qv (Qk ?_)
     rw [<- Qbe hw.cs hp, Qnl h1a h1b (by omega) (by omega) (.inl (by rw [<- Qr5 hin]; exact h4))]
     exact QV rfl rfl ⟨rfl, rfl⟩
    ·try rw [h4]
     try simp only [qA] at h4
     refine Qh Z (Qa Z (Qh Z (Qa Z (Qh Z (QF (Qcd hl) Z Z (.inr Z) (Ql Z Z (hK _ _ (Qb (kp4 Z Z Z Z) ?_))))))))
     refine Qx Z (fun h5 => ?_) (fun h5 => ?_)
     ·try rw [h5]
      try simp only [qA] at h5
      refine Qf fun K hK => Qa Z (Qa Z (hK _ _ (Qb (kp2 Z Z) ?_)))
      refine Qv (Qk ?_)
      rw [<- Qbe hw.cs hp, Qnl h1a h1b (by omega) (by omega) (.inr h5)]
      exact QV rfl rfl ⟨rfl, rfl⟩
     ·try rw [h5]
      try simp only [qA] at h5
      refine Qw (Qe (kp3 Z Z Z) (Qf fun K hK => Qa Z (Qa Z (Qa Z (Qa Z (QF (Y2 hl) Z Z (.inr Z) (Q2 Z Z Z (QU Z Z (QF (Qg7 (s := ⟨u, 2 ^ (p + 1).toNat, IntKind.i64.wrap (ZV l + 1), -1⟩) hl) Z Z (.inl Z) (Qa Z ?_))))))))))
      refine Qa Z (hK _ _ (Qb (kp2 Z Z) ?_))
      refine Qv ?_
      rw [<- Qbe hw.cs hp, Qo9 h1a h1b (by omega) (by omega) (by rw [<- Qr5 hin]; exact h4) h5]
      exact QV rfl rfl ⟨rfl, rfl⟩
end Go.Proofs
namespace M25
open Go Go.Abs M3
/-! ### When, Qke by Qke -/
theorem Qe0 {i : Nat} (h : (0 : Int) < i) : ((i : Int) - 1).toNat = i - 1 := by omega
theorem QlY {w : Qq} {l : List QK} {inc : List TermT} {i k : Nat} (hm : YR w l = true) (h0 : (0 : Int) < i) (hi : i <= l.length) (hk : k < inc.length) (hkl : k < (Qb1 w l inc i k).length)
  (hu : (l[((i : Int) - 1).toNat]'(by omega)).u = inc[k].u) (hz : ¬ (Qb1 w l inc i k)[k] = 0) : Qb1 w l inc i (k + 1) = (Qb1 w l inc i k).set k (l[((i : Int) - 1).toNat]'(by omega)).m := by
 rw [Qob hk, Qgj (by omega) hi, if_pos]
 ·simp only [Qe0 h0]
 ·refine ⟨by simpa only [Qe0 h0] using hu, ?_⟩
  rw [QkJ hk hkl] at hz
  cases e : inW w inc[k].u
  ·exact absurd ((QoN hm).2 e) hz
  ·rfl
theorem QlZ {w : Qq} {l : List QK} {inc : List TermT} {i k : Nat} (hm : YR w l = true) (h0 : (0 : Int) < i) (hi : i <= l.length) (hk : k < inc.length) (hkl : k < (Qb1 w l inc i k).length) (hz : (Qb1 w l inc i k)[k] = 0) : Qb1 w l inc i (k + 1) = Qb1 w l inc i k := by
 refine Qgw hk ?_
 rw [QkJ hk hkl] at hz
 have e := (QoN hm).1 hz
 rw [Qgj (by omega) hi, if_neg (by rw [e]; simp)]
theorem QjH {w : Qq} {l : List QK} {inc : List TermT} {i k : Nat} (h0 : (0 : Int) < i) (hi : i <= l.length) (hk : k < inc.length) (hu : ¬ (l[((i : Int) - 1).toNat]'(by omega)).u = inc[k].u) : Qb1 w l inc i (k + 1) = Qb1 w l inc i k := by
 refine Qgw hk ?_
 rw [Qgj (by omega) hi, if_neg]
 intro h
 exact hu (by simpa only [Qe0 h0] using h.1)
theorem QhA {w : Qq} {l : List QK} {inc : List TermT} {i k : Nat} (h0 : ¬ (0 : Int) < i) (hk : k < inc.length) : Qb1 w l inc i (k + 1) = Qb1 w l inc i k := by
 have : i = 0 := by omega
 subst this
 exact Qgw hk rfl
theorem QpC {w : Qq} {l : List QK} {inc : List TermT} {i k : Nat} (hk : k < inc.length) (hkl : k < (Qb1 w l inc i (k + 1)).length) : (Qb1 w l inc i (k + 1))[k] = Ze w (l.take i) inc[k].u := by
 simp only [Qb1]
 rw [List.getElem_append_left (by simp [Yt]; omega)]
 simp [QaT]
def Qg0 (w : Qq) (l : List QK) (inc : List TermT) (i k : Nat) : Bool := Qdu w (l.take i) (inc.take k)
theorem QpX {w : Qq} {l : List QK} {inc : List TermT} {i k : Nat} (hm : YR w l = true) (hk : k < inc.length) (hkl : k < (Qb1 w l inc i (k + 1)).length) (h : Qg0 w l inc i k = true) : Qg0 w l inc i (k + 1) = decide (Qdv (Qb1 w l inc i (k + 1))[k] inc[k].m = 2) := by
 rw [QpC hk hkl, QpZ (Qds (Qau _ _ rfl (QkI i hm)) _).i64]
 unfold Qg0 Qdu at *
 rw [List.take_succ_eq_append_getElem hk, List.all_append, h]
 simp
theorem QpW {w : Qq} {l : List QK} {inc : List TermT} {i k : Nat} (hk : k < inc.length) (h : Qg0 w l inc i k = false) : Qg0 w l inc i (k + 1) = false := by
 unfold Qg0 Qdu at *
 rw [List.take_succ_eq_append_getElem hk, List.all_append, h]
 simp
theorem Qj6 {w : Qq} {l : List QK} {inc : List TermT} {i k : Nat} (hk : inc.length <= k) : Qg0 w l inc i k = Qdu w (l.take i) inc := by
 rw [Qg0, List.take_of_length_le hk]
/-! ### The Qfk world -/
def Qap : Qq := [⟨[], [], [⟨⟨0, 0, 0, [], []⟩, -1, [], []⟩]⟩, ⟨[97, 110, 116], [], [⟨versions.head (by decide), 0, [], []⟩, ⟨versions[1]'(by decide), 0, [], []⟩]⟩]
theorem Qbn : WSm Qap := by
 refine ⟨by decide, ?_, ?_, ?_, ?_, ?_, ?_⟩ <;> intro u hu <;> simp only [Qap, List.mem_cons, List.not_mem_nil, or_false] at hu <;> rcases hu with rfl | rfl
 all_goals first | decide | (intro c hc; simp only [List.mem_cons, List.not_mem_nil, or_false] at hc; rcases hc with rfl | rfl <;> first | (constructor <;> decide) | decide | skip) | (intro c hc; simp only [List.mem_cons, List.not_mem_nil, or_false] at hc; subst hc; first | (constructor <;> decide) | decide | skip)
 all_goals (intro x hx; simp only [List.mem_cons, List.not_mem_nil, or_false] at hx; done)
theorem Qk0 : Yu Qap [] ⟨1, 1⟩ 4 = some [⟨1, 6, 0, 4⟩] := by decide +kernel
theorem QkZ : YO Qap [⟨1, 6, 0, 4⟩] 1 1 = some [⟨1, 6, 0, 4⟩, ⟨1, 4, 1, -1⟩] := by decide +kernel
theorem QgK : YR Qap [⟨1, 6, 0, 4⟩, ⟨1, 4, 1, -1⟩] = true := by decide +kernel
theorem Qj1 : Ze Qap [⟨1, 6, 0, 4⟩, ⟨1, 4, 1, -1⟩] 1 = 4 := by decide +kernel
theorem Qj2 : Qiw Qap [⟨1, 6, 0, 4⟩, ⟨1, 4, 1, -1⟩] [⟨1, 4⟩] = 2 := by decide +kernel
theorem QiH : QdB Qap [⟨1, 6, 0, 4⟩] := by
 intro s hs
 simp only [List.mem_cons, List.not_mem_nil, or_false] at hs
 subst hs
 constructor <;> decide
end M25
namespace Go.Proofs
open Go Go.Abs M3 M25
set_option linter.unusedVariables false
set_option linter.unusedSimpArgs false
theorem Qja {w : Qq} (hw : WSm w) {l : List QK} (hl : l.length <= 10000000) (hm : YR w l = true) {inc : List TermT} (hi : inc.length <= 1000000) : Ok Tryz.prog 19 [Z6 w, Zt l, ZN inc] (.int .i64 (Qiw w l inc)) := by
 refine Ok.ofT ZY Tryz.func19 Qt1 (Nat.le_of_ble_eq_true Z) ?_
 show TW _ _ tf19.body _ _
 refine Qf fun K hK => Zz Z Z Z (Qa Z (hK _ _ (Qb (kp3 Z Z Z) ?_)))
 refine Qf fun K hK => Qa Z ?_
 first | refine QS rfl QW ?_ | refine QS rfl rfl ?_
 refine Qp8 Z Z Z (by omega) (by simp; omega) (by simp; omega) (Qa Z (hK _ _ (Qb (kp4 Z Z Z Z) ?_)))
 refine QE ?_ -- 0
 refine Qf fun K hK => Qa Z ?_
 first | refine QS rfl QW ?_ | refine QS rfl rfl ?_
 refine Qa Z (hK _ _ (Qb (kp7 Z Z Z Z Z Z Z) ?_))
 refine QD ?_
 refine Zs (ι := Nat) (fun i => ⟨[(1, Zt l), (2, ZN inc), (3, .ref 3 0 0), (7, .osl 16 (Qfh w inc i).length), (17, ZN inc), (18, .int .i64 inc.length), (19, .int .i64 i)], [(3, ⟨[[.sl ((w).map YX)]], 1, 26, true⟩), (16, ⟨(Qfh w inc i).map (fun x => [.int .i64 x]), 1, 3, true⟩)]⟩) (fun i => i <= inc.length) (fun i => inc.length - i) 0 ?_ ?_ ?_
 ·exact Q8 (l := [1, 2, 3, 7, 17, 18, 19]) (lH := [3, 16]) (kp7 rfl rfl rfl rfl rfl rfl rfl) (Qg rfl (Qg rfl Qr)) (by rw [Qhg]; simp) (by rw [Qhg]; simp; rfl) rfl
 ·exact Nat.zero_le _
 intro i hI
 have hlen := QnC w inc (i := i) hI
 try dsimp only
 refine Qf fun K hK => Z9 Z Z (hK _ _ (Qb (kp8 Z Z Z Z Z Z Z Z) ?_))
 refine QE ?_ -- 1
 refine Qx Z (fun h1 => ?_) (fun h1 => ?_)
 ·try rw [h1]
  try simp only [qA] at h1
  refine Qw (Qe (kp7 Z Z Z Z Z Z Z) ?_)
  refine QE ?_ -- 2
  refine QD (Qf fun K hK => Qa Z (QL Z Z Z (by omega) (QT (by omega)) Z (QH (cs := [_, _]) Z Z Z Z (ZF Z (Qa Z (Q5 Z Z Z Z Z Z Z Z (hK _ _ (Qb (kp9 Z Z Z Z Z Z Z Z Z) ?_))))))))
  refine QO fun K hK => Qa Z (Qa Z (QH (cs := [_]) Z Z Z Z (Qj Z Z (Qy Z Z Z (QF (QaC hw) Z Z (.inr Z) (Y1 Z Z Z (by simp) (by omega) (by omega) Z (Q5 Z Z (QT (by omega)) Z Z Z Z Z (hK _ ?_))))))))
  refine Qi (Qe (kp7 Z Z Z Z Z Z Z) (QO fun K hK => Q2 Z Z (by first | exact Qs (by omega) (by omega) | exact Zh (by omega) (by omega) | exact Zr (by omega) (by omega) | rfl) (Qa Z (hK _ ?_))))
  refine Qm (i + 1) ?_ ?_ ?_
  ·exact Q8 (l := [1, 2, 3, 7, 17, 18, 19]) (lH := [3, 16]) (kp7 rfl rfl rfl rfl rfl rfl rfl) (Qg rfl (Qg rfl Qr)) (by rw [Qlv (by omega), List.length_set] <;> rfl) (by rw [Qlv (by omega), List.map_set] <;> rfl) rfl
  ·omega
  ·first | omega | (simp only; omega) | (dsimp only; omega)
 ·try rw [h1]
  try simp only [qA] at h1
  refine Zl (QN (QC (QJ (Qe (kp3 Z Z Z) ?_))))
  refine QE ?_ -- 3
  refine Qf fun K hK => Qa Z ?_
  first | refine QS rfl QW ?_ | refine QS rfl rfl ?_
  refine Q2 Z Z (by first | exact Qs (by omega) (by omega) | exact Zh (by omega) (by omega) | exact Zr (by omega) (by omega) | rfl) (Qa Z (hK _ _ (Qb (kp5 Z Z Z Z Z) ?_)))
  refine QD ?_
  refine Zs (ι := Nat) (fun i => ⟨[(1, Zt l), (2, ZN inc), (7, .osl 16 (QaT w l inc (i - 1)).length), (34, .int .i64 ((l.length : Int) + 1)), (35, .int .i64 i)], [(16, ⟨(QaT w l inc (i - 1)).map (fun x => [.int .i64 x]), 1, 3, true⟩)]⟩) (fun i => i <= (l.length + 1) /\ Qiw w l inc = Qdf w l inc (l.length + 1 - i) i) (fun i => (l.length + 1) - i) 0 ?_ ?_ ?_
  ·exact Q8 (l := [1, 2, 7, 34, 35]) (lH := [16]) (kp5 rfl rfl rfl rfl rfl) (Qg rfl Qr) (by rw [Qjk (by omega) l] <;> rfl) (by rw [Qjk (by omega) l] <;> rfl) rfl
  ·exact ⟨Nat.zero_le _, rfl⟩
  intro i hI
  have hlen := Yt w l inc (i - 1)
  try dsimp only
  refine Qf fun K hK => Z9 Z Z (hK _ _ (Qb (kp6 Z Z Z Z Z Z) ?_))
  refine QE ?_ -- 4
  refine Qx Z (fun h2 => ?_) (fun h2 => ?_)
  ·try rw [h2]
   try simp only [qA] at h2
   refine Qw (Qe (kp5 Z Z Z Z Z) ?_)
   refine QE ?_ -- 5
   refine QD (Qf fun K hK => Qa Z (Qa Z (hK _ _ (Qb (kp6 Z Z Z Z Z Z) ?_))))
   refine Qf fun K hK => Qa Z (hK _ _ (Qb (kp7 Z Z Z Z Z Z Z) ?_))
   refine QE ?_ -- 6
   refine Qf fun K hK => Qa Z ?_
   first | refine QS rfl QW ?_ | refine QS rfl rfl ?_
   refine Qa Z (hK _ _ (Qb (QmE Z Z Z Z Z Z Z Z Z Z) ?_))
   refine QD ?_
   refine Zs (ι := Nat) (fun k => ⟨[(1, Zt l), (2, ZN inc), (7, .osl 16 (Qb1 w l inc i k).length), (10, .int .i64 i), (11, .bool (Qg0 w l inc i k)), (34, .int .i64 ((l.length : Int) + 1)), (35, .int .i64 i), (38, ZN inc), (39, .int .i64 inc.length), (40, .int .i64 k)], [(16, ⟨(Qb1 w l inc i k).map (fun x => [.int .i64 x]), 1, 3, true⟩)]⟩) (fun k => k <= inc.length) (fun k => inc.length - k) 0 ?_ ?_ ?_
   ·exact Q8 (l := [1, 2, 7, 10, 11, 34, 35, 38, 39, 40]) (lH := [16]) (QmE rfl rfl rfl rfl rfl rfl rfl rfl rfl rfl) (Qg rfl Qr) (by rw [QjI] <;> rfl) (by rw [QjI] <;> rfl) rfl
   ·exact Nat.zero_le _
   intro k hK
   have hlen := QfA (w := w) (l := l) (inc := inc) (n := i) (k := k) hK
   try dsimp only
   refine Qf fun K hK => Z9 Z Z (hK _ _ (Qb (QtQ Z Z Z Z Z Z Z Z Z Z Z) ?_))
   refine QE ?_ -- 7
   refine Qx Z (fun h3 => ?_) (fun h3 => ?_)
   ·try rw [h3]
    try simp only [qA] at h3
    refine Qw (Qe (QmE Z Z Z Z Z Z Z Z Z Z) ?_)
    refine QE ?_ -- 8
    refine QD (Qf fun K hK => Qa Z (QL Z Z Z (by omega) (QT (by omega)) Z (QH (cs := [_, _]) Z Z Z Z (ZF Z (Qa Z (Q5 Z Z Z Z Z Z Z Z (hK _ _ (Qb (Qsj Z Z Z Z Z Z Z Z Z Z Z Z) ?_))))))))
    refine Qi1 (ι := Unit) (fun _ => ⟨[(1, Zt l), (2, ZN inc), (7, .osl 16 (Qb1 w l inc i (k + 1)).length), (10, .int .i64 i), (11, .bool (Qg0 w l inc i k)), (12, .int .i64 k), (13, .ref 13 0 0), (34, .int .i64 ((l.length : Int) + 1)), (35, .int .i64 i), (38, ZN inc), (39, .int .i64 inc.length), (40, .int .i64 k)], [(13, ⟨[QeD (inc[k]'(by omega))], 2, 35, true⟩), (16, ⟨(Qb1 w l inc i (k + 1)).map (fun x => [.int .i64 x]), 1, 3, true⟩)]⟩) (fun _ => True) ?_ ?_
    ·skip
     refine Qf fun K hK => Qa Z (QiQ Z Z (Qa Z ?_))
     refine QB (g := 47) Z (fun h4 => ?_) (fun h4 => ?_)
     ·try rw [h4]
      try simp only [qA] at h4
      refine Qh Z (Qa Z (Qh Z (Qa Z (Qh Z (Qag Z Z (by first | exact Qs (by omega) (by omega) | exact Zh (by omega) (by omega) | exact Zr (by omega) (by omega) | rfl) (Qh Z (QL Z Z Z (by omega) (ZA (by omega) (by omega)) Z (Qh Z (Za Z Z (Qh Z (QR (ds0 := [8, 7, 6, 5, 4, 3, 2, 1, 0]) Z Z Z Z Z ?_)))))))))))
      refine Qh Z (Qj Z Z (Qh Z (QR (ds0 := [8, 7, 6, 5, 4, 3, 2, 1, 0]) Z Z Z Z Z (Qh Z ?_))))
      first | refine ZD rfl rfl ?_ | refine QfM rfl rfl ?_
      refine Ql Z Z (Qa Z ?_)
      refine QB (g := 58) Z (fun h5 => ?_) (fun h5 => ?_)
      ·try rw [h5]
       try simp only [qA] at h5
       refine Qh Z (Qa Z (Qh Z (Qa Z (Qh Z (XX (ds0 := [2, 1, 0]) Z Z Z (by simp) (by omega) (by omega) Z Z Z (Qh Z (QR (ds0 := [1, 0]) Z (Z8 Z (QT (by omega))) Z Z Z (Qh Z (XY Z Z (Ql Z Z (hK _ _ (Qb (Qs1 Z Z Z Z Z Z Z Z Z Z Z Z Z) ?_))))))))))))
       refine Qx Z (fun h6 => ?_) (fun h6 => ?_)
       ·try rw [h6]
        try simp only [qA] at h6
        refine QO fun K hK => Qa Z (Qa Z (Qa Z (Qa Z (Qag Z Z (by first | exact Qs (by omega) (by omega) | exact Zh (by omega) (by omega) | exact Zr (by omega) (by omega) | rfl) (QL Z Z Z (by omega) (ZA (by omega) (by omega)) Z (Za Z Z (Qy Z Z Z (Y1 Z Z Z (by simp) (by omega) (by omega) Z (Q5 Z Z (QT (by omega)) Z Z Z Z Z (hK _ ?_))))))))))
        refine Yo () ?_ ?_
        ·exact Q8 (l := [1, 2, 7, 10, 11, 12, 13, 34, 35, 38, 39, 40]) (lH := [13, 16]) (Qsj rfl rfl rfl rfl rfl rfl rfl rfl rfl rfl rfl rfl) (Qg rfl (Qg rfl Qr)) (by rw [QlY hm h4 (by omega) (by omega) (by omega) h5 h6, List.length_set] <;> rfl) (by rw [QlY hm h4 (by omega) (by omega) (by omega) h5 h6, List.map_set] <;> rfl) rfl
        ·exact trivial
       ·try rw [h6]
        try simp only [qA] at h6
        refine Qw ?_
        refine Yo () ?_ ?_
        ·exact Q8 (l := [1, 2, 7, 10, 11, 12, 13, 34, 35, 38, 39, 40]) (lH := [13, 16]) (Qsj rfl rfl rfl rfl rfl rfl rfl rfl rfl rfl rfl rfl) (Qg rfl (Qg rfl Qr)) (by rw [QlZ hm h4 (by omega) (by omega) (by omega) h6] <;> rfl) (by rw [QlZ hm h4 (by omega) (by omega) (by omega) h6] <;> rfl) rfl
        ·exact trivial
      ·try rw [h5]
       try simp only [qA] at h5
       refine Qp Z (Qp Z (Qp Z (Qp Z (Qp Z (Ql Z Z (hK _ _ (Qb (Qs1 Z Z Z Z Z Z Z Z Z Z Z Z Z) ?_)))))))
       refine ZS Z (Qw ?_)
       refine Yo () ?_ ?_
       ·exact Q8 (l := [1, 2, 7, 10, 11, 12, 13, 34, 35, 38, 39, 40]) (lH := [13, 16]) (Qsj rfl rfl rfl rfl rfl rfl rfl rfl rfl rfl rfl rfl) (Qg rfl (Qg rfl Qr)) (by rw [QjH h4 (by omega) (by omega) h5] <;> rfl) (by rw [QjH h4 (by omega) (by omega) h5] <;> rfl) rfl
       ·exact trivial
     ·try rw [h4]
      try simp only [qA] at h4
      refine Qp Z (Qp Z (Qp Z (Qp Z (Qp Z (Qp Z (Qp Z (Qp Z (Qp Z (Ql Z Z (Qa Z (Qp Z ?_)))))))))))
      refine Qp Z (Qp Z (Qp Z (Qp Z (Ql Z Z (hK _ _ (Qb (Qs1 Z Z Z Z Z Z Z Z Z Z Z Z Z) ?_))))))
      refine ZS Z (Qw ?_)
      refine Yo () ?_ ?_
      ·exact Q8 (l := [1, 2, 7, 10, 11, 12, 13, 34, 35, 38, 39, 40]) (lH := [13, 16]) (Qsj rfl rfl rfl rfl rfl rfl rfl rfl rfl rfl rfl rfl) (Qg rfl (Qg rfl Qr)) (by rw [QhA h4 (by omega)] <;> rfl) (by rw [QhA h4 (by omega)] <;> rfl) rfl
      ·exact trivial
    intro _ hJ
    have hk : k < inc.length := by omega
    have hlen1 := QfA (w := w) (l := l) (inc := inc) (n := i) (k := k + 1) (by omega)
    try dsimp only
    refine QO fun K hK => Qa Z (Qa Z ?_)
    refine QB (g := 75) Z (fun h7 => ?_) (fun h7 => ?_)
    ·try rw [h7]
     try simp only [qA] at h7
     refine Qh Z (Qa Z (Qh Z (Qa Z (Qh Z (XX (ds0 := [6, 3, 2, 1, 0]) Z Z Z (by simp) (by omega) (by omega) Z Z Z (Qh Z (QR (ds0 := [3, 2, 1, 0]) Z (Z8 Z (QT (by omega))) Z Z Z (Qh Z (Qj Z Z (Qh Z (QR (ds0 := [3, 2, 1, 0]) Z Z Z Z Z ?_)))))))))))
     refine Qh Z (QX (ds0 := [2, 1, 0]) (Qi8) Z Z (.inr Z) Z Z (Qh Z (ZD Z Z (Ql Z Z (Qa Z (hK _ ?_))))))
     refine Qi (Qe (QmE Z Z Z Z Z Z Z Z Z Z) (QO fun K hK => Q2 Z Z (by first | exact Qs (by omega) (by omega) | exact Zh (by omega) (by omega) | exact Zr (by omega) (by omega) | rfl) (Qa Z (hK _ ?_))))
     refine Qm (k + 1) ?_ ?_ ?_
     ·exact Q8 (l := [1, 2, 7, 10, 11, 34, 35, 38, 39, 40]) (lH := [16]) (QmE rfl rfl rfl rfl rfl rfl rfl rfl rfl rfl) (Qg rfl Qr) (by rw [QpX hm hk (by rw [QfA (by omega)]; exact hk) h7] <;> rfl) rfl rfl
     ·omega
     ·first | omega | (simp only; omega) | (dsimp only; omega)
    ·try rw [h7]
     try simp only [qA] at h7
     refine Qp Z (Qp Z (Qp Z (Qp Z (Qp Z (Qp Z (Qp Z (Qp Z (Ql Z Z (Qa Z (hK _ ?_))))))))))
     refine Qi (Qe (QmE Z Z Z Z Z Z Z Z Z Z) (QO fun K hK => Q2 Z Z (by first | exact Qs (by omega) (by omega) | exact Zh (by omega) (by omega) | exact Zr (by omega) (by omega) | rfl) (Qa Z (hK _ ?_))))
     refine Qm (k + 1) ?_ ?_ ?_
     ·exact Q8 (l := [1, 2, 7, 10, 11, 34, 35, 38, 39, 40]) (lH := [16]) (QmE rfl rfl rfl rfl rfl rfl rfl rfl rfl rfl) (Qg rfl Qr) (by rw [QpW hk h7] <;> rfl) rfl rfl
     ·omega
     ·first | omega | (simp only; omega) | (dsimp only; omega)
   ·try rw [h3]
    try simp only [qA] at h3
    refine Zl (QN (QC (QJ (Qe (kp7 Z Z Z Z Z Z Z) (Qf fun K hK => Qa Z (hK _ _ (Qb (kp7 Z Z Z Z Z Z Z) ?_)))))))
    refine Qx Z (fun h8 => ?_) (fun h8 => ?_)
    ·try rw [h8]
     try simp only [qA] at h8
     refine Qf fun K hK => Qa Z (Qa Z (hK _ _ (Qb (kp1 Z) ?_)))
     refine Qv (Qu (Qk (Q9 (Qu (Qk (QA Z ?_))))))
     rw [Qp3 (by omega) (by rw [<- Qj6 (k := k) (by omega)]; exact h8) hI.2]
    ·try rw [h8]
     try simp only [qA] at h8
     refine Qw (Qi (Qe (kp5 Z Z Z Z Z) (QO fun K hK => Q2 Z Z (by first | exact Qs (by omega) (by omega) | exact Zh (by omega) (by omega) | exact Zr (by omega) (by omega) | rfl) (Qa Z (hK _ ?_)))))
     refine Qm (i + 1) ?_ ?_ ?_
     ·exact Q8 (l := [1, 2, 7, 34, 35]) (lH := [16]) (kp5 rfl rfl rfl rfl rfl) (Qg rfl Qr) (by rw [QlX (by omega)] <;> rfl) (by rw [QlX (by omega)] <;> rfl) rfl
     ·exact ⟨by omega, QrF (by omega) (by rw [<- Qj6 (k := k) (by omega)]; exact h8) hI.2⟩
     ·first | omega | (simp only; omega) | (dsimp only; omega)
  ·try rw [h2]
   try simp only [qA] at h2
   refine Zl (QN (QC (QJ (Qe (Q7) (Qf fun K hK => Qa Z (hK _ _ (Qb (kp1 Z) ?_)))))))
   refine Qv (QA Z ?_)
   rw [Qp2 (by omega) hI.2]
end Go.Proofs
namespace M25
open Go Go.Abs M3
/-! ### More of runs -/
end M25
namespace M25
open Go Go.Abs M3
/-! ### The facts in another order -/
end M25
namespace M25
open Go Go.Abs M3
/-! ### How long a run is -/
structure Good (w : Qq) (l : List QK) : Prop where
 p : QdB w l
 nz : ∀ u, inW w u = true -> Ze w l u ≠ 0
 le : ∀ u i, tb (Ze w l u) i = true -> tb (YC w u) i = true
end M25
namespace M25
open Go Go.Abs M3
/-! ### Masks are of values that there are -/
/-! ### Each Qke of a run -/
end M25
namespace M25
open Go Go.Abs M3
end M25
namespace M25
open Go Go.Abs M3
/-! ### Derive again -/
theorem Qk1 : ∀ s ∈ ([⟨1, 6, 0, 4⟩, ⟨1, 4, 1, -1⟩] : List QK), I64 s.m := by
 intro s hs
 simp only [List.mem_cons, List.not_mem_nil, or_false] at hs
 rcases hs with rfl | rfl <;> constructor <;> decide
/-! ### Sure, and what holds -/
end M25
namespace Go.Proofs
open Go Go.Abs M3 M25
set_option linter.unusedVariables false
set_option linter.unusedSimpArgs false
theorem QpN {rows : List (List D)} (h : (rows.all fun r => r.all fun d => d.sid.isEmpty) = true) : ∀ r ∈ rows, ∀ d ∈ r, d.sid = [] := fun r hr d hd => by
  have := List.all_eq_true.1 (List.all_eq_true.1 h r hr) d hd
  simpa using this
theorem Qb6  : Ok Tryz.prog 38 [] (Z6 Qap) := by
  refine Ok.ofT ZY Tryz.func38 Qua (Nat.le_of_ble_eq_true Z) ?_
  show TW _ _ tf38.body _ _
  refine Qf fun K hK => ZF Z (hK _ _ (Qb (kp1 Z) ?_))
  refine Qf fun K hK => QF (Xx) Z Z (.inl Z) (Qa Z (hK _ _ (Qb (kp2 Z Z) ?_)))
  refine Qf fun K hK => QU Z Z (QI Z Z (QU Z Z (Qa Z (QL Z Z Z (by decide) Z Z (QP (ds0 := [9, 4, 3, 2, 1, 0]) (cs := [_, _, _, _, _]) Z Z Z Z Z Z (QU Z Z (Qa Z (QL Z Z Z (by decide) Z Z (QP (ds0 := [5, 4, 3, 2, 1, 0]) (cs := [_, _, _, _, _]) Z Z Z Z Z Z (QU Z Z ?_))))))))))
  refine QI Z Z (QU Z Z (QI Z Z (QU Z Z (Xu (ds0 := []) Z Z Z Z Z Z Z Z Z Z (hK _ _ (Qb (kp1 Z) ?_))))))
  refine Qqa (Qft 0 (k := 4) Z) (Qqa (Qft 0 (k := 14) Z) (Qqa (Qft 1 (k := 14) Z) (Qqa (Qsl (l := [0]) (lH := [0, 14]) 16 4 false (kp1 Z) (Qg Z (Qg Z Qr)) Z Z Z Z Z (by simp) (by decide) Z Z Z Z) (Qqa (Qsl (l := [0]) (lH := [0]) 16 14 true (kp1 Z) (Qg Z Qr) Z Z Z Z Z (fun _ => ⟨List.cons_ne_nil _ _, QpN rfl⟩) (by decide) Z Z Z Z) (Qv (ZJ (cs := [_]) Z Z Z Z ?_))))))
  rfl
theorem YU  : Ok Tryz.prog 9 [] (.bool true) := by
  refine Ok.ofT ZY Tryz.func9 tp9 (Nat.le_of_ble_eq_true Z) ?_
  show TW _ _ tf9.body _ _
  refine Qf fun K hK => Qa Z (hK _ _ (Qb (Q7) ?_))
  refine Qf fun K hK => QF (Qb6) Z Z (.inl Z) (ZF Z (Q5 Z Z Z Z Z Z Z Z (hK _ _ (Qb (kp1 Z) ?_))))
  refine Qf fun K hK => QH (cs := [_]) Z Z Z Z (QU Z Z ?_)
  have hc1 := QgT Qbn (l := []) (by decide) (fun _ h => by cases h) (t := ⟨1, 1⟩) (c := 4)
  rw [Qk0] at hc1
  refine QF (hc1) Z Z (.inl Z) (Qa Z (Zd Z Z (Zd Z Z (Qa Z (Qa Z (hK _ _ (Qb (kp3 Z Z Z) ?_)))))))
  refine Qf fun K hK => QH (cs := [_]) Z Z Z Z (Qa Z ?_)
  have hc2 := QgS Qbn (l := [⟨1, 6, 0, 4⟩]) (by decide) QiH (u := 1) (p := 1)
  rw [QkZ] at hc2
  refine QF (hc2) Z Z (.inl Z) (Qa Z (Zd Z Z (Zd Z Z (Qa Z (Qa Z (hK _ _ (Qb (kp4 Z Z Z Z) ?_)))))))
  refine Qf fun K hK => Qa Z (Qa Z ?_)
  refine QB (g := 20) Z (fun h1 => ?_) (fun h1 => ?_)
  · try rw [h1]
    try simp only [qA] at h1
    first
      | exfalso; revert h1; decide
      | skip
        refine Qh Z (Qa Z (Ql Z Z (Qa Z ?_)))
        refine QB (g := 23) Z (fun h2 => ?_) (fun h2 => ?_)
        · try rw [h2]
          try simp only [qA] at h2
          first
            | exfalso; revert h2; decide
            | skip
              refine Qh Z (Qa Z (Qh Z ?_))
              first | refine QS rfl QW ?_ | refine QS rfl rfl ?_
              refine Qh Z (ZD Z Z (Ql Z Z (Qa Z ?_)))
              refine QB (g := 28) Z (fun h3 => ?_) (fun h3 => ?_)
              · try rw [h3]
                try simp only [qA] at h3
                first
                  | exfalso; revert h3; decide
                  | skip
                    refine Qh Z (Qa Z (Qh Z (QL Z Z Z (by decide) Z Z (Qh Z (QH (cs := [_, _, _, _]) Z Z Z Z (Qh Z (QU Z Z (Qh Z (Qle Z Z Z (Ql Z Z (Qa Z ?_)))))))))))
                    refine QB (g := 35) Z (fun h4 => ?_) (fun h4 => ?_)
                    · try rw [h4]
                      try simp only [qA] at h4
                      first
                        | exfalso; revert h4; decide
                        | skip
                          refine Qh Z (Qa Z (Qh Z (QL Z Z Z (by decide) Z Z (Qh Z (QH (cs := [_, _, _, _]) Z Z Z Z (Qh Z (QU Z Z (Qh Z (Qle Z Z Z (Ql Z Z (Qa Z ?_)))))))))))
                          refine QB (g := 42) Z (fun h5 => ?_) (fun h5 => ?_)
                          · try rw [h5]
                            try simp only [qA] at h5
                            first
                              | exfalso; revert h5; decide
                              | skip
                                refine Qh Z (QH (cs := [_]) Z Z Z Z (Qh Z (Qa Z (Qh Z ?_))))
                                have hc3 := Qko Qbn (l := [⟨1, 6, 0, 4⟩, ⟨1, 4, 1, -1⟩]) (by decide) Qk1
                                rw [QgK] at hc3
                                refine QF (hc3) Z Z (.inr Z) (Ql Z Z (Qa Z ?_))
                                refine QB (g := 47) Z (fun h6 => ?_) (fun h6 => ?_)
                                · try rw [h6]
                                  try simp only [qA] at h6
                                  first
                                    | exfalso; revert h6; decide
                                    | skip
                                      refine Qh Z (QH (cs := [_]) Z Z Z Z (Qh Z (Qa Z (Qh Z ?_))))
                                      have hc4 := Qcc Qbn (l := [⟨1, 6, 0, 4⟩, ⟨1, 4, 1, -1⟩]) (by decide) (u := 1)
                                      rw [Qj1] at hc4
                                      refine QF (hc4) Z Z (.inr Z) (Qh Z (ZD Z Z (Ql Z Z (Qa Z ?_))))
                                      refine QB (g := 53) Z (fun h7 => ?_) (fun h7 => ?_)
                                      · try rw [h7]
                                        try simp only [qA] at h7
                                        first
                                          | exfalso; revert h7; decide
                                          | skip
                                            refine Qh Z (QH (cs := [_]) Z Z Z Z (Qh Z (Qa Z (Qh Z (QU Z Z (Qh Z (QI Z Z (Qh Z ?_))))))))
                                            have hc5 := Qja Qbn (l := [⟨1, 6, 0, 4⟩, ⟨1, 4, 1, -1⟩]) (by decide) QgK (inc := [⟨1, 4⟩]) (by decide)
                                            rw [Qj2] at hc5
                                            refine QF (hc5) Z Z (.inr Z) (Qh Z (ZD Z Z (Ql Z Z (Qa Z (hK _ _ (Qb (kp1 Z) ?_))))))
                                            refine Qv (Qt Z ?_)
                                            rfl
                                      · try rw [h7]
                                        try simp only [qA] at h7
                                        first
                                          | exfalso; revert h7; decide
                                          | skip
                                            refine Qp Z (Qp Z (Qp Z (Qp Z (Qp Z (Qp Z (Ql Z Z (Qa Z (hK _ _ (Qb (kp1 Z) ?_)))))))))
                                            refine Qv (Qt Z ?_)
                                            rfl
                                · try rw [h6]
                                  try simp only [qA] at h6
                                  first
                                    | exfalso; revert h6; decide
                                    | skip
                                      refine Qp Z (Qp Z (Qp Z (Qp Z (Ql Z Z (Qa Z (Qp Z (Qp Z (Qp Z (Qp Z (Qp Z (Qp Z ?_)))))))))))
                                      refine Ql Z Z (Qa Z (hK _ _ (Qb (kp1 Z) ?_)))
                                      refine Qv (Qt Z ?_)
                                      rfl
                          · try rw [h5]
                            try simp only [qA] at h5
                            first
                              | exfalso; revert h5; decide
                              | skip
                                refine Qp Z (Qp Z (Qp Z (Ql Z Z (Qa Z (Qp Z (Qp Z (Qp Z (Qp Z (Ql Z Z (Qa Z (Qp Z ?_)))))))))))
                                refine Qp Z (Qp Z (Qp Z (Qp Z (Qp Z (Ql Z Z (Qa Z (hK _ _ (Qb (kp1 Z) ?_))))))))
                                refine Qv (Qt Z ?_)
                                rfl
                    · try rw [h4]
                      try simp only [qA] at h4
                      first
                        | exfalso; revert h4; decide
                        | skip
                          refine Qp Z (Qp Z (Qp Z (Qp Z (Qp Z (Ql Z Z (Qa Z (Qp Z (Qp Z (Qp Z (Ql Z Z (Qa Z ?_)))))))))))
                          refine Qp Z (Qp Z (Qp Z (Qp Z (Ql Z Z (Qa Z (Qp Z (Qp Z (Qp Z (Qp Z (Qp Z (Qp Z ?_)))))))))))
                          refine Ql Z Z (Qa Z (hK _ _ (Qb (kp1 Z) ?_)))
                          refine Qv (Qt Z ?_)
                          rfl
              · try rw [h3]
                try simp only [qA] at h3
                first
                  | exfalso; revert h3; decide
                  | skip
                    refine Qp Z (Qp Z (Qp Z (Qp Z (Qp Z (Ql Z Z (Qa Z (Qp Z (Qp Z (Qp Z (Qp Z (Qp Z ?_)))))))))))
                    refine Ql Z Z (Qa Z (Qp Z (Qp Z (Qp Z (Ql Z Z (Qa Z (Qp Z (Qp Z (Qp Z (Qp Z (Ql Z Z ?_)))))))))))
                    refine Qa Z (Qp Z (Qp Z (Qp Z (Qp Z (Qp Z (Qp Z (Ql Z Z (Qa Z (hK _ _ (Qb (kp1 Z) ?_))))))))))
                    refine Qv (Qt Z ?_)
                    rfl
        · try rw [h2]
          try simp only [qA] at h2
          first
            | exfalso; revert h2; decide
            | skip
              refine Qp Z (Qp Z (Qp Z (Ql Z Z (Qa Z (Qp Z (Qp Z (Qp Z (Qp Z (Qp Z (Ql Z Z (Qa Z ?_)))))))))))
              refine Qp Z (Qp Z (Qp Z (Qp Z (Qp Z (Ql Z Z (Qa Z (Qp Z (Qp Z (Qp Z (Ql Z Z (Qa Z ?_)))))))))))
              refine Qp Z (Qp Z (Qp Z (Qp Z (Ql Z Z (Qa Z (Qp Z (Qp Z (Qp Z (Qp Z (Qp Z (Qp Z ?_)))))))))))
              refine Ql Z Z (Qa Z (hK _ _ (Qb (kp1 Z) ?_)))
              refine Qv (Qt Z ?_)
              rfl
  · try rw [h1]
    try simp only [qA] at h1
    first
      | exfalso; revert h1; decide
      | skip
        refine Qp Z (Ql Z Z (Qa Z (Qp Z (Qp Z (Qp Z (Ql Z Z (Qa Z (Qp Z (Qp Z (Qp Z (Qp Z ?_)))))))))))
        refine Qp Z (Ql Z Z (Qa Z (Qp Z (Qp Z (Qp Z (Qp Z (Qp Z (Ql Z Z (Qa Z (Qp Z (Qp Z ?_)))))))))))
        refine Qp Z (Ql Z Z (Qa Z (Qp Z (Qp Z (Qp Z (Qp Z (Ql Z Z (Qa Z (Qp Z (Qp Z (Qp Z ?_)))))))))))
        refine Qp Z (Qp Z (Qp Z (Ql Z Z (Qa Z (hK _ _ (Qb (kp1 Z) ?_))))))
        refine Qv (Qt Z ?_)
        rfl
end Go.Proofs
namespace Go.Proofs
open Go Go.Abs M3 M25
set_option linter.unusedVariables false
set_option linter.unusedSimpArgs false
end Go.Proofs
namespace Go.Abs
open Go Go.RowKit
/-! ### Loops over functions -/
def IterOk (P : Program) (f : Nat) (caps : List D) {α : Type} (iv : α -> Int) (xs : List α) : Prop :=
 QiX P f /\ ∀ (K : Kn) (w0 : World) (lb : List Value), KRel K w0 -> RepVs K caps lb ->
  SeqStopsK Fence.wide 1 P f lb.toArray (fun x => #[.int .i64 (iv x)]) (fun W W' => KRel K W -> KRel K W') (fun l => l = xs) (fun l => l <+: xs) xs.length w0
def Qrn (H : List (Nat × Box)) : Prop := ∀ k b, lk H k = some b -> ¬ (b.rows = [] /\ b.esz = 0 /\ b.pr = false)
section
variable {P : Program} {E : Env} {g : Gh} {s : St} {a a' : Act} {w w' : World}
theorem BoxRel.cells {k : Nat} {b : Box} {B e : Nat} (h : BoxRel E g w k b) (hn : ¬ (b.rows = [] /\ b.esz = 0 /\ b.pr = false)) (hβ : g.β k = some (B, e)) : ∃ o : Obj, w.heap[B]? = some o /\ o.isCells = true := by
 obtain ⟨_, _, h3⟩ := h
 rcases h3 with ⟨hr, ⟨h3, _⟩ | ⟨_, i1, i2, _⟩⟩ | ⟨_, B', c, h5, h6, _⟩
 ·rw [h3] at hβ; cases hβ
 ·exact absurd ⟨hr, i1, i2⟩ hn
 ·rw [hβ] at h5; cases h5; exact ⟨_, h6, rfl⟩
theorem Qmv {f : Nat} (he : QiX P f) (args : Array Value) (w : World) : (callFunc f args).run P w = .ok (.enter f args) w := by
 obtain ⟨fn, hfn, hnm, hbd⟩ := he
 have hnm' : ¬ fn.name = "runtime.NumGoroutine" := by simpa using hnm
 have hbd' : ¬ fn.body = none := fun h => by rw [h] at hbd; cases hbd
 simp [callFunc, hfn, hnm', hbd']
def QmZ (E : Env) (g : Gh) (H : List (Nat × Box)) : Env := { E with keep := fun k => 1000000 <= k /\ (lk H k).isSome = true, β0 := g.β, σ0 := g.σ, rd := none }
def Qsc (E : Env) (g : Gh) (H : List (Nat × Box)) (W : World) (l : Nat) : Env :=
 ⟨E.nt, W.heap.size, W, g.K, fun b => ∃ k e, (lk H k).isSome = true /\ g.β k = some (b, e), fun k => 1000000 <= k /\ (lk H k).isSome = true, g.β, g.σ, some l, none⟩
def Qne (fr : List (Nat × D)) : Prop := ∀ t d, lk fr t = some d -> ∀ k ∈ d.ids, 1000000 <= k
theorem Rel.toL (r : Rel E g s a w) (ha : a'.tmps = a.tmps) (hd : a'.defers = []) : Rel (QmZ E g s.H) g s a' w :=
 ⟨by rw [ha]; exact r.nt, DfOk.nil hd, fun t d h => by rw [ha]; exact r.fr t d h, r.wfF, r.wfH, r.bx, r.inj, r.kr, r.ext, r.kx, fun k hk => ⟨hk.1, rfl, rfl, hk.2⟩⟩
theorem Rel.ofL {g0 : Gh} {H0 : List (Nat × Box)} (r : Rel (QmZ E g0 H0) g s a w) (hk : ∀ k, E.keep k -> 1000000 <= k /\ g0.β k = E.β0 k /\ g0.σ k = E.σ0 k /\ (lk H0 k).isSome = true) (ha : a'.tmps = a.tmps) (hd : DfOk E.bd a' w) : Rel E g s a' w :=
 ⟨by rw [ha]; exact r.nt, hd, fun t d h => by rw [ha]; exact r.fr t d h, r.wfF, r.wfH, r.bx, r.inj, r.kr, r.ext, r.kx, fun k h => by
  obtain ⟨h1, h2, h3, h4⟩ := hk k h
  obtain ⟨_, q2, q3, q4⟩ := r.kp k ⟨h1, h4⟩
  exact ⟨h1, q2.trans h2, q3.trans h3, q4⟩⟩
theorem Rel.toR {fr : List (Nat × D)} {H : List (Nat × Box)} (r : Rel E g ⟨fr, H⟩ a w) (hd : a.defers = []) (l : Nat) : Rel (Qsc E g H w l) g ⟨fr, H⟩ a w :=
 ⟨r.nt, DfOk.nil hd, r.fr, r.wfF, r.wfH, fun k b h => (r.bx k b h).move ⟨rfl, rfl⟩ (fun _ _ _ _ _ _ => ⟨rfl, rfl⟩) (Kn.le_refl _) fun B e hβ => ⟨rfl, fun _ h => h, fun _ => .inr ⟨k, e, by show (lk H k).isSome = true; rw [show lk H k = some b from h]; rfl, hβ⟩⟩,
  r.inj, r.kr, ⟨Nat.le_refl _, fun _ _ _ => rfl, SameFx.refl _⟩, fun _ _ _ => rfl, fun k hk => ⟨hk.1, rfl, rfl, hk.2⟩⟩
theorem Qix {fr : List (Nat × D)} {H : List (Nat × Box)} (r : Rel E g ⟨fr, H⟩ a w) {b : Nat} (ho : ∃ k e, (lk H k).isSome = true /\ g.β k = some (b, e)) : (∀ o, g.K b o = none) /\ (E.B0 <= b \/ E.fo b) := by
 obtain ⟨k, e, h1, h2⟩ := ho
 obtain ⟨bx, hb⟩ := Option.isSome_iff_exists.1 h1
 exact ((r.bx k bx hb).blk h2).2
theorem Ql9 {fr : List (Nat × D)} {H H' : List (Nat × Box)} {g3 : Gh} {a3 : Act} {w3 : World} {l : Nat} (r : Rel E g ⟨fr, H⟩ a w) (r3 : Rel (Qsc E g H w l) g3 ⟨[], H'⟩ a3 w3) : g.K.le g3.K := fun b o x hx => by
 rw [r3.kx b (r.kr.lt hx) (fun ho => by rw [(Qix r ho).1 o] at hx; cases hx)]; exact hx
theorem Rel.endR {fr : List (Nat × D)} {H H' : List (Nat × Box)} {g3 : Gh} {a3 : Act} {w3 : World} {l : Nat} (hbig : Qne fr) (r : Rel E g ⟨fr, H⟩ a w) (hd : a.defers = []) (hE : ∀ k, E.keep k -> 1000000 <= k) (r3 : Rel (Qsc E g H w l) g3 ⟨[], H'⟩ a3 w3) : Rel E g3 ⟨fr, H'⟩ a w3 := by
 have kle := Ql9 r r3
 have hkp : ∀ t d, lk fr t = some d -> ∀ k ∈ d.ids, g3.β k = g.β k /\ g3.σ k = g.σ k /\ (lk H' k).isSome = true := fun t d h k hk => by
  obtain ⟨_, q2, q3, q4⟩ := r3.kp k ⟨hbig t d h k hk, r.wfF t d h k hk⟩
  exact ⟨q2, q3, q4⟩
 refine ⟨r.nt, DfOk.nil hd, fun t d h => (r.fr t d h).congr kle fun k hk => ⟨(hkp t d h k hk).1, (hkp t d h k hk).2.1⟩, fun t d h k hk => (hkp t d h k hk).2.2, r3.wfH, fun k b h => ?_, r3.inj, r3.kr,
  ⟨Nat.le_trans r.ext.1 r3.ext.1, fun b hb hf => (r3.ext.2.1 b (Nat.lt_of_lt_of_le hb r.ext.1) (fun ho => (Qix r ho).2.elim (fun h => by omega) hf)).trans (r.ext.2.1 b hb hf), r.ext.2.2.trans r3.ext.2.2⟩,
  fun b hb hf => (r3.kx b (Nat.lt_of_lt_of_le hb r.ext.1) (fun ho => (Qix r ho).2.elim (fun h => by omega) hf)).trans (r.kx b hb hf), fun k hk => ?_⟩
 ·exact (r3.bx k b h).move ⟨rfl, rfl⟩ (fun _ _ _ _ _ _ => ⟨rfl, rfl⟩) (Kn.le_refl _) fun B e hβ => ⟨rfl, fun _ h => h, fun h => h.elim (fun h => .inl (Nat.le_trans r.ext.1 h)) fun ho => (Qix r ho).2⟩
 ·obtain ⟨h1, h2, h3, h4⟩ := r.kp k hk
  obtain ⟨_, q2, q3, q4⟩ := r3.kp k ⟨h1, h4⟩
  exact ⟨h1, q2.trans h2, q3.trans h3, q4⟩
def Inv (E : Env) (g0 : Gh) (fr : List (Nat × D)) (a0 : Act) (dd : List Nat) (A : List (Nat × Box) -> Prop) (W : World) : Prop :=
 ∃ H g', A H /\ Qrn H /\ g0.K.le g'.K /\ Rel E g' ⟨fr, H⟩ a0 W /\ ∀ D ∈ dd, QaE W D
theorem Inv.turn {g0 : Gh} {fr : List (Nat × D)} {a0 : Act} {dd : List Nat} {A : List (Nat × Box) -> Prop} {W W' : World} {row : Option Nat} {B : Nat} (h : Inv E g0 fr a0 dd A W) (hd : a0.defers = []) (hB : E.B0 <= B) (hdd : ∀ D ∈ dd, D < B) (hg : W.grownBy W' row)
  (hr : ∀ r, row = some r -> B <= r /\ ∃ o : Obj, W.heap[r]? = some o /\ o.isCells = false) : Inv E g0 fr a0 dd A W' := by
 obtain ⟨H, g', h1, h2, h3, r, h4⟩ := h
 refine ⟨H, g', h1, h2, h3, r.aside (fun b => row = some b) (fun b hb hn => hg.block b hb fun e => hn e.symm) hg.size (fun b hb => ?_) rfl (DfOk.nil hd) ⟨hg.os, hg.tape, hg.output⟩, fun D hD => ?_⟩
 ·obtain ⟨q1, o, q2, q3⟩ := hr b hb
  refine ⟨Nat.le_trans hB q1, fun k bx e hk hβ => ?_, fun o' => r.kr.cells q2 q3⟩
  obtain ⟨o2, p1, p2⟩ := (r.bx k bx hk).cells (h2 k bx hk) hβ
  rw [q2] at p1; cases p1; rw [q3] at p2; cases p2
 ·have hDb := h4 D hD
  refine (hg.block D (Array.getElem?_eq_some_iff.1 hDb).1 fun e => ?_).trans hDb
  have := (hr D e.symm).1
  have := hdd D hD
  omega
theorem QmP {nt : Nat} {g : Operand} {ps : List Nat} {asg : Code} {ob : Option ACode} {x : Opd} {p q : Nat} {b : ACode} (h : Ql5 nt g ps asg ob = some (x, p, q, b)) :
  QG g = some x /\ ps = [p] /\ (∃ id ops, asg = .region id ops false /\ QoZ p ops.toList = some q) /\ ob = some b /\ p < nt /\ q < nt /\ b.flat = true := by
 unfold Ql5 at h
 split at h
 ·rename_i x' p' id ops b' e1
  split at h
  ·rename_i q' e2
   split at h
   ·rename_i e3
    cases h
    exact ⟨e1, rfl, ⟨_, _, rfl, e2⟩, rfl, e3.1, e3.2.1, e3.2.2⟩
   ·cases h
  ·cases h
 ·cases h
theorem Qnb {p q : Nat} {ops : List Oper} (h : QoZ p ops = some q) : ∃ o, ops = [o] /\ (o.op = .assign (.tmp p) \/ o.op = .move (.tmp p)) /\ o.dst = some q /\ o.guard = none := by
 unfold QoZ at h
 split at h
 ·rename_i o
  split at h
  ·rename_i p' q' e1 e2 e3
   split at h
   ·rename_i e; subst e; cases h; exact ⟨_, rfl, .inl e1, e2, e3⟩
   ·cases h
  ·rename_i p' q' e1 e2 e3
   split at h
   ·rename_i e; subst e; cases h; exact ⟨_, rfl, .inr e1, e2, e3⟩
   ·cases h
  ·cases h
 ·cases h
theorem Qp4 {n m : Nat} {c : Code} {Q : Exit -> Act -> World -> Prop} (h : c.wpIn Fence.wide n P Q a w) : c.wpIn Fence.wide m P Q a w := fun b k cs hro hb _ => h b k cs hro hb (room_wide _)
theorem Qps {K : Kn} {W : World} {l : Nat} {o o' : Obj} (h : KRel K W) (hl : W.heap[l]? = some o) (hc : o.isCells = false) : KRel K (W.putObj l o') := fun b i x hx => by
 obtain ⟨c, e, f, h1, h2⟩ := h b i x hx
 refine ⟨c, e, f, (World.putObj_heap_other (fun hb => ?_)).trans h1, h2⟩
 subst hb
 rw [hl] at h1; cases h1; cases hc
def Qsu {α : Type} (J : List α -> List (Nat × Box) -> Prop) (X : AExit -> List α -> List (Nat × Box) -> Prop) (l : List α) : AExit -> St -> Prop
 | .normal, s => ∃ H', s.le ⟨[], H'⟩ /\ J l H' /\ Qrn H'
 | e, s => ∃ H', s.le ⟨[], H'⟩ /\ X e l H' /\ Qrn H'
theorem Qm3 {nt : Nat} {Q : AExit -> St -> Prop} {x : Opd} {p q : Nat} {body : ACode} {f : Nat} {caps : List D} {α : Type} {iv : α -> Int} {xs : List α} {fr : List (Nat × D)} {H0 : List (Nat × Box)} (J : List α -> List (Nat × Box) -> Prop) (X : AExit -> List α -> List (Nat × Box) -> Prop)
  (hx : St.ev ⟨fr, H0⟩ x = some (.clo f caps)) (hcp : (caps.all fun d => !d.own) = true) (hit : IterOk P f caps iv xs) (hbig : Qne fr) (h0 : J [] H0) (hno : Qrn H0)
  (round : ∀ pre y H, J pre H -> pre.length < xs.length -> AW P nt body (Qsu J X (pre ++ [y])) ⟨(q, .int .i64 (iv y)) :: (p, .int .i64 (iv y)) :: fr, H⟩)
  (done : ∀ H, J xs H -> Q .normal ⟨fr, H⟩) (exits : ∀ id pre H, pre <+: xs -> X (.exit id) pre H -> Q (.exit id) ⟨fr, H⟩) (rets : ∀ pre H, pre <+: xs -> X .ret pre H -> Q .ret ⟨fr, H⟩) :
  AW P nt (.rangeF x p q body) Q ⟨fr, H0⟩ := fun code E g a w hm hp hn hfl r => by
 cases code <;> simp only [XC, Option.some.injEq, reduceCtorEq] at hp
 case rangeFunc gv ps asg b =>
  obtain ⟨t, ht, e⟩ := Option.map_eq_some_iff.1 hp
  have ht' : Ql5 nt gv ps.toList asg (XC P nt b) = some (x, p, q, body) := by
   obtain ⟨x', p', q', b'⟩ := t
   simp only [ACode.rangeF.injEq] at e
   obtain ⟨rfl, rfl, rfl, rfl⟩ := e
   exact ht
  obtain ⟨e1, e2, ⟨id, ops, rfl, e3⟩, e4, hpn, hqn, hfb⟩ := QmP ht'
  obtain ⟨hrd, n0, hbn, hbd0⟩ := hfl.resolve_right (by simp [ACode.flat])
  rw [hrd]
  have hps : ps = #[p] := by apply Array.ext'; simpa using e2
  subst hps
  obtain ⟨o, ho, hop, hodst, hog⟩ := Qnb e3
  obtain ⟨⟨lb, hv, hl⟩, _⟩ := ZE r e1 hx
  have hcaps : RepVs g.K caps lb := hl.to_vs hcp
  obtain ⟨dd, hd1, hd2, hd3⟩ := r.df.ex
  let a0 : Act := { tmps := a.tmps, defers := [] }
  have hbd : n0 <= w.heap.size := Nat.le_trans hbd0 r.ext.1
  have hdd : ∀ D ∈ dd, D < w.heap.size := fun D hD => (Array.getElem?_eq_some_iff.1 (hd3 D hD).1).1
  have rL : Rel (QmZ E g H0) g ⟨fr, H0⟩ a0 w := r.toL rfl rfl
  have hown : ∀ A : List α -> List (Nat × Box) -> Prop, OwnFrom w.heap.size (fun pre W => Inv (QmZ E g H0) g fr a0 dd (A pre) W) := fun A s W W' row hs hg hr => hs.turn rfl r.ext.1 hdd hg hr
  have hsz : a.tmps.size = nt := r.nt.trans hn
  refine Qp4 (n := 2) (wpIn_rangeFunc_ownG (F := Fence.wide) (n := 2) rfl (by decide) (gf := f) (lb := lb.toArray) hv trivial (Qmv hit.1) (hit.2 g.K w lb r.kr hcaps)
   (fun h k hh => k (h hh)) (fun W l o o' _ h1 h2 _ hk => Qps hk h1 h2) (Below.refl _ _) (fun _ => rfl)
   (fun pre W => Inv (QmZ E g H0) g fr a0 dd (J pre) W)
   (fun c pre W => match c with | .exit id => Inv (QmZ E g H0) g fr a0 dd (X (.exit id) pre) W | .ret => Inv (QmZ E g H0) g fr a0 dd (X .ret pre) W | _ => False)
   (hown J) (fun c => ?_) ⟨H0, g, h0, hno, Kn.le_refl _, rL, fun D hD => (hd3 D hD).1⟩
   (fun y => { tmps := (a.tmps.setIfInBounds p (.int .i64 (iv y))).setIfInBounds q (.int .i64 (iv y)), defers := [] }) ?_ ?_ ?_ ?_)
  ·intro s W W' row hs hg hr
   cases c <;> first | exact hs.elim | exact hown (X _) s W W' row hs hg hr
  ·-- the assignment
   intro l y W K hK
   have hops : ops = #[o] := by apply Array.ext'; simpa using ho
   subst hops
   refine wpIn_region ?_
   have hw : Region.wanted o (yielded #[o] (a.tmps.setIfInBounds p (.int .i64 (iv y)))) = true := by unfold Region.wanted; rw [hog]
   rw [show (Array.foldl (fun t x => match x with | (p, v) => t.setIfInBounds p v) a.tmps (#[p].zip #[Value.int IntKind.i64 (iv y)])) = a.tmps.setIfInBounds p (.int .i64 (iv y)) from by simp]
   rw [show List.range (#[o] : Array Oper).size = [0] from rfl]
   simp only [wpOpsIn]
   have h00 : (#[o] : Array Oper)[0]? = some o := rfl
   simp only [h00]
   rw [if_pos hw]
   refine Qgz (rd := some l) (fun c hc => by rcases hop with h | h <;> rw [h] at hc <;> cases hc) ?_
   unfold Oper.wp
   have hev : Act.eval { tmps := a.tmps.setIfInBounds p (.int .i64 (iv y)), defers := [] } (.tmp p) = .int .i64 (iv y) := by
    show (a.tmps.setIfInBounds p (.int .i64 (iv y))).getD p Go.undef = _
    simp [hsz, hpn]
   have hrun : (execOp (Act.eval { tmps := a.tmps.setIfInBounds p (.int .i64 (iv y)), defers := [] }) o).run P W = .ok (.value (.int .i64 (iv y))) W := by
    rcases hop with h | h <;> simp [execOp, h, hev]
   rw [hrun, Oper.upon_value, hodst]
   exact hK
  ·-- one round
   rintro l pre y W ⟨H, g', hJ, hnH, hle, rW, hmk⟩ hlen
   have rW' : Rel (QmZ E g H0) g' ⟨(q, .int .i64 (iv y)) :: (p, .int .i64 (iv y)) :: fr, H⟩ { tmps := (a.tmps.setIfInBounds p (.int .i64 (iv y))).setIfInBounds q (.int .i64 (iv y)), defers := [] } W := by
    have h1 := rW.put (t := p) (d := .int .i64 (iv y)) (v := .int .i64 (iv y)) (by show p < E.nt; rw [hn]; exact hpn) (Rep.of (by simp only [RepP])) (by simp [D.ids, D.sid])
    exact h1.put (t := q) (d := .int .i64 (iv y)) (v := .int .i64 (iv y)) (by show q < E.nt; rw [hn]; exact hqn) (Rep.of (by simp only [RepP])) (by simp [D.ids, D.sid])
   have rR := rW'.toR rfl l
   have hwp := round pre y H hJ hlen b (Qsc (QmZ E g H0) g' H W l) g' _ W hm e4 hn (.inr hfb) rR
   refine wpIn_mono (show b.wpIn (fen (some l)) 0 P _ _ W from hwp) ?_
   have fin : ∀ (A : List (Nat × Box) -> Prop) (a3 : Act) (W3 : World) (s' : St) (g3 : Gh), (∃ H', s'.le ⟨[], H'⟩ /\ A H' /\ Qrn H') -> Rel (Qsc (QmZ E g H0) g' H W l) g3 s' a3 W3 -> KeepsFrom w.heap.size W W3 /\ (KRel g.K W -> KRel g.K W3) /\ Inv (QmZ E g H0) g fr a0 dd A W3 := by
    rintro A a3 W3 s' g3 ⟨H', hle', hA, hnH'⟩ r3
    obtain ⟨g4, r4⟩ := hle' _ g3 a3 W3 r3
    have hk4 : g'.K.le g4.K := Ql9 rW r4
    have hkeep : ∀ (k : Nat) (o : Obj), W.heap[k]? = some o -> o.isCells = false -> W3.heap[k]? = some o := fun k o hk hc => by
     refine (r4.ext.2.1 k (Array.getElem?_eq_some_iff.1 hk).1 ?_).trans hk
     rintro ⟨j, e, h1, h2⟩
     obtain ⟨bx, hb⟩ := Option.isSome_iff_exists.1 h1
     obtain ⟨o2, p1, p2⟩ := (rW.bx j bx hb).cells (hnH j bx hb) h2
     rw [hk] at p1; cases p1; rw [hc] at p2; cases p2
    refine ⟨⟨r4.ext.1, fun k o _ hk hc => hkeep k o hk hc⟩, fun _ b0 i v hv => r4.kr b0 i v (hk4 _ _ _ (hle _ _ _ hv)), H', g4, hA, hnH', Kn.le_trans hle hk4, rW.endR hbig rfl (fun k hk => hk.1) r4, fun D hD => hkeep D _ (hmk D hD) rfl⟩
   intro e a3 W3 hq
   cases e <;> simp only [AQ] at hq
   ·obtain ⟨s', g3, hq, r3⟩ := hq
    obtain ⟨q1, q2, q3⟩ := fin _ a3 W3 s' g3 hq r3
    exact ⟨q1, q2, q3⟩
   ·obtain ⟨s', g3, hq, r3⟩ := hq
    obtain ⟨q1, _, q3⟩ := fin _ a3 W3 s' g3 hq r3
    exact ⟨q1, q3⟩
   ·obtain ⟨s', g3, hq, r3⟩ := hq
    obtain ⟨q1, _, q3⟩ := fin _ a3 W3 s' g3 hq r3
    exact ⟨q1, q3⟩
  ·-- all have come
   rintro D ys W hD rfl ⟨H, g', hJ, hnH, hle, rW, hmk⟩ hDf
   have hdf : DfOk E.bd { a with defers := { target := .collected D, args := #[] } :: a.defers } W := ⟨D :: dd, by simp [hd1], List.nodup_cons.2 ⟨fun h => by have := hdd D h; omega, hd2⟩, fun D' hD' => by
    rcases List.mem_cons.1 hD' with rfl | h
    ·exact ⟨hDf, by rw [hbn]; exact Nat.le_trans hbd hD⟩
    ·exact ⟨hmk D' h, (hd3 D' h).2⟩⟩
   exact ⟨⟨fr, H⟩, g', done H hJ, rW.ofL r.kp rfl hdf⟩
  ·-- a round has left
   rintro D c pre W hD hpre hI hDf
   have leave : ∀ (A : List (Nat × Box) -> Prop), Inv (QmZ E g H0) g fr a0 dd A W -> ∃ H g', A H /\ Rel E g' ⟨fr, H⟩ { a with defers := { target := .collected D, args := #[] } :: a.defers } W := by
    rintro A ⟨H, g', hA, hnH, hle, rW, hmk⟩
    have hdf : DfOk E.bd { a with defers := { target := .collected D, args := #[] } :: a.defers } W := ⟨D :: dd, by simp [hd1], List.nodup_cons.2 ⟨fun h => by have := hdd D h; omega, hd2⟩, fun D' hD' => by
     rcases List.mem_cons.1 hD' with rfl | h
     ·exact ⟨hDf, by rw [hbn]; exact Nat.le_trans hbd hD⟩
     ·exact ⟨hmk D' h, (hd3 D' h).2⟩⟩
    exact ⟨H, g', hA, rW.ofL r.kp rfl hdf⟩
   cases c <;> first | exact hI.elim | skip
   ·rename_i id
    obtain ⟨H, g', hA, r'⟩ := leave _ hI
    exact wpIn_exit ⟨⟨fr, H⟩, g', exits id pre H hpre hA, r'⟩
   ·obtain ⟨H, g', hA, r'⟩ := leave _ hI
    exact wpIn_ret ⟨⟨fr, H⟩, g', rets pre H hpre hA, r'⟩
 all_goals ((repeat' split at hp) <;> first | (cases hp; done) | (obtain ⟨_, _, h⟩ := Option.map_eq_some_iff.1 hp; cases h; done))
end
end Go.Abs
namespace Go.Abs
open Go Go.RowKit
/-! ### Iterators: code that calls its loop's yield. No own boxes; what a round may turn is not looked into but through what is known for good. -/
def D.kfree : D -> Bool
  | .int _ _ | .bool _ | .str _ | .val _ | .undef => true
  | _ => false
theorem QnQ {g g' : Gh} {d : D} {v : Value} (h : d.kfree = true) (hr : Rep g d v) : Rep g' d v := by
  cases d <;> simp only [D.kfree, Bool.false_eq_true] at h <;> exact hr
theorem Qju {d : D} (h : d.kfree = true) : d.ids = [] := by
  cases d <;> simp only [D.kfree, Bool.false_eq_true] at h <;> rfl
section
variable {P : Program} {nt : Nat} {K : Kn} {α : Type} {iv : α -> Int} {l B N : Nat} {J : Bool -> List α -> World -> Prop}
structure Yc (P : Program) (K : Kn) {α : Type} (iv : α -> Int) (l B N : Nat) (J : Bool -> List α -> World -> Prop) : Prop where
  ab : ∀ t, AbidesFrom B (J t)
  yl : ∀ pre x W, J true pre W -> pre.length < N -> YieldAt Fence.wide 0 P l #[.int .i64 (iv x)] W fun e W' => (e = .returned (.bool true) /\ J true (pre ++ [x]) W' /\ (KRel K W -> KRel K W')) \/ (e = .returned (.bool false) /\ J false (pre ++ [x]) W')
def kOf (K : Kn) (t : Bool) : Kn := if t then K else fun _ _ => none
def Qq7 (nt : Nat) (w : World) (K : Kn) : Env := ⟨nt, w.heap.size, w, K, fun _ => False, fun _ => False, fun _ => none, fun _ => 0, none, none⟩
def JRel (nt : Nat) (K : Kn) (fr : List (Nat × D)) (a : Act) (w : World) : Prop := ∃ g, K.le g.K /\ Rel (Qq7 nt w g.K) g ⟨fr, []⟩ a w
theorem JRel.of {E : Env} {g : Gh} {fr : List (Nat × D)} {a : Act} {w : World} (r : Rel E g ⟨fr, []⟩ a w) (hn : E.nt = nt) (hb : a.defers = []) (hk : K.le g.K) : JRel nt K fr a w :=
  ⟨g, hk, ⟨r.nt.trans hn, DfOk.nil hb, r.fr, r.wfF, (fun k b h => by cases h), (fun k b h => by cases h), (fun k k' b b' B e e' h => by cases h), r.kr, ⟨Nat.le_refl _, fun _ _ _ => rfl, SameFx.refl _⟩, fun _ _ _ => rfl, fun k h => h.elim⟩⟩
theorem JRel.krel {fr : List (Nat × D)} {a : Act} {w : World} (h : JRel nt K fr a w) : KRel K w := by
  obtain ⟨g, hk, r⟩ := h
  exact fun b o x hx => r.kr b o x (hk _ _ _ hx)
theorem JRel.next {fr fr' : List (Nat × D)} {a a' : Act} {w w' : World} {g g' : Gh} {t : Bool} {pre : List α} (hab : AbidesFrom B (J t)) (hk : K.le g.K) (r : Rel (Qq7 nt w g.K) g ⟨fr, []⟩ a w) (hJ : J t pre w) (r' : Rel (Qq7 nt w g.K) g' ⟨fr', []⟩ a' w') : JRel nt K fr' a' w' /\ J t pre w' := by
  refine ⟨JRel.of r' rfl r'.df.none (fun b o x hx => ?_), hab pre w w' none hJ ⟨r'.ext.2.2.1, r'.ext.2.2.2.1, r'.ext.2.2.2.2, r'.ext.1, fun k hk' _ => r'.ext.2.1 k hk' (fun h => h)⟩ (fun r e => by cases e)⟩
  rw [r'.kx b (r.kr.lt (hk _ _ _ hx)) (fun h => h)]; exact hk _ _ _ hx
theorem JRel.less {fr fr' : List (Nat × D)} {a : Act} {w : World} (h : JRel nt K fr a w) (hf : ∀ t d, lk fr' t = some d -> lk fr t = some d) : JRel nt K fr' a w := by
  obtain ⟨g, h2, r⟩ := h
  exact ⟨g, h2, r.less hf (fun _ _ h => h) (fun t d h => r.wfF t d (hf t d h)) r.wfH (fun _ _ h => h)⟩
def Qfi (P : Program) (K : Kn) {α : Type} (iv : α -> Int) (l N : Nat) (o : AOper) (k : List (Nat × D) -> Bool -> List α -> Prop) (fr : List (Nat × D)) (t : Bool) (pre : List α) : Prop :=
    QqS P o (fun s => ∃ fr', s.le ⟨fr', []⟩ /\ k fr' t pre) ⟨fr, []⟩ \/
    (∃ u sz x b off v d, o = ⟨some u, .load false sz x, none⟩ /\ t = true /\ St.ev ⟨fr, []⟩ x = some (.val (.pointer (some ⟨b, off, none⟩))) /\ K b off = some v /\ d.kfree = true /\ RepP K d v /\ k ((u, d) :: fr) t pre) \/
    (∃ u x y gd z, o = ⟨some u, .callV x [y], gd⟩ /\ gw ⟨fr, []⟩ gd = some true /\ St.ev ⟨fr, []⟩ x = some (.val (.func (.yield l) #[] #[])) /\ St.ev ⟨fr, []⟩ y = some (.int .i64 (iv z)) /\ t = true /\ pre.length < N /\ (fr.all fun p => p.2.kfree) = true /\
      k ((u, .bool true) :: fr) true (pre ++ [z]) /\ k ((u, .bool false) :: fr) false (pre ++ [z]))
def Qs0 (P : Program) (K : Kn) {α : Type} (iv : α -> Int) (l N : Nat) : List AOper -> (List (Nat × D) -> Bool -> List α -> Prop) -> List (Nat × D) -> Bool -> List α -> Prop
  | [], k, fr, t, pre => k fr t pre
  | o :: r, k, fr, t, pre => Qfi P K iv l N o (fun fr' t' pre' => Qs0 P K iv l N r k fr' t' pre') fr t pre
def QsM (P : Program) (K : Kn) {α : Type} (iv : α -> Int) (l N : Nat) (ops : Array Oper) (l' : List AOper) (k : List (Nat × D) -> Bool -> List α -> Prop) : Nat -> Array Bool -> List (Nat × D) -> Bool -> List α -> Prop
  | 0, listed, fr, t, pre => Region.ready .any ops listed = [] /\ k fr t pre
  | fuel + 1, listed, fr, t, pre =>
    (Region.ready .any ops listed = [] -> k fr t pre) /\
    ∀ i ∈ Region.ready .any ops listed, ∃ o', l'[i]? = some o' /\ Qfi P K iv l N o' (fun fr' t' pre' => QsM P K iv l N ops l' k fuel (listed.setIfInBounds i true) fr' t' pre') fr t pre
theorem Qqn {p : D -> Bool} : ∀ {fr : List (Nat × D)}, (fr.all fun q => p q.2) = true -> ∀ t d, lk fr t = some d -> p d = true
  | [], _, t, d, h => by cases h
  | (u, x) :: fr, hp, t, d, h => by
    simp only [List.all_cons, Bool.and_eq_true] at hp
    rw [Qn] at h
    split at h
    · cases h; exact hp.1
    · exact Qqn hp.2 t d h
theorem Qol {op : Op} {x : Opd} {asg : List Opd} (h : Yr P op = some (.callV x asg)) : ∃ c t, op = .call c /\ c.callee = .value (.tmp t) /\ x = .s t /\ Ye c.args.toList = some asg := by
  cases op <;> simp only [Yr, reduceCtorEq] at h
  case call c =>
    unfold Xg at h
    split at h
    · unfold X8 at h; (repeat' split at h) <;> cases h
    · (repeat' split at h) <;> cases h
    · unfold Yj at h; (repeat' split at h) <;> cases h
    · obtain ⟨_, _, h⟩ := Option.map_eq_some_iff.1 h; cases h
    · rename_i xs t hcal
      obtain ⟨asg', h1, h2⟩ := Option.map_eq_some_iff.1 h
      cases h2
      exact ⟨c, t, rfl, hcal, rfl, h1⟩
    · cases h
  all_goals
    first
      | (cases h; done)
      | (obtain ⟨_, _, h⟩ := Option.map_eq_some_iff.1 h; cases h; done)
      | (simp only [X7, YJ, ZK, YI, ZC, Xh, ZR, Y6, QbS] at h
         (repeat' split at h) <;> first | (cases h; done) | (obtain ⟨_, _, h⟩ := Option.map_eq_some_iff.1 h; cases h; done))
      | ((repeat' split at h) <;> first | (cases h; done) | (obtain ⟨_, _, h⟩ := Option.map_eq_some_iff.1 h; cases h; done))
theorem Qgd {ops : Array Oper} {Q : Exit -> Act -> World -> Prop} {k : List (Nat × D) -> Bool -> List α -> Prop} {Kc : Act -> World -> Prop} {o : Oper} {o' : AOper} {fr : List (Nat × D)} {t : Bool} {pre : List α} {a : Act} {w : World} (hc : Yc P K iv l B N J) (hdst : ∀ (j : Nat) (o' : Oper), ops[j]? = some o' -> ∀ t, o'.dst = some t -> t < nt)
    (e1 : ZT P nt ops o = some o') (r : JRel nt (kOf K t) fr a w) (hJ : J t pre w) (h : Qfi P K iv l N o' k fr t pre) (hgo : ∀ fr' t' pre' a' w', JRel nt (kOf K t') fr' a' w' -> J t' pre' w' -> k fr' t' pre' -> Kc a' w') :
    if Region.wanted o (yielded ops a.tmps) = true then o.wpIn Fence.wide 0 P a w Kc Q else (∀ f, o.about P w a.eval = some f -> Fence.wide.fn f) /\ Kc (a.put o.dst undef) w := by
  obtain ⟨p1, p2, p3, p4⟩ := Q6 e1
  rcases h with h | ⟨u, sz, x, b, off, v, d, rfl, rfl, hx, hv, hd, hdv, h⟩ | ⟨u, x, y, gd, z, rfl, hg, hx, hy, rfl, hlen, hfree, h1, h2⟩
  · obtain ⟨g, hkg, rr⟩ := r
    have := Ql3 (Q := Q) (E := Qq7 nt w g.K) (K' := Kc) rfl rr e1 hdst h fun s' g' a' w' r2 ⟨fr', hle, h2⟩ => by
      obtain ⟨g3, r3⟩ := hle _ g' a' w' r2
      obtain ⟨q1, q2⟩ := JRel.next (hc.ab t) hkg rr hJ r3
      exact hgo fr' t pre a' w' q1 q2 h2
    split
    · rename_i hw
      rw [if_pos hw] at this
      exact Qgz (rd := none) (Qcx p1) this
    · rename_i hw
      rw [if_neg hw] at this
      exact ⟨fun _ _ => trivial, this⟩
  · have hK := r.krel
    obtain ⟨g, hkg, rr⟩ := r
    have hw : Region.wanted o (yielded ops a.tmps) = true := by
      have : gw (⟨fr, []⟩ : St) none = some true := rfl
      exact XQ rr p2 hdst true this
    rw [if_pos hw]
    refine Qgz (rd := none) (Qcx p1) ?_
    -- a load of what is known for good
    have hload : ∃ ty x0, o.op = .load ty x0 /\ QiU P ty = some false /\ QG x0 = some x := by
      simp only at p1
      cases ho : o.op <;> rw [ho] at p1 <;> simp only [Yr, reduceCtorEq] at p1
      case load ty x0 =>
        split at p1
        · rename_i bb sz' x' q1 q2 q3
          cases p1; exact ⟨ty, x0, rfl, q1, q3⟩
        · cases p1
      all_goals
        first
          | (cases p1; done)
          | (obtain ⟨_, _, h⟩ := Option.map_eq_some_iff.1 p1; cases h; done)
          | (simp only [X7, YJ, ZK, YI, ZC, Xh, Xg, X8, Yj, ZR, Y6, QbS] at p1
             (repeat' split at p1) <;> first | (cases p1; done) | (obtain ⟨_, _, h⟩ := Option.map_eq_some_iff.1 p1; cases h; done))
          | ((repeat' split at p1) <;> first | (cases p1; done) | (obtain ⟨_, _, h⟩ := Option.map_eq_some_iff.1 p1; cases h; done))
    obtain ⟨ty, x0, ho, hty, hx0⟩ := hload
    have hval : a.eval x0 = .pointer (some ⟨b, off, none⟩) := by
      have := (ZE rr hx0 hx).1
      simp only [Rep, RepS, RepP] at this
      exact this.1
    obtain ⟨c, e, f, hc1, hc2⟩ := hK b off v hv
    have hcell := Qku hc1 hc2
    unfold Oper.wp
    have hrun : (execOp a.eval o).run P w = .ok (.value v) w := by
      simp [execOp, ho, hval, Instr.loadAt, Instr.sureAddr, loadVar, Yd hty, hcell]
    rw [hrun, Oper.upon_value]
    have hod : o.dst = some u := p3.symm
    rw [hod]
    have r2 : Rel (Qq7 nt w g.K) g ⟨(u, d) :: fr, []⟩ (a.put (some u) v) w := rr.put (t := u) (by show u < nt; exact p4 u hod) (Rep.of (hdv.mono hkg)) (by rw [Qju hd]; simp)
    obtain ⟨q1, q2⟩ := JRel.next (hc.ab true) hkg rr hJ r2
    exact hgo _ true pre _ w q1 q2 h
  · have hK := r.krel
    obtain ⟨g, hkg, rr⟩ := r
    have hw : Region.wanted o (yielded ops a.tmps) = true := XQ rr p2 hdst true hg
    rw [if_pos hw]
    obtain ⟨c, tt, ho, hcal, rfl, has⟩ := Qol p1
    have hf : a.eval (.tmp tt) = .func (.yield l) #[] #[] := by
      have := rr.fr tt _ hx
      simp only [Rep, RepS, RepP] at this
      exact this.1
    have hargs : c.args.map a.eval = #[.int .i64 (iv z)] := by
      have e0 : (c.args.map a.eval) = (c.args.toList.map a.eval).toArray := by apply Array.ext'; simp
      rw [e0]
      cases hca : c.args.toList with
      | nil => rw [hca] at has; simp [Ye] at has
      | cons y0 ys =>
        rw [hca] at has
        simp only [Ye] at has
        split at has
        · rename_i y1 r1 q1 q2
          cases has
          have hys : ys = [] := by
            cases ys with
            | nil => rfl
            | cons y2 ys => simp only [Ye] at q2; split at q2 <;> cases q2
          subst hys
          have hy0 : a.eval y0 = .int .i64 (iv z) := QbB rr q1 hy
          simp [hy0]
        · cases has
    obtain ⟨fn, tmps, assign, body, hyl, hR⟩ := hc.yl pre z w hJ hlen
    refine ⟨fun _ _ => trivial, ?_⟩
    have hrun : (o.semAt Fence.wide.round a.eval).run P w = .ok (.round l fn tmps assign body) w := by
      show (execOp a.eval o).run P w = _
      simp [execOp, ho, resolve, hcal, hf, Deferred.ofValue, invoke, hargs, hyl]
    rw [hrun, Oper.uponIn_round]
    have hod : o.dst = some u := p3.symm
    rw [hod]
    refine ⟨(fun hh => by cases hh), hR.mono ?_⟩
    have go2 : ∀ (tb : Bool) (W' : World), J tb (pre ++ [z]) W' -> (KRel (kOf K tb) W') -> k ((u, .bool tb) :: fr) tb (pre ++ [z]) -> Kc (a.put (some u) (.bool tb)) W' := fun tb W' hj hk' hh => by
      refine hgo _ tb _ _ W' ⟨⟨kOf K tb, fun _ => none, fun _ => 0⟩, Kn.le_refl _, ?_⟩ hj hh
      have hkf := Qqn hfree
      have r1 : Rel (Qq7 nt W' (kOf K tb)) ⟨kOf K tb, fun _ => none, fun _ => 0⟩ ⟨fr, []⟩ a W' := ⟨rr.nt, DfOk.nil rr.df.none, fun t d h => QnQ (hkf t d h) (rr.fr t d h), (fun t d h j hj => by rw [Qju (hkf t d h)] at hj; cases hj), (fun k b h => by cases h), (fun k b h => by cases h), (fun k k' b b' B e e' h => by cases h), hk', ⟨Nat.le_refl _, fun _ _ _ => rfl, SameFx.refl _⟩, fun _ _ _ => rfl, fun k h => h.elim⟩
      exact r1.put (t := u) (by show u < nt; exact p4 u hod) (Rep.of (by simp only [RepP])) (by simp [D.ids, D.sid])
    rintro e W' (⟨rfl, hj, hk'⟩ | ⟨rfl, hj⟩)
    · exact go2 true W' hj (hk' hK) h1
    · exact go2 false W' hj (fun b o x hx => by cases hx) h2
end
end Go.Abs
namespace Go.Abs
open Go Go.RowKit
/-! ### Iterators: their control -/
structure JSt (α : Type) where
 fr : List (Nat × D)
 t : Bool
 pre : List α
section
variable {P : Program} {nt : Nat} {K : Kn} {α : Type} {iv : α -> Int} {l B N : Nat} {J : Bool -> List α -> World -> Prop}
def JR (nt : Nat) (K : Kn) {α : Type} (J : Bool -> List α -> World -> Prop) (s : JSt α) (a : Act) (w : World) : Prop := JRel nt (kOf K s.t) s.fr a w /\ J s.t s.pre w
def JQ (nt : Nat) (K : Kn) {α : Type} (J : Bool -> List α -> World -> Prop) (Q : AExit -> JSt α -> Prop) : Exit -> Act -> World -> Prop
 | .normal, a, w => ∃ s, Q .normal s /\ JR nt K J s a w
 | .exit id, a, w => ∃ s, Q (.exit id) s /\ JR nt K J s a w
 | .ret, a, w => ∃ s, Q .ret s /\ JR nt K J s a w
 | _, _, _ => False
def JW (P : Program) (nt : Nat) (K : Kn) {α : Type} (J : Bool -> List α -> World -> Prop) (c : ACode) (Q : AExit -> JSt α -> Prop) (s : JSt α) : Prop :=
 ∀ code a w, P.follows .mixedOrders = true -> XC P nt code = some c -> JR nt K J s a w -> code.wpIn Fence.wide 0 P (JQ nt K J Q) a w
variable {Q : AExit -> JSt α -> Prop} {s : JSt α}
theorem Qkg (h : Q .normal s) : JW P nt K J .skip Q s := fun code a w hm hp r => by
 cases code <;> simp only [XC, Option.some.injEq, reduceCtorEq] at hp
 case skip => exact wpIn_skip ⟨s, h, r⟩
 case label => exact wpIn_label ⟨s, h, r⟩
 case region => split at hp <;> first | cases hp | (obtain ⟨_, _, h⟩ := Option.map_eq_some_iff.1 hp; cases h)
 case seq => split at hp <;> cases hp
 case cond => split at hp <;> cases hp
 all_goals (obtain ⟨_, _, h⟩ := Option.map_eq_some_iff.1 hp; cases h)
theorem QqE {id : Nat} (h : Q (.exit id) s) : JW P nt K J (.exit id) Q s := fun code a w hm hp r => by
 cases code <;> simp only [XC, Option.some.injEq, reduceCtorEq] at hp
 case exit i => cases hp; exact wpIn_exit ⟨s, h, r⟩
 case region => split at hp <;> first | cases hp | (obtain ⟨_, _, h⟩ := Option.map_eq_some_iff.1 hp; cases h)
 case seq => split at hp <;> cases hp
 case cond => split at hp <;> cases hp
 all_goals (obtain ⟨_, _, h⟩ := Option.map_eq_some_iff.1 hp; cases h)
theorem QrU (h : Q .ret s) : JW P nt K J .ret Q s := fun code a w hm hp r => by
 cases code <;> simp only [XC, Option.some.injEq, reduceCtorEq] at hp
 case ret => exact wpIn_ret ⟨s, h, r⟩
 case region => split at hp <;> first | cases hp | (obtain ⟨_, _, h⟩ := Option.map_eq_some_iff.1 hp; cases h)
 case seq => split at hp <;> cases hp
 case cond => split at hp <;> cases hp
 all_goals (obtain ⟨_, _, h⟩ := Option.map_eq_some_iff.1 hp; cases h)
def QtR (P : Program) (nt : Nat) (K : Kn) {α : Type} (J : Bool -> List α -> World -> Prop) (b : ACode) (Q : AExit -> JSt α -> Prop) : AExit -> JSt α -> Prop
 | .normal, s => JW P nt K J b Q s
 | e, s => Q e s
theorem QiY {x y : ACode} (h : JW P nt K J x (QtR P nt K J y Q) s) : JW P nt K J (.seq x y) Q s := fun code a w hm hp r => by
 cases code <;> simp only [XC, Option.some.injEq, reduceCtorEq] at hp
 case seq c d =>
  split at hp
  ·rename_i c' d' h1 h2
   cases hp
   refine wpIn_seq (wpIn_mono (h c a w hm h1 r) fun e a' w' hq => ?_)
   cases e <;> simp only [JQ] at hq
   ·obtain ⟨s', hq, r'⟩ := hq
    exact hq d a' w' hm h2 r'
   ·obtain ⟨s', hq, r'⟩ := hq; exact ⟨s', hq, r'⟩
   ·obtain ⟨s', hq, r'⟩ := hq; exact ⟨s', hq, r'⟩
  ·cases hp
 case region => split at hp <;> first | cases hp | (obtain ⟨_, _, h⟩ := Option.map_eq_some_iff.1 hp; cases h)
 case cond => split at hp <;> cases hp
 all_goals (obtain ⟨_, _, h⟩ := Option.map_eq_some_iff.1 hp; cases h)
theorem QhN {c : Opd} {x y : ACode} {t : Bool} (hc : St.ev ⟨s.fr, []⟩ c = some (.bool t)) (h1 : t = true -> JW P nt K J x Q s) (h2 : t = false -> JW P nt K J y Q s) : JW P nt K J (.cond c x y) Q s := fun code a w hm hp r => by
 cases code <;> simp only [XC, Option.some.injEq, reduceCtorEq] at hp
 case cond c0 x0 y0 =>
  split at hp
  ·rename_i c' x' y' e1 e2 e3
   cases hp
   obtain ⟨⟨g, hk, rr⟩, hJ⟩ := r
   have hv := QdF rr e1 hc
   cases t
   ·exact wpIn_cond hv (by simpa using h2 rfl y0 a w hm e3 ⟨⟨g, hk, rr⟩, hJ⟩)
   ·exact wpIn_cond hv (by simpa using h1 rfl x0 a w hm e2 ⟨⟨g, hk, rr⟩, hJ⟩)
  ·cases hp
 case seq => split at hp <;> cases hp
 case region => split at hp <;> first | cases hp | (obtain ⟨_, _, h⟩ := Option.map_eq_some_iff.1 hp; cases h)
 all_goals (obtain ⟨_, _, h⟩ := Option.map_eq_some_iff.1 hp; cases h)
def Qi6 {α : Type} (id : Nat) (Q : AExit -> JSt α -> Prop) : AExit -> JSt α -> Prop
 | .exit i, s => if i = id then Q .normal s else Q (.exit i) s
 | e, s => Q e s
theorem Qlc {id : Nat} {x : ACode} (h : JW P nt K J x (Qi6 id Q) s) : JW P nt K J (.block id x) Q s := fun code a w hm hp r => by
 cases code <;> simp only [XC, Option.some.injEq, reduceCtorEq] at hp
 case block i c =>
  obtain ⟨c', h1, h2⟩ := Option.map_eq_some_iff.1 hp
  cases h2
  refine wpIn_block (wpIn_mono (h c a w hm h1 r) fun e a' w' hq => ?_)
  cases e <;> simp only [JQ] at hq
  ·obtain ⟨s', hq, r'⟩ := hq; exact ⟨s', hq, r'⟩
  ·rename_i j
   obtain ⟨s', hq, r'⟩ := hq
   simp only [Qi6] at hq
   simp only [Exit.inBlock]
   split
   ·rename_i hj; rw [if_pos hj] at hq; exact ⟨s', hq, r'⟩
   ·rename_i hj; rw [if_neg hj] at hq; exact ⟨s', hq, r'⟩
  ·obtain ⟨s', hq, r'⟩ := hq; exact ⟨s', hq, r'⟩
 case seq => split at hp <;> cases hp
 case cond => split at hp <;> cases hp
 case region => split at hp <;> first | cases hp | (obtain ⟨_, _, h⟩ := Option.map_eq_some_iff.1 hp; cases h)
 case loop => obtain ⟨_, _, h⟩ := Option.map_eq_some_iff.1 hp; cases h
 case scope => obtain ⟨_, _, h⟩ := Option.map_eq_some_iff.1 hp; cases h
 case rangeFunc => obtain ⟨_, _, h⟩ := Option.map_eq_some_iff.1 hp; cases h
def Qqu {α ι : Type} (st : ι -> JSt α) (I : ι -> Prop) (μ : ι -> Nat) (i : ι) (Q : AExit -> JSt α -> Prop) : AExit -> JSt α -> Prop
 | .normal, s => ∃ j, (s.t = (st j).t /\ s.pre = (st j).pre /\ ∀ t d, lk (st j).fr t = some d -> lk s.fr t = some d) /\ I j /\ μ j < μ i
 | e, s => Q e s
theorem JR.less {s s' : JSt α} {a : Act} {w : World} (h : JR nt K J s a w) (h1 : s.t = s'.t) (h2 : s.pre = s'.pre) (h3 : ∀ t d, lk s'.fr t = some d -> lk s.fr t = some d) : JR nt K J s' a w :=
 ⟨by rw [<- h1]; exact h.1.less h3, by rw [<- h1, <- h2]; exact h.2⟩
theorem QqF {c : ACode} {s' : JSt α} (h1 : s.t = s'.t) (h2 : s.pre = s'.pre) (h3 : ∀ t d, lk s'.fr t = some d -> lk s.fr t = some d) (hw : JW P nt K J c Q s') : JW P nt K J c Q s := fun code a w hm hp r => hw code a w hm hp (r.less h1 h2 h3)
theorem QqG {ι : Type} {x : ACode} (st : ι -> JSt α) (I : ι -> Prop) (μ : ι -> Nat) (i0 : ι) (h1 : s.t = (st i0).t) (h2 : s.pre = (st i0).pre) (h3 : ∀ t d, lk (st i0).fr t = some d -> lk s.fr t = some d) (hI : I i0) (round : ∀ i, I i -> JW P nt K J x (Qqu st I μ i Q) (st i)) : JW P nt K J (.loop x) Q s := fun code a w hm hp r => by
 classical
 cases code <;> simp only [XC, Option.some.injEq, reduceCtorEq] at hp
 case loop c =>
  obtain ⟨c', e1, e2⟩ := Option.map_eq_some_iff.1 hp
  cases e2
  intro b k cs hro hb hr
  have key : ∀ n i a w, μ i = n -> I i -> JR nt K J (st i) a w ->
    ∃ e a' w', JQ nt K J Q e a' w' /\ ArrivesIn (Machine.fenced P Fence.wide) P (lone (b.atR a (.code c :: .inLoop c :: k)) cs w) b k cs e a' w' := by
   intro n
   induction n using Nat.strongRecOn with
   | _ n ih =>
    intro i a w hn' hi r
    obtain ⟨e, a₁, w₁, hq, harr⟩ := round i hi c a w hm e1 r b (.inLoop c :: k) cs hro hb hr
    cases e with
    | normal =>
     obtain ⟨s', ⟨j, hle, hj, hlt⟩, r'⟩ := hq
     obtain ⟨e₂, a₂, w₂, hq₂, harr₂⟩ := ih (μ j) (hn' ▸ hlt) j a₁ w₁ rfl hj (r'.less hle.1 hle.2.1 hle.2.2)
     exact ⟨e₂, a₂, w₂, hq₂, .of_steps (StepsIn.trans harr (.one (fenced_calm hb hr rfl) stepR_inLoop)) harr₂⟩
    | exit id => exact ⟨.exit id, a₁, w₁, (show JQ nt K J Q (.exit id) a₁ w₁ from hq), .pass (x := .inLoop c) rfl (fun _ _ => .inl (by simp)) harr⟩
    | ret => exact ⟨.ret, a₁, w₁, (show JQ nt K J Q .ret a₁ w₁ from hq), .pass (x := .inLoop c) rfl (fun _ _ => .inl (by simp)) harr⟩
    | goto l => exact hq.elim
    | panic ch => exact hq.elim
    | outgrown => exact hq.elim
  obtain ⟨e, a', w', hq, harr⟩ := key _ i0 a w rfl hI (r.less h1 h2 h3)
  exact ⟨e, a', w', hq, .of_steps (.one (fenced_calm hb hr rfl) stepR_loop) harr⟩
 case seq => split at hp <;> cases hp
 case cond => split at hp <;> cases hp
 case region => split at hp <;> first | cases hp | (obtain ⟨_, _, h⟩ := Option.map_eq_some_iff.1 hp; cases h)
 case block => obtain ⟨_, _, h⟩ := Option.map_eq_some_iff.1 hp; cases h
 case scope => obtain ⟨_, _, h⟩ := Option.map_eq_some_iff.1 hp; cases h
 case rangeFunc => obtain ⟨_, _, h⟩ := Option.map_eq_some_iff.1 hp; cases h
theorem Qhm {ops : Array Oper} {Qc : Exit -> Act -> World -> Prop} {k : List (Nat × D) -> Bool -> List α -> Prop} (hc : Yc P K iv l B N J) (hdst : ∀ (j : Nat) (o' : Oper), ops[j]? = some o' -> ∀ t, o'.dst = some t -> t < nt) (hQ : ∀ fr t pre a w, JRel nt (kOf K t) fr a w -> J t pre w -> k fr t pre -> Qc .normal a w) :
  ∀ (ol : List Oper) (i : Nat) (l' : List AOper) (fr : List (Nat × D)) (t : Bool) (pre : List α) (a : Act) (w : World), (∀ j, ol[j]? = ops[i + j]?) -> Q1 P nt ops ol = some l' -> JRel nt (kOf K t) fr a w -> J t pre w -> Qs0 P K iv l N l' k fr t pre ->
   wpOpsIn Fence.wide 0 P ops Qc (List.range' i ol.length) a w
 | [], i, l', fr, t, pre, a, w, _, hp, r, hJ, h => by
  simp only [Q1, Option.some.injEq] at hp; subst hp
  exact hQ fr t pre a w r hJ h
 | o :: ol, i, l', fr, t, pre, a, w, hl, hp, r, hJ, h => by
  simp only [Q1] at hp
  split at hp
  ·rename_i o' r' e1 e2
   cases hp
   have h0 : ops[i]? = some o := by simpa using (hl 0).symm
   have hl' : ∀ j, ol[j]? = ops[i + 1 + j]? := fun j => by have := hl (j + 1); simpa [Nat.add_assoc, Nat.add_comm 1 j] using this
   rw [List.length_cons, List.range'_succ, wpOpsIn_cons]
   unfold wpOpIn
   rw [h0]
   exact Qgd hc hdst e1 r hJ h fun fr' t' pre' a' w' hr hj hk => Qhm hc hdst hQ ol (i + 1) r' fr' t' pre' a' w' hl' e2 hr hj hk
  ·cases hp
theorem Qhl {ops : Array Oper} {l' : List AOper} {Qc : Exit -> Act -> World -> Prop} {k : List (Nat × D) -> Bool -> List α -> Prop} (hc : Yc P K iv l B N J) (hpre : QfL P nt ops l') (hdst : ∀ (j : Nat) (o' : Oper), ops[j]? = some o' -> ∀ t, o'.dst = some t -> t < nt) (hQ : ∀ fr t pre a w, JRel nt (kOf K t) fr a w -> J t pre w -> k fr t pre -> Qc .normal a w) :
  ∀ (fuel : Nat) (listed : Array Bool) (fr : List (Nat × D)) (t : Bool) (pre : List α) (a : Act) (w : World), JRel nt (kOf K t) fr a w -> J t pre w -> QsM P K iv l N ops l' k fuel listed fr t pre -> wpAnyIn Fence.wide 0 P .any ops Qc fuel listed a w
 | 0, listed, fr, t, pre, a, w, r, hJ, h => ⟨h.1, hQ fr t pre a w r hJ h.2⟩
 | fuel + 1, listed, fr, t, pre, a, w, r, hJ, h => ⟨fun hr => hQ fr t pre a w r hJ (h.1 hr), fun i hi => by
   obtain ⟨o', h1, h2⟩ := h.2 i hi
   obtain ⟨_, o, ho, _⟩ := mem_ready.1 hi
   have hpo : ZT P nt ops o = some o' := by
    obtain ⟨o2, q1, q2⟩ := hpre i o ho
    rw [h1] at q1; cases q1; exact q2
   unfold wpOpIn
   rw [ho]
   exact Qgd hc hdst hpo r hJ h2 fun fr' t' pre' a' w' hr hj hk => Qhl hc hpre hdst hQ fuel _ fr' t' pre' a' w' hr hj hk⟩
theorem QfJ {ol : List AOper} (hc : Yc P K iv l B N J) (h : Qs0 P K iv l N ol (fun fr t pre => Q .normal ⟨fr, t, pre⟩) s.fr s.t s.pre) : JW P nt K J (.region false ol) Q s := fun code a w hm hp r => by
 obtain ⟨id, ops, rfl, _, h1⟩ := QcO hp
 refine wpIn_region ?_
 rw [List.range_eq_range', <- Array.length_toList]
 exact Qhm hc (Qao h1) (fun fr t pre a w hr hj hk => ⟨⟨fr, t, pre⟩, hk, hr, hj⟩) ops.toList 0 ol s.fr s.t s.pre a w (by simp) h1 r.1 r.2 h
theorem Qmk {ol : List AOper} (hc : Yc P K iv l B N J) (h : ∀ ops : Array Oper, Q1 P nt ops ops.toList = some ol -> Qjg ops = true -> QsM P K iv l N ops ol (fun fr t pre => Q .normal ⟨fr, t, pre⟩) ops.size (Array.replicate ops.size false) s.fr s.t s.pre) : JW P nt K J (.region true ol) Q s := fun code a w hm hp r => by
 obtain ⟨id, ops, rfl, hB, h1⟩ := QcO hp
 refine wpIn_region_any hm ?_
 refine Qhl hc (fun i o ho => ZX h1 i o (by rw [Array.getElem?_toList]; exact ho)) (Qao h1) (fun fr t pre a w hr hj hk => ⟨⟨fr, t, pre⟩, hk, hr, hj⟩) _ _ s.fr s.t s.pre a _ ?_ ?_ (h ops h1 (hB rfl))
 ·obtain ⟨g, hk, rr⟩ := r.1
  exact JRel.of (rr.heap rfl) rfl rr.df.none hk
 ·exact hc.ab s.t s.pre w _ none r.2 ⟨rfl, rfl, rfl, Nat.le_refl _, fun _ _ _ => rfl⟩ (fun r e => by cases e)
def QlC (l : Nat) (lb : List Value) : List (Nat × D) := Qkc 0 (D.val (.func (.yield l) #[] #[]) :: lb.map D.val)
def Qrc {α : Type} (xs : List α) : AExit -> JSt α -> Prop
 | .exit _, _ => False
 | _, s => (s.t = true /\ s.pre = xs) \/ (s.t = false /\ s.pre <+: xs)
theorem IterOk.of {f : Nat} {fn : Func} {body : ACode} {caps : List D} {xs : List α} (hm : P.follows .mixedOrders = true) (hf : P.funcs[f]? = some fn) (hp : QM P fn = some ⟨nt, [], body⟩) (hres : fn.results = #[]) (hn : caps.length + 1 <= nt) (hcell : ∀ d ∈ caps, d.isCell = true)
  (h : ∀ (K : Kn) (l B : Nat) (J : Bool -> List α -> World -> Prop) (lb : List Value), RepVs K caps lb -> Yc P K iv l B xs.length J -> JW P nt K J body (Qrc xs) ⟨QlC l lb, true, []⟩) : IterOk P f caps iv xs := by
 unfold QM at hp
 split at hp
 ·rename_i c rs hbody hrs
  split at hp
  ·rename_i ac hac
   split at hp
   ·rename_i hname
    cases hp
    refine ⟨⟨fn, hf, hname, by rw [hbody]; rfl⟩, fun K w0 lb hkr hlb l J Jx W hW hJ hJx hY h0 => ?_⟩
    let Jb : Bool -> List α -> World -> Prop := fun t => if t then J else Jx
    have hkW : KRel K W := fun b o x e => by
     obtain ⟨c2, e2, f2, q1, q2⟩ := hkr b o x e
     exact ⟨c2, e2, f2, (hW.block b (Array.getElem?_eq_some_iff.1 q1).1).trans q1, q2⟩
    have hyc : Yc P K iv l W.heap.size xs.length Jb := ⟨fun t => by cases t <;> assumption, fun pre x W1 hj hlen => hY pre x W1 hj hlen⟩
    obtain ⟨hlen, hget⟩ := QgG hlb
    have hargs : (#[Value.func (.yield l) #[] #[]] ++ lb.toArray) = (Value.func (.yield l) #[] #[] :: lb).toArray := by apply Array.ext'; simp
    rw [hargs]
    have hsz : ((Value.func (.yield l) #[] #[] :: lb).toArray ++ Array.replicate (fn.ntmps - (Value.func (.yield l) #[] #[] :: lb).toArray.size) Go.undef).size = fn.ntmps := by simp; omega
    have r0 : Rel (Qq7 fn.ntmps W K) ⟨K, fun _ => none, fun _ => 0⟩ ⟨QlC l lb, []⟩ { tmps := (Value.func (.yield l) #[] #[] :: lb).toArray ++ Array.replicate (fn.ntmps - (Value.func (.yield l) #[] #[] :: lb).toArray.size) Go.undef, defers := [] } W := by
     have hv : ∀ t d', lk (QlC l lb) t = some d' -> ∃ v, (Value.func (.yield l) #[] #[] :: lb)[t]? = some v /\ d' = .val v := fun t d' hd => by
      rw [QlC, QeJ, if_pos (Nat.zero_le _), Nat.sub_zero] at hd
      rw [show (D.val (.func (.yield l) #[] #[]) :: lb.map D.val) = (Value.func (.yield l) #[] #[] :: lb).map D.val from rfl, List.getElem?_map] at hd
      obtain ⟨v, h1, h2⟩ := Option.map_eq_some_iff.1 hd
      exact ⟨v, h1, h2.symm⟩
     refine ⟨hsz, DfOk.nil rfl, fun t d' hd => ?_, fun t d' hd k hk => ?_, (fun k b hb => by cases hb), (fun k b hb => by cases hb), (fun k k' b b' B e e' h1 => by cases h1), hkW, ⟨Nat.le_refl _, fun b hb _ => rfl, SameFx.refl W⟩, fun b hb _ => rfl, fun k hk => hk.elim⟩
     ·obtain ⟨v, h1, rfl⟩ := hv t d' hd
      have : ((Value.func (.yield l) #[] #[] :: lb).toArray ++ Array.replicate (fn.ntmps - (Value.func (.yield l) #[] #[] :: lb).toArray.size) Go.undef).getD t Go.undef = v := by
       have hlt := (List.getElem?_eq_some_iff.1 h1).1
       rw [Array.getD_eq_getD_getElem?, Array.getElem?_append_left (by simpa using hlt)]
       simp [h1]
      simp only [this]
      refine Rep.of (by
       simp only [RepP]
       refine ⟨trivial, ?_⟩
       cases t with
       | zero => simp at h1; subst h1; rfl
       | succ t =>
        simp at h1
        have hlt := (List.getElem?_eq_some_iff.1 h1).1
        obtain ⟨v2, q1, q2⟩ := hget t caps[t] (List.getElem?_eq_getElem (by omega))
        rw [h1] at q1; cases q1
        exact q2.cell (hcell _ (List.getElem_mem _)))
     ·obtain ⟨v, h1, rfl⟩ := hv t d' hd
      simp [D.ids, D.sid] at hk
    refine (callsIn_wide (n := 1)).2 ((callsIn_wide (n := 0)).1 (callsIn_of_wp hf hbody trivial (wpIn_mono (h K l W.heap.size Jb lb hlb hyc c _ W hm hac ⟨JRel.of r0 rfl rfl (Kn.le_refl _), h0⟩) fun e a' w' hq => ?_)))
    have fin : ∀ s, (s.t = true /\ s.pre = xs \/ s.t = false /\ s.pre <+: xs) -> JR fn.ntmps K Jb s a' w' -> a'.defers = [] /\ ∃ v, (results fn a'.tmps).run P w' = .ok v w' /\ ((∃ v', Ending.returned v = .returned v') /\ ((∃ ys, ys = xs /\ J ys w') \/ (∃ pre, pre <+: xs /\ Jx pre w'))) := fun s hs hr => by
     obtain ⟨⟨g, _, rr⟩, hj⟩ := hr
     refine ⟨rr.df.none, _, results_none hres _ _ _, ⟨_, rfl⟩, ?_⟩
     rcases hs with ⟨h1, h2⟩ | ⟨h1, h2⟩
     ·refine .inl ⟨_, h2, ?_⟩
      rw [h1] at hj; exact hj
     ·refine .inr ⟨_, h2, ?_⟩
      rw [h1] at hj; exact hj
    cases e <;> simp only [JQ] at hq
    ·obtain ⟨s, hq, hr⟩ := hq; exact fin s hq hr
    ·obtain ⟨s, hq, hr⟩ := hq; exact hq.elim
    ·obtain ⟨s, hq, hr⟩ := hq; exact fin s hq hr
   ·cases hp
  ·cases hp
 ·cases hp
end
end Go.Abs
namespace Go.Abs
open Go Go.RowKit
/-! ### Iterators' regions that draw their order -/
def QdR (l' : List AOper) (done : List Nat) : List Nat := (List.range l'.length).filter fun j => !done.contains j && (List.range j).all fun m => done.contains m || (match l'[m]?, l'[j]? with
 | some om, some oj => !(om.dst.toList.any fun t => oj.looks.contains t)
 | _, _ => true)
section
variable {P : Program} {nt : Nat} {K : Kn} {α : Type} {iv : α -> Int} {l B N : Nat} {J : Bool -> List α -> World -> Prop} {ops : Array Oper}
theorem Qhq : ∀ (fuel k : Nat) (listed : Array Bool), Region.lexFrom .any ops fuel k listed = true -> (∀ j, listed.getD j false = true -> j < k) -> ∀ j o, k <= j -> j < k + fuel -> ops[j]? = some o -> ∀ e ∈ o.after, Region.binds .any e = true -> e.on < j
 | 0, k, listed, _, _, j, o, h1, h2, _, _, _, _ => by omega
 | fuel + 1, k, listed, h, hun, j, o, h1, h2, h3, e, he, hb => by
  simp only [Region.lexFrom, Bool.and_eq_true] at h
  obtain ⟨⟨hr, hf⟩, hn⟩ := h
  by_cases hj : j = k
  ·subst hj
   have hr' : j ∈ Region.ready .any ops listed := by simpa using hr
   obtain ⟨_, o2, ho2, hall⟩ := mem_ready.1 hr'
   rw [h3] at ho2; cases ho2
   exact hun _ (hall e he hb)
  ·refine Qhq fuel (k + 1) _ hn (fun i hi => ?_) j o (by omega) (by omega) h3 e he hb
   by_cases hik : i = k
   ·omega
   ·have : listed.getD i false = true := by
     rcases Nat.lt_or_ge i listed.size with h' | h'
     ·simp [h', Array.getElem_setIfInBounds, Ne.symm hik] at hi ⊢; exact hi
     ·simp [Array.getElem?_eq_none, h'] at hi
    have := hun i this; omega
def jD (P : Program) (K : Kn) {α : Type} (iv : α -> Int) (l N : Nat) (l' : List AOper) (k : List (Nat × D) -> Bool -> List α -> Prop) : Nat -> List Nat -> List (Nat × D) -> Bool -> List α -> Prop
 | 0, done, fr, t, pre => (List.range l'.length).all done.contains = true /\ k fr t pre
 | fuel + 1, done, fr, t, pre =>
  ((List.range l'.length).all done.contains = true -> k fr t pre) /\
  ∀ i ∈ QdR l' done, ∃ o', l'[i]? = some o' /\ Qfi P K iv l N o' (fun fr' t' pre' => jD P K iv l N l' k fuel (i :: done) fr' t' pre') fr t pre
theorem Qhn {o : AOper} {k k' : List (Nat × D) -> Bool -> List α -> Prop} (h : ∀ fr t pre, k fr t pre -> k' fr t pre) {fr : List (Nat × D)} {t : Bool} {pre : List α} (hh : Qfi P K iv l N o k fr t pre) : Qfi P K iv l N o k' fr t pre := by
 rcases hh with hh | ⟨u, sz, x, b, off, v, d, q1, q2, q3, q4, q5, q6, q7⟩ | ⟨u, x, y, gd, z, q1, q2, q3, q4, q5, q6, q7, q8, q9⟩
 ·refine .inl ?_
  unfold QqS at hh ⊢
  split at hh
  ·exact hh
  ·obtain ⟨fr', h1, h2⟩ := hh; exact ⟨fr', h1, h _ _ _ h2⟩
  ·rcases hh with ⟨d, bx, h1, fr', h2, h3⟩ | ⟨s', d, h1, fr', h2, h3⟩ | ⟨p, q, d, ef, h1, fr', h2, h3⟩ | ⟨f, args, HF, Hn, Hu, d, h1, h2, fr', h3, h4⟩ | ⟨f, args, ks, d, h1, h2, h3, fr', h4, h5⟩
   ·exact .inl ⟨d, bx, h1, fr', h2, h _ _ _ h3⟩
   ·exact .inr (.inl ⟨s', d, h1, fr', h2, h _ _ _ h3⟩)
   ·exact .inr (.inr (.inl ⟨p, q, d, ef, h1, fr', h2, h _ _ _ h3⟩))
   ·exact .inr (.inr (.inr (.inl ⟨f, args, HF, Hn, Hu, d, h1, h2, fr', h3, h _ _ _ h4⟩)))
   ·exact .inr (.inr (.inr (.inr ⟨f, args, ks, d, h1, h2, h3, fr', h4, h _ _ _ h5⟩)))
 ·exact .inr (.inl ⟨u, sz, x, b, off, v, d, q1, q2, q3, q4, q5, q6, h _ _ _ q7⟩)
 ·exact .inr (.inr ⟨u, x, y, gd, z, q1, q2, q3, q4, q5, q6, q7, h _ _ _ q8, h _ _ _ q9⟩)
theorem Qpo {l' : List AOper} {k : List (Nat × D) -> Bool -> List α -> Prop} (hlexB : Region.lexB .any ops = true) (hp : Q1 P nt ops ops.toList = some l') : ∀ (fuel : Nat) (listed : Array Bool) (done : List Nat) (fr : List (Nat × D)) (t : Bool) (pre : List α), listed.size = ops.size -> (∀ i, listed.getD i false = true ↔ (i < ops.size /\ i ∈ done)) ->
  jD P K iv l N l' k fuel done fr t pre -> QsM P K iv l N ops l' k fuel listed fr t pre := by
 have hlex := QlH hlexB
 have hon : ∀ j o, ops[j]? = some o -> ∀ e ∈ o.after, Region.binds .any e = true -> e.on < j := fun j o h3 e he hb => by
  have hj : j < ops.size := (Array.getElem?_eq_some_iff.1 h3).1
  simp only [Region.lexB, Bool.and_eq_true] at hlexB
  exact Qhq ops.size 0 _ hlexB.2 (fun i hi => by
   rcases Nat.lt_or_ge i ops.size with h' | h'
   ·simp [h'] at hi
   ·simp [h'] at hi) j o (Nat.zero_le _) (by omega) h3 e he hb
 have hsz : l'.length = ops.size := by
  have hlen : ∀ {l : List Oper} {l' : List AOper}, Q1 P nt ops l = some l' -> l'.length = l.length := by
   intro l
   induction l with
   | nil => intro l' h; simp [Q1] at h; subst h; rfl
   | cons x xs ih =>
    intro l' h
    simp only [Q1] at h
    split at h
    ·rename_i e2; cases h; simp [ih e2]
    ·cases h
  simpa using hlen hp
 have hun : ∀ {listed : Array Bool} {done : List Nat}, listed.size = ops.size -> (∀ i, listed.getD i false = true ↔ (i < ops.size /\ i ∈ done)) -> ∀ i, listed.getD i true = false -> i < ops.size /\ i ∉ done := fun {listed done} hs hl i hi => by
  rcases Nat.lt_or_ge i listed.size with h' | h'
  ·refine ⟨by omega, fun hd => ?_⟩
   have := (hl i).2 ⟨by omega, hd⟩
   simp [h'] at hi this
   rw [hi] at this; cases this
  ·simp [Array.getElem?_eq_none, h'] at hi
 have hall : ∀ {listed : Array Bool} {done : List Nat}, listed.size = ops.size -> (∀ i, listed.getD i false = true ↔ (i < ops.size /\ i ∈ done)) -> Region.ready .any ops listed = [] -> (List.range l'.length).all done.contains = true := fun {listed done} hs hl hr => by
  rw [List.all_eq_true]
  intro i hi
  rw [List.mem_range, hsz] at hi
  induction i using Nat.strongRecOn with
  | ind i ih =>
   apply Classical.byContradiction
   intro hd
   have hd : i ∉ done := by simpa using hd
   have hf : listed.getD i true = false := by
    have h1 : ¬ listed.getD i false = true := fun h => hd ((hl i).1 h).2
    simp [show i < listed.size by omega] at h1 ⊢
    exact h1
   have hm : i ∈ Region.ready .any ops listed := mem_ready.2 ⟨hf, ops[i], Array.getElem?_eq_getElem hi, fun e he hb => (hl _).2 ⟨by have := hon i _ (Array.getElem?_eq_getElem hi) e he hb; omega, by simpa using ih e.on (hon i _ (Array.getElem?_eq_getElem hi) e he hb) (by have := hon i _ (Array.getElem?_eq_getElem hi) e he hb; omega)⟩⟩
   rw [hr] at hm; cases hm
 intro fuel
 induction fuel with
 | zero =>
  intro listed done fr t pre hs hl h
  refine ⟨?_, h.2⟩
  rw [List.eq_nil_iff_forall_not_mem]
  intro i hi
  obtain ⟨h1, _⟩ := mem_ready.1 hi
  obtain ⟨h2, h3⟩ := hun hs hl i h1
  have := List.all_eq_true.1 h.1 i (by rw [List.mem_range, hsz]; exact h2)
  exact h3 (by simpa using this)
 | succ fuel ih =>
  intro listed done fr t pre hs hl h
  refine ⟨fun hr => h.1 (hall hs hl hr), fun i hi => ?_⟩
  obtain ⟨h1, o, ho, hafter⟩ := mem_ready.1 hi
  obtain ⟨h2, h3⟩ := hun hs hl i h1
  have hd : i ∈ QdR l' done := by
   unfold QdR
   rw [List.mem_filter, List.mem_range, hsz]
   refine ⟨h2, ?_⟩
   simp only [Bool.and_eq_true, Bool.not_eq_true', List.contains_eq_mem, decide_eq_false_iff_not, List.all_eq_true, List.mem_range]
   refine ⟨h3, fun m hm => ?_⟩
   by_cases hmd : m ∈ done
   ·simp [hmd]
   ·have hms : m < ops.size := by omega
    obtain ⟨om', q1, q2⟩ := ZX hp m _ (by rw [Array.getElem?_toList]; exact Array.getElem?_eq_getElem hms)
    obtain ⟨oj', q3, q4⟩ := ZX hp i o (by rw [Array.getElem?_toList]; exact ho)
    rw [q1, q3]
    simp only [Bool.or_eq_true, Bool.not_eq_true']
    refine .inr ?_
    rw [List.any_eq_false]
    intro t ht hc
    have hmt : ops[m].dst = some t := by
     rw [<- (Q6 q2).2.2.1]
     cases hd : om'.dst with
     | none => rw [hd] at ht; cases ht
     | some u => rw [hd] at ht; simp at ht; rw [ht]
    have hdep : Dep ops i m := (hlex m i _ o hm (Array.getElem?_eq_getElem hms) ho).resolve_right fun ha => (Oper.apart_spec ha).1 t hmt (Qgo q4 (by simpa using hc))
    obtain ⟨o2, ho2, e, he, hb, hon'⟩ := hdep
    rw [ho] at ho2; cases ho2
    have := hafter e he hb
    rw [hon'] at this
    exact hmd ((hl m).1 this).2
  obtain ⟨o', q1, q2⟩ := h.2 i hd
  refine ⟨o', q1, Qhn (fun fr' t' pre' hk => ih _ (i :: done) fr' t' pre' (by simp [hs]) (fun m => ?_) hk) q2⟩
  by_cases hmi : m = i
  ·subst hmi
   simp [hs, h2]
  ·rw [show (listed.setIfInBounds i true).getD m false = listed.getD m false by
    rcases Nat.lt_or_ge m listed.size with h' | h'
    ·simp [h', Array.getElem_setIfInBounds, Ne.symm hmi]
    ·simp [Array.getElem?_eq_none, h'], hl m]
   simp [hmi]
theorem Qml {Q : AExit -> JSt α -> Prop} {s : JSt α} {ol : List AOper} (hc : Yc P K iv l B N J) (h : jD P K iv l N ol (fun fr t pre => Q .normal ⟨fr, t, pre⟩) ol.length [] s.fr s.t s.pre) : JW P nt K J (.region true ol) Q s := Qmk hc fun ops h1 hB => by
 have hsz : ol.length = ops.size := by
  have hlen : ∀ {l : List Oper} {l' : List AOper}, Q1 P nt ops l = some l' -> l'.length = l.length := by
   intro l
   induction l with
   | nil => intro l' h; simp [Q1] at h; subst h; rfl
   | cons x xs ih =>
    intro l' h
    simp only [Q1] at h
    split at h
    ·rename_i e2; cases h; simp [ih e2]
    ·cases h
  simpa using hlen h1
 rw [hsz] at h
 simp only [Qjg, Bool.and_eq_true] at hB
 refine Qpo hB.1 h1 ops.size _ [] s.fr s.t s.pre (by simp) (fun i => ?_) h
 rcases Nat.lt_or_ge i ops.size with h' | h'
 ·simp [h']
 ·simp [h']
/-! ### Qm7 -/
theorem QnP {l' : List AOper} {k : List (Nat × D) -> Bool -> List α -> Prop} {fuel : Nat} {done : List Nat} {fr : List (Nat × D)} {t : Bool} {pre : List α} (hd : (List.range l'.length).all done.contains = true) (hr : QdR l' done = []) (h : k fr t pre) : jD P K iv l N l' k fuel done fr t pre := by
 cases fuel with
 | zero => exact ⟨hd, h⟩
 | succ n => exact ⟨fun _ => h, fun i hi => by rw [hr] at hi; cases hi⟩
theorem Y7 {l' : List AOper} {k : List (Nat × D) -> Bool -> List α -> Prop} {fuel : Nat} {done : List Nat} {fr : List (Nat × D)} {t : Bool} {pre : List α} {i : Nat} {o' : AOper} (hr : QdR l' done = [i]) (hd : (List.range l'.length).all done.contains = false) (ho : l'[i]? = some o') (h : Qfi P K iv l N o' (fun fr' t' pre' => jD P K iv l N l' k fuel (i :: done) fr' t' pre') fr t pre) : jD P K iv l N l' k (fuel + 1) done fr t pre :=
 ⟨fun h => (by rw [hd] at h; cases h), fun j hj => by rw [hr] at hj; simp at hj; subst hj; exact ⟨o', ho, h⟩⟩
theorem QlD {l' : List AOper} {k : List (Nat × D) -> Bool -> List α -> Prop} {fuel : Nat} {done : List Nat} {fr : List (Nat × D)} {t : Bool} {pre : List α} {i i2 : Nat} {o' o2 : AOper} (hr : QdR l' done = [i, i2]) (hd : (List.range l'.length).all done.contains = false) (ho : l'[i]? = some o') (ho2 : l'[i2]? = some o2)
  (h : Qfi P K iv l N o' (fun fr' t' pre' => jD P K iv l N l' k fuel (i :: done) fr' t' pre') fr t pre) (h2 : Qfi P K iv l N o2 (fun fr' t' pre' => jD P K iv l N l' k fuel (i2 :: done) fr' t' pre') fr t pre) : jD P K iv l N l' k (fuel + 1) done fr t pre :=
 ⟨fun h => (by rw [hd] at h; cases h), fun j hj => by
  rw [hr] at hj; simp at hj
  rcases hj with rfl | rfl
  ·exact ⟨o', ho, h⟩
  ·exact ⟨o2, ho2, h2⟩⟩
theorem Qdb {o : AOper} {k : List (Nat × D) -> Bool -> List α -> Prop} {fr : List (Nat × D)} {t : Bool} {pre : List α} (h : run P .fixed [o] (fun s => ∃ fr', s.le ⟨fr', []⟩ /\ k fr' t pre) ⟨fr, []⟩) : Qfi P K iv l N o k fr t pre := .inl (Xc h)
theorem QgQ {k : List (Nat × D) -> Prop} {fr : List (Nat × D)} (h : k fr) : ∃ fr', St.le ⟨fr, []⟩ ⟨fr', []⟩ /\ k fr' := ⟨fr, le_refl _, h⟩
theorem Qrd {k : List (Nat × D) -> Bool -> List α -> Prop} {fr : List (Nat × D)} {pre : List α} {u sz : Nat} {x : Opd} {b off : Nat} {v : Value} {d : D} (hx : St.ev ⟨fr, []⟩ x = some (.val (.pointer (some ⟨b, off, none⟩)))) (hK : K b off = some v) (hd : d.kfree = true) (hv : RepP K d v) (h : k ((u, d) :: fr) true pre) : Qfi P K iv l N ⟨some u, .load false sz x, none⟩ k fr true pre :=
 .inr (.inl ⟨u, sz, x, b, off, v, d, rfl, rfl, hx, hK, hd, hv, h⟩)
theorem Qsi {k : List (Nat × D) -> Bool -> List α -> Prop} {fr : List (Nat × D)} {pre : List α} {u : Nat} {x y : Opd} {gd : Option (Nat × Bool)} (z : α) (hg : gw ⟨fr, []⟩ gd = some true) (hx : St.ev ⟨fr, []⟩ x = some (.val (.func (.yield l) #[] #[]))) (hy : St.ev ⟨fr, []⟩ y = some (.int .i64 (iv z))) (hlen : pre.length < N) (hfree : (fr.all fun p => p.2.kfree) = true)
  (h1 : k ((u, .bool true) :: fr) true (pre ++ [z])) (h2 : k ((u, .bool false) :: fr) false (pre ++ [z])) : Qfi P K iv l N ⟨some u, .callV x [y], gd⟩ k fr true pre := .inr (.inr ⟨u, x, y, gd, z, rfl, hg, hx, hy, rfl, hlen, hfree, h1, h2⟩)
end
end Go.Abs
namespace Go.Abs
open Go Go.RowKit
/-! ### Loops over functions, with names asg the walks have them -/
def upS (k : Nat) : Nat := if k < 1000000 then k + 1000000 else if k < 2000000 then k - 1000000 else k
theorem Qk8 (k : Nat) : upS (upS k) = k := by
 unfold upS
 by_cases h1 : k < 1000000
 ·rw [if_pos h1, if_neg (by omega), if_pos (by omega)]; omega
 ·by_cases h2 : k < 2000000
  ·rw [if_neg h1, if_pos h2, if_pos (by omega)]; omega
  ·rw [if_neg h1, if_neg h2, if_neg h1, if_neg h2]
theorem Rel.renI {E : Env} {g : Gh} {s : St} {a : Act} {w : World} {ρ : Nat -> Nat} (hρ : ∀ k, ρ (ρ k) = k) (hk : ∀ k, E.keep k -> ρ k = k) (r : Rel E g s a w) : Rel E (g.pull ρ) (s.ren ρ) a w := by
 have hpp : (g.pull ρ).pull ρ = g := by
  show (⟨g.K, fun k => g.β (ρ (ρ k)), fun k => g.σ (ρ (ρ k))⟩ : Gh) = g
  simp only [hρ]
 have hlk := Qdt hρ s.H
 have hsome : ∀ k, (lk (Qcy ρ s.H) (ρ k)).isSome = (lk s.H k).isSome := fun k => by rw [hlk, hρ, Option.isSome_map]
 refine ⟨r.nt, r.df, fun u d h => ?_, fun u d h k hk => ?_, fun k b h j hj => ?_, fun k b h => ?_, fun k k' b b' B e e' h1 h2 h3 h4 => ?_, r.kr, r.ext, r.kx, fun k hk0 => ?_⟩
 ·simp only [St.ren, ZU] at h
  obtain ⟨d0, h1, rfl⟩ := Option.map_eq_some_iff.1 h
  rw [Rep.ren, hpp]; exact r.fr u d0 h1
 ·simp only [St.ren, ZU] at h
  obtain ⟨d0, h1, rfl⟩ := Option.map_eq_some_iff.1 h
  rw [ren_ids] at hk
  obtain ⟨j, hj, rfl⟩ := List.mem_map.1 hk
  show (lk (Qcy _ s.H) _).isSome = true
  rw [hsome]; exact r.wfF u d0 h1 j hj
 ·change lk (Qcy _ s.H) k = some b at h
  rw [hlk] at h
  obtain ⟨b0, h1, rfl⟩ := Option.map_eq_some_iff.1 h
  rw [Box.ren_ids] at hj
  obtain ⟨i, hi, rfl⟩ := List.mem_map.1 hj
  show (lk (Qcy _ s.H) _).isSome = true
  rw [hsome]; exact r.wfH _ b0 h1 i hi
 ·change lk (Qcy _ s.H) k = some b at h
  rw [hlk] at h
  obtain ⟨b0, h1, rfl⟩ := Option.map_eq_some_iff.1 h
  have := r.bx _ b0 h1
  have e : k = ρ (ρ k) := (hρ k).symm
  rw [e, BoxRel.ren, hpp]; exact this
 ·change lk (Qcy _ s.H) k = some b at h1
  change lk (Qcy _ s.H) k' = some b' at h2
  rw [hlk] at h1 h2
  obtain ⟨b0, q1, rfl⟩ := Option.map_eq_some_iff.1 h1
  obtain ⟨b1, q2, rfl⟩ := Option.map_eq_some_iff.1 h2
  have := r.inj _ _ b0 b1 B e e' q1 q2 h3 h4
  rw [<- hρ k, this, hρ]
 ·obtain ⟨h1, h2, h3, h4⟩ := r.kp k hk0
  have hb := hk k hk0
  refine ⟨h1, ?_, ?_, ?_⟩
  ·show g.β (ρ k) = _; rw [hb]; exact h2
  ·show g.σ (ρ k) = _; rw [hb]; exact h3
  ·show (lk (Qcy _ s.H) k).isSome = true
   have := hsome k
   rw [hb] at this
   rw [this]; exact h4
theorem QjQ {ρ : Nat -> Nat} (hρ : ∀ k, ρ (ρ k) = k) (d : D) : (d.renS ρ).renS ρ = d := by cases d <;> simp only [D.renS, hρ]
theorem Qpa {ρ : Nat -> Nat} (hρ : ∀ k, ρ (ρ k) = k) (d : D) : (d.ren ρ).ren ρ = d := by
 have hm : ∀ cs : List D, (cs.map (D.renS ρ)).map (D.renS ρ) = cs := fun cs => by
  rw [List.map_map]
  exact List.map_id'' (fun d => QjQ hρ d) cs
 cases d <;> simp only [D.ren, D.renS, hρ, hm]
theorem St.ren_ren {ρ : Nat -> Nat} (hρ : ∀ k, ρ (ρ k) = k) (s : St) : (s.ren ρ).ren ρ = s := by
 have hm : ∀ cs : List D, (cs.map (D.renS ρ)).map (D.renS ρ) = cs := fun cs => by
  rw [List.map_map]
  exact List.map_id'' (fun d => QjQ hρ d) cs
 cases s with
 | mk fr H =>
  simp only [St.ren, Qcy, List.map_map]
  congr 1
  ·exact List.map_id'' (fun p => by simp [Qpa hρ]) fr
  ·refine List.map_id'' (fun p => ?_) H
   obtain ⟨k, b⟩ := p
   simp only [Function.comp, hρ, Box.ren]
   congr 1
   cases b with
   | mk rows esz et pr =>
    congr 1
    rw [List.map_map]
    exact List.map_id'' (fun r => hm r) rows
theorem Qro {H : List (Nat × Box)} (h : (H.all fun p => p.2.esz != 0) = true) : Qrn H := fun k b hb ⟨_, h2, _⟩ => by
 have := List.all_eq_true.1 h _ (ZO hb)
 rw [h2] at this; cases this
theorem QfB {H : List (Nat × Box)} (h : (H.all fun p => p.2.esz != 0) = true) : Qrn (Qcy upS H) := Qro (by
 rw [List.all_eq_true] at h ⊢
 intro p hp
 obtain ⟨q, hq, rfl⟩ := List.mem_map.1 hp
 exact h q hq)
def Qon {α : Type} (HU : List α -> List (Nat × Box)) (X : AExit -> List α -> List (Nat × Box) -> Prop) (l : List α) : AExit -> St -> Prop
 | .normal, s => s.le ⟨[], HU l⟩
 | e, s => ∃ H, s.le ⟨[], Qcy upS H⟩ /\ X e l H /\ (H.all fun p => p.2.esz != 0) = true
theorem Qm4 {P : Program} {nt : Nat} {Q : AExit -> St -> Prop} {x : Opd} {p q : Nat} {body : ACode} {f : Nat} {caps : List D} {α : Type} {iv : α -> Int} {xs : List α} {fr frU : List (Nat × D)} (HB HU : List α -> List (Nat × Box)) (X : AExit -> List α -> List (Nat × Box) -> Prop)
  (hx : St.ev ⟨fr, HB []⟩ x = some (.clo f caps)) (hcp : (caps.all fun d => !d.own) = true) (hcr : caps.map (D.renS upS) = caps) (hit : IterOk P f caps iv xs) (hsm : ((HB []).all fun p => decide (p.1 < 1000000)) = true) (hes : ∀ l, ((HB l).all fun p => p.2.esz != 0) = true)
  (hfr : fr.map (fun p => (p.1, p.2.ren upS)) = frU) (hHU : ∀ l, Qcy upS (HB l) = HU l)
  (round : ∀ pre y, pre.length < xs.length -> AW P nt body (Qon HU X (pre ++ [y])) ⟨(q, .int .i64 (iv y)) :: (p, .int .i64 (iv y)) :: frU, HU pre⟩)
  (done : Q .normal ⟨fr, HB xs⟩) (exits : ∀ id pre H, pre <+: xs -> X (.exit id) pre H -> Q (.exit id) ⟨fr, H⟩) (rets : ∀ pre H, pre <+: xs -> X .ret pre H -> Q .ret ⟨fr, H⟩) :
  AW P nt (.rangeF x p q body) Q ⟨fr, HB []⟩ := fun code E g a w hm hp hn hfl r => by
 have hnk : ∀ k, E.keep k -> False := fun k hk => by
  obtain ⟨h1, _, _, h4⟩ := r.kp k hk
  obtain ⟨b, hb⟩ := Option.isSome_iff_exists.1 h4
  have := of_decide_eq_true (List.all_eq_true.1 hsm _ (ZO hb))
  simp only at this; omega
 have r' : Rel E (g.pull upS) ⟨frU, HU []⟩ a w := by
  have := r.renI Qk8 (fun k hk => (hnk k hk).elim)
  rw [<- hfr, <- hHU]; exact this
 have hbig : Qne frU := fun t d h k hk => by
  subst hfr
  rw [ZU] at h
  obtain ⟨d0, h1, rfl⟩ := Option.map_eq_some_iff.1 h
  rw [ren_ids] at hk
  obtain ⟨j, hj, rfl⟩ := List.mem_map.1 hk
  obtain ⟨b, hb⟩ := Option.isSome_iff_exists.1 (r.wfF t d0 h1 j hj)
  have := of_decide_eq_true (List.all_eq_true.1 hsm _ (ZO hb))
  simp only at this
  rw [upS, if_pos this]; omega
 have hx' : St.ev ⟨frU, HU []⟩ x = some (.clo f caps) := by
  cases x with
  | c d => simp only [St.ev] at hx ⊢; exact hx
  | s t =>
   simp only [St.ev] at hx ⊢
   rw [<- hfr, ZU, hx]
   simp only [Option.map_some, D.ren, hcr]
 let Q' : AExit -> St -> Prop := fun e s' => ∃ s0, Q e s0 /\ s' = s0.ren upS
 have key := Qm3 (P := P) (nt := nt) (Q := Q') (body := body) (p := p) (q := q) (fun l H => H = HU l) (fun e l H => ∃ H0, H = Qcy upS H0 /\ X e l H0 /\ e ≠ .normal) hx' hcp hit hbig rfl (by rw [<- hHU]; exact QfB (hes []))
  (fun pre y H hH hlen => by
   subst hH
   intro code E g a w hm hp hn hfl r
   refine wpIn_mono (round pre y hlen code E g a w hm hp hn hfl r) fun e a' w' hq => ?_
   cases e <;> simp only [AQ] at hq
   ·obtain ⟨s, g', hq, r'⟩ := hq
    exact ⟨s, g', ⟨_, hq, rfl, by rw [<- hHU]; exact QfB (hes _)⟩, r'⟩
   ·obtain ⟨s, g', ⟨H, h1, h2, h3⟩, r'⟩ := hq
    exact ⟨s, g', ⟨_, h1, ⟨H, rfl, h2, by simp⟩, QfB h3⟩, r'⟩
   ·obtain ⟨s, g', ⟨H, h1, h2, h3⟩, r'⟩ := hq
    exact ⟨s, g', ⟨_, h1, ⟨H, rfl, h2, by simp⟩, QfB h3⟩, r'⟩)
  (fun H hH => by subst hH; exact ⟨_, done, by rw [<- hHU, <- hfr]; rfl⟩)
  (fun id pre H hpre ⟨H0, e, hX, _⟩ => by subst e; exact ⟨_, exits id pre H0 hpre hX, by rw [<- hfr]; rfl⟩)
  (fun pre H hpre ⟨H0, e, hX, _⟩ => by subst e; exact ⟨_, rets pre H0 hpre hX, by rw [<- hfr]; rfl⟩)
 refine wpIn_mono (key code E _ a w hm hp hn hfl r') fun e a' w' hq => ?_
 have back : ∀ {e' : AExit}, (∃ s g', Q' e' s /\ Rel E g' s a' w') -> ∃ s g', Q e' s /\ Rel E g' s a' w' := fun ⟨s, g', ⟨s0, h1, h2⟩, r2⟩ => by
  subst h2
  have := r2.renI Qk8 (fun k hk => (hnk k hk).elim)
  rw [St.ren_ren Qk8] at this
  exact ⟨s0, _, h1, this⟩
 cases e <;> simp only [AQ] at hq ⊢
 ·exact back hq
 ·exact back hq
 ·exact back hq
theorem QoV {P : Program} {nt : Nat} {Q : AExit -> St -> Prop} {x : Opd} {p q : Nat} {body : TCode} {f : Nat} {caps : List D} {α : Type} {iv : α -> Int} {xs : List α} {fr frU : List (Nat × D)} {H0 : List (Nat × Box)} (HB HU : List α -> List (Nat × Box)) (X : AExit -> List α -> List (Nat × Box) -> Prop) (hH0 : H0 = HB [])
  (hx : St.ev ⟨fr, H0⟩ x = some (.clo f caps)) (hcp : (caps.all fun d => !d.own) = true) (hcr : caps.map (D.renS upS) = caps) (hit : IterOk P f caps iv xs) (hsm : (H0.all fun p => decide (p.1 < 1000000)) = true) (hes : ∀ l, ((HB l).all fun p => p.2.esz != 0) = true)
  (hfr : fr.map (fun p => (p.1, p.2.ren upS)) = frU) (hHU : ∀ l, Qcy upS (HB l) = HU l)
  (round : ∀ pre y, pre.length < xs.length -> TW P nt body (Qon HU X (pre ++ [y])) ⟨(q, .int .i64 (iv y)) :: (p, .int .i64 (iv y)) :: frU, HU pre⟩)
  (done : Q .normal ⟨fr, HB xs⟩) (exits : ∀ id pre H, pre <+: xs -> X (.exit id) pre H -> Q (.exit id) ⟨fr, H⟩) (rets : ∀ pre H, pre <+: xs -> X .ret pre H -> Q .ret ⟨fr, H⟩) :
  TW P nt (.rangeF x p q body) Q ⟨fr, H0⟩ := by
 subst hH0
 exact Qm4 HB HU X hx hcp hcr hit hsm hes hfr hHU round done exits rets
theorem QkQ {α : Type} {HU : List α -> List (Nat × Box)} {X : AExit -> List α -> List (Nat × Box) -> Prop} {l : List α} {s : St} (h : s.le ⟨[], HU l⟩) : Qon HU X l .normal s := h
end Go.Abs
namespace M25
open Go Go.Abs M3
/-! ### The choice that a trail has decided -/
def QbU (u : Nat) (ch : List Int) (vs : List Int) : List Int := vs.foldl (fun c v => c.set u v) ch
theorem QeX (u : Nat) : ∀ (vs ch : List Int), (QbU u ch vs).length = ch.length
 | [], _ => rfl
 | v :: vs, ch => by rw [QbU, List.foldl_cons]; exact (QeX u vs _).trans (List.length_set ..)
theorem QkY (u : Nat) (ch vs : List Int) (v : Int) : QbU u ch (vs ++ [v]) = (QbU u ch vs).set u v := by
 rw [QbU, List.foldl_append]; rfl
def Qam (ch : List Int) (s : QK) : List Int := if s.c = -1 /\ 0 <= s.u /\ s.u < ch.length then QbU s.u.toNat ch (X5 s.m) else ch
theorem QjM (ch : List Int) (s : QK) : (Qam ch s).length = ch.length := by
 unfold Qam; split
 ·exact QeX _ _ _
 ·rfl
def Qb0 (w : Qq) (l : List QK) : List Int := l.foldl Qam (List.replicate w.length (-1))
theorem Qef (w : Qq) (l : List QK) : (Qb0 w l).length = w.length := by
 have : ∀ (l : List QK) (ch : List Int), (l.foldl Qam ch).length = ch.length := by
  intro l
  induction l with
  | nil => intro ch; rfl
  | cons s l ih => intro ch; rw [List.foldl_cons, ih, QjM]
 rw [Qb0, this, List.length_replicate]
theorem Qiz {w : Qq} {l : List QK} {i : Nat} (h : i < l.length) : Qb0 w (l.take (i + 1)) = Qam (Qb0 w (l.take i)) l[i] := by
 rw [Qb0, List.take_succ_eq_append_getElem h, List.foldl_append]; rfl
theorem Qog {w : Qq} {l : List QK} {i : Nat} (h : i < l.length) (h1 : l[i].c = -1) (h2 : 0 <= l[i].u) (h3 : l[i].u < w.length) : Qb0 w (l.take (i + 1)) = QbU l[i].u.toNat (Qb0 w (l.take i)) (X5 l[i].m) := by
 rw [Qiz h, Qam, if_pos ⟨h1, h2, by rw [Qef]; exact h3⟩]
theorem Qiy {w : Qq} {l : List QK} {i : Nat} (h : i < l.length) (h1 : ¬ l[i].c = -1 \/ ¬ 0 <= l[i].u \/ ¬ l[i].u < w.length) : Qb0 w (l.take (i + 1)) = Qb0 w (l.take i) := by
 rw [Qiz h, Qam, if_neg]
 rintro ⟨a, b, c⟩
 rw [Qef] at c
 rcases h1 with h | h | h <;> contradiction
def YE (w : Qq) (l : List QK) : List Int := l.foldl (fun ch s => if s.c = -1 then ch.set s.u.toNat (Yq s.m) else ch) (List.replicate w.length (-1))
theorem Qcv (w : Qq) (l : List QK) : (YE w l).length = w.length := by
 have : ∀ (l : List QK) (ch : List Int), (l.foldl (fun ch s => if s.c = -1 then ch.set s.u.toNat (Yq s.m) else ch) ch).length = ch.length := by
  intro l
  induction l with
  | nil => intro ch; rfl
  | cons s l ih => intro ch; rw [List.foldl_cons, ih]; split <;> simp
 rw [YE, this, List.length_replicate]
theorem QpE {w : Qq} {l : List QK} {i : Nat} (h : i < l.length) : YE w (l.take (i + 1)) = if l[i].c = -1 then (YE w (l.take i)).set l[i].u.toNat (Yq l[i].m) else YE w (l.take i) := by
 rw [YE, List.take_succ_eq_append_getElem h, List.foldl_append]; rfl
theorem Qoh {w : Qq} {l : List QK} (h : YR w l = true) : Qb0 w l = YE w l := by
 have key : ∀ n, n <= l.length -> Qb0 w (l.take n) = YE w (l.take n) := by
  intro n
  induction n with
  | zero => intro _; rfl
  | succ n ih =>
   intro hn
   rw [Qiz (by omega), QpE (by omega), <- ih (by omega)]
   have hs := Qn9 h (show n < l.length by omega)
   unfold Qak at hs
   simp only [Bool.and_eq_true] at hs
   obtain ⟨⟨⟨hin, _⟩, _⟩, hr⟩ := hs
   have hi := Qa3.1 hin
   by_cases hc : l[n].c = -1
   ·rw [if_pos hc] at hr ⊢
    simp only [Bool.and_eq_true, decide_eq_true_eq] at hr
    rw [Qam, if_pos ⟨hc, hi.1, by rw [Qef]; exact hi.2⟩]
    obtain ⟨x, hx, _⟩ := Ql2 hr.1.1
    have hp : Yq l[n].m = x := by rw [Yq, hx]; rfl
    rw [hx, hp]; rfl
   ·rw [if_neg hc, Qam, if_neg (fun h => hc h.1)]
 have := key l.length (Nat.le_refl _)
 rwa [List.take_length] at this
def Qfg (n i : Nat) : List Int := List.replicate i (-1) ++ List.replicate (n - i) 0
theorem QnA {n i : Nat} (h : i <= n) : (Qfg n i).length = n := by simp [Qfg]; omega
theorem Qmx (n : Nat) : Qfg n 0 = List.replicate n 0 := by simp [Qfg]
theorem Qnz {n i : Nat} (h : n <= i) (h2 : i <= n) : Qfg n i = List.replicate n (-1) := by
 have : i = n := by omega
 subst this; simp [Qfg]
theorem Qpg {n i : Nat} (h : i < n) : Qfg n (i + 1) = (Qfg n i).set i (-1) := by
 have e : List.replicate (n - i) (0 : Int) = 0 :: List.replicate (n - (i + 1)) 0 := by rw [show n - i = (n - (i + 1)) + 1 by omega, List.replicate_succ]
 rw [Qfg, Qfg, List.set_append_right _ _ (by simp), List.length_replicate, Nat.sub_self, e, List.set_cons_zero, List.replicate_succ', List.append_assoc]
 rfl
end M25
namespace Go.Proofs
open Go Go.Abs M3 M25
set_option linter.unusedVariables false
set_option linter.unusedSimpArgs false
theorem Qjy {fr fr' : List (Nat × D)} (h : ∀ p ∈ fr', lk fr p.1 = some p.2) : ∀ t d, lk fr' t = some d -> lk fr t = some d := fun t d hd => h (t, d) (ZO hd)
theorem Qsn {fr fr' : List (Nat × D)} (h : ∀ p ∈ fr', lk fr p.1 = some p.2) : St.le ⟨fr, []⟩ ⟨fr', []⟩ := fun E g a w r =>
 ⟨g, r.less (Qjy h) (fun _ _ h => h) (fun t d hd => r.wfF t d (Qjy h t d hd)) r.wfH (fun _ _ h => h)⟩
theorem Qhc (m : Int) : ∀ {n k : Nat}, n <= k -> Yb m n <+: Yb m k := by
 intro n k h
 induction k with
 | zero => rw [show n = 0 by omega]; exact List.prefix_refl _
 | succ k ih =>
  by_cases e : n = k + 1
  ·subst e; exact List.prefix_refl _
  ·exact (ih (by omega)).trans (by rw [Yb]; exact List.prefix_append _ _)
theorem Qkw {m : Int} {n : Nat} (h : n < 17) (hb : ¬ XG m (2 ^ n) = 0) : (Yb m n).length < (X5 m).length /\ Yb m n ++ [(n : Int) - 1] = Yb m (n + 1) := by
 have e : Yb m n ++ [(n : Int) - 1] = Yb m (n + 1) := by rw [Yb, if_neg hb]
 refine ⟨?_, e⟩
 have := (Qhc m (n := n + 1) (k := 17) (by omega)).length_le
 rw [<- e] at this
 simp at this
 rw [X5]; omega
theorem Qih {P : Program} {K : Kn} {α : Type} {iv : α -> Int} {l N : Nat} {l' : List AOper} {k : List (Nat × D) -> Bool -> List α -> Prop} : ∀ {fuel : Nat} {done done' : List Nat} {fr : List (Nat × D)} {t : Bool} {pre : List α}, (∀ i, i ∈ done ↔ i ∈ done') -> jD P K iv l N l' k fuel done' fr t pre -> jD P K iv l N l' k fuel done fr t pre := by
 intro fuel
 induction fuel with
 | zero =>
  intro done done' fr t pre h hd
  have hc : done.contains = done'.contains := funext fun i => by
   have := h i
   simp only [List.contains_eq_mem, this]
  exact ⟨by rw [hc]; exact hd.1, hd.2⟩
 | succ fuel ih =>
  intro done done' fr t pre h hd
  have hc : done.contains = done'.contains := funext fun i => by
   have := h i
   simp only [List.contains_eq_mem, this]
  have hr : QdR l' done = QdR l' done' := by unfold QdR; rw [hc]
  refine ⟨by rw [hc]; exact hd.1, fun i hi => ?_⟩
  rw [hr] at hi
  obtain ⟨o', h1, h2⟩ := hd.2 i hi
  exact ⟨o', h1, Qhn (fun fr t pre hk => ih (fun j => by simp [h j]) hk) h2⟩
def QrN : List AOper := [⟨some 8, .load false 1 (.s 1), none⟩, ⟨some 9, .mov (.s 3), none⟩, ⟨some 10, .call 82 [.s 9], none⟩, ⟨some 11, .bin .and false (.s 8) (.s 10), none⟩, ⟨some 12, .bin .neq false (.s 11) (.c (.int .i64 0)), none⟩, ⟨some 13, .mov (.s 12), none⟩,
 ⟨some 14, .mov (.s 0), some (13, true)⟩, ⟨some 15, .mov (.s 3), some (13, true)⟩, ⟨some 16, .callV (.s 14) [.s 15], some (13, true)⟩, ⟨some 17, .un .not (.s 16), some (13, true)⟩, ⟨some 18, .pick (.s 13) (.s 17) (.c (.bool false)), none⟩]
def frE (l b off : Nat) (n : Nat) : List (Nat × D) := [(0, .val (.func (.yield l) #[] #[])), (1, .val (.pointer (some ⟨b, off, none⟩))), (3, .int .i64 ((n : Int) - 1))]
theorem QgW {k : List (Nat × D) -> Prop} {fr : List (Nat × D)} (fr' : List (Nat × D)) (h0 : ∀ p ∈ fr', lk fr p.1 = some p.2) (h : k fr') : ∃ fr', St.le ⟨fr, []⟩ ⟨fr', []⟩ /\ k fr' := ⟨fr', Qsn h0, h⟩
section
variable {K : Kn} {l N b off n : Nat} {m : Int} {pre : List Int} {k : List (Nat × D) -> Bool -> List Int -> Prop}
theorem Xz (hlen : pre.length < N) (h1 : k ((18, .bool false) :: frE l b off n) true (pre ++ [(n : Int) - 1])) (h2 : k ((18, .bool true) :: frE l b off n) false (pre ++ [(n : Int) - 1])) :
  jD Tryz.prog K (fun x : Int => x) l N QrN k 5 [5, 4, 3, 2, 1, 0] ((13, .bool true) :: frE l b off n) true pre := by
 have fin : jD Tryz.prog K (fun x : Int => x) l N QrN k 3 [7, 6, 5, 4, 3, 2, 1, 0] ((15, .int .i64 ((n : Int) - 1)) :: (14, .val (.func (.yield l) #[] #[])) :: (13, .bool true) :: frE l b off n) true pre := by
  refine Y7 (i := 8) Z Z Z (Qsi ((n : Int) - 1) Z Z Z hlen Z ?_ ?_)
  ·refine Y7 (i := 9) Z Z Z (Qdb (Qh Z (Yh Z (QgQ ?_))))
   refine Y7 (i := 10) rfl rfl rfl (Qdb (Ql rfl rfl (QgW ((18, .bool false) :: frE l b off n) (by intro p hp; simp [frE] at hp; rcases hp with rfl | rfl | rfl | rfl <;> rfl) ?_)))
   exact QnP rfl rfl h1
  ·refine Y7 (i := 9) Z Z Z (Qdb (Qh Z (Yh Z (QgQ ?_))))
   refine Y7 (i := 10) rfl rfl rfl (Qdb (Ql rfl rfl (QgW ((18, .bool true) :: frE l b off n) (by intro p hp; simp [frE] at hp; rcases hp with rfl | rfl | rfl | rfl <;> rfl) ?_)))
   exact QnP rfl rfl h2
 refine QlD (i := 6) (i2 := 7) Z Z Z Z (Qdb (Qh Z (Qa Z (QgQ ?_)))) (Qdb (Qh Z (Qa Z (QgQ ?_))))
 ·refine Y7 (i := 7) Z Z Z (Qdb (Qh Z (Qa Z (QgQ ?_))))
  exact fin
 ·refine Y7 (i := 6) rfl rfl rfl (Qdb (Qh rfl (Qa rfl (QgW ((15, .int .i64 ((n : Int) - 1)) :: (14, .val (.func (.yield l) #[] #[])) :: (13, .bool true) :: frE l b off n) (by intro p hp; simp [frE] at hp; rcases hp with rfl | rfl | rfl | rfl | rfl | rfl <;> rfl) ?_))))
  exact Qih (by intro i; simp; omega) fin
theorem QaD (h1 : k ((18, .bool false) :: frE l b off n) true pre) :
  jD Tryz.prog K (fun x : Int => x) l N QrN k 5 [5, 4, 3, 2, 1, 0] ((13, .bool false) :: frE l b off n) true pre := by
 have fin : jD Tryz.prog K (fun x : Int => x) l N QrN k 3 [7, 6, 5, 4, 3, 2, 1, 0] ((15, .undef) :: (14, .undef) :: (13, .bool false) :: frE l b off n) true pre := by
  refine Y7 (i := 8) Z Z Z (Qdb (Qp Z (QgQ ?_)))
  refine Y7 (i := 9) Z Z Z (Qdb (Qp Z (QgQ ?_)))
  refine Y7 (i := 10) rfl rfl rfl (Qdb (Ql rfl rfl (QgW ((18, .bool false) :: frE l b off n) (by intro p hp; simp [frE] at hp; rcases hp with rfl | rfl | rfl | rfl <;> rfl) ?_)))
  exact QnP rfl rfl h1
 refine QlD (i := 6) (i2 := 7) Z Z Z Z (Qdb (Qp Z (QgQ ?_))) (Qdb (Qp Z (QgQ ?_)))
 ·refine Y7 (i := 7) Z Z Z (Qdb (Qp Z (QgQ ?_)))
  exact fin
 ·refine Y7 (i := 6) rfl rfl rfl (Qdb (Qp rfl (QgW ((15, .undef) :: (14, .undef) :: (13, .bool false) :: frE l b off n) (by intro p hp; simp [frE] at hp; rcases hp with rfl | rfl | rfl | rfl | rfl | rfl <;> rfl) ?_)))
  exact Qih (by intro i; simp; omega) fin
theorem Qns (hlen : ¬ XG m (2 ^ n) = 0 -> pre.length < N) (h0 : XG m (2 ^ n) = 0 -> k ((18, .bool false) :: frE l b off n) true pre) (h1 : ¬ XG m (2 ^ n) = 0 -> k ((18, .bool false) :: frE l b off n) true (pre ++ [(n : Int) - 1])) (h2 : ¬ XG m (2 ^ n) = 0 -> k ((18, .bool true) :: frE l b off n) false (pre ++ [(n : Int) - 1])) :
  jD Tryz.prog K (fun x : Int => x) l N QrN k 7 [3, 2, 1, 0] ((11, .int .i64 (XG m (2 ^ n))) :: frE l b off n) true pre := by
 refine Y7 (i := 4) Z Z Z (Qdb (XY Z Z (QgQ ?_)))
 by_cases hz : XG m (2 ^ n) = 0
 ·rw [decide_eq_true hz]
  refine Y7 (i := 5) rfl rfl rfl (Qdb (Qa rfl (QgW ((13, .bool false) :: frE l b off n) (by intro p hp; simp [frE] at hp; rcases hp with rfl | rfl | rfl | rfl <;> rfl) ?_)))
  exact QaD (h0 hz)
 ·rw [decide_eq_false hz]
  refine Y7 (i := 5) rfl rfl rfl (Qdb (Qa rfl (QgW ((13, .bool true) :: frE l b off n) (by intro p hp; simp [frE] at hp; rcases hp with rfl | rfl | rfl | rfl <;> rfl) ?_)))
  exact Xz (hlen hz) (h1 hz) (h2 hz)
theorem Qkx (hK : K b off = some (.int .i64 m)) (hn : n < 17) (hlen : ¬ XG m (2 ^ n) = 0 -> pre.length < N) (h0 : XG m (2 ^ n) = 0 -> k ((18, .bool false) :: frE l b off n) true pre) (h1 : ¬ XG m (2 ^ n) = 0 -> k ((18, .bool false) :: frE l b off n) true (pre ++ [(n : Int) - 1])) (h2 : ¬ XG m (2 ^ n) = 0 -> k ((18, .bool true) :: frE l b off n) false (pre ++ [(n : Int) - 1])) :
  jD Tryz.prog K (fun x : Int => x) l N QrN k 11 [] (frE l b off n) true pre := by
 have hbit : Ok Tryz.prog 82 [.int .i64 ((n : Int) - 1)] (.int .i64 (2 ^ n)) := by
  have := Qg6 (v := (n : Int) - 1) (by omega) (by omega)
  rwa [show ((n : Int) - 1 + 1).toNat = n by omega] at this
 have T := Qns (K := K) (l := l) (b := b) (off := off) hlen h0 h1 h2
 have sub : ∀ {fr : List (Nat × D)}, (∀ p ∈ frE l b off n, lk fr p.1 = some p.2) -> lk fr 11 = some (.int .i64 (XG m (2 ^ n))) -> ∀ p ∈ (11, D.int .i64 (XG m (2 ^ n))) :: frE l b off n, lk fr p.1 = some p.2 := fun h e p hp => by
  rcases List.mem_cons.1 hp with rfl | hp
  ·exact e
  ·exact h p hp
 refine QlD (i := 0) (i2 := 1) Z Z Z Z (Qrd (d := .int .i64 m) Z hK Z Z ?_) (Qdb (Qa Z (QgQ ?_)))
 ·refine Y7 (i := 1) Z Z Z (Qdb (Qa Z (QgQ ?_)))
  refine Y7 (i := 2) Z Z Z (Qdb (QF hbit Z Z (.inr Z) (QgQ ?_)))
  refine Y7 (i := 3) rfl rfl rfl (Qdb (Qb2 rfl rfl (QgW _ (sub (by intro p hp; simp [frE] at hp; rcases hp with rfl | rfl | rfl <;> rfl) rfl) ?_)))
  exact T
 ·refine QlD (i := 0) (i2 := 2) Z Z Z Z (Qrd (d := .int .i64 m) Z hK Z Z ?_) (Qdb (QF hbit Z Z (.inr Z) (QgQ ?_)))
  ·refine Y7 (i := 2) Z Z Z (Qdb (QF hbit Z Z (.inr Z) (QgQ ?_)))
   refine Y7 (i := 3) rfl rfl rfl (Qdb (Qb2 rfl rfl (QgW _ (sub (by intro p hp; simp [frE] at hp; rcases hp with rfl | rfl | rfl <;> rfl) rfl) ?_)))
   exact Qih (by intro i; simp; omega) T
  ·refine Y7 (i := 0) Z Z Z (Qrd (d := .int .i64 m) Z hK Z Z ?_)
   refine Y7 (i := 3) rfl rfl rfl (Qdb (Qb2 rfl rfl (QgW _ (sub (by intro p hp; simp [frE] at hp; rcases hp with rfl | rfl | rfl <;> rfl) rfl) ?_)))
   exact Qih (by intro i; simp; omega) T
end
theorem Qfd {m : Int} : IterOk Tryz.prog 84 [.ptr [.int .i64 m]] (fun x : Int => x) (X5 m) := by
 refine IterOk.of (nt := 19) (body := tf84.erase.body) ZY Tryz.func84 QuO (by kernel_rfl) (by simp) (by simp [D.isCell]) fun K l B J lb hlb hyc => ?_
 match lb, hlb with
 | [v], hv =>
 simp only [RepVs, RepP, RepCells] at hv
 obtain ⟨⟨b, off, rfl, ⟨_, x, hK, rfl⟩, _⟩, _⟩ := hv
 refine QiY (QfJ hyc (Qdb (Qa Z (QgQ ?_))))
 refine Qlc (QqG (ι := Nat) (fun n => ⟨frE l b off n, true, Yb m n⟩) (fun n => n <= 17) (fun n => 17 - n) 0 rfl rfl (Qjy (by intro p hp; simp [frE] at hp; rcases hp with rfl | rfl | rfl <;> rfl)) (Nat.zero_le _) fun n hn => ?_)
 refine QiY (QiY (QfJ hyc (Qdb (Qa Z (QgQ (Qdb (Z9 Z Z (QgQ ?_))))))))
 refine QhN (t := decide ((n : Int) - 1 < 16)) Z (fun h => ?_) (fun h => ?_)
 ·refine Qkg ?_
  have hn17 : n < 17 := by have := of_decide_eq_true h; omega
  refine QqF (s' := ⟨frE l b off n, true, Yb m n⟩) rfl rfl (Qjy (by intro p hp; simp [frE] at hp; rcases hp with rfl | rfl | rfl <;> rfl)) ?_
  have go : ∀ pre', pre' = Yb m (n + 1) -> JW Tryz.prog 19 K J (TCode.erase (.region false [⟨some 6, .mov (.s 3), none⟩, ⟨some 7, .bin .add false (.s 6) (.c (.int .i64 1)), none⟩, ⟨some 3, .mov (.s 7), none⟩])) (Qqu (fun n => ⟨frE l b off n, true, Yb m n⟩) (fun n => n <= 17) (fun n => 17 - n) n (Qi6 0 (Qrc (X5 m)))) ⟨(18, .bool false) :: frE l b off n, true, pre'⟩ := fun pre' e => by
   subst e
   refine QfJ hyc (Qdb (Qa Z (QgQ (Qdb (Q2 Z Z (Qs (by omega) (by omega)) (QgQ (Qdb (Qa Z (QgQ ?_)))))))))
   refine ⟨n + 1, ⟨rfl, rfl, Qjy (by intro p hp; simp [frE] at hp; rcases hp with rfl | rfl | rfl <;> first | rfl | (show some _ = some _; congr 2; omega))⟩, (by show n + 1 <= 17; omega), (by show 17 - (n + 1) < 17 - n; omega)⟩
  refine QiY (Qlc (QiY (Qml hyc (Qkx hK hn17 (fun hb => (Qkw hn17 hb).1) (fun hb => ?_) (fun hb => ?_) (fun hb => ?_)))))
  ·refine QhN (t := false) rfl (fun h => by cases h) (fun _ => Qkg ?_)
   exact go _ (by rw [Yb, if_pos hb, List.append_nil])
  ·refine QhN (t := false) rfl (fun h => by cases h) (fun _ => Qkg ?_)
   exact go _ (Qkw hn17 hb).2
  ·refine QhN (t := true) rfl (fun _ => QrU ?_) (fun h => by cases h)
   exact .inr ⟨rfl, by rw [(Qkw hn17 hb).2]; exact Qhc m (by omega)⟩
 ·refine QqE ?_
  show Qi6 0 (Qrc (X5 m)) (AExit.exit 0) _
  rw [Qi6, if_pos rfl]
  have : n = 17 := by have := of_decide_eq_false h; omega
  subst this
  exact .inl ⟨rfl, rfl⟩
theorem Qkn {m : Int} : Ok Tryz.prog 57 [.int .i64 m] (.clo 84 [.ptr [.int .i64 m]]) := by
 refine Ok.ofT ZY Tryz.func57 Quq (Nat.le_of_ble_eq_true Z) ?_
 show TW _ _ tf57.body _ _
 refine Qf fun K hK => Zz Z Z Z (Qa Z (hK _ _ (Qb (kp1 Z) ?_)))
 refine Qf fun K hK => Qp9 Z Z (Qa Z (hK _ _ (Qb (kp1 Z) ?_)))
 refine Qv (Yn Z ?_)
 rfl
theorem Qi9 {w : Qq} (hw : WSm w) {l : List QK} (hl : l.length <= 10000000) : Ok Tryz.prog 25 [Z6 w, Zt l] (ZI (Qb0 w l)) := by
 refine Ok.ofT ZY Tryz.func25 Qt3 (Nat.le_of_ble_eq_true Z) ?_
 show TW _ _ tf25.body _ _
 have hn := hw.len
 refine Qf fun K hK => Zz Z Z Z (Qa Z (hK _ _ (Qb (kp3 Z Z Z) ?_)))
 refine Qf fun K hK => Qj Z Z (Qy Z Z Z ?_)
 first | refine QS rfl QW ?_ | refine QS rfl rfl ?_
 refine Qp8 Z Z Z (by omega) (by simp; omega) (by simp; omega) (ZF Z (Q5 Z Z Z Z Z Z Z Z (hK _ _ (Qb (kp3 Z Z Z) ?_))))
 refine QE ?_ -- 0
 refine Qf fun K hK => Qy Z Z Z ?_
 first | refine QS rfl QW ?_ | refine QS rfl rfl ?_
 refine Qa Z (hK _ _ (Qb (kp5 Z Z Z Z Z) ?_))
 refine QD ?_
 refine Zs (ι := Nat) (fun i => ⟨[(1, Zt l), (4, .fsl []), (5, .ref 5 0 0), (15, .int .i64 w.length), (16, .int .i64 i)], [(5, ⟨[[.osl 13 w.length]], 1, 22, false⟩), (13, ⟨(Qfg w.length i).map (fun x => [.int .i64 x]), 1, 3, true⟩)]⟩) (fun i => i <= w.length) (fun i => w.length - i) 0 ?_ ?_ ?_
 ·exact Q8 (l := [1, 4, 5, 15, 16]) (lH := [5, 13]) (kp5 rfl rfl rfl rfl rfl) (Qg rfl (Qg rfl Qr)) rfl (by rw [Qmx, List.map_replicate]; rfl) rfl
 ·exact Nat.zero_le _
 intro i hI
 have hlen := QnA hI
 try dsimp only
 refine Qf fun K hK => Z9 Z Z (hK _ _ (Qb (kp6 Z Z Z Z Z Z) ?_))
 refine QE ?_ -- 1
 refine Qx Z (fun h1 => ?_) (fun h1 => ?_)
 ·try rw [h1]
  try simp only [qA] at h1
  refine Qw (Qe (kp5 Z Z Z Z Z) ?_)
  refine QE ?_ -- 2
  refine QD (Qf fun K hK => Qa Z (Qa Z (hK _ _ (Qb (kp6 Z Z Z Z Z Z) ?_))))
  refine QO fun K hK => Qy Z Z Z (Qa Z (Y1 Z Z Z (by simp [hlen]) (by omega) (by omega) Z (Q5 Z Z (QT (l := Qfg w.length i) (by omega)) Z Z Z Z Z (hK _ ?_))))
  refine Qi (Qe (kp5 Z Z Z Z Z) (QO fun K hK => Q2 Z Z (by first | exact Qs (by omega) (by omega) | exact Zh (by omega) (by omega) | exact Zr (by omega) (by omega) | rfl) (Qa Z (hK _ ?_))))
  refine Qm (i + 1) ?_ ?_ ?_
  ·exact Q8 (l := [1, 4, 5, 15, 16]) (lH := [5, 13]) (kp5 rfl rfl rfl rfl rfl) (Qg rfl (Qg rfl Qr)) rfl (by rw [Qpg (by omega), List.map_set] <;> rfl) rfl
  ·omega
  ·first | omega | (simp only; omega) | (dsimp only; omega)
 ·try rw [h1]
  try simp only [qA] at h1
  refine Zl (QN (QC (QJ (Qe (kp3 Z Z Z) ?_))))
  refine QE ?_ -- 3
  refine Qf fun K hK => Qa Z ?_
  first | refine QS rfl QW ?_ | refine QS rfl rfl ?_
  refine Qa Z (hK _ _ (Qb (kp5 Z Z Z Z Z) ?_))
  refine QD ?_
  refine Zs (ι := Nat) (fun i => ⟨[(4, .fsl []), (5, .ref 5 0 0), (23, Zt l), (24, .int .i64 l.length), (25, .int .i64 i)], [(5, ⟨[[.osl 13 w.length]], 1, 22, false⟩), (13, ⟨(Qb0 w (l.take i)).map (fun x => [.int .i64 x]), 1, 3, true⟩)]⟩) (fun i => i <= l.length) (fun i => l.length - i) 0 ?_ ?_ ?_
  ·exact Q8 (l := [4, 5, 23, 24, 25]) (lH := [5, 13]) (kp5 rfl rfl rfl rfl rfl) (Qg rfl (Qg rfl Qr)) rfl (by rw [Qnz (by omega) (by omega)] <;> rfl) rfl
  ·exact Nat.zero_le _
  intro i hI
  have hlen := Qef w (l.take i)
  try dsimp only
  refine Qf fun K hK => Z9 Z Z (hK _ _ (Qb (kp6 Z Z Z Z Z Z) ?_))
  refine QE ?_ -- 4
  refine Qx Z (fun h2 => ?_) (fun h2 => ?_)
  ·try rw [h2]
   try simp only [qA] at h2
   refine Qw (Qe (kp5 Z Z Z Z Z) ?_)
   refine QE ?_ -- 5
   refine QD (Qf fun K hK => QL Z Z Z (by omega) (QT (by omega)) Z (QH (cs := [_, _, _, _]) Z Z Z Z (ZF Z (Q5 Z Z Z Z Z Z Z Z (hK _ _ (Qb (kp6 Z Z Z Z Z Z) ?_))))))
   refine Qf fun K hK => Qj Z Z (Qy Z Z Z (ZD Z Z (Qa Z ?_)))
   refine QB (g := 32) Z (fun h3 => ?_) (fun h3 => ?_)
   ·try rw [h3]
    try simp only [qA] at h3
    refine Qh Z (Qj Z Z (Qh Z (Qy Z Z Z (Qh Z (Qet Z Z (Ql Z Z (Qa Z ?_)))))))
    refine QB (g := 37) Z (fun h4 => ?_) (fun h4 => ?_)
    ·try rw [h4]
     try simp only [qA] at h4
     refine Qh Z (Qj Z Z (Qh Z (Qy Z Z Z (Qh Z (Qy Z Z Z (Qh Z ?_))))))
     first | refine QS rfl QW ?_ | refine QS rfl rfl ?_
     refine Qh Z (Z9 Z Z (Ql Z Z (hK _ _ (Qb (kp7 Z Z Z Z Z Z Z) ?_))))
     refine Qx Z (fun h5 => ?_) (fun h5 => ?_)
     ·try rw [h5]
      try simp only [qA] at h5
      refine Qf fun K hK => Qj Z Z (Qy Z Z Z (QF (Qkn) Z Z (.inl Z) (hK _ _ (Qb (kp7 Z Z Z Z Z Z Z) ?_))))
      refine QD ?_
      refine Qqa (s' := ⟨[(4, .fsl []), (5, .ref 5 0 0), (8, .ref 8 0 0), (23, Zt l), (24, .int .i64 l.length), (25, .int .i64 i), (46, .clo 84 [.ptr [.int .i64 (l[i]'(by omega)).m]])], [(5, ⟨[[.osl 13 w.length]], 1, 22, false⟩), (8, ⟨[QdQ (l[i]'(by omega))], 4, 60, true⟩), (13, ⟨(QbU (l[i]'(by omega)).u.toNat (Qb0 w (l.take i)) []).map (fun x => [.int .i64 x]), 1, 3, true⟩)]⟩) ?_ ?_
      ·exact Q8 (l := [4, 5, 8, 23, 24, 25, 46]) (lH := [5, 8, 13]) (kp7 rfl rfl rfl rfl rfl rfl rfl) (Qg rfl (Qg rfl (Qg rfl Qr))) rfl rfl rfl
      refine QoV (α := Int) (xs := X5 (l[i]'(by omega)).m) (fun ps => [(5, ⟨[[.osl 13 w.length]], 1, 22, false⟩), (8, ⟨[QdQ (l[i]'(by omega))], 4, 60, true⟩), (13, ⟨(QbU (l[i]'(by omega)).u.toNat (Qb0 w (l.take i)) ps).map (fun x => [.int .i64 x]), 1, 3, true⟩)]) (fun ps => [(1000005, ⟨[[.osl 1000013 w.length]], 1, 22, false⟩), (1000008, ⟨[QdQ (l[i]'(by omega))], 4, 60, true⟩), (1000013, ⟨(QbU (l[i]'(by omega)).u.toNat (Qb0 w (l.take i)) ps).map (fun x => [.int .i64 x]), 1, 3, true⟩)]) (fun _ _ _ => False) Z Z Z Z (Qfd) Z (fun _ => rfl) Z (fun ps => by simp only [Qcy, List.map_cons, List.map_nil, Box.ren, List.map_map]; rfl) (fun ps y hpre => ?_) ?_ (fun _ _ _ _ h => h.elim) (fun _ _ _ h => h.elim)
      ·show TW _ _ _ _ _
       have hlen2 : (QbU (l[i]'(by omega)).u.toNat (Qb0 w (l.take i)) ps).length = w.length := by rw [QeX, hlen]
       refine QD (QO fun K hK => Qy Z Z Z (Qj Z Z (Qy Z Z Z (Qa Z (Y1 Z Z Z (by simp [hlen2]) (by omega) (by omega) Z (Q5 Z Z (ZA (l := QbU (l[i]'(by omega)).u.toNat (Qb0 w (l.take i)) ps) (by omega) (by omega)) Z Z Z Z Z (hK _ ?_)))))))
       refine Qi (QkQ ?_)
       exact Q8 (l := []) (lH := [1000005, 1000008, 1000013]) Q7 (Qg rfl (Qg rfl (Qg rfl Qr))) rfl (by rw [QkY, List.map_set] <;> rfl) rfl
      refine Qi (Qi (Qe (kp5 Z Z Z Z Z) (QO fun K hK => Q2 Z Z (by first | exact Qs (by omega) (by omega) | exact Zh (by omega) (by omega) | exact Zr (by omega) (by omega) | rfl) (Qa Z (hK _ ?_)))))
      refine Qm (i + 1) ?_ ?_ ?_
      ·exact Q8 (l := [4, 5, 23, 24, 25]) (lH := [5, 13]) (kp5 rfl rfl rfl rfl rfl) (Qg rfl (Qg rfl Qr)) rfl (by rw [Qog (by omega) h3 h4 h5] <;> rfl) rfl
      ·omega
      ·first | omega | (simp only; omega) | (dsimp only; omega)
     ·try rw [h5]
      try simp only [qA] at h5
      refine Qw (Qi (Qe (kp5 Z Z Z Z Z) (QO fun K hK => Q2 Z Z (by first | exact Qs (by omega) (by omega) | exact Zh (by omega) (by omega) | exact Zr (by omega) (by omega) | rfl) (Qa Z (hK _ ?_)))))
      refine Qm (i + 1) ?_ ?_ ?_
      ·exact Q8 (l := [4, 5, 23, 24, 25]) (lH := [5, 13]) (kp5 rfl rfl rfl rfl rfl) (Qg rfl (Qg rfl Qr)) rfl (by rw [Qiy (by omega) (.inr (.inr h5))] <;> rfl) rfl
      ·omega
      ·first | omega | (simp only; omega) | (dsimp only; omega)
    ·try rw [h4]
     try simp only [qA] at h4
     refine Qp Z (Qp Z (Qp Z (Qp Z (Qp Z (Ql Z Z (hK _ _ (Qb (kp7 Z Z Z Z Z Z Z) ?_)))))))
     refine ZS Z (Qw (Qi (Qe (kp5 Z Z Z Z Z) (QO fun K hK => Q2 Z Z (by first | exact Qs (by omega) (by omega) | exact Zh (by omega) (by omega) | exact Zr (by omega) (by omega) | rfl) (Qa Z (hK _ ?_))))))
     refine Qm (i + 1) ?_ ?_ ?_
     ·exact Q8 (l := [4, 5, 23, 24, 25]) (lH := [5, 13]) (kp5 rfl rfl rfl rfl rfl) (Qg rfl (Qg rfl Qr)) rfl (by rw [Qiy (by omega) (.inr (.inl h4))] <;> rfl) rfl
     ·omega
     ·first | omega | (simp only; omega) | (dsimp only; omega)
   ·try rw [h3]
    try simp only [qA] at h3
    refine Qp Z (Qp Z (Qp Z (Ql Z Z (Qa Z (Qp Z (Qp Z (Qp Z (Qp Z (Qp Z (Ql Z Z (hK _ _ (Qb (kp7 Z Z Z Z Z Z Z) ?_))))))))))))
    refine ZS Z (Qw (Qi (Qe (kp5 Z Z Z Z Z) (QO fun K hK => Q2 Z Z (by first | exact Qs (by omega) (by omega) | exact Zh (by omega) (by omega) | exact Zr (by omega) (by omega) | rfl) (Qa Z (hK _ ?_))))))
    refine Qm (i + 1) ?_ ?_ ?_
    ·exact Q8 (l := [4, 5, 23, 24, 25]) (lH := [5, 13]) (kp5 rfl rfl rfl rfl rfl) (Qg rfl (Qg rfl Qr)) rfl (by rw [Qiy (by omega) (.inl h3)] <;> rfl) rfl
    ·omega
    ·first | omega | (simp only; omega) | (dsimp only; omega)
  ·try rw [h2]
   try simp only [qA] at h2
   refine Zl (QN (QC (QJ (Qe (kp1 Z) (Qf fun K hK => Qy Z Z Z (Qa Z (hK _ _ (Qb (kp1 Z) ?_))))))))
   refine Qv (QbJ Z Z Z (by simp [hlen]) ?_)
   rw [List.take_of_length_le (by omega)]; rfl
end Go.Proofs
namespace Go.Proofs
open Go Go.Abs M3 M25
set_option linter.unusedVariables false
set_option linter.unusedSimpArgs false
end Go.Proofs
namespace Go.Proofs
open Go Go.Abs M3 M25
set_option linter.unusedVariables false
set_option linter.unusedSimpArgs false
end Go.Proofs
