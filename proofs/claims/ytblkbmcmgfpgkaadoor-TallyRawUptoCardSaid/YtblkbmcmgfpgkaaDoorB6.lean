/- Part 6 of the means of the proof: a verified abstract evaluator, the prepared functions, and contracts of functions. It states nothing of the claim by itself. -/
import Derived.Test.YtblkbmcmgfpgkaaDoorB5
set_option maxRecDepth 4000
set_option linter.unusedSimpArgs false
set_option linter.unusedVariables false
set_option linter.unusedSectionVars false
namespace Go.Proofs
open Go Go.Abs M3 M25
theorem CI {most : Int} : ∀ {s l : List (List Int)}, ((s.length + l.length : Nat) : Int) <= most -> Yg (pA most) s l = (s ++ l, true)
 | s, [], _ => by simp [Yg]
 | s, c :: l, h => by
  have h1 : ¬ most <= (s.length : Int) := by simp only [List.length_cons] at h; omega
  have e : (pA most).st s c = (s ++ [c], true) := if_neg h1
  have h2 := CI (most := most) (s := s ++ [c]) (l := l) (by simp only [List.length_append, List.length_cons, List.length_nil] at h ⊢; omega)
  simp only [Yg, e, h2, List.append_assoc, List.cons_append, List.nil_append]; rfl
theorem CJ {most : Int} : ∀ {s l : List (List Int)} {r : List Int}, r ∈ (Yg (pA most) s l).1 -> r ∈ s \/ r ∈ l
 | s, [], r, h => .inl (by simpa [Yg] using h)
 | s, c :: l, r, h => by
  by_cases h1 : most <= (s.length : Int)
  ·have e : (pA most).st s c = (s, false) := if_pos h1
   simp only [Yg, e] at h
   exact .inl h
  ·have e : (pA most).st s c = (s ++ [c], true) := if_neg h1
   simp only [Yg, e, if_true] at h
   rcases CJ h with h | h
   ·rcases QhQ.1 h with h | h
    ·exact .inl h
    ·exact .inr (QhH.2 (.inl (QhO.1 h)))
   ·exact .inr (List.mem_cons_of_mem _ h)
theorem Pf {most : Int} : ∀ {s l : List (List Int)}, (Yg (pA most) s l).1.length <= s.length + l.length
 | s, [] => by simp [Yg]
 | s, c :: l => by
  by_cases h1 : most <= (s.length : Int)
  ·have e : (pA most).st s c = (s, false) := if_pos h1
   simp only [Yg, e]; simp only [QhN, if_false]; omega
  ·have e : (pA most).st s c = (s ++ [c], true) := if_neg h1
   simp only [Yg, e, if_true]
   have := Pf (most := most) (s := s ++ [c]) (l := l)
   simp only [List.length_append, List.length_cons, List.length_nil] at this ⊢
   omega
noncomputable def chW (w : Qm) : List (List Int) := if mayB w = true then allW w else []
theorem Le {w : Qm} (h : MayW w) : chW w = allW w := if_pos (M4 h)
theorem Dm {w : Qm} (h : ¬ MayW w) : chW w = [] := if_neg (by rw [X3 h]; decide)
noncomputable def resA (w : Qm) (most : Int) : D := .tup [PV (Yg (pA most) [] (chW w)).1, .bool (Yg (pA most) [] (chW w)).2]
def Qc6 (w : Qm) : Prop := MayW w -> (ZG (ZS w)).length <= 1048576
section
variable {w : Qm} (hwr : Fx w)
include hwr
theorem Cd (hm : MayW w) : Qdi w := by
 have hv := hm.val hwr
 exact LZ hv.wsm hv.win hv.len.1
theorem Tc (hE : Qc6 w) : (chW w).length <= 1048576 := by
 by_cases hm : MayW w
 ·rw [Le hm, Cd hwr hm]
  exact QhY (List.length_filter_le _ _) (hE hm)
 ·rw [Dm hm]; exact QhR _
theorem QaW {r : List Int} (h : r ∈ chW w) : r.length <= 48 := by
 by_cases hm : MayW w
 ·rw [Le hm, Cd hwr hm] at h
  have h1 := (List.mem_filter.1 h).1
  have h2 := (Tm (q := []) (PreW.nil w) (by simpa using h1)).len
  have := hm.len
  simp only [List.nil_append] at h2
  omega
 ·rw [Dm hm] at h; cases h
theorem Ld (hE : Qc6 w) {most : Int} : Ok Tryd.prog 9 [Zj w, .int .i64 most, gD] (resA w most) := by
 by_cases hm : MayW w
 ·rw [resA, Le hm]
  exact Da hwr hm (by have := Tc hwr hE; rwa [Le hm] at this)
 ·rw [resA, Dm hm]
  exact Qb0 hwr hm
theorem S8 (hE : Qc6 w) {most : Int} : Ok Tryd.prog 10 [Zj w, .int .i64 most] (resA w most) := by
 by_cases hm : MayW w
 ·rw [resA, Le hm]
  exact Ko hwr hm (hE hm)
 ·rw [resA, Dm hm]
  exact MJ hwr hm
theorem PN : Ok Tryd.prog 11 [Zj w, gD] (MM (chW w)) := by
 by_cases hm : MayW w
 ·rw [Le hm]; exact PK hwr hm
 ·rw [Dm hm]; exact Db hwr hm
theorem De (hE : Qc6 w) : Ok Tryd.prog 10 [Zj w, .int .i64 1073741824] (.tup [PV (chW w), .bool true]) := by
 have h := S8 hwr hE (most := 1073741824)
 have hl := Tc hwr hE
 rw [resA, CI (by simp only [List.length_nil]; omega)] at h
 exact h
theorem Qab {r : List Int} (h : (chW w).getLast? = some r) : r.length <= 48 := QaW hwr (List.mem_of_getLast? h)
theorem D5 : ((chW w).getLast?.getD []).length <= 48 := by
 cases h : (chW w).getLast? with
 | none => exact QhR _
 | some r => exact Qab hwr h
end
theorem QaZ {w : Qm} (h : ¬ 300 < szT w 301) : Qc6 w := fun hm => by
 rw [LG (M4 hm) Wf] at h
 have := CX (w := w) (n := 1) (most := 301) Wf Wa
 omega
theorem Dt {l : List (List Int)} (h : l = []) : MM l = .tup [Zp [], .bool false] := by subst h; rfl
theorem BN {l : List (List Int)} {i : Nat} (h : i < l.length) (hi : i + 1 = l.length) : MM l = .tup [Zp l[i], .bool true] := by
 have e : l.getLast? = some l[i] := by rw [List.getLast?_eq_getElem?, show l.length - 1 = i by omega, List.getElem?_eq_getElem h]
 rw [MM, e]; rfl
end Go.Proofs
namespace Go.Proofs
open Go Go.Abs M3 M25
theorem Kp {w : Qm} (hw : Fx w) (hE : Qc6 w) : Ok Tryd.prog 12 [Zj w] (MM (chW w)) := by
 refine Ok.ofT ZL Tryd.func12 Qge (QhG Z) ?_
 show TW _ _ tf12.body _ _
 have hl := Tc hw hE
 refine Qd fun K hK => Zs Z Z Z (mv2 Z Z (kc1 hK Z ?_))
 refine Qd fun K hK => QD (cs := [_]) Z Z Z Z (QK (De hw hE) Z Z (.inl Z) (Qb Z (Q4 Z Z (Q4 Z Z (mv2 Z Z (kc1 hK Z ?_))))))
 refine Qz ?_ -- 0
 refine Qd fun K hK => Qb Z (QY Z QM (Y3 Z Z (kc2 hK Z Z ?_)))
 refine Qu Z (fun h1 => ?_) (fun h1 => ?_)
 ·rw [h1]
  simp only [qA] at h1
  refine Qd fun K hK => mv2 Z Z (kc2 hK Z Z ?_)
  refine Qs (Qf ?_)
  rw [Dt (List.eq_nil_of_length_eq_zero Wa)]
  exact Zt rfl rfl ⟨rfl, rfl⟩
 ·rw [h1]
  simp only [qA] at h1
  refine Qq (ks1 Z (Qd fun K hK => mv2 Z Z (QY Z QM (JK Z Z (Qp Wa Wa) (QE Z Z Z Wa (QZ Wa Wa) Z (Qt Z Z Z (mv2 Z Z (kc2 hK Z Z ?_))))))))
  refine Qs ?_
  have hx1 : (((chW w).length : Int) - 1).toNat < (chW w).length := Wa
  have hx2 : (((chW w).length : Int) - 1).toNat + 1 = (chW w).length := Wa
  rw [BN hx1 hx2]
  exact Zt rfl rfl ⟨rfl, rfl⟩
theorem c_linchpinlaw20_TallyRaw {w : Qm} (hw : Fx w) {most : Int} (hm : most <= 9223372036854775807) : Ok Tryd.prog 4 [Zj w, .int .i64 most, gD] (.bool true) := by
 refine Ok.ofTG (ds := [Zj w, .int .i64 most]) (dg := gD) ZL Tryd.func4 tp4 (QhG Z) ?_
 show TW _ _ tf4.body _ _
 refine Qd fun K hK => Zs Z Z Z (Qb Z (kc3 hK Z Z Z ?_))
 refine Qz ?_ -- 0
 refine Qd fun K hK => QD (cs := [_]) Z Z Z Z (QK (HI hw) Z Z (.inr Z) (Zm Z (Qb Z ?_)))
 refine Qr (g := 16) Z (fun h1 => ?_) (fun h1 => ?_)
 ·rw [h1]
  simp only [qA] at h1
  refine gn3 Z Z Z (Qh Z Z (kc4 hK Z Z Z Z ?_))
  refine QV Z (Qd fun K hK => QK (Yn) Z Z (.inr Z) (Qb Z (kc1 hK Z ?_)))
  refine Qs (Qf (Qg Z ?_))
  rfl
 ·rw [h1]
  simp only [qA] at h1
  refine Qc Z (QD (cs := [_]) Z Z Z Z (Qc Z (QK (Hh hw Wf) Z Z (.inr Z) (Qc Z (YZ Z Z (Qh Z Z (kc4 hK Z Z Z Z ?_)))))))
  refine Qu Z (fun h2 => ?_) (fun h2 => ?_)
  ·rw [h2]
   simp only [qA] at h2
   refine Qd fun K hK => QK (Yn) Z Z (.inr Z) (Qb Z (kc1 hK Z ?_))
   refine Qs (Qf (Qg Z ?_))
   rfl
  ·rw [h2]
   simp only [qA] at h2
   have hE := QaZ (w := w) Wa
   refine Qq (ks3 Z Z Z (Qd fun K hK => QD (cs := [_]) Z Z Z Z (Qb Z (QK (Ld hw hE) Z Z (.inl Z) (Qb Z (Q4 Z Z (Q4 Z Z (mv2 Z Z (kc5 hK Z Z Z Z Z ?_)))))))))
   refine Qd fun K hK => QD (cs := [_]) Z Z Z Z (Qb Z (QK (S8 hw hE) Z Z (.inl Z) (Qb Z (Q4 Z Z (Q4 Z Z (mv2 Z Z (kc6 hK Z Z Z Z Z Z ?_)))))))
   refine Qd fun K hK => QD (cs := [_]) Z Z Z Z (QK (PN hw) Z Z (.inl Z) (Qb Z (Q4 Z Z (Q4 Z Z (mv2 Z Z (kc8 hK Z Z Z Z Z Z Z Z ?_))))))
   refine Qd fun K hK => QD (cs := [_]) Z Z Z Z (QK (Kp hw hE) Z Z (.inl Z) (Qb Z (Q4 Z Z (Q4 Z Z (mv2 Z Z (kc9 hK Z Z Z Z Z Z Z Z Z ?_))))))
   refine Qd fun K hK => QK (Yn) Z Z (.inr Z) (Qb Z ?_)
   refine Qr (g := 45) Z (fun h3 => ?_) (fun h3 => ?_)
   ·rw [h3]
    simp only [qA] at h3
    refine Qc rfl (Qb rfl (Qc rfl (Qb rfl (Qc rfl (QK (Hd (a := (Yg (pA most) [] (chW w)).1) (b := (Yg (pA most) [] (chW w)).1) (by have := Tc hw hE; have := Pf (most := most) (s := []) (l := chW w); simp only [List.length_nil] at this; omega) (fun r hr => by rcases CJ hr with h | h; cases h; have := QaW hw h; omega)) rfl rfl (.inr rfl) (Qh rfl rfl (Qb rfl ?_)))))))
    refine Qr (g := 50) Z (fun h4 => ?_) (fun h4 => ?_)
    ·rw [h4]
     simp only [qA] at h4
     refine Qc Z (Qb Z (Qc Z (Qb Z (Qc Z (Bp Z Z (Qh Z Z (Qb Z ?_)))))))
     refine Qr (g := 55) Z (fun h5 => ?_) (fun h5 => ?_)
     ·rw [h5]
      simp only [qA] at h5
      refine Qc Z (Qb Z (Qc Z (Qb Z (Qc Z (QK (ZW (a := (chW w).getLast?.getD []) (b := (chW w).getLast?.getD []) (by have := D5 hw; omega)) Z Z (.inr Z) (Qh Z Z (Qb Z ?_)))))))
      refine Qr (g := 60) Z (fun h6 => ?_) (fun h6 => ?_)
      ·rw [h6]
       simp only [qA] at h6
       refine Qc Z (Qb Z (Qc Z (Qb Z (Qc Z (Bp Z Z (Qh Z Z (Qb Z (kc1 hK Z ?_))))))))
       refine Qs (Qg Z ?_)
       (simp; done)
      ·rw [h6]
       simp only [qA] at h6
       (simp at h6; done)
     ·rw [h5]
      simp only [qA] at h5
      (simp at h5; done)
    ·rw [h4]
     simp only [qA] at h4
     (simp at h4; done)
   ·rw [h3]
    (simp at h3; done)
end Go.Proofs
namespace M25
open Go Go.Abs M3
theorem sat_argsN {Ds : List D} (h : SatAs [.agg [.sl tUn], .one (.int .i64)] Ds) : ∃ (w : Qm) (n : Int), Ds = [Zj w, .int .i64 n] /\ Fx w /\ n <= 9223372036854775807 := by
 simp only [SatAs, Qe3, SatR] at h
 obtain ⟨_, _, rfl, ⟨_, rfl, _, _, rfl, h1, rfl⟩, _, _, rfl, h2, rfl⟩ := h
 obtain ⟨w, rfl, hw⟩ := CN h1
 simp only [Sat] at h2
 obtain ⟨n, rfl, hn⟩ := h2
 exact ⟨w, n, rfl, hw, hn.2⟩
end M25
