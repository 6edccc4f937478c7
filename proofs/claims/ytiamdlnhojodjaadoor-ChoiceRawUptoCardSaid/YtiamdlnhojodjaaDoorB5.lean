/- Part 5 of the means of the proof: a verified abstract evaluator, the prepared functions, and contracts of functions. It states nothing of the claim by itself. -/
import Derived.Test.YtiamdlnhojodjaaDoorB4
import Derived.KernelRfl
set_option maxRecDepth 4000
set_option linter.unusedSimpArgs false
set_option linter.unusedVariables false
namespace M25
open Go Go.Abs M3
def wAwk : Qs := [⟨[], [], [⟨⟨0, 0, 0, [], []⟩, 0, [[⟨1, ([(Xj, KA)], [(Xj, KA)])⟩]], []⟩]⟩, ⟨[98], [], [⟨⟨1, 0, 0, [], []⟩, 0, [], []⟩]⟩, ⟨[99], [], [⟨⟨0, 0, 0, [], []⟩, 0, [], []⟩]⟩]
theorem Nn : FL wAwk := by
 have hS : Sm [(Xj, KA)] := ⟨by decide, fun s hs => by simp only [QaP] at hs; subst hs; exact ⟨⟨by decide, by decide⟩, ⟨by decide, by decide⟩⟩⟩
 refine ⟨by decide, fun u hu => ?_, fun u hu => ?_, fun u hu c hc => ?_⟩ <;> simp only [wAwk, QaI, QaH, or_false] at hu <;> rcases hu with rfl | rfl | rfl
 ·exact ⟨by decide, by decide⟩
 ·exact ⟨by decide, by decide⟩
 ·exact ⟨by decide, by decide⟩
 ·exact (by decide : (1 : Nat) <= 1048576)
 ·exact (by decide : (1 : Nat) <= 1048576)
 ·exact (by decide : (1 : Nat) <= 1048576)
 all_goals
  simp only [QaP] at hc; subst hc
  refine ⟨⟨by decide, by decide⟩, by decide, by decide, fun r hr => ?_, fun x hx => by cases hx⟩
 ·simp only [QaP] at hr; subst hr
  exact ⟨by decide, fun x hx => by simp only [QaP] at hx; subst hx; exact ⟨hS, hS⟩⟩
 ·cases hr
 ·cases hr
theorem Pa : MayW wAwk := ⟨by decide, fun i hi => by
 have h3 : i = 0 \/ i = 1 \/ i = 2 := by
  have : wAwk.length = 3 := rfl
  omega
 have one : ∀ {cs : List CandT}, cs.length = 1 -> (∀ h : 0 < cs.length, cdR 3 cs[0] = true) -> ∀ k (hk : k < cs.length), cdR 3 cs[k] = true /\ (0 < k -> K4 (cs[k - 1]'Wa).v cs[k].v < 0) := fun h1 h2 k hk => by
  have : k = 0 := Wa
  subst this
  exact ⟨h2 hk, fun h => absurd h Wa⟩
 have k0 : cdR 3 ⟨⟨0, 0, 0, [], []⟩, 0, [[⟨1, ([(Xj, KA)], [(Xj, KA)])⟩]], []⟩ = true := by decide +kernel
 have k1 : cdR 3 ⟨⟨1, 0, 0, [], []⟩, 0, [], []⟩ = true := by decide +kernel
 have k2 : cdR 3 ⟨⟨0, 0, 0, [], []⟩, 0, [], []⟩ = true := by decide +kernel
 have a2 : JL ⟨[98], [], [⟨⟨1, 0, 0, [], []⟩, 0, [], []⟩]⟩ ⟨[99], [], [⟨⟨0, 0, 0, [], []⟩, 0, [], []⟩]⟩ = true := by decide +kernel
 rcases h3 with rfl | rfl | rfl
 ·exact ⟨fun _ => (by decide : (1 : Nat) <= 16), fun _ _ => ⟨rfl, rfl, rfl⟩, fun _ h => absurd h Wf, fun _ h => absurd h Wf, fun _ => one rfl fun _ => k0⟩
 ·exact ⟨fun _ => (by decide : (1 : Nat) <= 16), fun _ h => absurd h Wf, fun _ _ => (by decide : ([98] : List UInt8) ≠ []), fun _ h => absurd h Wf, fun _ => one rfl fun _ => k1⟩
 ·exact ⟨fun _ => (by decide : (1 : Nat) <= 16), fun _ h => absurd h Wf, fun _ _ => (by decide : ([99] : List UInt8) ≠ []), fun _ _ => a2, fun _ => one rfl fun _ => k2⟩⟩
theorem CH {a b d : Int} (h0 : (-1 <= a /\ a < 1) /\ (-1 <= b /\ b < 1) /\ (-1 <= d /\ d < 1)) : FitW wAwk [a, b, d] := ⟨rfl, fun i hi h2 => by
 have h3 : i = 0 \/ i = 1 \/ i = 2 := by
  have : wAwk.length = 3 := rfl
  omega
 rcases h3 with rfl | rfl | rfl
 ·exact h0.1
 ·exact h0.2.1
 ·exact h0.2.2⟩
theorem RQ : wrongR wAwk [0, -1, -1] = [⟨2, 0, 0⟩] := by
 rw [HS (Gp Pa (CH Wf))]
 kernel_rfl
theorem RP : holdsR wAwk [0, 0, -1] = true := by
 have h := Gp Pa (CH (a := 0) (b := 0) (d := -1) Wf)
 rw [holdsR, h, HS h]
 decide +kernel
theorem DD : mayC wAwk [0, 1, -1] = false := XH fun h => by
 have := (h.bd 1 Wf Wf).2
 exact absurd this Wf
theorem Tg : tidyR wAwk [0, 0, 0] = [0, 0, -1] := by
 have h := Gp Pa (CH (a := 0) (b := 0) (d := 0) Wf)
 have hx : mtM wAwk [0, 0, 0] ⟨1, ([(Xj, KA)], [(Xj, KA)])⟩ = true := by decide +kernel
 have n0 : Ndd wAwk [0, 0, 0] 0 := .root Wf
 have n1 : Ndd wAwk [0, 0, 0] 1 := .step (x := ⟨1, ([(Xj, KA)], [(Xj, KA)])⟩) (r := [⟨1, ([(Xj, KA)], [(Xj, KA)])⟩]) n0 (by simp [J6, wAwk, cA]) Wd hx
 have e : [true, true, false] = nddL wAwk [0, 0, 0] := by
  refine NdInv.done ⟨rfl, fun i hi => ?_, fun _ => rfl⟩ fun i hi => ?_
  ·have hl := P8 hi
   have : i = 0 \/ i = 1 \/ i = 2 := by simp at hl; omega
   rcases this with rfl | rfl | rfl
   ·exact n0
   ·exact n1
   ·cases hi
  ·have hl := P8 hi
   have : i = 0 \/ i = 1 \/ i = 2 := by simp at hl; omega
   rcases this with rfl | rfl | rfl
   ·intro r hr x hx2 _
    have : J6 wAwk [0, 0, 0] 0 = [[⟨1, ([(Xj, KA)], [(Xj, KA)])⟩]] := rfl
    rw [this] at hr
    simp only [QaP] at hr; subst hr
    simp only [QaP] at hx2; subst hx2
    rfl
   ·intro r hr
    have : J6 wAwk [0, 0, 0] 1 = [] := rfl
    rw [this] at hr; cases hr
   ·cases hi
 have at' : ∀ i (hi : i < 3), nddB wAwk [0, 0, 0] i = [true, true, false][i] := fun i hi => by
  rw [<- NI (w := wAwk) (c := [0, 0, 0]) (i := i) (by rw [HB]; exact hi)]
  simp [<- e]
 rw [PE h, tidyM]
 simp only [List.length_cons, List.length_nil, List.range_succ, List.range_zero, List.nil_append, List.map_append, List.map_cons, List.map_nil]
 rw [at' 0 Wf, at' 1 Wf, at' 2 Wf]
 rfl
theorem RE {w : Qs} (hw : FL w) {c : List Int} : (wrongR w c).length <= 1048576 := by
 cases h : mayC w c with
 | false => rw [N3 h]; exact QaS _
 | true =>
  obtain ⟨h1, h2⟩ := H4 h
  have hv := h1.val hw
  have := JB hv.wsm c c.length
  rw [HS h, M1]
  have := h2.len
  have := hv.len
  omega
theorem RA (w : Qs) (c : List Int) : (tidyR w c).length <= c.length := by rw [MY]; exact Kh w c
end M25
namespace Go.Proofs
open Go Go.Abs M3 M25
theorem CD : Ok Tryd.prog 11 [ZC wAwk, Zn [0, -1, -1], gD] (Mn [⟨2, 0, 0⟩]) := by
 have := X0 Nn (c := [0, -1, -1]) Wf
 rw [RQ] at this; exact this
theorem CC : Ok Tryd.prog 17 [ZC wAwk, Zn [0, 0, 0], gD] (Zn [0, 0, -1]) := by
 have := K9 Nn (c := [0, 0, 0]) Wf
 rw [Tg] at this; exact this
theorem CA : Ok Tryd.prog 8 [ZC wAwk, Zn [0, 0, -1], gD] (.bool true) := by
 have := KE Nn (c := [0, 0, -1]) Wf
 rw [RP] at this; exact this
theorem CB : Ok Tryd.prog 6 [ZC wAwk, Zn [0, 1, -1], gD] (.bool false) := by
 have := YB Nn (c := [0, 1, -1]) Wf
 rw [DD] at this; exact this
end Go.Proofs
namespace Go.Abs
open Go
/-! ### Data told more weakly -/
mutual
def D.wk : D -> D -> Bool
 | .undef, .undef => true
 | .top, .top => true
 | .int k n, .int j m => decide (k = j) && decide (n = m)
 | .bool a, .bool b => decide (a = b)
 | .str a, .str b => decide (a = b)
 | .sl a, .sl b => wkR a b
 | .fsl a, .sl b => wkR a b
 | .fsl a, .fsl b => wkR a b
 | .ptr a, .ptr b => wkL a b
 | .agg a, .agg b => wkL a b
 | d, .junk => d.isCell
 | _, _ => false
def wkR : List (List D) -> List (List D) -> Bool
 | [], [] => true
 | a :: az, b :: bs => wkL a b && wkR az bs
 | _, _ => false
def wkL : List D -> List D -> Bool
 | [], [] => true
 | a :: az, b :: bs => a.wk b && wkL az bs
 | _, _ => false
end
theorem S2 {d d' : D} (h : d.wk d' = true) (hc : d.isCell = true) : d'.isCell = true := by
 cases d <;> cases d' <;> first | rfl | (simp [D.isCell] at hc; done) | (simp [D.wk] at h; done)
theorem PG : ∀ {a b : List D}, wkL a b = true -> a.length = b.length
 | [], [], _ => rfl
 | _ :: az, _ :: bs, h => by
  simp only [wkL, QaK] at h
  simp [PG h.2]
 | [], _ :: _, h => by simp [wkL] at h
 | _ :: _, [], h => by simp [wkL] at h
theorem N1 : ∀ {a b : List (List D)}, wkR a b = true -> a.length = b.length
 | [], [], _ => rfl
 | _ :: az, _ :: bs, h => by
  simp only [wkR, QaK] at h
  simp [N1 h.2]
 | [], _ :: _, h => by simp [wkR] at h
 | _ :: _, [], h => by simp [wkR] at h
theorem N0 {esz : Nat} : ∀ {a b : List (List D)}, wkR a b = true -> (∀ r ∈ a, r.length = esz) -> ∀ r ∈ b, r.length = esz
 | [], [], _, _, r, hr => by cases hr
 | x :: az, y :: bs, h, hl, r, hr => by
  simp only [wkR, QaK] at h
  rcases QaI.1 hr with rfl | hr
  ·rw [<- PG h.1]; exact hl x Wd
  ·exact N0 h.2 (fun r hr => hl r (by simp [hr])) r hr
 | [], _ :: _, h, _, _, _ => by simp [wkR] at h
 | _ :: _, [], h, _, _, _ => by simp [wkR] at h
section
variable {K : Kn}
mutual
theorem S3 : ∀ (d d' : D) (v : Value), d.wk d' = true -> RepP K d v -> RepP K d' v
 | .int k n, d', v, h, e => by
  cases d' <;> simp only [D.wk, QaK, decide_eq_true_eq, QaO] at h
  ·exact RepP.cell e rfl
  ·obtain ⟨rfl, rfl⟩ := h; exact e
 | .bool b, d', v, h, e => by
  cases d' <;> simp only [D.wk, decide_eq_true_eq, QaO] at h
  ·exact RepP.cell e rfl
  ·subst h; exact e
 | .str b, d', v, h, e => by
  cases d' <;> simp only [D.wk, decide_eq_true_eq, QaO] at h
  ·exact RepP.cell e rfl
  ·subst h; exact e
 | .sl rows, d', v, h, e => by
  cases d' <;> simp only [D.wk, QaO] at h
  ·exact RepP.cell e rfl
  ·rename_i rows'
   simp only [RepP] at e ⊢
   obtain ⟨a, cap, h1, h2, h4⟩ := e
   rw [N1 h] at h1 h2
   refine ⟨a, cap, h1, h2, h4.imp (fun hn => ?_) ?_⟩
   ·subst hn; cases rows' with
    | nil => rfl
    | cons => simp [wkR] at h
   ·rintro ⟨b, off, esz, g1, g2, g3⟩
    exact ⟨b, off, esz, g1, N0 h g2, N2 b off rows rows' h g3⟩
 | .fsl rows, d', v, h, e => by
  cases d' <;> simp only [D.wk, QaO] at h
  ·exact RepP.cell e rfl
  ·rename_i rows'
   simp only [RepP] at e ⊢
   obtain ⟨a, h1, h4⟩ := e
   rw [N1 h] at h1
   refine ⟨a, _, h1, Nat.le_refl _, h4.imp (fun hn => ?_) ?_⟩
   ·subst hn; cases rows' with
    | nil => rfl
    | cons => simp [wkR] at h
   ·rintro ⟨b, off, esz, g1, g2, g3⟩
    exact ⟨b, off, esz, g1, N0 h g2, N2 b off rows rows' h g3⟩
  ·rename_i rows'
   simp only [RepP] at e ⊢
   obtain ⟨a, h1, h4⟩ := e
   rw [N1 h] at h1
   refine ⟨a, h1, h4.imp (fun hn => ?_) ?_⟩
   ·subst hn; cases rows' with
    | nil => rfl
    | cons => simp [wkR] at h
   ·rintro ⟨b, off, esz, g1, g2, g3⟩
    exact ⟨b, off, esz, g1, N0 h g2, N2 b off rows rows' h g3⟩
 | .ptr cs, d', v, h, e => by
  cases d' <;> simp only [D.wk, QaO] at h
  ·exact RepP.cell e rfl
  ·rename_i cs'
   simp only [RepP] at e ⊢
   obtain ⟨b, off, h1, h2⟩ := e
   exact ⟨b, off, h1, PF b off cs cs' h h2⟩
 | .agg cs, d', v, h, e => by
  cases d' <;> simp only [D.wk, QaO] at h
  ·simp [D.isCell] at h
  ·rename_i cs'
   simp only [RepP] at e ⊢
   obtain ⟨vs, h1, h2⟩ := e
   exact ⟨vs, h1, S1 cs cs' vs h h2⟩
 | .undef, d', v, h, e => by
  cases d' <;> simp only [D.wk, QaO] at h
  ·exact e
  ·simp [D.isCell] at h
 | .top, d', v, h, e => by
  cases d' <;> simp only [D.wk, QaO] at h
  ·exact e
  ·simp [D.isCell] at h
 | .junk, d', v, h, e => by
  cases d' <;> simp only [D.wk, QaO] at h
  exact e
 | .osl .., d', v, h, e => by simp only [RepP] at e
 | .osv .., d', v, h, e => by simp only [RepP] at e
 | .ref .., d', v, h, e => by simp only [RepP] at e
 | .tup ds, d', v, h, e => by
  cases d' <;> simp only [D.wk, QaO] at h
  simp [D.isCell] at h
 | .clo f caps, d', v, h, e => by
  cases d' <;> simp only [D.wk, QaO] at h
  exact RepP.cell e rfl
 | .bnd f caps, d', v, h, e => by
  cases d' <;> simp only [D.wk, QaO] at h
  exact RepP.cell e rfl
 | .val x, d', v, h, e => by
  cases d' <;> simp only [D.wk, QaO] at h
  exact RepP.cell e rfl
theorem N2 (b : Nat) : ∀ (off : Nat) (rs rs' : List (List D)), wkR rs rs' = true -> RepRows K b off rs -> RepRows K b off rs'
 | _, [], [], _, _ => by simp only [RepRows]
 | off, r :: rs, r' :: rs', h, e => by
  simp only [wkR, QaK] at h
  simp only [RepRows] at e ⊢
  rw [<- PG h.1]
  exact ⟨PF b off r r' h.1 e.1, N2 b _ rs rs' h.2 e.2⟩
 | _, [], _ :: _, h, _ => by simp [wkR] at h
 | _, _ :: _, [], h, _ => by simp [wkR] at h
theorem PF (b : Nat) : ∀ (off : Nat) (ds ds' : List D), wkL ds ds' = true -> RepCells K b off ds -> RepCells K b off ds'
 | _, [], [], _, _ => by simp only [RepCells]
 | off, d :: ds, d' :: ds', h, e => by
  simp only [wkL, QaK] at h
  simp only [RepCells] at e ⊢
  obtain ⟨⟨h1, x, h2, h3⟩, h4⟩ := e
  exact ⟨⟨S2 h.1 h1, x, h2, S3 d d' x h.1 h3⟩, PF b _ ds ds' h.2 h4⟩
 | _, [], _ :: _, h, _ => by simp [wkL] at h
 | _, _ :: _, [], h, _ => by simp [wkL] at h
theorem S1 : ∀ (ds ds' : List D) (vs : List Value), wkL ds ds' = true -> RepCs K ds vs -> RepCs K ds' vs
 | [], [], vs, _, e => e
 | d :: ds, d' :: ds', v :: vs, h, e => by
  simp only [wkL, QaK] at h
  simp only [RepCs] at e ⊢
  exact ⟨⟨S2 h.1 e.1.1, S3 d d' v h.1 e.1.2⟩, S1 ds ds' vs h.2 e.2⟩
 | d :: ds, d' :: ds', [], _, e => by simp only [RepCs] at e
 | [], _ :: _, _, h, _ => by simp [wkL] at h
 | _ :: _, [], _, h, _ => by simp [wkL] at h
end
theorem Cc : ∀ {ds ds' : List D} {vs : List Value}, wkL ds ds' = true -> RepVs K ds vs -> RepVs K ds' vs
 | [], [], _, _, e => e
 | d :: ds, d' :: ds', v :: vs, h, e => by
  simp only [wkL, QaK] at h
  simp only [RepVs] at e ⊢
  exact ⟨S3 d d' v h.1 e.1, Cc h.2 e.2⟩
 | d :: ds, d' :: ds', [], _, e => by simp only [RepVs] at e
 | [], _ :: _, _, h, _ => by simp [wkL] at h
 | _ :: _, [], _, h, _ => by simp [wkL] at h
end
theorem Ok.weak {P : Program} {f : Nat} {ds ds' : List D} {d : D} (h : Ok P f ds' d) (hw : wkL ds ds' = true) : Ok P f ds d :=
 ⟨h.1, fun K w vs hk hv => h.2 K w vs hk (Cc hw hv)⟩
end Go.Abs
namespace Go.Proofs
open Go Go.Abs M3 M25
theorem Yh  : Ok Tryd.prog 5 [gD] (.bool true) := by
 refine Ok.ofTG (ds := []) (dg := gD) ZS Tryd.func5 tp5 (QaG Z) ?_
 show TW _ _ tf5.body _ _
 refine Qd fun K hK => Qa Z (kc1 hK Z ?_)
 refine Qd fun K hK => QB (He) Z Z (.inl Z) (ZT Z (ZG Z Z Z Z Z Z Z Z (kc2 hK Z Z ?_)))
 refine Qd fun K hK => QA (cs := [_, _]) Z Z Z Z (Zy Z Z (Zt Z Z (Zt Z Z (Zy Z Z (Zt Z Z (Zy Z Z (Zy Z Z (Zy Z Z (Zt Z Z (Zy Z Z ?_))))))))))
 refine Zy Z Z (Zt Z Z (Zy Z Z (Zt Z Z (Zy Z Z (ZT Z (ZG Z Z Z Z Z Z Z Z (kc2 hK Z Z ?_)))))))
 refine Qd fun K hK => QA (cs := [_]) Z Z Z Z (Zt Z Z (QB (Ok.weak CD (by rfl)) Z Z (.inl Z) (Qa Z (kc3 hK Z Z Z ?_))))
 refine Qd fun K hK => QA (cs := [_]) Z Z Z Z (Zt Z Z (QB (Ok.weak CC (by rfl)) Z Z (.inl Z) (Qa Z (kc4 hK Z Z Z Z ?_))))
 refine Qd fun K hK => QA (cs := [_]) Z Z Z Z (Zt Z Z (QB (Ok.weak CA (by rfl)) Z Z (.inr Z) (Qa Z ?_)))
 refine Qo (g := 31) Z (fun h1 => ?_) (fun h1 => ?_)
 ·try rw [h1]
  try simp only [qB] at h1
  refine Qb Z (Qa Z (Qb Z ?_))
  first | refine QK rfl QJ ?_ | refine QK rfl rfl ?_
  refine Qb Z (Xy Z Z (Qf Z Z (Qa Z ?_)))
  refine Qo (g := 36) Z (fun h2 => ?_) (fun h2 => ?_)
  ·try rw [h2]
   try simp only [qB] at h2
   refine Qb Z (Qa Z (Qb Z (QH Z Z Z Wf Z Z (Qb Z (QA (cs := [_, _, _]) Z Z Z Z (Qb Z (Zy Z Z (Qb Z (FZ Z Z Z (Qf Z Z (Qa Z ?_)))))))))))
   refine Qo (g := 43) Z (fun h3 => ?_) (fun h3 => ?_)
   ·try rw [h3]
    try simp only [qB] at h3
    refine Qb Z (Qa Z (Qb Z ?_))
    first | refine QK rfl QJ ?_ | refine QK rfl rfl ?_
    refine Qb Z (Xy Z Z (Qf Z Z (Qa Z ?_)))
    refine Qo (g := 48) Z (fun h4 => ?_) (fun h4 => ?_)
    ·try rw [h4]
     try simp only [qB] at h4
     refine Qb Z (Qa Z (Qb Z (QH Z Z Z Wf Z Z (Qb Z (Qw Z Z Z (Qb Z (Xy Z Z (Qf Z Z (Qa Z ?_)))))))))
     refine Qo (g := 54) Z (fun h5 => ?_) (fun h5 => ?_)
     ·try rw [h5]
      try simp only [qB] at h5
      refine Qb Z (Qa Z (Qb Z (QH Z Z Z Wf Z Z (Qb Z (Qw Z Z Z (Qb Z (Xy Z Z (Qf Z Z (Qa Z ?_)))))))))
      refine Qo (g := 60) Z (fun h6 => ?_) (fun h6 => ?_)
      ·try rw [h6]
       try simp only [qB] at h6
       refine Qb Z (QA (cs := [_]) Z Z Z Z (Qb Z (Zt Z Z (Qb Z (QB (Ok.weak CB (by rfl)) Z Z (.inr Z) (Qb Z (Zm Z (Qf Z Z (Qa Z (kc1 hK Z ?_))))))))))
       refine Qn (Qe Z ?_)
       rfl
      ·try rw [h6]
       try simp only [qB] at h6
       first | (simp at h6; done) | exact absurd trivial h6 | cases h6
     ·try rw [h5]
      try simp only [qB] at h5
      first | (simp at h5; done) | exact absurd trivial h5 | cases h5
    ·try rw [h4]
     try simp only [qB] at h4
     first | (simp at h4; done) | exact absurd trivial h4 | cases h4
   ·try rw [h3]
    try simp only [qB] at h3
    first | (simp at h3; done) | exact absurd trivial h3 | cases h3
  ·try rw [h2]
   try simp only [qB] at h2
   first | (simp at h2; done) | exact absurd trivial h2 | cases h2
 ·try rw [h1]
  try simp only [qB] at h1
  first | (simp at h1; done) | exact absurd trivial h1 | cases h1
open Go Go.Abs M3 M25
theorem c_linchpinlaw19_ChoiceRaw {w : Qs} (hw : FL w) {c : List Int} (hc : c.length <= 1048576) : Ok Tryd.prog 3 [ZC w, Zn c, gD] (.bool true) := by
 refine Ok.ofTG (ds := [ZC w, Zn c]) (dg := gD) ZS Tryd.func3 tp3 (QaG Z) ?_
 show TW _ _ tf3.body _ _
 have hwl := RE hw (c := c)
 have hnl := Kh w c
 have htl := RA w c
 refine Qd fun K hK => Zq Z Z Z (Qa Z (kc3 hK Z Z Z ?_))
 refine Qz ?_ -- 0
 refine Qd fun K hK => QA (cs := [_]) Z Z Z Z (QB (KM hw) Z Z (.inr Z) (Zm Z (Qa Z ?_)))
 refine Qo (g := 10) Z (fun h1 => ?_) (fun h1 => ?_)
 ·try rw [h1]
  try simp only [qA] at h1
  refine gn3 Z Z Z (Qf Z Z (kc4 hK Z Z Z Z ?_))
  refine QW Z (Qd fun K hK => QB (Yh) Z Z (.inr Z) (Qa Z (kc1 hK Z ?_)))
  refine Qn (Qh (Qe Z ?_))
  (repeat clear hK K); first | rfl | (simp; done) | simp_all
 ·try rw [h1]
  try simp only [qA] at h1
  refine Qb Z (Qa Z (Qb Z ?_))
  first | refine QK rfl QJ ?_ | refine QK rfl rfl ?_
  refine Qb Z (Y9 Z Z (Qf Z Z (kc4 hK Z Z Z Z ?_)))
  refine Qr Z (fun h2 => ?_) (fun h2 => ?_)
  ·try rw [h2]
   try simp only [qA] at h2
   refine Qd fun K hK => QB (Yh) Z Z (.inr Z) (Qa Z (kc1 hK Z ?_))
   refine Qn (Qh (Qe Z ?_))
   (repeat clear hK K); first | rfl | (simp; done) | simp_all
  ·try rw [h2]
   try simp only [qA] at h2
   refine Qp (ks3 Z Z Z (Qd fun K hK => QV (ds0 := [14, 10, 9, 8, 7, 6, 5, 4, 3, 2, 1, 0]) (cs := [_]) Z Z Z Z Z Z (Qa Z (Q2 (ds0 := [10, 9, 8, 7, 6, 5, 4, 3, 2, 1, 0]) (YB hw hc) Z Z (.inr Z) Z Z (QV (ds0 := [11, 10, 9, 8, 7, 6, 5, 4, 3, 2, 1, 0]) (cs := [_]) Z Z Z Z Z Z (Qa Z (Q2 (ds0 := [10, 9, 8, 7, 6, 5, 4, 3, 2, 1, 0]) (Z4 hw hc) Z Z (.inr Z) Z Z (S9 Z Z (Qa Z ?_)))))))))
   refine Qo (g := 23) Z (fun h3 => ?_) (fun h3 => ?_)
   ·try rw [h3]
    try simp only [qA] at h3
    refine Qb Z (QV (ds0 := [6, 2, 1, 0]) (cs := [_]) Z Z Z Z Z Z (Qb Z (Qa Z (Qb Z (Q2 (ds0 := [2, 1, 0]) (KE hw hc) Z Z (.inr Z) Z Z (Qb Z (QV (ds0 := [3, 2, 1, 0]) (cs := [_]) Z Z Z Z Z Z (Qb Z (Qa Z (Qb Z (Q2 (ds0 := [2, 1, 0]) (JT hw hc) Z Z (.inr Z) Z Z ?_)))))))))))
    refine Qb Z (S9 Z Z (Qf Z Z (Qa Z (kc4 hK Z Z Z Z ?_))))
    refine Qd fun K hK => QV (ds0 := [14, 10, 9, 8, 7, 6, 5, 4, 3, 2, 1, 0]) (cs := [_]) Z Z Z Z Z Z (Qa Z (Q2 (ds0 := [10, 9, 8, 7, 6, 5, 4, 3, 2, 1, 0]) (X0 hw hc) Z Z (.inl Z) Z Z (QV (ds0 := [11, 10, 9, 8, 7, 6, 5, 4, 3, 2, 1, 0]) (cs := [_]) Z Z Z Z Z Z (Qa Z (Q2 (ds0 := [10, 9, 8, 7, 6, 5, 4, 3, 2, 1, 0]) (Xb hw hc) Z Z (.inl Z) Z Z (Q2 (ds0 := [9, 8, 7, 6, 5, 4, 3, 2, 1, 0]) (X2 (l := wrongR w c) hwl) Z Z (.inr Z) Z Z (Qa Z ?_)))))))
    refine Qo (g := 39) Z (fun h4 => ?_) (fun h4 => ?_)
    ·try rw [h4]
     try simp only [qA] at h4
     refine Qb Z (QV (ds0 := [6, 2, 1, 0]) (cs := [_]) Z Z Z Z Z Z (Qb Z (Qa Z (Qb Z (Q2 (ds0 := [2, 1, 0]) (JO hw hc) Z Z (.inl Z) Z Z (Qb Z (QV (ds0 := [3, 2, 1, 0]) (cs := [_]) Z Z Z Z Z Z (Qb Z (Qa Z (Qb Z (Q2 (ds0 := [2, 1, 0]) (YX hw hc) Z Z (.inl Z) Z Z ?_)))))))))))
     refine Qb Z (Q2 (ds0 := [1, 0]) (Jc (l := neededR w c) Wa) Z Z (.inr Z) Z Z (Qf Z Z (Qa Z (kc5 hK Z Z Z Z Z ?_))))
     refine Qd fun K hK => Q2 (ds0 := [15, 14, 13, 12, 11, 10, 9, 8, 7, 6, 5, 4, 3, 2, 1, 0]) (Yh) Z Z (.inr Z) Z Z (Qa Z ?_)
     refine Qo (g := 49) Z (fun h5 => ?_) (fun h5 => ?_)
     ·try rw [h5]
      try simp only [qA] at h5
      refine Qb Z (Qa Z (Qf Z Z (Qa Z ?_)))
      refine Qo (g := 52) Z (fun h6 => ?_) (fun h6 => ?_)
      ·try rw [h6]
       try simp only [qA] at h6
       refine Qb Z (Qa Z (Qf Z Z (Qa Z ?_)))
       refine Qo (g := 55) Z (fun h7 => ?_) (fun h7 => ?_)
       ·try rw [h7]
        try simp only [qA] at h7
        refine Qb Z (QV (ds0 := [6, 2, 1, 0]) (cs := [_]) Z Z Z Z Z Z (Qb Z (Qa Z (Qb Z (Q2 (ds0 := [2, 1, 0]) (K9 hw hc) Z Z (.inl Z) Z Z (Qb Z (QV (ds0 := [3, 2, 1, 0]) (cs := [_]) Z Z Z Z Z Z (Qb Z (Qa Z (Qb Z (Q2 (ds0 := [2, 1, 0]) (Kt hw hc) Z Z (.inl Z) Z Z ?_)))))))))))
        refine Qb Z (Q2 (ds0 := [1, 0]) (Jd (l := tidyR w c) Wa) Z Z (.inr Z) Z Z (Qf Z Z (Qa Z (kc1 hK Z ?_))))
        refine Qn (Qe Z ?_)
        (repeat clear hK K); first | rfl | (simp; done) | simp_all
       ·try rw [h7]
        try simp only [qA] at h7
        first | (simp at h7; done) | cases h7
      ·try rw [h6]
       try simp only [qA] at h6
       first | (simp at h6; done) | cases h6
     ·try rw [h5]
      try simp only [qA] at h5
      first | (simp at h5; done) | cases h5
    ·try rw [h4]
     try simp only [qA] at h4
     first | (simp at h4; done) | cases h4
   ·try rw [h3]
    try simp only [qA] at h3
    first | (simp at h3; done) | cases h3
end Go.Proofs
namespace M25
open Go Go.Abs M3
/-! ### From readings to a world -/
abbrev tSp : List Ty := [.int .i64, .int .i64, .int .i64, .int .i64, .str, .str, .bool, .int .i64, .int .i64, .int .i64, .int .i64, .str, .str, .bool]
abbrev tWn : List Ty := [.int .i64, .sl tSp, .sl tSp]
abbrev tCd : List Ty := [.int .i64, .int .i64, .int .i64, .str, .str, .int .i64, .sl [.sl tWn], .sl tWn]
abbrev tUn : List Ty := [.str, .str, .sl tCd]
theorem SQ {α : Type} {f : α -> List D} {p : α -> Prop} {row : List Ty} (h : ∀ r, SatR row r -> ∃ a, r = f a /\ p a) : ∀ rows : List (List D), (∀ r ∈ rows, SatR row r) -> ∃ l : List α, rows = l.map f /\ (∀ a ∈ l, p a)
 | [], _ => ⟨[], rfl, by simp⟩
 | r :: rows, hr => by
  obtain ⟨a, rfl, ha⟩ := h r (hr r Wd)
  obtain ⟨l, rfl, hl⟩ := SQ h rows fun r hr' => hr r (by simp [hr'])
  exact ⟨a :: l, rfl, fun x hx => by rcases QaI.1 hx with rfl | hx; exact ha; exact hl x hx⟩
theorem FJ {α : Type} {f : α -> List D} {p : α -> Prop} {row : List Ty} (h : ∀ r, SatR row r -> ∃ a, r = f a /\ p a) {d : D} (hd : Sat (.sl row) d) : ∃ l : List α, d = .sl (l.map f) /\ l.length <= 1048576 /\ ∀ a ∈ l, p a := by
 simp only [Sat] at hd
 obtain ⟨rows, rfl, h1, h2⟩ := hd
 obtain ⟨l, rfl, h3⟩ := SQ h rows h2
 exact ⟨l, rfl, by simpa using h1, h3⟩
theorem TQ (r : List D) (h : SatR tSp r) : ∃ s : Cu × Cu, r = DN s /\ (Cu.sm s.1 /\ Cu.sm s.2) := by
 simp only [SatR, Sat] at h
 obtain ⟨_, _, rfl, ⟨n1, rfl, _⟩, _, _, rfl, ⟨n2, rfl, _⟩, _, _, rfl, ⟨n3, rfl, _⟩, _, _, rfl, ⟨n4, rfl, _⟩, _, _, rfl, ⟨s1, rfl, v1⟩, _, _, rfl, ⟨s2, rfl, v2⟩, _, _, rfl, ⟨b1, rfl⟩, _, _, rfl, ⟨m1, rfl, _⟩, _, _, rfl, ⟨m2, rfl, _⟩, _, _, rfl, ⟨m3, rfl, _⟩, _, _, rfl, ⟨m4, rfl, _⟩, _, _, rfl, ⟨s3, rfl, v3⟩, _, _, rfl, ⟨s4, rfl, v4⟩, _, _, rfl, ⟨b2, rfl⟩, rfl⟩ := h
 exact ⟨(⟨n1, n2, n3, n4, s1, s2, b1⟩, ⟨m1, m2, m3, m4, s3, s4, b2⟩), rfl, ⟨v1, v2⟩, ⟨v3, v4⟩⟩
theorem MS {d : D} (h : Sat (.sl tSp) d) : ∃ l : List (Cu × Cu), d = Yj l /\ Sm l := by
 obtain ⟨l, h1, h2, h3⟩ := FJ TQ h
 exact ⟨l, h1, h2, h3⟩
theorem Re (r : List D) (h : SatR tWn r) : ∃ x : Zr, r = Mo x /\ (Sm x.s.1 /\ Sm x.s.2) := by
 simp only [SatR] at h
 obtain ⟨_, _, rfl, h1, _, _, rfl, h2, _, _, rfl, h3, rfl⟩ := h
 simp only [Sat] at h1
 obtain ⟨n, rfl, _⟩ := h1
 obtain ⟨a, rfl, ha⟩ := MS h2
 obtain ⟨b, rfl, hb⟩ := MS h3
 exact ⟨⟨n, (a, b)⟩, rfl, ha, hb⟩
theorem L5 (r : List D) (h : SatR [.sl tWn] r) : ∃ l : List Zr, r = [YC l] /\ (l.length <= 1048576 /\ ∀ x ∈ l, Sm x.s.1 /\ Sm x.s.2) := by
 simp only [SatR] at h
 obtain ⟨_, _, rfl, h1, rfl⟩ := h
 obtain ⟨l, rfl, h2, h3⟩ := FJ Re h1
 exact ⟨l, rfl, h2, h3⟩
theorem TO (r : List D) (h : SatR tCd r) : ∃ c : CandT, r = Mm c /\ Dd c := by
 simp only [SatR] at h
 obtain ⟨_, _, rfl, h1, _, _, rfl, h2, _, _, rfl, h3, _, _, rfl, h4, _, _, rfl, h5, _, _, rfl, h6, _, _, rfl, h7, _, _, rfl, h8, rfl⟩ := h
 simp only [Sat] at h1 h2 h3 h4 h5 h6
 obtain ⟨a, rfl, _⟩ := h1
 obtain ⟨b, rfl, _⟩ := h2
 obtain ⟨c, rfl, _⟩ := h3
 obtain ⟨p, rfl, hp⟩ := h4
 obtain ⟨q, rfl, hq⟩ := h5
 obtain ⟨n, rfl, _⟩ := h6
 obtain ⟨ns, rfl, hn1, hn2⟩ := FJ L5 h7
 obtain ⟨bs, rfl, hb1, hb2⟩ := FJ Re h8
 exact ⟨⟨⟨a, b, c, p, q⟩, n, ns, bs⟩, rfl, ⟨hp, hq⟩, hn1, hb1, hn2, hb2⟩
theorem TR (r : List D) (h : SatR tUn r) : ∃ u : FM, r = ZI u /\ ((u.n.length <= 1048576 /\ u.f.length <= 1048576) /\ u.cs.length <= 1048576 /\ ∀ c ∈ u.cs, Dd c) := by
 simp only [SatR] at h
 obtain ⟨_, _, rfl, h1, _, _, rfl, h2, _, _, rfl, h3, rfl⟩ := h
 simp only [Sat] at h1 h2
 obtain ⟨n, rfl, hn⟩ := h1
 obtain ⟨f, rfl, hf⟩ := h2
 obtain ⟨cs, rfl, hc1, hc2⟩ := FJ TO h3
 exact ⟨⟨n, f, cs⟩, rfl, ⟨hn, hf⟩, hc1, hc2⟩
theorem SS {d : D} (h : Sat (.sl tUn) d) : ∃ w : Qs, d = .sl (w.map ZI) /\ FL w := by
 obtain ⟨w, rfl, h1, h2⟩ := FJ TR h
 exact ⟨w, rfl, h1, fun u hu => (h2 u hu).1, fun u hu => (h2 u hu).2.1, fun u hu => (h2 u hu).2.2⟩
theorem TP (r : List D) (h : SatR [.int .i64] r) : ∃ n : Int, r = [.int .i64 n] /\ True := by
 simp only [SatR, Sat] at h
 obtain ⟨_, _, rfl, ⟨n, rfl, _⟩, rfl⟩ := h
 exact ⟨n, rfl, trivial⟩
theorem sat_args {Ds : List D} (h : SatAs [.agg [.sl tUn], .one (.sl [.int .i64])] Ds) : ∃ (w : Qs) (c : List Int), Ds = [ZC w, Zn c] /\ FL w /\ c.length <= 1048576 := by
 simp only [SatAs, Cr, SatR] at h
 obtain ⟨_, _, rfl, ⟨_, rfl, _, _, rfl, h1, rfl⟩, _, _, rfl, h2, rfl⟩ := h
 obtain ⟨w, rfl, hw⟩ := SS h1
 obtain ⟨c, rfl, hc, _⟩ := FJ TP h2
 exact ⟨w, c, rfl, hw, hc⟩
end M25
