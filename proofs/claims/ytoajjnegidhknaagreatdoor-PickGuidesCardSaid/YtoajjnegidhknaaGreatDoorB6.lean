/- Part 6 of the means of the proof: a verified abstract evaluator, the prepared functions, and contracts of functions. It states nothing of the claim by itself. -/
import Derived.Test.YtoajjnegidhknaaGreatDoorB5
set_option maxRecDepth 4000
set_option linter.unusedSimpArgs false
set_option linter.unusedVariables false
namespace M25
open Go Go.Abs M3
/-! ### A part of a choice; does it hold; is it allowed -/
def Qeg (n : Int) (u : Nat) : Prop := Hl .and .i64 (n.fdiv (2 ^ min ((u : Nat) : Int).toNat IntKind.i64.bits)) 1 = 0
instance (n : Int) (u : Nat) : Decidable (Qeg n u) := by unfold Qeg; infer_instance
def Ll (c : List Int) (n : Int) (u : Nat) : Int := if Qeg n u then -1 else cA c u
def KB (c : List Int) (n : Int) (i : Nat) : List Int := (List.range i).map fun u => Ll c n u
theorem Du {c : List Int} {n : Int} {u : Nat} (h : Qeg n u) : Ll c n u = -1 := by rw [Ll, if_pos h]
theorem BY {c : List Int} {n : Int} {u : Nat} (h : ¬ Qeg n u) (hu : u < c.length) : Ll c n u = c[u] := by
  rw [Ll, if_neg h, cA, Int.toNat_natCast, List.getElem?_eq_getElem hu]; rfl
theorem Rc (c : List Int) (n : Int) (i : Nat) : (KB c n i).length = i := by simp [KB]
theorem Th (c : List Int) (n : Int) (i : Nat) : KB c n (i + 1) = KB c n i ++ [Ll c n i] := by simp [KB, List.range_succ]
structure Qb7 (c x : List Int) : Prop where
  len : x.length = c.length
  at' : ∀ u (h : u < c.length) (h2 : u < x.length), x[u] = c[u] \/ x[u] = -1
theorem QdM (c : List Int) (n : Int) : Qb7 c (KB c n c.length) := ⟨Rc _ _ _, fun u h h2 => by
  simp only [KB, List.getElem_map, List.getElem_range]
  by_cases hb : Qeg n u
  · exact .inr (Du hb)
  · exact .inl (BY hb h)⟩
def T7 (w : Qy) (c : List Int) (u : Nat) : Bool := match w[u]? with
  | some x => if cA c u < 0 then true else match x.cs[(cA c u).toNat]? with
    | some y => y.ns.all (Kx w c) && !Kx w c y.bs
    | none => true
  | none => true
def T6 (w : Qy) (c : List Int) : Bool := decide (0 <= cA c 0) && (List.range w.length).all (T7 w c)
theorem CK {c : List Int} {u : Nat} (h : u < c.length) : cA c (u : Int) = c[u] := by rw [cA, Int.toNat_natCast, List.getElem?_eq_getElem h]; rfl
theorem CL {c : List Int} {u : Int} (h : u.toNat < c.length) : cA c u = c[u.toNat] := by rw [cA, List.getElem?_eq_getElem h]; rfl
theorem Be {w : Qy} {c : List Int} {u : Nat} (h : u < c.length) (hc : c[u] < 0) : T7 w c u = true := by
  unfold T7; split
  · rw [if_pos (by rw [CK h]; exact hc)]
  · rfl
theorem RA {w : Qy} {c : List Int} {u : Nat} (hu : u < w.length) (h : u < c.length) (hc : ¬ c[u] < 0) (hp : c[u].toNat < w[u].cs.length) : T7 w c u = (w[u].cs[c[u].toNat].ns.all (Kx w c) && !Kx w c w[u].cs[c[u].toNat].bs) := by
  rw [T7, List.getElem?_eq_getElem hu]
  simp only [CK h, if_neg hc, List.getElem?_eq_getElem hp]
theorem Qds {w : Qy} {c : List Int} (h : 0 < c.length) (hc : c[0] < 0) : T6 w c = false := by
  have : cA c 0 = c[0] := CK (u := 0) h
  rw [T6, this, decide_eq_false Wa]; rfl
theorem Bd {w : Qy} {c : List Int} (h : 0 < c.length) (hc : ¬ c[0] < 0) : T6 w c = (List.range w.length).all (T7 w c) := by
  have : cA c 0 = c[0] := CK (u := 0) h
  rw [T6, this, decide_eq_true Wa]; rfl
theorem XA {α : Type} {l : List α} {p : α -> Bool} {k : Nat} (h : k < l.length) (hp : p l[k] = false) : l.all p = false := by
  rw [<- Bool.not_eq_true, Qiu]; intro ha
  rw [ha _ (Qip h)] at hp; cases hp
def Mg (w : Qy) (al c : List Int) (u : Nat) : Bool := !decide (KH (XX w c (u : Int)) (JG al (u : Int)) = 0)
def GG (w : Qy) (al c : List Int) : Bool := decide (al = []) || (List.range c.length).all (Mg w al c)
theorem Qc5 {w : Qy} {al c : List Int} (h : ¬ 0 < (al.length : Int)) : GG w al c = true := by
  rw [GG, decide_eq_true (List.length_eq_zero_iff.1 Wa), Bool.true_or]
theorem Qc6 {w : Qy} {al c : List Int} (h : (List.range c.length).all (Mg w al c) = true) : GG w al c = true := by rw [GG, h, Bool.or_true]
theorem Qc4 {w : Qy} {al c : List Int} (h0 : 0 < (al.length : Int)) (h : (List.range c.length).all (Mg w al c) = false) : GG w al c = false := by
  rw [GG, h, Bool.or_false]; exact decide_eq_false fun e => by subst e; simp at h0
def gP (c x : List Int) (o : ZL) : Bool := decide (0 <= o.u) && (decide (o.u < c.length) && (decide (cA c o.u = o.m) && decide (cA x o.u = -1)))
theorem QgX {c x : List Int} {o : ZL} (h : ¬ 0 <= o.u) : gP c x o = false := by rw [gP, decide_eq_false h]; rfl
theorem QgY {c x : List Int} {o : ZL} (h : ¬ o.u < c.length) : gP c x o = false := by rw [gP, decide_eq_false h, Bool.false_and, Bool.and_false]
theorem QgZ {c x : List Int} {o : ZL} (h : o.u.toNat < c.length) (hc : ¬ c[o.u.toNat] = o.m) : gP c x o = false := by rw [gP, CL h, decide_eq_false hc, Bool.false_and, Bool.and_false, Bool.and_false]
theorem QgO {c x : List Int} {o : ZL} (h0 : 0 <= o.u) (h1 : o.u < c.length) (h : o.u.toNat < c.length) (hc : c[o.u.toNat] = o.m) (hx : o.u.toNat < x.length) : gP c x o = decide (x[o.u.toNat] = -1) := by
  rw [gP, CL h, CL hx, decide_eq_true h0, decide_eq_true h1, decide_eq_true hc]; rfl
theorem Mi {α : Type} {l : List α} {p : α -> Bool} {j : Nat} (h : j < l.length) : (l.take (j + 1)).any p = ((l.take j).any p || p l[j]) := by
  rw [List.take_succ_eq_append_getElem h, List.any_append]; simp
/-! ### The QeQ -/
theorem Cc {w : Qy} {al c : List Int} {a b : Int} (h : Xx w al c = (a, b)) (h0 : 0 < w.length) (h1 : ¬ a < 0) (h2 : b < 0) : ∃ u : Nat, a = (u : Int) /\ u < w.length /\ tkM w c (u : Int) < 0 /\ (u = 0 \/ alM al u 1 = false) := by
  unfold Xx at h
  split at h
  · rename_i q1
    simp only [Yx, Prod.mk.injEq] at h q1
    exact ⟨0, h.1.symm, h0, of_decide_eq_true q1, .inl rfl⟩
  · split at h
    · rename_i q1 q2
      rcases Kw w.length (JY w al c) with ⟨e, _⟩ | ⟨u, e, hu, hp, _⟩
      · simp only [Yx] at q2; rw [e] at q2; simp at q2
      · simp only [Yx, e, if_pos (Int.natCast_nonneg u), Prod.mk.injEq] at h
        simp only [JY, Qio, decide_eq_true_eq, Bool.not_eq_true'] at hp
        exact ⟨u, h.1.symm, hu, hp.1, .inr hp.2⟩
    · split at h
      · rename_i q1 q2 q3
        rcases Kw w.length (Kb w c) with ⟨e, _⟩ | ⟨u, e, hu, hp, _⟩
        · simp only [Yx] at q3; rw [e] at q3; simp at q3
        · simp only [Yx, e, if_pos (Int.natCast_nonneg u), Int.toNat_natCast, Prod.mk.injEq] at h
          have := of_decide_eq_true hp
          omega
      · simp only [Prod.mk.injEq] at h; omega
theorem Cb {w : Qy} {al c : List Int} {a b : Int} (hw : WSm w) (hch : TF w c) (h : Xx w al c = (a, b)) (h1 : ¬ a < 0) (h2 : ¬ b < 0) : ∃ u k : Nat, ∃ hu : u < w.length, ∃ hc : u < c.length, ∃ hp : c[u].toNat < w[u].cs.length, ∃ hk : k < w[u].cs[c[u].toNat].ns.length, 0 <= c[u] /\ a = (u : Int) /\ b = (k : Int) /\ Kx w c w[u].cs[c[u].toNat].ns[k] = false := by
  unfold Xx at h
  split at h
  · cases h; exact absurd (by decide : (-1 : Int) < 0) h2
  · split at h
    · rename_i q1 q2
      simp only [Yx] at h q2
      split at q2
      · rename_i q3; rw [if_pos q3] at h; cases h; exact absurd (by decide : (-1 : Int) < 0) h2
      · cases q2
    · split at h
      · rename_i q1 q2 q3
        rcases Kw w.length (Kb w c) with ⟨e, _⟩ | ⟨u, e, hu, hp, _⟩
        · simp only [Yx] at q3; rw [e] at q3; simp at q3
        · simp only [Yx, e, if_pos (Int.natCast_nonneg u), Int.toNat_natCast, Prod.mk.injEq] at h
          simp only [Kb, decide_eq_true_eq] at hp
          have hcu : u < c.length := by rw [hch.len]; exact hu
          by_cases hc0 : 0 <= c[u]
          · have hcl : c[u].toNat < w[u].cs.length := by have := hch.bd u hu hcu; omega
            have hn := Qbu hw hch hu hcu hc0 hcl
            rcases Kw w[u].cs[c[u].toNat].ns.length (Tc w c w[u].cs[c[u].toNat].ns) with ⟨e2, _⟩ | ⟨k, e2, hk, hq, _⟩
            · rw [e2] at hn; omega
            · rw [e2] at hn
              refine ⟨u, k, hu, hcu, hcl, hk, hc0, h.1.symm, by rw [<- hn]; exact h.2.symm, ?_⟩
              rw [RU hk, Bool.not_eq_true'] at hq
              exact hq
          · rw [Qbv hw hch hu hcu Wa] at hp; omega
      · cases h; exact absurd (by decide : (-1 : Int) < 0) h1
theorem SB {w : Qy} {al c : List Int} (hw : WSm w) (hch : TF w c) (hal : al = [] \/ al.length = w.length) (ha : GG w al c = true) {u : Nat} (hu : u < w.length) (hc : u < c.length) : al = [] \/ ∃ h : u < al.length, tb al[u] (c[u] + 1).toNat = true := by
  rcases hal with h | hal
  · exact .inl h
  · by_cases he : al = []
    · exact .inl he
    · refine .inr ⟨Wa, ?_⟩
      rw [GG, decide_eq_false he, Bool.false_or, Qiu] at ha
      have := ha u (QiH.2 hc)
      obtain ⟨b1, b2⟩ := DY hch hc
      have h16 := hw.cs _ (Qip hu)
      rw [Mg, JC Wa Wa Wa Wt Wt, CH] at this
      simp only [Int.toNat_natCast, Bool.not_eq_true', decide_eq_false_iff_not] at this
      have e : JG al (u : Int) = al[u]'Wa := by
        simp only [JG]
        first | (rw [if_neg Wa, Int.toNat_natCast, List.getElem?_eq_getElem Wa]; rfl) | (simp [List.getElem?_eq_getElem (Wa : u < al.length)]; omega) | (simp [List.getD_eq_getElem?_getD, List.getElem?_eq_getElem (Wa : u < al.length)]) | skip
      rw [e, KM Wa] at this
      simpa using this
theorem QeQ {w : Qy} {al c x : List Int} {order : List (List Int)} {a b : Int} (hw : WSm w) (hr : WIn w) (hch : TF w c) (hx : Qb7 c x) (hal : al = [] \/ al.length = w.length) (h0 : 0 < w.length) (hf : T6 w c = true) (ha : GG w al c = true) (hO : Xx w al x = (a, b)) (h1 : ¬ a < 0) : (Xt w al order x).any (gP c x) = true := by
  have hcl := hch.len
  have hxl := hx.len
  have hchx : TF w x := ⟨Wa, fun u hu hux => by
    have hb := hch.bd u hu Wa
    rcases hx.at' u Wa hux with e | e <;> rw [e] <;> omega⟩
  simp only [T6, Qio, decide_eq_true_eq, Qiu, QiH] at hf
  -- an offer of a unit that the part lacks and the choice has, from a term that holds its value
  have key : ∀ (v : Nat) (t : ZL) (hv : v < w.length) (hcv : v < c.length) (hxv : v < x.length), t ∈ tsM w x (a, b) -> t.u = (v : Int) -> x[v] = -1 -> 0 <= c[v] -> tb t.m (c[v].toNat + 1) = true -> (Xt w al order x).any (gP c x) = true := by
    intro v t hv hcv hxv ht hu hxe hc0 hbit
    have h16 := hw.cs _ (Qip hv)
    obtain ⟨b1, b2⟩ := hch.bd v hv hcv
    rw [List.any_eq_true]
    refine ⟨⟨(v : Int), c[v]⟩, ((Lh w al order x).2 _).2 ⟨by rw [hO]; exact h1, t, by rw [hO]; exact ht, hu.symm, ?_⟩, ?_⟩
    · rw [N3]
      refine ⟨hc0, by show c[v] < 16; omega, ?_⟩
      show tb (XF al t) (c[v] + 1).toNat = true
      rw [show (c[v] + 1).toNat = c[v].toNat + 1 by omega]
      rcases SB hw hch hal ha hv hcv with rfl | ⟨hl, hb⟩
      · rw [RS (.inl Wd)]; exact hbit
      · rw [Dj Wa Wa Wa, DH, hbit, Bool.true_and]
        have e : t.u.toNat = v := Wa
        simp only [e]
        rw [show c[v].toNat + 1 = (c[v] + 1).toNat by omega]; exact hb
    · rw [QgO (by show 0 <= (v : Int); omega) (by show (v : Int) < _; omega) (by simpa using hcv) Wd (by simpa using hxv)]
      simp [hxe]
  by_cases h2 : b < 0
  · obtain ⟨v, rfl, hv, htk, hor⟩ := Cc hO h0 h1 h2
    have hcv : v < c.length := Wa
    have hxv : v < x.length := Wa
    have hxe := QcJ hw hchx hv htk
    obtain ⟨b1, b2⟩ := hch.bd v hv hcv
    have h16 := hw.cs _ (Qip hv)
    have hc0 : 0 <= c[v] := by
      rcases hor with rfl | hno
      · have := hf.1; rw [show cA c 0 = c[0] from CK (u := 0) hcv] at this; exact this
      · apply Classical.byContradiction
        intro hn
        have hce : c[v] = -1 := Wa
        rcases SB hw hch hal ha hv hcv with rfl | ⟨hl, hb⟩
        · simp [alM] at hno
        · rw [hce] at hb
          rw [Qcc Wa hl, Bool.not_eq_false', decide_eq_true_eq, show (1 : Int) = 2 ^ 0 from rfl, KM Wa] at hno
          rw [show (-1 + 1 : Int).toNat = 0 from rfl, hno] at hb; cases hb
    refine key v ⟨(v : Int), Ps (Xw w (v : Int)) 1⟩ hv hcv hxv (by rw [Qaw h2]; simp) rfl hxe hc0 ?_
    rw [Qat, QgR, decide_eq_false Wa, Qar Wa Wa, decide_eq_true Wt]; rfl
  · obtain ⟨u, k, hu, hxu, hp, hk, hx0, rfl, rfl, hnk⟩ := Cb hw hchx hO h1 h2
    have hcu : u < c.length := Wa
    have hxc : x[u] = c[u] := by rcases hx.at' u hcu hxu with e | e; · exact e
                                 · omega
    have hpc : c[u].toNat < w[u].cs.length := by rw [<- hxc]; exact hp
    have hfu := hf.2 u hu
    rw [RA hu hcu Wa hpc, Qio, Qiu] at hfu
    have hk2 : k < w[u].cs[c[u].toNat].ns.length := by simp only [<- hxc]; exact hk
    have hrow := hfu.1 _ (Qip hk2)
    have erow : w[u].cs[x[u].toNat].ns[k] = w[u].cs[c[u].toNat].ns[k] := by simp only [hxc]
    rw [erow] at hnk
    rw [Kx, List.any_eq_true] at hrow
    obtain ⟨y, hy, hmy⟩ := hrow
    have hyx : mtM w x y = false := by
      rw [<- Bool.not_eq_true]; intro h
      rw [Kx, <- Bool.not_eq_true, List.any_eq_true] at hnk
      exact hnk ⟨y, hy, h⟩
    obtain ⟨y0, y1⟩ := hr.nr _ (Qip hu) _ (Qip hpc) _ (Qip hk2) y hy
    have hcy : y.u.toNat < c.length := Wa
    have hxy : y.u.toNat < x.length := Wa
    have hc0 : 0 <= c[y.u.toNat] := by
      apply Classical.byContradiction
      intro hn; rw [Qe7 hw hch y0 y1 hcy hn] at hmy; cases hmy
    obtain ⟨b1, b2⟩ := DY hch hcy
    have h16 := hw.cs _ (Qip (Wa : y.u.toNat < w.length))
    have hxe : x[y.u.toNat] = -1 := by
      rcases hx.at' _ hcy hxy with e | e
      · rw [Dm hw hch y0 y1 hcy hc0] at hmy
        rw [Dm hw hchx y0 y1 hxy Wa, e, hmy] at hyx; cases hyx
      · exact e
    have hbit : tb (TC w y) (c[y.u.toNat].toNat + 1) = true := by
      rw [Dm hw hch y0 y1 hcy hc0, B4, Bool.not_eq_true', decide_eq_false_iff_not, KM Wa] at hmy
      simpa using hmy
    refine key y.u.toNat ⟨y.u, TC w y⟩ Wa hcy hxy ?_ (by show y.u = _; omega) hxe hc0 hbit
    rw [Qav hu hxu hp hk, Yy, Qiy]
    refine ⟨y, List.mem_filter.2 ⟨by rw [erow]; exact hy, ?_⟩, rfl⟩
    have := Qd2 hw hchx (u := y.u.toNat) Wa
    rw [show ((y.u.toNat : Nat) : Int) = y.u by omega] at this
    rw [decide_eq_true_eq, this]; omega
end M25
namespace Go.Proofs
open Go Go.Abs M3 M25
theorem GB {w : Qy} (hw : WSm w) (hr : WIn w) {c : List Int} (hch : TF w c) (h0 : 0 < w.length) : Ok Tryz.prog 24 [.agg (Qcm w), QP c] (.bool (T6 w c)) := by
 refine Ok.ofT ZS Tryz.func24 Qhe (Qik Z) ?_
 show TW _ _ tf24.body _ _
 have hcl := hch.len
 have hwl := hw.len
 refine Qd fun K hK => Zo Z Z Z (Qa Z (kc2 hK Z Z ?_))
 refine QC ?_ -- 0
 refine Qd fun K hK => Qa Z (QI Z Z Z Wa (Zt Wa Wa) Z (Qz Z Z Z (ZT Z Z (kc3 hK Z Z Z ?_))))
 refine Qt Z (fun h1 => ?_) (fun h1 => ?_)
 ·rw [h1]
  simp only [qA] at h1
  refine Qd fun K hK => Qa Z (kc1 hK Z ?_)
  refine Qp (Qj (Qk Z ?_))
  rw [Qds Wa h1]
 ·rw [h1]
  simp only [qA] at h1
  refine Qq (ks2 Z Z ?_)
  refine QC ?_ -- 1
  refine Qd fun K hK => Qa Z (kc3 hK Z Z Z ?_)
  refine QD ?_
  refine Zk (ι := Nat) (fun i => ⟨[(1, QP c), (2, .ptr [QP (flN w w.length), .sl (w.map fun u => [Qcl w u]), .sl (w.map fun u => [Qck w u])]), (5, .int .i64 i)], []⟩) (fun i => i <= c.length /\ (List.range i).all (T7 w c) = true) (fun i => c.length - i) 0 ?_ ?_ ?_
  ·exact le_trans (JB 2 _ Wg) (QX (l := [1, 2, 5]) (lH := []) (kp3 rfl rfl rfl) Ql rfl rfl rfl)
  ·exact ⟨Qiw _, rfl⟩
  intro i hI
  refine QC ?_ -- 2
  refine Qd fun K hK => mv2 Z Z (Zh Z Q5 (ZT Z Z (kc4 hK Z Z Z Z ?_)))
  refine Qt Z (fun h2 => ?_) (fun h2 => ?_)
  ·rw [h2]
   simp only [qA] at h2
   refine Qq (ks3 Z Z Z ?_)
   refine QC ?_ -- 3
   refine QD ?_
   refine QC ?_ -- 4
   refine Qd fun K hK => mv2 Z Z (QI Z Z Z Wa (Q1 Wa) Z (Qz Z Z Z (ZT Z Z (kc4 hK Z Z Z Z ?_))))
   refine Qt Z (fun h3 => ?_) (fun h3 => ?_)
   ·rw [h3]
    simp only [qA] at h3
    refine Q0 (QE (QB (ks3 Z Z Z (QL fun K hK => Qa Z (QU Z Z Wb (Qa Z (hK _ ?_)))))))
    refine Qi (i + 1) ?_ ?_ ?_
    ·exact QV (kp3 rfl rfl rfl)
    ·exact ⟨Wa, Jk hI.2 (Be Wa h3)⟩
    ·omega
   ·rw [h3]
    simp only [qA] at h3
    have hb := DY hch (Wa : i < c.length); have hcs := hw.cs _ (Qip (Wa : i < w.length)); have hpz := Qf0 hb.2 (by omega : 0 <= c[i]'Wa); have hnl := (hw.ns _ (Qip (Wa : i < w.length)) _ (Qip hpz)).1; have hbl := (hw.ns _ (Qip (Wa : i < w.length)) _ (Qip hpz)).2
    refine Qq (ks3 Z Z Z (Qd fun K hK => Q8 Z Z (QQ (ds0 := [20, 19, 14, 13, 1]) Z Z Z Z Z (Qa Z (QI Z Z Z Wa (Q1 Wa) Z (QQ (ds0 := [14, 13, 1]) Z Z Z Z Z (mv2 Z Z (QI Z Z Z Wa (Q1 Wa) Z (QQ (ds0 := [14, 13, 1]) Z Z Z Z Z ?_)))))))))
    refine QI Z Z Z Wa (Zt Wa Wa) Z (QQ (ds0 := [1]) Z Z Z Z Z (Q8 Z Z (QQ (ds0 := [9, 8, 3, 2, 0]) Z Z Z Z Z (Qa Z (QI Z Z Z Wa (Q1 Wa) Z (QQ (ds0 := [3, 2, 0]) Z Z Z Z Z (mv2 Z Z (QI Z Z Z Wa (Q1 Wa) Z (QQ (ds0 := [3, 2, 0]) Z Z Z Z Z (QI Z Z Z Wa (Zt Wa Wa) Z ?_))))))))))
    refine QQ (ds0 := [0]) Z Z Z Z Z (mv2 Z Z (kc5 hK Z Z Z Z Z ?_))
    refine QC ?_ -- 5
    refine Qd fun K hK => Qa Z (kc6 hK Z Z Z Z Z Z ?_)
    refine QD ?_
    refine Zk (ι := Nat) (fun k => ⟨[(1, QP c), (2, .ptr [QP (flN w w.length), .sl (w.map fun u => [Qcl w u]), .sl (w.map fun u => [Qck w u])]), (5, .int .i64 i), (6, .sl ((w[i]'Wa).cs[(c[i]'Wa).toNat].ns.map fun r => [QaE w r])), (7, QaE w (w[i]'Wa).cs[(c[i]'Wa).toNat].bs), (8, .int .i64 k)], []⟩) (fun k => k <= (w[i]'Wa).cs[(c[i]'Wa).toNat].ns.length /\ ((w[i]'Wa).cs[(c[i]'Wa).toNat].ns.take k).all (Kx w c) = true) (fun k => (w[i]'Wa).cs[(c[i]'Wa).toNat].ns.length - k) 0 ?_ ?_ ?_
    ·exact QV (kp6 rfl rfl rfl rfl rfl rfl)
    ·exact ⟨Qiw _, rfl⟩
    intro k hQ
    refine QC ?_ -- 6
    refine Qd fun K hK => mv2 Z Z (Zh Z Q5 (ZT Z Z (kc7 hK Z Z Z Z Z Z Z ?_)))
    refine Qt Z (fun h4 => ?_) (fun h4 => ?_)
    ·rw [h4]
     simp only [qA] at h4
     refine Qq (ks6 Z Z Z Z Z Z ?_)
     refine QC ?_ -- 7
     refine QD (Qd fun K hK => mv2 Z Z (Qa Z (QI Z Z Z Wa (Q1 Wa) Z (Qz Z Z Z (Qw (X6 hw hch (hw.nl _ (Qip (Wa : i < w.length)) _ (Qip hpz) _ (Qip (Wa : k < (w[i]'Wa).cs[(c[i]'Wa).toNat].ns.length))) (hr.nr _ (Qip (Wa : i < w.length)) _ (Qip hpz) _ (Qip (Wa : k < (w[i]'Wa).cs[(c[i]'Wa).toNat].ns.length)))) Z Z (.inr Z) (ZF Z (kc7 hK Z Z Z Z Z Z Z ?_)))))))
     refine Qt Z (fun h5 => ?_) (fun h5 => ?_)
     ·rw [h5]
      simp only [qA] at h5
      refine Qd fun K hK => Qa Z (kc1 hK Z ?_)
      refine Qp (Qr (Qj (QS (Qr (Qj (Qr (Qj (QS (Qr (Qj (Qk Z ?_)))))))))))
      rw [Bd Wa h1]; exact (Yi (i := i) Wa (by rw [RA Wa Wa h3 hpz, XA (k := k) Wa h5]; rfl)).symm
     ·rw [h5]
      simp only [qA] at h5
      refine Qq (Qg (ks6 Z Z Z Z Z Z (QL fun K hK => Qa Z (QU Z Z Wb (Qa Z (hK _ ?_))))))
      refine Qi (k + 1) ?_ ?_ ?_
      ·exact QV (kp6 rfl rfl rfl rfl rfl rfl)
      ·exact ⟨Wa, Zj Wa hQ.2 (by exact h5)⟩
      ·omega
    ·rw [h4]
     simp only [qA] at h4
     refine Q0 (QE (Qs (QB (ks4 Z Z Z Z (Qd fun K hK => mv2 Z Z (Qw (X6 hw hch (l := (w[i]'Wa).cs[(c[i]'Wa).toNat].bs) Wa (hr.bw _ (Qip (Wa : i < w.length)) _ (Qip hpz))) Z Z (.inr Z) (kc4 hK Z Z Z Z ?_)))))))
     refine Qt Z (fun h6 => ?_) (fun h6 => ?_)
     ·rw [h6]
      refine Qd fun K hK => Qa Z (kc1 hK Z ?_)
      refine Qp (Qr (Qj (QS (Qr (Qj (Qk Z ?_))))))
      rw [Bd Wa h1]; exact (Yi (i := i) Wa (by rw [RA Wa Wa h3 hpz, show Kx w c (w[i]'Wa).cs[(c[i]'Wa).toNat].bs = true from h6, Bool.not_true, Bool.and_false])).symm
     ·rw [h6]
      refine Qq (Qg (ks3 Z Z Z (QL fun K hK => Qa Z (QU Z Z Wb (Qa Z (hK _ ?_))))))
      refine Qi (i + 1) ?_ ?_ ?_
      ·exact QV (kp3 rfl rfl rfl)
      ·exact ⟨Wa, Jk hI.2 (by rw [RA Wa Wa h3 hpz, show Kx w c (w[i]'Wa).cs[(c[i]'Wa).toNat].bs = false from h6, Bool.not_false, Bool.and_true]; rw [QiA Wa] at hQ; exact hQ.2)⟩
      ·omega
  ·rw [h2]
   simp only [qA] at h2
   refine Q0 (QE (Qs (QB (QO (Zn) (Qd fun K hK => Qa Z (kc1 hK Z ?_))))))
   refine Qp (Qk Z ?_)
   rw [Bd Wa h1, show w.length = i by omega]; exact hI.2.symm
theorem Hh {w : Qy} (hw : WSm w) {al c : List Int} (hc : c.length <= 1000) : Ok Tryz.prog 25 [Yq w, QP al, QP c] (.bool (GG w al c)) := by
 refine Ok.ofT ZS Tryz.func25 Qhf (Qik Z) ?_
 show TW _ _ tf25.body _ _
 refine Qd fun K hK => Zo Z Z Z (Qa Z (kc3 hK Z Z Z ?_))
 refine QC ?_ -- 0
 refine Qd fun K hK => Qa Z (kc4 hK Z Z Z Z ?_)
 refine QD ?_
 refine Zk (ι := Nat) (fun i => ⟨[(1, QP al), (2, QP c), (3, .ref 3 0 0), (7, .int .i64 i)], [(3, ⟨[[.sl ((w).map Ym)]], 1, 26, true⟩)]⟩) (fun i => i <= c.length /\ (List.range i).all (Mg w al c) = true) (fun i => c.length - i) 0 ?_ ?_ ?_
 ·exact QX (l := [1, 2, 3, 7]) (lH := [3]) (kp4 rfl rfl rfl rfl) (Qb rfl Ql) rfl rfl rfl
 ·exact ⟨Qiw _, rfl⟩
 intro i hI
 refine QC ?_ -- 1
 refine Qd fun K hK => mv2 Z Z (Zh Z Q5 (ZT Z Z (Qa Z ?_)))
 refine Qv (g := 12) Z (fun h1 => ?_) (fun h1 => ?_)
 ·rw [h1]
  simp only [qA] at h1
  refine Qe Z (Qa Z (Qe Z (Zh Z Q5 (Qe Z (Gt Z Z (Qh Z Z (kc5 hK Z Z Z Z Z ?_)))))))
  refine Qt Z (fun h2 => ?_) (fun h2 => ?_)
  ·rw [h2]
   simp only [qA] at h2
   refine Qq (ks4 Z Z Z Z ?_)
   refine QC ?_ -- 2
   refine QD (Qd fun K hK => QA (cs := [_]) Z Z Z Z (mv2 Z Z (Qw (Hy hw) Z Z (.inr Z) (mv2 Z Z (Qw (YU (l := al) (i := (i : Int))) Z Z (.inr Z) (FV Z Z (Yr Z Z (kc5 hK Z Z Z Z Z ?_))))))))
   refine Qt Z (fun h3 => ?_) (fun h3 => ?_)
   ·rw [h3]
    simp only [qA] at h3
    refine Qd fun K hK => Qa Z (kc1 hK Z ?_)
    refine Qp (Qr (Qj (QS (Qr (Qj (Qk Z ?_))))))
    exact (Qc4 h2 (Yi (i := i) Wa (by rw [Mg, decide_eq_true (by exact h3)]; rfl))).symm
   ·rw [h3]
    simp only [qA] at h3
    refine Qq (Qg (ks4 Z Z Z Z (QL fun K hK => Qa Z (QU Z Z Wb (Qa Z (hK _ ?_))))))
    refine Qi (i + 1) ?_ ?_ ?_
    ·exact QX (l := [1, 2, 3, 7]) (lH := [3]) (kp4 rfl rfl rfl rfl) (Qb rfl Ql) rfl rfl rfl
    ·exact ⟨Wa, Jk hI.2 (by rw [Mg, decide_eq_false (by exact h3)]; rfl)⟩
    ·omega
  ·rw [h2]
   simp only [qA] at h2
   refine Q0 (QE (Qs (QB (QO (Zn) (Qd fun K hK => Qa Z (kc1 hK Z ?_))))))
   refine Qp (Qk Z ?_)
   exact (Qc5 h2).symm
 ·rw [h1]
  simp only [qA] at h1
  refine gn3 Z Z Z (Qh Z Z (kc5 hK Z Z Z Z Z ?_))
  refine Zm Z (Q0 (QE (Qs (QB (QO (Zn) (Qd fun K hK => Qa Z (kc1 hK Z ?_)))))))
  refine Qp (Qk Z ?_)
  exact (Qc6 (by rw [show c.length = i by omega]; exact hI.2)).symm
theorem Gu {c : List Int} {n : Int} (hc : c.length <= 1000) : Ok Tryz.prog 26 [QP c, .int .i64 n] (QP (KB c n c.length)) := by
 refine Ok.ofT ZS Tryz.func26 Qhg (Qik Z) ?_
 show TW _ _ tf26.body _ _
 refine Qd fun K hK => Qa Z (kc2 hK Z Z ?_)
 refine Qd fun K hK => Qa Z (kc3 hK Z Z Z ?_)
 refine QC ?_ -- 0
 refine Qd fun K hK => Qa Z (kc4 hK Z Z Z Z ?_)
 refine QD ?_
 refine Zk (ι := Nat) (fun i => ⟨[(0, QP c), (1, .int .i64 n), (5, .osl 5 (KB c n i).length), (6, .int .i64 i)], [(5, ⟨(KB c n i).map (fun x => [.int .i64 x]), 1, 3, true⟩)]⟩) (fun i => i <= c.length) (fun i => c.length - i) 0 ?_ ?_ ?_
 ·exact le_trans (ZV 5 5 1 3 rfl rfl) (QX (l := [0, 1, 5, 6]) (lH := [5]) (kp4 rfl rfl rfl rfl) (Qb rfl Ql) rfl rfl rfl)
 ·exact Qiw _
 intro i hI
 have hlen := Rc c n i
 refine QC ?_ -- 1
 refine Qd fun K hK => mv2 Z Z (Zh Z Q5 (ZT Z Z (kc5 hK Z Z Z Z Z ?_)))
 refine Qt Z (fun h1 => ?_) (fun h1 => ?_)
 ·rw [h1]
  simp only [qA] at h1
  refine Qq (ks4 Z Z Z Z ?_)
  refine QC ?_ -- 2
  refine QD (Qd fun K hK => mv2 Z Z (QI Z Z Z Wa (Q1 Wa) Z (Qz Z Z Z (Qa Z (kc5 hK Z Z Z Z Z ?_)))))
  refine Nk (ι := Unit) (fun _ => ⟨[(0, QP c), (1, .int .i64 n), (5, .osl 5 (KB c n i).length), (6, .int .i64 i), (7, .int .i64 (Ll c n i))], [(5, ⟨(KB c n i).map (fun x => [.int .i64 x]), 1, 3, true⟩)]⟩) (fun _ => True) ?_ ?_
  ·skip
   refine Qd fun K hK => mv2 Z Z (Mb Z (N7 Wa Wa) (QcX Z Z Wa (FV Z Z (Yr Z Z (kc6 hK Z Z Z Z Z Z ?_)))))
   refine Qt Z (fun h2 => ?_) (fun h2 => ?_)
   ·rw [h2]
    simp only [qA] at h2
    refine QL fun K hK => Qa Z (hK _ ?_)
    refine Zs () ?_ ?_
    ·exact QX (l := [0, 1, 5, 6, 7]) (lH := [5]) (kp5 rfl rfl rfl rfl rfl) (Qb rfl Ql) (by rw [Du (by exact h2)] <;> rfl) rfl rfl
    ·exact trivial
   ·rw [h2]
    simp only [qA] at h2
    refine Qq ?_
    refine Zs () ?_ ?_
    ·exact QX (l := [0, 1, 5, 6, 7]) (lH := [5]) (kp5 rfl rfl rfl rfl rfl) (Qb rfl Ql) (by rw [BY (by exact h2) Wa] <;> rfl) rfl rfl
    ·exact trivial
  intro _ hJ
  refine QL fun K hK => mv2 Z Z (QJ Z Z (Xy Z Z (fun _ h => Xn Z Z Z h) Z Wd Z Z Z Wf Wf (Qa Z (hK _ ?_))))
  refine Qg (ks4 Z Z Z Z (QL fun K hK => Qa Z (QU Z Z Wb (Qa Z (hK _ ?_)))))
  refine Qi (i + 1) ?_ ?_ ?_
  ·exact QX (l := [0, 1, 5, 6]) (lH := [5]) (kp4 rfl rfl rfl rfl) (Qb rfl Ql) (by rw [Th, List.length_append] <;> rfl) (by rw [Th, List.map_append] <;> rfl) rfl
  ·omega
  ·omega
 ·rw [h1]
  simp only [qA] at h1
  refine Q0 (QE (Qs (QB (ks1 Z (Qd fun K hK => mv2 Z Z (kc1 hK Z ?_))))))
  refine Qp ?_
  exact K4 rfl rfl rfl Wd (by rw [show c.length = i by omega]; rfl)
theorem c_linchpinlaw27_PickGuides {ws vs os : List Int} (hws : ∀ x ∈ ws, I64 x) (hvs : ∀ x ∈ vs, I64 x) (hos : ∀ x ∈ os, I64 x) {n pt : Int} (hn : I64 n) (hpt : I64 pt) : Ok Tryz.prog 4 [QP ws, QP vs, QP os, .int .i64 n, .int .i64 pt, gD] (.bool true) := by
 refine Ok.ofTG (ds := [QP ws, QP vs, QP os, .int .i64 n, .int .i64 pt]) (dg := gD) ZS Tryz.func4 tp4 (Qik Z) ?_
 show TW _ _ tf4.body _ _
 refine Qd fun K hK => Qa Z (kc6 hK Z Z Z Z Z Z ?_)
 refine QC ?_ -- 0
 refine Qd fun K hK => Qa Z (Zh Z Q5 (Gt Z Z (Qa Z ?_)))
 refine Qv (g := 26) Z (fun h1 => ?_) (fun h1 => ?_)
 ·rw [h1]
  simp only [qA, Zr] at h1
  refine gn3 Z Z Z (Qh Z Z (kc7 hK Z Z Z Z Z Z Z ?_))
  refine Ze Z (Qd fun K hK => Qw (YJ) Z Z (.inl Z) (Qa Z (kc1 hK Z ?_)))
  refine Qp (Qj (Qk Z ?_))
  rfl
 ·rw [h1]
  simp only [qA, Zr] at h1
  refine Qe Z (Qa Z (Qe Z (Zh Z Q5 (Qe Z (Gt Z Z (Qh Z Z (kc7 hK Z Z Z Z Z Z Z ?_)))))))
  refine Qt Z (fun h2 => ?_) (fun h2 => ?_)
  ·rw [h2]
   simp only [qA, Zr] at h2
   refine Qd fun K hK => Qw (YJ) Z Z (.inl Z) (Qa Z (kc1 hK Z ?_))
   refine Qp (Qj (Qk Z ?_))
   rfl
  ·rw [h2]
   simp only [qA, Zr] at h2
   refine Qq (ks6 Z Z Z Z Z Z (Qd fun K hK => Qa Z ?_))
   obtain ⟨d0, ⟨w, hwm, rfl⟩, hc0⟩ := Gx (ws := ws) hws (most := 3) Wg Wg
   have hw := hwm.sm
   have hr := hwm.win
   have hwl := hw.len
   have hwl2 := hwm.len
   have h0 : 0 < w.length := Wa
   have hz := QdZ hw
   have hp0 := P7 (v := n) (n := NI w)
   have hp1 := P6 (v := n) (n := NI w) Wa
   have hq0 := P7 (v := pt) (n := 1048576)
   have hq1 := P6 (v := pt) (n := 1048576) Wa
   have hcA := Gv hw (l := vs) hvs
   obtain ⟨al, hal⟩ : ∃ al, FA w vs = al := ⟨_, rfl⟩
   rw [hal] at hcA
   have hall := CC w vs
   rw [hal] at hall
   have hol1 := BW w os
   have hcU := Gw hw (l := os) hos
   obtain ⟨order, hor⟩ : ∃ order, Nu w os = order := ⟨_, rfl⟩
   rw [hor] at hol1 hcU
   obtain ⟨n0, hn0⟩ : ∃ n0, mPl n (NI w) = n0 := ⟨_, rfl⟩
   have hcP := Z3 (v := n) (n := NI w) Wa hn
   rw [hn0] at hp0 hp1 hcP
   refine Qw (hc0) Z Z (.inl Z) (Zv Z (QZ Z Z Z Z Z Z Z Z (kc6 hK Z Z Z Z Z Z ?_)))
   refine Qd fun K hK => QN (ds0 := [5, 1]) (cs := [_]) Z Z Z Z Z Z (Qa Z (Q7 (ds0 := [1]) (hcA) Z Z (.inl Z) Z Z (QN (ds0 := [2, 0]) (cs := [_]) Z Z Z Z Z Z (Qa Z (Q7 (ds0 := [0]) (hcU) Z Z (.inl Z) Z Z (mv2 Z Z (kc6 hK Z Z Z Z Z Z ?_)))))))
   refine Qd fun K hK => Qa Z (QA (cs := [_]) Z Z Z Z (Qw (Jq hw) Z Z (.inr Z) (Qw (hcP) Z Z (.inr Z) (Qa Z (kc6 hK Z Z Z Z Z Z ?_)))))
   refine Qd fun K hK => QA (cs := [_]) Z Z Z Z (Qw (Hi hw) Z Z (.inl Z) (Zv Z (QZ Z Z Z Z Z Z Z Z (kc7 hK Z Z Z Z Z Z Z ?_))))
   refine QC ?_ -- 1
   refine Qd fun K hK => Qa Z (kc8 hK Z Z Z Z Z Z Z Z ?_)
   refine QD ?_
   refine Zk (ι := Nat) (fun k => ⟨[(3, .int .i64 n0), (4, .int .i64 pt), (11, .ptr [.sl (w.map Ym)]), (12, QP al), (13, .sl (order.map fun r => [QP r])), (14, .ptr [QP (flN w w.length), .sl (w.map fun u => [Qcl w u]), .sl (w.map fun u => [Qck w u])]), (15, .int .i64 k), (900000, gD)], []⟩) (fun k => k <= 600) (fun k => 600 - k) 0 ?_ ?_ ?_
   ·exact le_trans (JB 11 _ Wg) (le_trans (JB 14 _ Wg) (QX (l := [3, 4, 11, 12, 13, 14, 15, 900000]) (lH := []) (kp8 rfl rfl rfl rfl rfl rfl rfl rfl) Ql rfl rfl rfl))
   ·exact Qiw _
   intro k hI
   dsimp only
   refine QC ?_ -- 2
   refine Qd fun K hK => Qa Z (ZT Z Z (kc9 hK Z Z Z Z Z Z Z Z Z ?_))
   refine Qt Z (fun h3 => ?_) (fun h3 => ?_)
   ·rw [h3]
    simp only [qA, Zr] at h3
    refine Qq (ks8 Z Z Z Z Z Z Z Z ?_)
    refine QC ?_ -- 3
    refine QD (Qd fun K hK => QN (ds0 := [1, 0]) (cs := [_]) Z Z Z Z Z Z (mv2 Z Z (TK Z Z (Qo Wa Wa) (QU Z Z (Qo Wa Wa) (QN (ds0 := [3, 2, 1, 0]) (cs := [_]) Z Z Z Z Z Z (Q7 (ds0 := [2, 1, 0]) (Jq hw) Z Z (.inr Z) Z Z (Sv Z Z Wa ?_)))))))
    have hx0 : 0 <= ((n0 + ((k : Nat) : Int) * 37).tmod (NI w)) := Int.tmod_nonneg _ Wa
    have hx1 : ((n0 + ((k : Nat) : Int) * 37).tmod (NI w)) < NI w := Int.tmod_lt_of_pos _ Wa
    have hcC := Hx hw hx0 Wa
    have hch := CV (w := w) hx0
    obtain ⟨c, hcE⟩ : ∃ c, RO w ((n0 + ((k : Nat) : Int) * 37).tmod (NI w)) = c := ⟨_, rfl⟩
    rw [hcE] at hcC hch
    have hcl := hch.len
    refine Q7 (ds0 := [0]) (hcC) Z Z (.inl Z) Z Z (Qa Z (kc9 hK Z Z Z Z Z Z Z Z Z ?_))
    refine QC ?_ -- 4
    refine Qd fun K hK => QA (cs := [_, _, _]) Z Z Z Z (Qa Z (Qw (GB hw hr hch h0) Z Z (.inr Z) (ZF Z (Qa Z ?_))))
    refine Qv (g := 63) Z (fun h4 => ?_) (fun h4 => ?_)
    ·rw [h4]
     simp only [qA, Zr] at h4
     refine gn4 Z Z Z Z (Xj Z (Qh Z Z (kc hK (MF Z Z Z Z Z Z Z Z Z Z) ?_)))
     refine Ze Z (Q0 (QE (QB (ks8 Z Z Z Z Z Z Z Z (QL fun K hK => Qa Z (QU Z Z (Qo Wa Wa) (Qa Z (hK _ ?_))))))))
     refine Qi (k + 1) ?_ ?_ ?_
     ·exact QV (kp8 rfl rfl rfl rfl rfl rfl rfl rfl)
     ·omega
     ·omega
    ·rw [h4]
     simp only [qA, Zr] at h4
     refine Qe Z (QA (cs := [_]) Z Z Z Z (Qe Z (Qa Z (Qe Z (Qa Z (Qe Z (Qw (Hh hw (al := al) (c := c) Wa) Z Z (.inr Z) (Qe Z (ZF Z (Qh Z Z (kc hK (MF Z Z Z Z Z Z Z Z Z Z) ?_)))))))))))
     refine Qt Z (fun h5 => ?_) (fun h5 => ?_)
     ·rw [h5]
      simp only [qA, Zr] at h5
      refine Q0 (QE (QB (ks8 Z Z Z Z Z Z Z Z (QL fun K hK => Qa Z (QU Z Z (Qo Wa Wa) (Qa Z (hK _ ?_)))))))
      refine Qi (k + 1) ?_ ?_ ?_
      ·exact QV (kp8 rfl rfl rfl rfl rfl rfl rfl rfl)
      ·omega
      ·omega
     ·rw [h5]
      simp only [qA, Zr] at h5
      refine Qq (ks9 Z Z Z Z Z Z Z Z Z (Qd fun K hK => mv2 Z Z (Qw (Z3 Wa hpt) Z Z (.inr Z) (Qa Z (QU Z Z (Qo Wa Wa) ?_)))))
      have hcQ := Gu (c := c) (n := mPl pt 1048576 + ((k : Nat) : Int)) Wa
      have hpo := QdM c (mPl pt 1048576 + ((k : Nat) : Int))
      obtain ⟨x, hxE⟩ : ∃ x, KB c (mPl pt 1048576 + ((k : Nat) : Int)) c.length = x := ⟨_, rfl⟩
      rw [hxE] at hcQ hpo
      have hxl := hpo.len
      refine Qw (hcQ) Z Z (.inl Z) (Qa Z (kc hK (MF Z Z Z Z Z Z Z Z Z Z) ?_))
      refine QC ?_ -- 5
      refine Qd fun K hK => QA (cs := [_]) Z Z Z Z (mv2 Z Z ?_)
      obtain ⟨oa, ob, hO⟩ : ∃ a b, Xx w al x = (a, b) := ⟨(Xx w al x).1, (Xx w al x).2, rfl⟩
      have hcO := KN hw h0 (al := al) (c := x)
      simp only [hO] at hcO
      refine Qw (hcO) Z Z (.inl Z) (Qa Z (Q3 Z Z (Q3 Z Z (mv2 Z Z (kc hK (L8 Z Z Z Z Z Z Z Z Z Z Z) ?_)))))
      refine Qd fun K hK => Qa Z (ZT Z Z (kc hK (L8 Z Z Z Z Z Z Z Z Z Z Z) ?_))
      refine Qt Z (fun h6 => ?_) (fun h6 => ?_)
      ·rw [h6]
       simp only [qA, Zr] at h6
       refine Q0 (QE (QB (ks8 Z Z Z Z Z Z Z Z (QL fun K hK => Qa Z (QU Z Z (Qo Wa Wa) (Qa Z (hK _ ?_)))))))
       refine Qi (k + 1) ?_ ?_ ?_
       ·exact QV (kp8 rfl rfl rfl rfl rfl rfl rfl rfl)
       ·omega
       ·omega
      ·rw [h6]
       simp only [qA, Zr] at h6
       refine Qq (QO (MF Z Z Z Z Z Z Z Z Z Z) (Qd fun K hK => QA (cs := [_]) Z Z Z Z (mv2 Z Z (Qa Z ?_))))
       have hgd := QeQ (order := order) hw hr hch hpo hall h0 Wh Wh hO Wh
       have hcF := Fi hw (al := al) (c := x) (order := order) h0 hol1
       have hbd := BP w hw al (order := order) hol1 x
       obtain ⟨ol, hol⟩ : ∃ ol, Xt w al order x = ol := ⟨_, rfl⟩
       rw [hol] at hgd hcF hbd
       refine Qw (hcF) Z Z (.inl Z) (Qa Z (kc hK (L8 Z Z Z Z Z Z Z Z Z Z Z) ?_))
       refine Qd fun K hK => Qa Z (kc hK (QfS Z Z Z Z Z Z Z Z Z Z Z Z) ?_)
       refine QC ?_ -- 6
       refine Qd fun K hK => Qa Z (kc hK (L9 Z Z Z Z Z Z Z Z Z Z Z Z Z) ?_)
       refine QD ?_
       refine Zk (ι := Nat) (fun i => ⟨[(3, .int .i64 n0), (4, .int .i64 pt), (11, .ptr [.sl (w.map Ym)]), (12, QP al), (13, .sl (order.map fun r => [QP r])), (14, .ptr [QP (flN w w.length), .sl (w.map fun u => [Qcl w u]), .sl (w.map fun u => [Qck w u])]), (15, .int .i64 k), (16, QP c), (17, QP x), (20, Zr ol), (21, .bool ((ol.take i).any (gP c x))), (22, .int .i64 i), (900000, gD)], []⟩) (fun i => i <= ol.length) (fun i => ol.length - i) 0 ?_ ?_ ?_
       ·exact QX (l := [3, 4, 11, 12, 13, 14, 15, 16, 17, 20, 21, 22, 900000]) (lH := []) (L9 rfl rfl rfl rfl rfl rfl rfl rfl rfl rfl rfl rfl rfl) Ql rfl rfl rfl
       ·exact Qiw _
       intro i hi
       refine QC ?_ -- 7
       refine Qd fun K hK => mv2 Z Z (Zh Z Q5 (ZT Z Z (kc hK (Qg0 Z Z Z Z Z Z Z Z Z Z Z Z Z Z) ?_)))
       refine Qt Z (fun h7 => ?_) (fun h7 => ?_)
       ·rw [h7]
        simp only [qA, Zr] at h7
        refine Qq (QO (L9 Z Z Z Z Z Z Z Z Z Z Z Z Z) ?_)
        refine QC ?_ -- 8
        refine QD (QL fun K hK => mv2 Z Z ?_)
        refine Qv (g := 97) Z (fun h8 => ?_) (fun h8 => ?_)
        ·rw [h8]
         refine gn4 Z Z Z Z (gn3 Z Z Z (QG Z (QG Z (QG Z (QG Z (QG Z ?_))))))
         refine QG Z (QG Z (QG Z (gn2 Z Z (QG Z (QG Z (QG Z (QG Z (QG Z (QG Z (QG Z ?_))))))))))
         refine QG Z (QG Z (QG Z (QG Z (QG Z (QG Z (QG Z (gn2 Z Z (QG Z (QG Z (QG Z ?_))))))))))
         refine QG Z (QG Z (QG Z (QG Z (QG Z (QG Z (Xj Z (Qh Z Z (Qa Z (hK _ ?_)))))))))
         refine Qg (QO (L9 Z Z Z Z Z Z Z Z Z Z Z Z Z) (QL fun K hK => Qa Z (QU Z Z (Qo Wa Wa) (Qa Z (hK _ ?_)))))
         refine Qi (i + 1) ?_ ?_ ?_
         ·exact QX (l := [3, 4, 11, 12, 13, 14, 15, 16, 17, 20, 21, 22, 900000]) (lH := []) (L9 rfl rfl rfl rfl rfl rfl rfl rfl rfl rfl rfl rfl rfl) Ql (by rw [Mi Wa, h8, Bool.true_or] <;> rfl) rfl rfl
         ·omega
         ·omega
        ·rw [h8]
         refine Qe Z (Qa Z (Qe Z (Qa Z (Qe Z (QI Z Z Z Wa (Q1 Wa) Z (Qe Z (Q8 Z Z (Qe Z (QQ (ds0 := [39, 38, 37, 36, 35, 34, 33, 32, 31, 30, 29, 28, 27, 26, 25, 24, 23, 22, 21, 20, 19, 18, 17, 16, 15, 14, 13, 12, 11, 10, 9, 8, 7, 6, 5, 4, 3, 2, 1, 0]) Z Z Z Z Z (Qe Z (Ni Z Z ?_)))))))))))
         refine Qe Z (Qa Z ?_)
         refine Qv (g := 104) Z (fun h9 => ?_) (fun h9 => ?_)
         ·rw [h9]
          simp only [qA, Zr] at h9
          refine Qe Z (Qa Z (Qe Z (Qa Z (Qe Z (QI Z Z Z Wa (Q1 Wa) Z (Qe Z (Q8 Z Z (Qe Z (QQ (ds0 := [30, 29, 28, 27, 26, 25, 24, 23, 22, 21, 20, 19, 18, 17, 16, 15, 14, 13, 12, 11, 10, 9, 8, 7, 6, 5, 4, 3, 2, 1, 0]) Z Z Z Z Z (Qe Z (Qa Z ?_)))))))))))
          refine Qe Z (Zh Z Q5 (Qe Z (ZT Z Z (Qe Z (Qh Z Z (Qe Z (Qa Z ?_)))))))
          refine Qv (g := 114) Z (fun h10 => ?_) (fun h10 => ?_)
          ·rw [h10]
           simp only [qA, Zr] at h10
           refine Qe Z (Qa Z (Qe Z (Qa Z (Qe Z (Qa Z (Qe Z (QI Z Z Z Wa (Q1 Wa) Z (Qe Z (Q8 Z Z (Qe Z (QQ (ds0 := [21, 20, 14, 13, 12, 11, 10, 9, 8, 7, 6, 5, 4, 3, 2, 1, 0]) Z Z Z Z Z ?_)))))))))))
           refine Qe Z (QI Z Z Z Wa (Zt Wa Wa) Z (Qe Z (QQ (ds0 := [14, 13, 12, 11, 10, 9, 8, 7, 6, 5, 4, 3, 2, 1, 0]) Z Z Z Z Z (Qe Z (Qa Z (Qe Z (Qa Z (Qe Z (QI Z Z Z Wa (Q1 Wa) Z (Qe Z (Q8 Z Z ?_)))))))))))
           refine Qe Z (QQ (ds0 := [14, 13, 12, 11, 10, 9, 8, 7, 6, 5, 4, 3, 2, 1, 0]) Z Z Z Z Z (Qe Z (Yr Z Z (Qe Z (Qh Z Z (Qe Z (Qa Z ?_)))))))
           refine Qv (g := 130) Z (fun h11 => ?_) (fun h11 => ?_)
           ·rw [h11]
            simp only [qA, Zr] at h11
            refine Qe Z (Qa Z (Qe Z (Qa Z (Qe Z (Qa Z (Qe Z (QI Z Z Z Wa (Q1 Wa) Z (Qe Z (Q8 Z Z (Qe Z (QQ (ds0 := [5, 4, 3, 2, 1, 0]) Z Z Z Z Z ?_)))))))))))
            refine Qe Z (QI Z Z Z Wa (Zt Wa Wa) Z (Qe Z (QQ (ds0 := [3, 2, 1, 0]) Z Z Z Z Z (Qe Z (Yr Z Z (Qe Z (Qh Z Z (Qh Z Z (Qa Z (hK _ ?_))))))))))
            refine Qg (QO (L9 Z Z Z Z Z Z Z Z Z Z Z Z Z) (QL fun K hK => Qa Z (QU Z Z (Qo Wa Wa) (Qa Z (hK _ ?_)))))
            refine Qi (i + 1) ?_ ?_ ?_
            ·exact QX (l := [3, 4, 11, 12, 13, 14, 15, 16, 17, 20, 21, 22, 900000]) (lH := []) (L9 rfl rfl rfl rfl rfl rfl rfl rfl rfl rfl rfl rfl rfl) Ql (by rw [Mi Wa, h8, QgO h9 h10 Wa h11 Wa, Bool.false_or] <;> rfl) rfl rfl
            ·omega
            ·omega
           ·rw [h11]
            simp only [qA, Zr] at h11
            refine gn4 Z Z Z Z (gn4 Z Z Z Z (Xj Z (Qe Z (Qh Z Z (Qh Z Z ?_)))))
            refine Qa Z (hK _ ?_)
            refine Qg (QO (L9 Z Z Z Z Z Z Z Z Z Z Z Z Z) (QL fun K hK => Qa Z (QU Z Z (Qo Wa Wa) (Qa Z (hK _ ?_)))))
            refine Qi (i + 1) ?_ ?_ ?_
            ·exact QX (l := [3, 4, 11, 12, 13, 14, 15, 16, 17, 20, 21, 22, 900000]) (lH := []) (L9 rfl rfl rfl rfl rfl rfl rfl rfl rfl rfl rfl rfl rfl) Ql (by rw [Mi Wa, h8, QgZ Wa h11, Bool.false_or] <;> rfl) rfl rfl
            ·omega
            ·omega
          ·rw [h10]
           simp only [qA, Zr] at h10
           refine gn4 Z Z Z Z (gn4 Z Z Z Z (gn4 Z Z Z Z ?_))
           refine gn2 Z Z (Qe Z (Qh Z Z (Qe Z (Qa Z (gn4 Z Z Z Z (gn2 Z Z ?_))))))
           refine gn3 Z Z Z (Qe Z (Qh Z Z (Qh Z Z (Qa Z (hK _ ?_)))))
           refine Qg (QO (L9 Z Z Z Z Z Z Z Z Z Z Z Z Z) (QL fun K hK => Qa Z (QU Z Z (Qo Wa Wa) (Qa Z (hK _ ?_)))))
           refine Qi (i + 1) ?_ ?_ ?_
           ·exact QX (l := [3, 4, 11, 12, 13, 14, 15, 16, 17, 20, 21, 22, 900000]) (lH := []) (L9 rfl rfl rfl rfl rfl rfl rfl rfl rfl rfl rfl rfl rfl) Ql (by rw [Mi Wa, h8, QgY h10, Bool.false_or] <;> rfl) rfl rfl
           ·omega
           ·omega
         ·rw [h9]
          simp only [qA, Zr] at h9
          refine gn4 Z Z Z Z (gn4 Z Z Z Z (Qe Z (Qh Z Z (Qe Z (Qa Z ?_)))))
          refine gn4 Z Z Z Z (gn4 Z Z Z Z (gn4 Z Z Z Z ?_))
          refine gn2 Z Z (Qe Z (Qh Z Z (Qe Z (Qa Z (gn4 Z Z Z Z (gn2 Z Z ?_))))))
          refine gn3 Z Z Z (Qe Z (Qh Z Z (Qh Z Z (Qa Z (hK _ ?_)))))
          refine Qg (QO (L9 Z Z Z Z Z Z Z Z Z Z Z Z Z) (QL fun K hK => Qa Z (QU Z Z (Qo Wa Wa) (Qa Z (hK _ ?_)))))
          refine Qi (i + 1) ?_ ?_ ?_
          ·exact QX (l := [3, 4, 11, 12, 13, 14, 15, 16, 17, 20, 21, 22, 900000]) (lH := []) (L9 rfl rfl rfl rfl rfl rfl rfl rfl rfl rfl rfl rfl rfl) Ql (by rw [Mi Wa, h8, QgX h9, Bool.false_or] <;> rfl) rfl rfl
          ·omega
          ·omega
       ·rw [h7]
        simp only [qA, Zr] at h7
        refine Q0 (QE (Qs (QB (ks9 Z Z Z Z Z Z Z Z Z (Qd fun K hK => Qa Z (ZF Z (kc9 hK Z Z Z Z Z Z Z Z Z ?_)))))))
        refine Qt Z (fun h12 => ?_) (fun h12 => ?_)
        ·rw [h12]
         simp only [qA, Zr] at h12
         rw [QiA Wa, hgd] at h12; cases h12
        ·rw [h12]
         simp only [qA, Zr] at h12
         refine Qq (Qg (ks8 Z Z Z Z Z Z Z Z (QL fun K hK => Qa Z (QU Z Z (Qo Wa Wa) (Qa Z (hK _ ?_))))))
         refine Qi (k + 1) ?_ ?_ ?_
         ·exact QV (kp8 rfl rfl rfl rfl rfl rfl rfl rfl)
         ·omega
         ·omega
   ·rw [h3]
    simp only [qA, Zr] at h3
    refine Q0 (QE (Qs (QB (ks1 Z (Qd fun K hK => Qw (YJ) Z Z (.inl Z) (Qa Z (kc1 hK Z ?_)))))))
    refine Qp (Qk Z ?_)
    rfl
end Go.Proofs
