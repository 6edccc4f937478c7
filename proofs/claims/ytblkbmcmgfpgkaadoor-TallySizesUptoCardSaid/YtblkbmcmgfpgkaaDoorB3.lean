/- Part 3 of the means of the proof: a verified abstract evaluator, the prepared functions, and contracts of functions. It states nothing of the claim by itself. -/
import Derived.Test.YtblkbmcmgfpgkaaDoorB2
import Derived.KernelRfl
import Derived.Test.YtblkbmcmgfpgkaaDoorProg
set_option maxRecDepth 4000
set_option linter.unusedSimpArgs false
set_option linter.unusedVariables false
set_option linter.unusedSectionVars false
namespace Go.Abs
open Go
/-! ### Contracts over own boxes, out of the prepared body -/
def small (k : Nat) : Bool := decide (k < 500000)
def NZ (rs : List MP) (d : D) (H' : Qed) : ZX -> St -> Prop
  | .exit _, _ => False
  | _, s => ((rs = [] /\ d = .tup []) \/ (∃ r, rs = [r] /\ Pz small s r d) \/ (∃ r1 r2 d1 d2, rs = [r1, r2] /\ d = .tup [d1, d2] /\ d1.pure = true /\ d2.pure = true /\ Pz small s r1 d1 /\ Pz small s r2 d2) \/ ∃ r1 r2 cs d2, rs = [r1, r2] /\ d = .tpo cs d2 /\ d2.pure = true /\ Pz small s r1 (.agg cs) /\ Pz small s r2 d2) /\ ∀ k b, lk H' k = some b -> lk s.H k = some b
section
variable {P : Program} {E : Env} {g : Gh} {s : St} {a : Act} {w : World}
theorem N4 {S : Nat -> Bool} {K : Kn} (hrep : ∀ d v, RepS g d v -> (∀ k ∈ d.sid, (lk s.H k).isSome = true) -> RepS { g with K := K } (d.fzS s.H S) v) {d : D} {v : Value} (h : Rep g d v) (hh : Has s d) : Rep { g with K := K } (Qay S s d) v :=
  (Rep.fz hrep h hh).canU
theorem Gi {S : Nat -> Bool} (r : Rel E g s a w) {K : Kn} (hrep : ∀ d v, RepS g d v -> (∀ k ∈ d.sid, (lk s.H k).isSome = true) -> RepS { g with K := K } (d.fzS s.H S) v) {x : ResultVar} {x' : MP} (hp : Jz P x = some x') {d : D} (h : Pz S s x' d) :
    ∃ v, (Xk a.tmps x).run P w = .ok v w /\ Rep { g with K := K } d v := by
  cases x with
  | tmp t =>
    obtain ⟨ht9, rfl⟩ := Na hp
    obtain ⟨p, h1, rfl⟩ := h
    exact ⟨_, by simp [Xk], N4 hrep (r.frT ht9 h1) (r.wfF t p h1)⟩
  | cell t ty =>
    simp only [Jz] at hp
    split at hp
    case isFalse => cases hp
    rename_i ht9
    split at hp
    · rename_i b sz e1 e2
      cases hp
      obtain ⟨p, cells, h1, h2, h3⟩ := h
      obtain ⟨B, off, hv, hc, hid⟩ := G8 r (r.frT ht9 h1) h2
      cases b with
      | true =>
        simp only [if_true] at h3
        obtain ⟨hl, rfl⟩ := h3
        obtain ⟨cs, q1, q2, q3, q4⟩ := Sp (P := P) (hc.take sz)
        rw [List.length_take, Nat.min_eq_left hl] at q4
        refine ⟨.agg cs.toArray, ?_, N4 hrep ⟨cs, rfl, q2, q3⟩ fun k hk => ?_⟩
        · simp [Xk, hv, asAddr, loadVar, ZS e1, Zk e2, q4]
        · obtain ⟨y, hy, hk⟩ := Qem.1 hk
          exact hid y (Qez hy) k hk
      | false =>
        simp only [Qen, if_false] at h3
        obtain ⟨q, hq, rfl⟩ := h3
        cases cells with
        | nil => simp at hq
        | cons y ys =>
          simp at hq; subst hq
          obtain ⟨cs, q1, q2, q3, q4⟩ := hc
          cases cs with
          | nil => exact q2.elim
          | cons c cs =>
            have hcell := q4 0 c Wd
            simp only [Nat.add_zero] at hcell
            refine ⟨c, ?_, N4 hrep (q2.1.toRep (q3 _ Wd)) (HV q2.1 (q3 _ Wd) fun k hk => hid _ Wd k hk)⟩
            simp [Xk, hv, asAddr, loadVar, ZS e1, hcell]
    · cases hp
theorem Rs {fn : Func} {x : ResultVar} (hx : fn.results.toList = [x]) {v : Value} (h : (Xk a.tmps x).run P w = .ok v w) : (results fn a.tmps).run P w = .ok v w := by
  have hres : results fn a.tmps = (fn.results.mapM (Xk a.tmps) >>= fun vs => pure (if h : vs.size = 1 then vs[0] else .tuple vs)) := by
    unfold results
    congr 1
  rw [hres, Array.mapM_eq_mapM_toList, hx]
  simp [h]
theorem Nf {fn : Func} {x y : ResultVar} (hx : fn.results.toList = [x, y]) {v u : Value} (h : (Xk a.tmps x).run P w = .ok v w) (h2 : (Xk a.tmps y).run P w = .ok u w) : (results fn a.tmps).run P w = .ok (.tuple #[v, u]) w := by
  have hres : results fn a.tmps = (fn.results.mapM (Xk a.tmps) >>= fun vs => pure (if h : vs.size = 1 then vs[0] else .tuple vs)) := by
    unfold results
    congr 1
  rw [hres, Array.mapM_eq_mapM_toList, hx]
  simp [h, h2]
theorem GX {xs : List ResultVar} {r1 r2 : MP} (h : ZN P xs = some [r1, r2]) : ∃ x1 x2, xs = [x1, x2] /\ Jz P x1 = some r1 /\ Jz P x2 = some r2 := by
  cases xs with
  | nil => simp [ZN] at h
  | cons x xs =>
    simp only [ZN] at h
    split at h
    · rename_i x' r' e1 e2
      cases h
      cases xs with
      | nil => simp [ZN] at e2
      | cons y ys =>
        simp only [ZN] at e2
        split at e2
        · rename_i y' s' e3 e4
          cases e2
          have : ys = [] := by
            cases ys with
            | nil => rfl
            | cons z zs => simp only [ZN] at e4; split at e4 <;> cases e4
          subst this
          exact ⟨x, y, rfl, e1, e3⟩
        · cases e2
    · cases h
theorem Fo {g : Gh} : ∀ {ds : List D} {vs : List Value}, RepA g ds vs -> vs.length = ds.length /\ ∀ (i : Nat) x, ds[i]? = some x -> ∃ v, vs[i]? = some v /\ Rep g x v
  | [], [], _ => ⟨rfl, fun i x h => by simp at h⟩
  | y :: ys, v :: vs, h => by
    obtain ⟨h1, h2⟩ := Fo h.2
    refine ⟨by simp [h1], fun i x hx => ?_⟩
    cases i with
    | zero => simp at hx; subst hx; exact ⟨v, by simp, h.1⟩
    | succ i => simpa using h2 i x (by simpa using hx)
  | [], _ :: _, h => h.elim
  | _ :: _, [], h => h.elim
theorem OkH.ofE {f : Nat} {fn : Func} {af : AFn} {ds : List D} {d : D} {H H' : Qed} {fr0 : Qee} (hm : P.follows .mixedOrders = true) (hf : P.funcs[f]? = some fn) (hp : QV P fn = some af) (hn : ds.length <= af.nt + (GR f).length)
    (hfr : ∀ g vs, RepA g ds (vs ++ gVs f) -> ∀ t x, lk fr0 t = some x -> x ∈ ds /\ ((∃ v, vs[t]? = some v /\ Rep g x v) \/ ∃ i, t = 900000 + i /\ Rep g x (.pointer (some ⟨i, 0, none⟩))))
    (hin : ∀ k, 1000000 <= k -> (lk H k).isSome = true -> (lk H' k).isSome = true) (hcl : ∀ k b, lk H' k = some b -> 500000 <= k /\ ∀ j ∈ b.ids, (lk H' j).isSome = true)
    (h : AW P af.nt af.body (NZ af.rs d H') ⟨fr0, H⟩) : OkH P f ds H d H' := by
  unfold QV at hp
  split at hp
  · rename_i c rs hbody hrs
    split at hp
    · rename_i ac hac
      split at hp
      · rename_i hname
        cases hp
        refine ⟨⟨fn, hf, hname.1, by rw [hbody]; rfl⟩, fun g w vs hrel hvs hids => ?_⟩
        have hfr := hfr g vs hvs
        have hlen := (Fo hvs).1
        rw [List.length_append, gVs, List.length_map] at hlen
        simp only at hn h
        let E : Env := ⟨fn.ntmps, w.heap.size, w, g.K, fun b => Fk g H b, fun k => 1000000 <= k /\ (lk H k).isSome = true, g.β, g.σ, none, some w.heap.size⟩
        have hsz : (vs.toArray ++ Array.replicate (fn.ntmps - vs.toArray.size) Go.undef).size = fn.ntmps := by simp; omega
        have r0 : Rel E g ⟨fr0, H⟩ { tmps := vs.toArray ++ Array.replicate (fn.ntmps - vs.toArray.size) Go.undef, defers := [] } w := by
          refine ⟨⟨hsz, hname.2⟩, DfOk.nil rfl, fun t x hx => ?_, fun t x hx k hk => ?_, hrel.wfH, fun k b hb => (hrel.bx k b hb).move ⟨rfl, rfl⟩ (fun _ _ _ _ _ _ => ⟨rfl, rfl⟩) (Kn.le_refl _) fun B e hβ => ⟨rfl, fun _ h => h, fun _ => .inr ⟨k, e, by rw [hb]; rfl, hβ⟩⟩, hrel.inj, hrel.kr, ⟨Nat.le_refl _, fun b hb _ => rfl, SameFx.refl w⟩, fun b hb _ => rfl, fun k hk => ⟨hk.1, rfl, rfl, hk.2⟩⟩
          · rcases (hfr t x hx).2 with ⟨v, h1, h2⟩ | ⟨i, rfl, h2⟩
            · have : (vs.toArray ++ Array.replicate (fn.ntmps - vs.toArray.size) Go.undef).getD t (K4 t) = v := by
                have hlt := (List.getElem?_eq_some_iff.1 h1).1
                rw [Array.getD_eq_getD_getElem?, Array.getElem?_append_left (by simpa using hlt)]
                simp [h1]
              simp only [this]
              exact h2
            · have : (vs.toArray ++ Array.replicate (fn.ntmps - vs.toArray.size) Go.undef).getD (900000 + i) (K4 (900000 + i)) = .pointer (some ⟨i, 0, none⟩) := by
                have h9 := hname.2
                rw [Array.getD_eq_getD_getElem?, Array.getElem?_eq_none (by rw [hsz]; omega), Option.getD_none, K4, if_neg Wa, Nat.add_sub_cancel_left]
              simp only [this]
              exact h2
          · exact hids x (hfr t x hx).1 k hk
        refine (callsIn_wide (n := 0)).1 (callsIn_of_wp_marks hf hbody trivial (wpIn_mono (h c E g _ w hm hac rfl (.inl ⟨rfl, _, rfl, Nat.le_refl _⟩) r0) fun e a' w' hq => ?_))
        have fin0 : ∀ s' g' a' w', NZ rs d H' .normal s' -> Rel E g' s' a' w' -> ∃ v, (results fn a'.tmps).run P w' = .ok v w' /\ ∃ v_1 g'', Ending.returned v = .returned v_1 /\ Rep g'' d v_1 /\ HRel g'' H' w' /\ w.heap.size <= w'.heap.size /\ (∀ b, b < w.heap.size -> ¬ Fk g H b -> w'.heap[b]? = w.heap[b]? /\ g''.K b = g.K b) /\ SameFx w w' /\
            (∀ k, 1000000 <= k -> (lk H k).isSome = true -> (lk H' k).isSome = true /\ g''.β k = g.β k /\ g''.σ k = g.σ k) /\ ∀ k B e, k < 1000000 -> (lk H' k).isSome = true -> g''.β k = some (B, e) -> w.heap.size <= B \/ ∃ k2 e2, k2 < 1000000 /\ (lk H k2).isSome = true /\ g.β k2 = some (B, e2) := by
          intro s' g' a' w' ⟨hres0, hsub⟩ r'
          obtain ⟨K2, hle, hkr2, hoth, hrep⟩ := Fe r' small
          have hres1 : ∃ v, (results fn a'.tmps).run P w' = .ok v w' /\ Rep { g' with K := K2 } d v := by
           rcases hres0 with ⟨hrs0, rfl⟩ | ⟨x', hrs', hres⟩ | ⟨r1, r2, d1, d2, hrs', rfl, hp1, hp2, hres1, hres2⟩ | ⟨r1, r2, cs, d2, hrs', rfl, hp2, hres1, hres2⟩
           rotate_right
           · subst hrs'
             obtain ⟨x1, x2, hx, hpx1, hpx2⟩ := GX hrs
             obtain ⟨v1, q1, q2⟩ := Gi r' hrep hpx1 hres1
             obtain ⟨v2, q3, q4⟩ := Gi r' hrep hpx2 hres2
             obtain ⟨vs, rfl, q5, q6⟩ := q2
             exact ⟨.tuple #[_, v2], Nf hx q1 q3, vs, v2, rfl, q5, q6, q4.toP hp2⟩
           rotate_right
           · subst hrs'
             obtain ⟨x1, x2, hx, hpx1, hpx2⟩ := GX hrs
             obtain ⟨v1, q1, q2⟩ := Gi r' hrep hpx1 hres1
             obtain ⟨v2, q3, q4⟩ := Gi r' hrep hpx2 hres2
             refine ⟨.tuple #[v1, v2], Nf hx q1 q3, ?_⟩
             simp only [Rep, RepS, RepP]
             exact ⟨[v1, v2], rfl, by simp only [RepVs]; exact ⟨q2.toP hp1, q4.toP hp2, trivial⟩⟩
           · subst hrs0
             have hx : fn.results.toList = [] := by
               cases hx : fn.results.toList with
               | nil => rfl
               | cons y ys => rw [hx] at hrs; simp only [ZN] at hrs; split at hrs <;> cases hrs
             refine ⟨.tuple #[], ?_, ?_⟩
             · have hres : results fn a'.tmps = (fn.results.mapM (Xk a'.tmps) >>= fun vs => pure (if h : vs.size = 1 then vs[0] else .tuple vs)) := by
                 unfold results
                 congr 1
               rw [hres, Array.mapM_eq_mapM_toList, hx]
               simp
             · simp only [Rep, RepS, RepP]; exact ⟨[], rfl, by simp only [RepVs]⟩
           subst hrs'
           obtain ⟨x, hx, hpx⟩ : ∃ x, fn.results.toList = [x] /\ Jz P x = some x' := by
            cases hx : fn.results.toList with
            | nil => rw [hx] at hrs; simp [ZN] at hrs
            | cons x xs =>
              rw [hx] at hrs
              simp only [ZN] at hrs
              split at hrs
              · rename_i x2 r2 e1 e2
                cases hrs
                have hxs : xs = [] := by
                  cases xs with
                  | nil => rfl
                  | cons y ys => simp only [ZN] at e2; split at e2 <;> cases e2
                subst hxs
                exact ⟨x, rfl, e1⟩
              · cases hrs
           obtain ⟨v, q1, q2⟩ := Gi r' hrep hpx hres
           exact ⟨v, Rs hx q1, q2⟩
          obtain ⟨v, q1, q2⟩ := hres1
          have hblk : ∀ k b B e, lk s'.H k = some b -> g'.β k = some (B, e) -> w.heap.size <= B \/ Fk g H B := fun k b B e hk hβ => ((r'.bx k b hk).blk hβ).2.2
          refine ⟨v, q1, v, { g' with K := K2 }, rfl, q2, ⟨fun k b hk => (hcl k b hk).2, fun k b hk => ?_, fun k k' b b' B e e' h1 h2 h3 h4 => r'.inj k k' b b' B e e' (hsub k b h1) (hsub k' b' h2) h3 h4, hkr2⟩, r'.ext.1, fun b hb hno => ⟨r'.ext.2.1 b hb hno, ?_⟩, r'.ext.2.2, fun k h6 hk => ⟨hin k h6 hk, (r'.kp k ⟨h6, hk⟩).2.1, (r'.kp k ⟨h6, hk⟩).2.2.1⟩, fun k B e hk hk' hβ => ?_⟩
          · refine (r'.bx k b (hsub k b hk)).move ⟨rfl, rfl⟩ (fun _ _ _ _ _ _ => ⟨rfl, rfl⟩) hle fun B e hβ => ⟨rfl, fun o ho => ?_, fun _ => .inl (Qer _)⟩
            show K2 B o = none
            rw [hoth B fun k2 b2 e2 p1 p2 p3 => ?_]
            · exact ho
            · have := r'.inj k k2 b b2 B e e2 (hsub k b hk) p1 hβ p3
              subst this
              have h5 := (hcl k b hk).1
              simp only [small, decide_eq_true_eq] at p2
              omega
          · show K2 b = g.K b
            rw [hoth b fun k2 b2 e2 p1 p2 p3 => ?_]
            · exact r'.kx b hb hno
            · rcases hblk k2 b2 b e2 p1 p3 with h | h
              · omega
              · exact hno h
          · obtain ⟨b, hb⟩ := Qel.1 hk'
            rcases hblk k b B e (hsub k b hb) hβ with h | ⟨k2, e2, h1, h2⟩
            · exact .inl h
            · by_cases h6 : 1000000 <= k2
              · obtain ⟨_, p1, _, p2⟩ := r'.kp k2 ⟨h6, h1⟩
                obtain ⟨b2, hb2⟩ := Qel.1 p2
                have := r'.inj k k2 b b2 B e e2 (hsub k b hb) hb2 hβ (p1.trans h2)
                omega
              · exact .inr ⟨k2, e2, Wa, h1, h2⟩
        cases e <;> simp only [AQ] at hq
        · obtain ⟨s', g', hq, r'⟩ := hq
          exact Ff (fun n h => by cases h; exact Nat.le_refl _) r' fun a2 w2 _ r2 => fin0 s' g' a2 w2 hq r2
        · obtain ⟨s', g', hq, r'⟩ := hq; exact hq.elim
        · obtain ⟨s', g', hq, r'⟩ := hq
          exact Ff (fun n h => by cases h; exact Nat.le_refl _) r' fun a2 w2 _ r2 => fin0 s' g' a2 w2 hq r2
      · cases hp
    · cases hp
  · cases hp
theorem OkH.of {f : Nat} {fn : Func} {af : AFn} {ds : List D} {d : D} {H H' : Qed} (hm : P.follows .mixedOrders = true) (hf : P.funcs[f]? = some fn) (hp : QV P fn = some af) (hn : ds.length <= af.nt)
    (hin : ∀ k, 1000000 <= k -> (lk H k).isSome = true -> (lk H' k).isSome = true) (hcl : ∀ k b, lk H' k = some b -> 500000 <= k /\ ∀ j ∈ b.ids, (lk H' j).isSome = true)
    (h : AW P af.nt af.body (NZ af.rs d H') ⟨SJ 0 ds, H⟩) (hg : GR f = [] := by rfl) : OkH P f ds H d H' := OkH.ofE hm hf hp Wa (fun g vs hvs t x hx => by
  rw [gVs, hg, List.map_nil, List.append_nil] at hvs
  rw [F2, if_pos (Qer _), Nat.sub_zero] at hx
  obtain ⟨v, h1, h2⟩ := (Fo hvs).2 t x hx
  exact ⟨List.mem_of_getElem? hx, .inl ⟨v, h1, h2⟩⟩) hin hcl h
theorem OkH.ofTG {f : Nat} {fn : Func} {tf : TFn} {ds : List D} {d dg : D} {H H' : Qed} (hm : P.follows .mixedOrders = true) (hf : P.funcs[f]? = some fn) (hp : QV P fn = some tf.erase) (hn : ds.length <= tf.nt)
    (hin : ∀ k, 1000000 <= k -> (lk H k).isSome = true -> (lk H' k).isSome = true) (hcl : ∀ k b, lk H' k = some b -> 500000 <= k /\ ∀ j ∈ b.ids, (lk H' j).isSome = true)
    (h : TW P tf.nt tf.body (NZ tf.rs d H') ⟨SJ 0 ds ++ [(900000, dg)], H⟩) (hg : GR f = [0] := by rfl) : OkH P f (ds ++ [dg]) H d H' := OkH.ofE (af := tf.erase) hm hf hp (by rw [hg, List.length_append]; exact Nat.add_le_add_right hn 1) (fun g vs hvs t x hx => by
  rw [gVs, hg] at hvs
  obtain ⟨h1, h2⟩ := Fo hvs
  simp only [List.map_cons, List.map_nil, List.length_append, List.length_singleton, Nat.add_right_cancel_iff] at h1
  rw [JH] at hx
  split at hx
  · rename_i y hy
    cases hx
    rw [F2, if_pos (Qer _), Nat.sub_zero] at hy
    have hlt := (List.getElem?_eq_some_iff.1 hy).1
    obtain ⟨v, h3, h4⟩ := h2 t _ (by rw [List.getElem?_append_left hlt]; exact hy)
    rw [List.getElem?_append_left Wa] at h3
    exact ⟨List.mem_append_left _ (List.mem_of_getElem? hy), .inl ⟨v, h3, h4⟩⟩
  · rw [Qr] at hx
    split at hx
    · rename_i e
      cases hx; subst e
      obtain ⟨v, h3, h4⟩ := h2 ds.length dg Wd
      rw [<- h1, List.getElem?_append_right (Nat.le_refl _)] at h3
      simp at h3; subst h3
      exact ⟨by simp, .inr ⟨0, rfl, h4⟩⟩
    · cases hx) hin hcl h
theorem OkH.ofT {f : Nat} {fn : Func} {tf : TFn} {ds : List D} {d : D} {H H' : Qed} (hm : P.follows .mixedOrders = true) (hf : P.funcs[f]? = some fn) (hp : QV P fn = some tf.erase) (hn : ds.length <= tf.nt)
    (hin : ∀ k, 1000000 <= k -> (lk H k).isSome = true -> (lk H' k).isSome = true) (hcl : ∀ k b, lk H' k = some b -> 500000 <= k /\ ∀ j ∈ b.ids, (lk H' j).isSome = true)
    (h : TW P tf.nt tf.body (NZ tf.rs d H') ⟨SJ 0 ds, H⟩) (hg : GR f = [] := by rfl) : OkH P f ds H d H' := OkH.of (af := tf.erase) hm hf hp hn hin hcl h hg
end
/-! ### More weakenings -/
def J4 (t m k : Nat) : Nat := if k = t then m else if k = m then t else k
theorem X5 (t m k : Nat) : J4 t m (J4 t m k) = k := by
  unfold J4
  by_cases h1 : k = t
  · subst h1; by_cases h2 : m = k
    · subst h2; simp
    · simp [h2]
  · by_cases h2 : k = m
    · subst h2; simp [h1]
    · simp [h1, h2]
def Rr (ρ : Nat -> Nat) (H : Qed) : Qed := H.map fun p => (ρ p.1, p.2.ren ρ)
def St.ren (ρ : Nat -> Nat) (s : St) : St := ⟨s.fr.map fun p => (p.1, p.2.ren ρ), Rr ρ s.H⟩
theorem GE {ρ : Nat -> Nat} (hρ : ∀ k, ρ (ρ k) = k) : ∀ (H : Qed) (k : Nat), lk (Rr ρ H) k = (lk H (ρ k)).map (Box.ren ρ)
  | [], _ => rfl
  | (j, b) :: H, k => by
    have := GE hρ H k
    simp only [Rr, List.map_cons, Qr] at this ⊢
    rw [this]
    by_cases h : j = ρ k
    · subst h; simp [hρ]
    · rw [if_neg h, if_neg (fun e => h (by rw [<- e, hρ]))]
theorem Mo (t m : Nat) (ht : t < 1000000) (hm : m < 1000000) (s : St) : s.le (s.ren (J4 t m)) := fun E g a w r => by
  have hρ := X5 t m
  have hbig : ∀ k, 1000000 <= k -> J4 t m k = k := fun k hk => by unfold J4; rw [if_neg Wa, if_neg Wa]
  have hpp : (g.pull (J4 t m)).pull (J4 t m) = g := by
    show (⟨g.K, fun k => g.β (J4 t m (J4 t m k)), fun k => g.σ (J4 t m (J4 t m k))⟩ : Gh) = g
    simp only [hρ]
  have hlk := GE hρ s.H
  have hsome : ∀ k, (lk (Rr (J4 t m) s.H) (J4 t m k)).isSome = (lk s.H k).isSome := fun k => by rw [hlk, hρ, Qex]
  refine ⟨g.pull (J4 t m), r.nt, r.df, fun u d h => ?_, fun u d h k hk => ?_, fun k b h j hj => ?_, fun k b h => ?_, fun k k' b b' B e e' h1 h2 h3 h4 => ?_, r.kr, r.ext, r.kx, fun k hk => ?_⟩
  · simp only [St.ren, Z8] at h
    obtain ⟨d0, h1, rfl⟩ := Qef.1 h
    rw [Rep.ren, hpp]; exact r.fr u d0 h1
  · simp only [St.ren, Z8] at h
    obtain ⟨d0, h1, rfl⟩ := Qef.1 h
    rw [ren_ids] at hk
    obtain ⟨j, hj, rfl⟩ := Qet.1 hk
    show (lk (Rr _ s.H) _).isSome = true
    rw [hsome]; exact r.wfF u d0 h1 j hj
  · change lk (Rr _ s.H) k = some b at h
    rw [hlk] at h
    obtain ⟨b0, h1, rfl⟩ := Qef.1 h
    rw [Box.ren_ids] at hj
    obtain ⟨i, hi, rfl⟩ := Qet.1 hj
    show (lk (Rr _ s.H) _).isSome = true
    rw [hsome]; exact r.wfH _ b0 h1 i hi
  · change lk (Rr _ s.H) k = some b at h
    rw [hlk] at h
    obtain ⟨b0, h1, rfl⟩ := Qef.1 h
    have := r.bx _ b0 h1
    have e : k = J4 t m (J4 t m k) := (hρ k).symm
    rw [e, BoxRel.ren, hpp]; exact this
  · change lk (Rr _ s.H) k = some b at h1
    change lk (Rr _ s.H) k' = some b' at h2
    rw [hlk] at h1 h2
    obtain ⟨b0, q1, rfl⟩ := Qef.1 h1
    obtain ⟨b1, q2, rfl⟩ := Qef.1 h2
    have := r.inj _ _ b0 b1 B e e' q1 q2 h3 h4
    rw [<- hρ k, this, hρ]
  · obtain ⟨h1, h2, h3, h4⟩ := r.kp k hk
    refine ⟨h1, ?_, ?_, ?_⟩
    · show g.β (J4 t m k) = _; rw [hbig k h1]; exact h2
    · show g.σ (J4 t m k) = _; rw [hbig k h1]; exact h3
    · show (lk (Rr _ s.H) k).isSome = true
      have := hsome k
      rw [hbig k h1] at this
      rw [this]; exact h4
end Go.Abs
namespace Go.Abs
open Go
/-! ### Walks that end in some state of a kind: the state is picked on the way -/
def TX (P : Program) (nt : Nat) (c : TCode) (Q : ZX -> St -> Prop) (s : St) : Prop := ∃ e s', Q e s' /\ TW P nt c (fun e2 s2 => e2 = e /\ s2 = s') s
section
variable {P : Program} {nt : Nat} {Q Q' : ZX -> St -> Prop} {s : St}
theorem YZ {c : TCode} (h : ∀ e s, Q e s -> Q' e s) (k : TW P nt c Q s) : TW P nt c Q' s := fun code E g a w hm hp hn hfl r =>
 wpIn_mono (k code E g a w hm hp hn hfl r) fun e a' w' hq => by
  cases e <;> simp only [AQ] at hq ⊢ <;> try exact hq
  all_goals
   obtain ⟨s', g', hq, r'⟩ := hq
   exact ⟨s', g', h _ _ hq, r'⟩
/-! #### A region's walk picks its state -/
theorem Bw {op : BinOp} {bt : Bool} {p q : D} {kk : D -> Prop} (h : Qaz op bt p q kk) : ∃ d, kk d /\ ∀ k2 : D -> Prop, k2 d -> Qaz op bt p q k2 := by
 cases p <;> cases q <;> simp only [Qaz] at h ⊢ <;> try exact h.elim
 ·obtain ⟨h1, h2⟩ := h
  cases op <;> simp only [Dv] at h2 ⊢
  case quo => exact ⟨_, h2.2, fun k2 hk => ⟨h1, h2.1, hk⟩⟩
  case rem => exact ⟨_, h2.2, fun k2 hk => ⟨h1, h2.1, hk⟩⟩
  case shl => exact ⟨_, h2.2, fun k2 hk => ⟨h1, h2.1, hk⟩⟩
  case shr => exact ⟨_, h2.2, fun k2 hk => ⟨h1, h2.1, hk⟩⟩
  all_goals exact ⟨_, h2, fun k2 hk => ⟨h1, hk⟩⟩
 ·obtain ⟨h1, h2⟩ := h
  cases op <;> simp only [Bu] at h2 ⊢ <;> try exact h2.elim
  all_goals exact ⟨_, h2, fun k2 hk => ⟨h1, hk⟩⟩
 ·cases op <;> simp only [Bx] at h ⊢ <;> try exact h.elim
  case add => exact ⟨_, h.2, fun k2 hk => ⟨h.1, hk⟩⟩
  all_goals exact ⟨_, h, fun k2 hk => hk⟩
 ·obtain ⟨h1, h2, h3, h4⟩ := h
  exact ⟨_, h4, fun k2 hk => ⟨h1, h2, h3, hk⟩⟩
theorem LZ {dr : Bool} {op : AOp} {dst : Option Nat} {k : St -> Prop} (h : step P dr op dst s k) : ∃ s', k s' /\ ∀ k2 : St -> Prop, k2 s' -> step P dr op dst s k2 := by
 cases op <;> simp only [step] at h ⊢
 case mov x => obtain ⟨d, h1, h2⟩ := h; exact ⟨_, h2, fun k2 hk => ⟨d, h1, hk⟩⟩
 case pick c x y => obtain ⟨cd, h1, t, h2, d, h3, h4⟩ := h; exact ⟨_, h4, fun k2 hk => ⟨cd, h1, t, h2, d, h3, hk⟩⟩
 case alloc et cells => obtain ⟨t, h1, h2, h3⟩ := h; exact ⟨_, h3, fun k2 hk => ⟨t, h1, h2, hk⟩⟩
 case box et x => obtain ⟨t, h1, v, h2, cells, h3, h4, h5⟩ := h; exact ⟨_, h5, fun k2 hk => ⟨t, h1, v, h2, cells, h3, h4, hk⟩⟩
 case build zero parts => obtain ⟨qs, h1, ds, h2, h3⟩ := h; exact ⟨_, h3, fun k2 hk => ⟨qs, h1, ds, h2, hk⟩⟩
 case buildSlice esz et parts =>
  rcases h with ⟨t, h1, rows, h2, h3, h4⟩ | ⟨rows, h2, h3, h4⟩
  ·exact ⟨_, h4, fun k2 hk => .inl ⟨t, h1, rows, h2, h3, hk⟩⟩
  ·exact ⟨_, h4, fun k2 hk => .inr ⟨rows, h2, h3, hk⟩⟩
 case load agg sz x =>
  obtain ⟨p, h1, cells, h2, h3⟩ := h
  cases agg with
  | true => exact ⟨_, h3.2, fun k2 hk => ⟨p, h1, cells, h2, h3.1, hk⟩⟩
  | false => obtain ⟨d, h4, h5⟩ := h3; exact ⟨_, h5, fun k2 hk => ⟨p, h1, cells, h2, d, h4, hk⟩⟩
 case store sz x v =>
  obtain ⟨p, h1, h2⟩ := h
  cases p <;> simp only [QcB] at h2 <;> try exact h2.elim
  obtain ⟨b, h3, row, h4, q, h5, cells, h6, h7, h8, h9⟩ := h2
  exact ⟨_, h9, fun k2 hk => ⟨_, h1, b, h3, row, h4, q, h5, cells, h6, h7, h8, hk⟩⟩
 case nilCheck x => obtain ⟨p, h1, h2, h3⟩ := h; exact ⟨_, h3, fun k2 hk => ⟨p, h1, h2, hk⟩⟩
 case bin op bt x y =>
  obtain ⟨p, h1, q, h2, h3⟩ := h
  obtain ⟨d, h4, h5⟩ := Bw h3
  exact ⟨_, h4, fun k2 hk => ⟨p, h1, q, h2, h5 _ hk⟩⟩
 case eqs neg ks x y => obtain ⟨p, h1, q, h2, xs, h3, ys, h4, b, h5, h6⟩ := h; exact ⟨_, h6, fun k2 hk => ⟨p, h1, q, h2, xs, h3, ys, h4, b, h5, hk⟩⟩
 case un op x =>
  obtain ⟨p, h1, h2⟩ := h
  cases op <;> cases p <;> simp only [unK] at h2 <;> try exact h2.elim
  all_goals first
   | exact ⟨_, h2, fun k2 hk => ⟨_, h1, hk⟩⟩
   | exact ⟨_, h2.2, fun k2 hk => ⟨_, h1, h2.1, hk⟩⟩
 case conv kk x => obtain ⟨p, h1, d, h2, h3⟩ := h; exact ⟨_, h3, fun k2 hk => ⟨p, h1, d, h2, hk⟩⟩
 case convS sb x =>
  obtain ⟨p, h1, h2⟩ := h
  cases sb
  ·cases p <;> simp only [LX] at h2
   ·obtain ⟨h3, l, h4, h5⟩ := h2; exact ⟨_, h5, fun k2 hk => ⟨_, h1, h3, l, h4, hk⟩⟩
   ·obtain ⟨h3, l, h4, h5⟩ := h2; exact ⟨_, h5, fun k2 hk => ⟨_, h1, h3, l, h4, hk⟩⟩
   ·obtain ⟨b, h4, h5, h6, l, h7, h8⟩ := h2; exact ⟨_, h8, fun k2 hk => ⟨_, h1, b, h4, h5, h6, l, h7, hk⟩⟩
  ·obtain ⟨l, h3, h4⟩ := h2; exact ⟨_, h4, fun k2 hk => ⟨p, h1, l, h3, hk⟩⟩
 case capF x =>
  obtain ⟨p, h1, h2⟩ := h
  cases p <;> simp only [QaC] at h2 <;> try exact h2.elim
  exact ⟨_, h2, fun k2 hk => ⟨_, h1, hk⟩⟩
 case appz esz et bytes zero x y =>
  obtain ⟨t, h1, p, h2, h3⟩ := h
  cases p <;> simp only [QaC] at h3 <;> try exact h3.elim
  obtain ⟨h4, q, h5, n, h6, h7, h8, h9, h10, h11⟩ := h3
  exact ⟨_, h11, fun k2 hk => ⟨t, h1, _, h2, h4, q, h5, n, h6, h7, h8, h9, h10, hk⟩⟩
 case slice esz x lo hi mx =>
  rcases h with h | ⟨h0, hlo, p, h1, h2⟩ | ⟨h0, l, hlo, p, h1, h2⟩
  rotate_left
  rotate_left
  ·cases p <;> simp only [Qas] at h2 <;> try exact h2.elim
   obtain ⟨h3, h4, h5, h6⟩ := h2
   exact ⟨_, h6, fun k2 hk => .inr (.inr ⟨h0, l, hlo, _, h1, h3, h4, h5, hk⟩)⟩
  rotate_left
  ·cases p <;> simp only [L7] at h2 <;> try exact h2.elim
   ·exact ⟨_, h2.2, fun k2 hk => .inr (.inl ⟨h0, hlo, _, h1, h2.1, hk⟩)⟩
   ·obtain ⟨m, h3, h4, h5, h6⟩ := h2
    exact ⟨_, h6, fun k2 hk => .inr (.inl ⟨h0, hlo, _, h1, m, h3, h4, h5, hk⟩)⟩
  obtain ⟨p, h1, rows, h2, l, h3, hh, h4, h5, h6, h7, h8, h9⟩ := h
  cases mx with
  | none => exact ⟨_, h9, fun k2 hk => .inl ⟨p, h1, rows, h2, l, h3, hh, h4, h5, h6, h7, h8, hk⟩⟩
  | some m =>
   obtain ⟨h10, h11, h12⟩ := h9
   exact ⟨_, h12, fun k2 hk => .inl ⟨p, h1, rows, h2, l, h3, hh, h4, h5, h6, h7, h8, h10, h11, hk⟩⟩
 case sliceStr x lo hi => obtain ⟨p, h1, c, h2, l, h3, hh, h4, h5, h6, h7, h8⟩ := h; exact ⟨_, h8, fun k2 hk => ⟨p, h1, c, h2, l, h3, hh, h4, h5, h6, h7, hk⟩⟩
 case fieldAddr off x =>
  obtain ⟨p, h1, h2⟩ := h
  cases p <;> simp only [NJ] at h2 <;> try exact h2.elim
  all_goals exact ⟨_, h2.2, fun k2 hk => ⟨_, h1, h2.1, hk⟩⟩
 case field agg off sz x =>
  obtain ⟨p, h1, cells, h2, h3⟩ := h
  cases agg with
  | true => exact ⟨_, h3.2, fun k2 hk => ⟨p, h1, cells, h2, h3.1, hk⟩⟩
  | false => obtain ⟨d, h4, h5⟩ := h3; exact ⟨_, h5, fun k2 hk => ⟨p, h1, cells, h2, d, h4, hk⟩⟩
 case indexAddr esz x i =>
  obtain ⟨n, h1, p, h2, h3⟩ := h
  cases n <;> try (simp only [Pl] at h3; done)
  cases p <;> simp only [Pl] at h3 <;> try exact h3.elim
  ·obtain ⟨row, h4, h5, h6, h7⟩ := h3; exact ⟨_, h7, fun k2 hk => ⟨_, h1, _, h2, row, h4, h5, h6, hk⟩⟩
  ·obtain ⟨row, h4, h5, h6, h7⟩ := h3; exact ⟨_, h7, fun k2 hk => ⟨_, h1, _, h2, row, h4, h5, h6, hk⟩⟩
  ·obtain ⟨b, h4, h5, h6, h7, h8, h9⟩ := h3; exact ⟨_, h9, fun k2 hk => ⟨_, h1, _, h2, b, h4, h5, h6, h7, h8, hk⟩⟩
 case indexStr x i =>
  obtain ⟨n, h1, p, h2, h3⟩ := h
  cases n <;> try (simp only [Kj] at h3; done)
  cases p <;> simp only [Kj] at h3 <;> try exact h3.elim
  obtain ⟨c, h4, h5, h6⟩ := h3
  exact ⟨_, h6, fun k2 hk => ⟨_, h1, _, h2, c, h4, h5, hk⟩⟩
 case extract i x => obtain ⟨p, h1, ds, h2, d, h3, h4⟩ := h; exact ⟨_, h4, fun k2 hk => ⟨p, h1, ds, h2, d, h3, hk⟩⟩
 case len x => obtain ⟨p, h1, n, h2, h3⟩ := h; exact ⟨_, h3, fun k2 hk => ⟨p, h1, n, h2, hk⟩⟩
 case lenStr x => obtain ⟨p, h1, l, h2, h3⟩ := h; exact ⟨_, h3, fun k2 hk => ⟨p, h1, l, h2, hk⟩⟩
 case min x y =>
  obtain ⟨p, h1, q, h2, h3⟩ := h
  cases p <;> try (simp only [Qbx] at h3; done)
  cases q <;> simp only [Qbx] at h3 <;> try exact h3.elim
  exact ⟨_, h3, fun k2 hk => ⟨_, h1, _, h2, hk⟩⟩
 case max x y =>
  obtain ⟨p, h1, q, h2, h3⟩ := h
  cases p <;> try (simp only [Qbv] at h3; done)
  cases q <;> simp only [Qbv] at h3 <;> try exact h3.elim
  exact ⟨_, h3, fun k2 hk => ⟨_, h1, _, h2, hk⟩⟩
 case append esz et bytes x y =>
  obtain ⟨p, h1, q, h2, h3⟩ := h
  have happ : ∀ (ys : List (List D)) (pr : Bool), Bn dr esz et bytes dst s p ys pr k -> ∃ s', k s' /\ ∀ k2 : St -> Prop, k2 s' -> Bn dr esz et bytes dst s p ys pr k2 := by
   intro ys pr h5
   cases p <;> simp only [Bn] at h5 <;> try exact h5.elim
   ·obtain ⟨t, h6, h7, h8, h9, h10, h11, h12⟩ := h5
    exact ⟨_, h12, fun k2 hk => ⟨t, h6, h7, h8, h9, h10, h11, hk⟩⟩
   ·obtain ⟨hd, hk0, b, h6, h7, h8, h9, h10, h12, h13, h14⟩ := h5
    exact ⟨_, h14, fun k2 hk => ⟨hd, hk0, b, h6, h7, h8, h9, h10, h12, h13, hk⟩⟩
  cases q <;> simp only [LX] at h3 <;> try exact h3.elim
  ·obtain ⟨s', q1, q2⟩ := happ _ _ h3.2
   exact ⟨s', q1, fun k2 hk => ⟨p, h1, _, h2, h3.1, q2 k2 hk⟩⟩
  ·obtain ⟨s', q1, q2⟩ := happ _ _ h3.2
   exact ⟨s', q1, fun k2 hk => ⟨p, h1, _, h2, h3.1, q2 k2 hk⟩⟩
  ·obtain ⟨b, h4, h5, h6, h7⟩ := h3
   obtain ⟨s', q1, q2⟩ := happ _ _ h7
   exact ⟨s', q1, fun k2 hk => ⟨p, h1, _, h2, b, h4, h5, h6, q2 k2 hk⟩⟩
 case makeSlice esz et bytes zero x y =>
  obtain ⟨p, h1, q, h2, h3⟩ := h
  cases p <;> try (simp only [Ln] at h3; done)
  cases q <;> simp only [Ln] at h3 <;> try exact h3.elim
  obtain ⟨t, h4, h5, h6, h7, h8, h9, h10⟩ := h3
  exact ⟨_, h10, fun k2 hk => ⟨_, h1, _, h2, t, h4, h5, h6, h7, h8, h9, hk⟩⟩
 case range x => obtain ⟨t, h1, p, h2, l, h3, h4, h5⟩ := h; exact ⟨_, h5, fun k2 hk => ⟨t, h1, p, h2, l, h3, h4, hk⟩⟩
 case next x =>
  obtain ⟨hd, p, h1, h2⟩ := h
  unfold BM at h2
  split at h2
  ·obtain ⟨l, q, h3, h4⟩ := h2
   rcases h4 with ⟨h4, h5⟩ | ⟨h4, h5⟩
   ·exact ⟨_, h5, fun k2 hk => ⟨hd, _, h1, l, q, h3, .inl ⟨h4, hk⟩⟩⟩
   ·exact ⟨_, h5, fun k2 hk => ⟨hd, _, h1, l, q, h3, .inr ⟨h4, hk⟩⟩⟩
  ·exact h2.elim
 case indexArr len esz x i =>
  obtain ⟨nd, h1, p, h2, h3⟩ := h
  cases nd <;> try (simp only [Qch] at h3; done)
  obtain ⟨h4, h5, h6⟩ := h3
  cases p <;> simp only [NJ] at h6 <;> try exact h6.elim
  all_goals exact ⟨_, h6.2, fun k2 hk => ⟨_, h1, _, h2, h4, h5, h6.1, hk⟩⟩
 case indexAgg agg len esz x i =>
  obtain ⟨nd, h1, n, h2, p, h3, cells, h4, h5, h6, h7⟩ := h
  cases agg with
  | true => exact ⟨_, h7.2, fun k2 hk => ⟨nd, h1, n, h2, p, h3, cells, h4, h5, h6, h7.1, hk⟩⟩
  | false => obtain ⟨d, h8, h9⟩ := h7; exact ⟨_, h9, fun k2 hk => ⟨nd, h1, n, h2, p, h3, cells, h4, h5, h6, d, h8, hk⟩⟩
 case call f args => obtain ⟨ds, h1, d, h2, h3, h4⟩ := h; exact ⟨_, h4, fun k2 hk => ⟨ds, h1, d, h2, h3, hk⟩⟩
 case mkfn f xs =>
  obtain ⟨ds, h1, h2, h3 | ⟨kk, ps, q1, q2, q3, h3⟩⟩ := h
  ·exact ⟨_, h3, fun k2 hk => ⟨ds, h1, h2, .inl hk⟩⟩
  ·exact ⟨_, h3, fun k2 hk => ⟨ds, h1, h2, .inr ⟨kk, ps, q1, q2, q3, hk⟩⟩⟩
 case mkbn f xs => obtain ⟨ds, h1, h2, h3⟩ := h; exact ⟨_, h3, fun k2 hk => ⟨ds, h1, h2, hk⟩⟩
 case callV x az =>
  obtain ⟨p, h1, h2⟩ := h
  rcases h2 with h2 | ⟨rfl, h2⟩
  ·cases p <;> simp only [Qcp] at h2 <;> try exact h2.elim
   obtain ⟨h3, ds, h4, d, h5, h6, h7⟩ := h2
   exact ⟨_, h7, fun k2 hk => ⟨_, h1, .inl ⟨h3, ds, h4, d, h5, h6, hk⟩⟩⟩
  ·cases p <;> simp only [Qcj] at h2 <;> try exact h2.elim
   obtain ⟨h3, d, h5, h6, h7⟩ := h2
   exact ⟨_, h7, fun k2 hk => ⟨_, h1, .inr ⟨rfl, h3, d, h5, h6, hk⟩⟩⟩
theorem JL {K : St -> Prop} : ∀ {l : List AOper} {dr : Dr} {s : St}, run P dr l K s -> ∃ s', K s' /\ ∀ k2 : St -> Prop, k2 s' -> run P dr l k2 s
 | [], _, s, h => ⟨s, h, fun _ hk => hk⟩
 | ⟨dst, op, none⟩ :: r, dr, s, h => by
  simp only [run] at h ⊢
  rcases h with ⟨h1, h2⟩ | ⟨p, q, d, ef, h1, h2, h3⟩ | ⟨f, args, HF, Hn, Hu, d, h1, h2, h3, h5⟩ | ⟨s', d, bx, h1, h2, h3, h5⟩
  ·obtain ⟨s1, h3, h4⟩ := LZ h2
   obtain ⟨s2, h5, h6⟩ := JL h3
   exact ⟨s2, h5, fun k2 hk => .inl ⟨h1, h4 _ (h6 k2 hk)⟩⟩
  ·obtain ⟨s2, h6, h7⟩ := JL h3
   exact ⟨s2, h6, fun k2 hk => .inr (.inl ⟨p, q, d, ef, h1, h2, h7 k2 hk⟩)⟩
  ·obtain ⟨s2, h6, h7⟩ := JL h5
   exact ⟨s2, h6, fun k2 hk => .inr (.inr (.inl ⟨f, args, HF, Hn, Hu, d, h1, h2, h3, h7 k2 hk⟩))⟩
  ·obtain ⟨s2, h6, h7⟩ := JL h5
   exact ⟨s2, h6, fun k2 hk => .inr (.inr (.inr ⟨s', d, bx, h1, h2, h3, h7 k2 hk⟩))⟩
 | ⟨dst, op, some (t, b)⟩ :: r, dr, s, h => by
  simp only [run] at h ⊢
  obtain ⟨d, h0, h⟩ := h
  have hA : ((dr.ok r.length (JB op (pk op s)) (X6 op (wk op s)) = true /\ step P dr.dr op dst s fun s' => run P (dr.nx (G2 op dst r) (JB op (pk op s)) (X6 op (wk op s))) r K s') \/
    (∃ p q d ef, EF P dr.B op dst s p q d ef /\ dr.ok r.length (JB op p) (X6 op q) = true /\ run P (dr.nx (X8 dst.toList r) (JB op p) (X6 op q)) r K (s.eff dst d ef)) \/
    (∃ f args HF Hn Hu d, dr = .fixed /\ JC s op f args /\ JF P f args s HF Hn Hu d /\ run P dr r K (St.apply { s with H := Hn ++ (Hu ++ s.H) } dst d none)) \/
    ∃ s' d bx, dr = .fixed /\ s.le s' /\ Xc P ⟨dst, op, none⟩ s' d bx /\ run P dr r K (s'.apply dst d bx)) ->
    ∃ s', K s' /\ ∀ k2 : St -> Prop, k2 s' -> ((dr.ok r.length (JB op (pk op s)) (X6 op (wk op s)) = true /\ step P dr.dr op dst s fun s' => run P (dr.nx (G2 op dst r) (JB op (pk op s)) (X6 op (wk op s))) r k2 s') \/
    (∃ p q d ef, EF P dr.B op dst s p q d ef /\ dr.ok r.length (JB op p) (X6 op q) = true /\ run P (dr.nx (X8 dst.toList r) (JB op p) (X6 op q)) r k2 (s.eff dst d ef)) \/
    (∃ f args HF Hn Hu d, dr = .fixed /\ JC s op f args /\ JF P f args s HF Hn Hu d /\ run P dr r k2 (St.apply { s with H := Hn ++ (Hu ++ s.H) } dst d none)) \/
    ∃ s' d bx, dr = .fixed /\ s.le s' /\ Xc P ⟨dst, op, none⟩ s' d bx /\ run P dr r k2 (s'.apply dst d bx)) := fun h => by
   rcases h with ⟨h1, h2⟩ | ⟨p, q, d, ef, h1, h2, h3⟩ | ⟨f, args, HF, Hn, Hu, d, h1, h2, h3, h5⟩ | ⟨s', d, bx, h1, h2, h3, h5⟩
   ·obtain ⟨s1, h3, h4⟩ := LZ h2
    obtain ⟨s2, h5, h6⟩ := JL h3
    exact ⟨s2, h5, fun k2 hk => .inl ⟨h1, h4 _ (h6 k2 hk)⟩⟩
   ·obtain ⟨s2, h6, h7⟩ := JL h3
    exact ⟨s2, h6, fun k2 hk => .inr (.inl ⟨p, q, d, ef, h1, h2, h7 k2 hk⟩)⟩
   ·obtain ⟨s2, h6, h7⟩ := JL h5
    exact ⟨s2, h6, fun k2 hk => .inr (.inr (.inl ⟨f, args, HF, Hn, Hu, d, h1, h2, h3, h7 k2 hk⟩))⟩
   ·obtain ⟨s2, h6, h7⟩ := JL h5
    exact ⟨s2, h6, fun k2 hk => .inr (.inr (.inr ⟨s', d, bx, h1, h2, h3, h7 k2 hk⟩))⟩
  have hB : run P dr r K (s.apply dst .undef none) -> ∃ s', K s' /\ ∀ k2 : St -> Prop, k2 s' -> run P dr r k2 (s.apply dst .undef none) := JL
  cases d <;> simp only [NM] at h <;> try exact h.elim
  ·obtain ⟨s2, h1, h2⟩ := hB h
   exact ⟨s2, h1, fun k2 hk => ⟨_, h0, h2 k2 hk⟩⟩
  ·rename_i c
   cases c <;> cases b
   ·obtain ⟨s2, h1, h2⟩ := hA (h.1 rfl)
    exact ⟨s2, h1, fun k2 hk => ⟨_, h0, ⟨fun _ => h2 k2 hk, fun h => by cases h⟩⟩⟩
   ·obtain ⟨s2, h1, h2⟩ := hB (h.2 rfl)
    exact ⟨s2, h1, fun k2 hk => ⟨_, h0, ⟨(fun h => by cases h), fun _ => h2 k2 hk⟩⟩⟩
   ·obtain ⟨s2, h1, h2⟩ := hB (h.2 rfl)
    exact ⟨s2, h1, fun k2 hk => ⟨_, h0, ⟨(fun h => by cases h), fun _ => h2 k2 hk⟩⟩⟩
   ·obtain ⟨s2, h1, h2⟩ := hA (h.1 rfl)
    exact ⟨s2, h1, fun k2 hk => ⟨_, h0, ⟨fun _ => h2 k2 hk, fun h => by cases h⟩⟩⟩
/-! #### The rules -/
variable {l : List Nat} {b : TCode} {id i : Nat}
theorem J6 {dr : Bool} {ops : List AOper} (h : ∀ K : St -> Prop, (∀ fr H, TX P nt b Q ⟨Q6 l fr, H⟩ -> K ⟨fr, H⟩) -> run P (Dr.of s.H dr) ops K s) : TX P nt (.seq (.region dr ops) l b) Q s := by
 obtain ⟨s1, ⟨e, s2, h1, h2⟩, h3⟩ := JL (h (fun st => TX P nt b Q ⟨Q6 l st.fr, st.H⟩) fun fr H h => h)
 exact ⟨e, s2, h1, Qd fun K hK => h3 K (hK s1.fr s1.H h2)⟩
theorem Gw {dr : Bool} {ops : List AOper} (h : ∀ K : St -> Prop, (∀ s', Q .normal s' -> K s') -> run P (Dr.of s.H dr) ops K s) : TX P nt (.region dr ops) Q s := by
 obtain ⟨s1, h1, h3⟩ := JL (h (Q .normal) fun _ h => h)
 exact ⟨.normal, s1, h1, QU fun K hK => h3 K (hK s1 ⟨rfl, rfl⟩)⟩
def QbK (P : Program) (nt : Nat) (l : List Nat) (b : TCode) (Q : ZX -> St -> Prop) : ZX -> St -> Prop
 | .normal, s => TX P nt b Q ⟨Q6 l s.fr, s.H⟩
 | e, s => Q e s
theorem Dn {a : TCode} (h : TX P nt a (QbK P nt l b Q) s) : TX P nt (.seq a l b) Q s := by
 obtain ⟨e, s1, h1, h2⟩ := h
 cases e with
 | normal =>
  obtain ⟨e2, s2, h3, h4⟩ := h1
  exact ⟨e2, s2, h3, QC (YZ (fun _ _ ⟨p, q⟩ => by subst p q; exact h4) h2)⟩
 | exit n => exact ⟨.exit n, s1, h1, QC (YZ (fun _ _ ⟨p, q⟩ => by subst p q; exact ⟨rfl, rfl⟩) h2)⟩
 | ret => exact ⟨.ret, s1, h1, QC (YZ (fun _ _ ⟨p, q⟩ => by subst p q; exact ⟨rfl, rfl⟩) h2)⟩
theorem Fv {c : Opd} {x y : TCode} {t : Bool} (hc : s.ev c = some (.bool t)) (h1 : t = true -> TX P nt x Q s) (h2 : t = false -> TX P nt y Q s) : TX P nt (.cond c x y) Q s := by
 cases t
 ·obtain ⟨e, s1, h3, h4⟩ := h2 rfl; exact ⟨e, s1, h3, Ze hc h4⟩
 ·obtain ⟨e, s1, h3, h4⟩ := h1 rfl; exact ⟨e, s1, h3, QY hc h4⟩
theorem PW {c : Opd} {x y : TCode} (hc : s.ev c = some (.bool true)) (h1 : TX P nt x Q s) : TX P nt (.cond c x y) Q s := Fv hc (fun _ => h1) (fun h => by cases h)
theorem Tj {c : Opd} {x y : TCode} (hc : s.ev c = some (.bool false)) (h1 : TX P nt y Q s) : TX P nt (.cond c x y) Q s := Fv hc (fun h => by cases h) (fun _ => h1)
theorem Ti {a : TCode} (h : TX P nt a (Jb id Q) s) : TX P nt (.block id a) Q s := by
 obtain ⟨e, s1, h1, h2⟩ := h
 cases e with
 | normal => exact ⟨.normal, s1, h1, Qz (YZ (fun _ _ ⟨p, q⟩ => by subst p q; exact ⟨rfl, rfl⟩) h2)⟩
 | ret => exact ⟨.ret, s1, h1, Qz (YZ (fun _ _ ⟨p, q⟩ => by subst p q; exact ⟨rfl, rfl⟩) h2)⟩
 | exit n =>
  by_cases hn : n = id
  ·subst hn
   simp only [Jb, if_true] at h1
   exact ⟨.normal, s1, h1, Qz (YZ (fun _ _ ⟨p, q⟩ => by subst p q; simp only [Jb, if_true]; exact ⟨trivial, trivial⟩) h2)⟩
  ·simp only [Jb, if_neg hn] at h1
   exact ⟨.exit n, s1, h1, Qz (YZ (fun _ _ ⟨p, q⟩ => by subst p q; simp only [Jb, if_neg hn]; exact ⟨trivial, trivial⟩) h2)⟩
theorem MW (h : Q (.exit id) s) : TX P nt (.exit id) Q s := ⟨_, s, h, Q4 ⟨rfl, rfl⟩⟩
theorem Qa1 (h : Q .ret s) : TX P nt .ret Q s := ⟨_, s, h, Qq ⟨rfl, rfl⟩⟩
theorem Fw (h : Q .normal s) : TX P nt .skip Q s := ⟨_, s, h, Qt ⟨rfl, rfl⟩⟩
theorem QcU {c : TCode} {s' : St} (h : s.le s') (hw : TX P nt c Q s') : TX P nt c Q s := let ⟨e, s1, h1, h2⟩ := hw; ⟨e, s1, h1, Dd h h2⟩
inductive Rounds (P : Program) (nt : Nat) (a : TCode) (e : ZX) (s' : St) : Nat -> St -> Prop
 | stop {s : St} : TW P nt a (fun e2 s2 => e2 = e /\ s2 = s') s -> e ≠ .normal -> Rounds P nt a e s' 0 s
 | next {s t s2 : St} {n : Nat} : TW P nt a (fun e2 s3 => e2 = .normal /\ s3 = t) s -> t.le s2 -> Rounds P nt a e s' n s2 -> Rounds P nt a e s' (n + 1) s
theorem Rounds.tw {a : TCode} {e : ZX} {s' : St} {n : Nat} (h : Rounds P nt a e s' n s) : TW P nt (.loop a) (fun e2 s2 => e2 = e /\ s2 = s') s := by
 refine Zh (ι := Nat × St) (fun j => j.2) (fun j => Rounds P nt a e s' j.1 j.2) (fun j => j.1) (n, s) (le_refl _) h fun j hj => ?_
 obtain ⟨m, st⟩ := j
 dsimp only at hj ⊢
 cases hj with
 | stop h1 h2 =>
  refine YZ (fun e2 s2 ⟨p, q⟩ => ?_) h1
  subst p q
  cases e2 with
  | normal => exact absurd rfl h2
  | exit n => exact ⟨rfl, rfl⟩
  | ret => exact ⟨rfl, rfl⟩
 | next h1 h2 h3 =>
  refine YZ (fun e2 s2 ⟨p, q⟩ => ?_) h1
  subst p q
  exact ⟨(_, _), h2, h3, Nat.lt_succ_self _⟩
theorem Qa0 {ι : Type} {a : TCode} (st : ι -> St) (I : ι -> Prop) (μ : ι -> Nat) (i0 : ι) (h0 : s.le (st i0)) (hI : I i0) (round : ∀ i, I i -> TX P nt a (NT st I μ i Q) (st i)) : TX P nt (.loop a) Q s := by
 refine QcU h0 ?_
 have key : ∀ n i, μ i = n -> I i -> ∃ e s', Q e s' /\ ∃ m, Rounds P nt a e s' m (st i) := by
  intro n
  induction n using Nat.strongRecOn with
  | _ n ih =>
   intro i hn hi
   obtain ⟨e, s1, h1, h2⟩ := round i hi
   cases e with
   | normal =>
    obtain ⟨j, hle, hj, hlt⟩ := h1
    obtain ⟨e, s', h3, m, h4⟩ := ih (μ j) (hn ▸ hlt) j rfl hj
    exact ⟨e, s', h3, m + 1, .next h2 hle h4⟩
   | exit k => exact ⟨_, _, h1, 0, .stop h2 Wd⟩
   | ret => exact ⟨_, _, h1, 0, .stop h2 Wd⟩
 obtain ⟨e, s', h1, m, h2⟩ := key _ i0 rfl hI
 exact ⟨e, s', h1, h2.tw⟩
theorem CB {ι : Type} (st : ι -> St) (I : ι -> Prop) {a : TCode} (h : TX P nt a (Lg st I Q) s) (k : ∀ j, I j -> TX P nt b Q (st j)) : TX P nt (.seq a l b) Q s := by
 obtain ⟨e, s1, h1, h2⟩ := h
 cases e with
 | normal =>
  obtain ⟨j, hle, hI⟩ := h1
  obtain ⟨e2, s2, h3, h4⟩ := k j hI
  refine ⟨e2, s2, h3, Fu (ι := Unit) (fun _ => st j) (fun _ => True) (YZ (fun _ _ ⟨p, q⟩ => by subst p q; exact ⟨(), hle, trivial⟩) h2) fun _ _ => h4⟩
 | exit n => exact ⟨.exit n, s1, h1, QC (YZ (fun _ _ ⟨p, q⟩ => by subst p q; exact ⟨rfl, rfl⟩) h2)⟩
 | ret => exact ⟨.ret, s1, h1, QC (YZ (fun _ _ ⟨p, q⟩ => by subst p q; exact ⟨rfl, rfl⟩) h2)⟩
theorem Yi {fr fr' : Qee} {H : Qed} (h : Q6 l fr = fr') (k : TX P nt b Q ⟨fr', H⟩) : TX P nt b Q ⟨Q6 l fr, H⟩ := h ▸ k
theorem Xm {fr fr' : Qee} {H : Qed} (h : Q6 l fr = fr') (k : TX P nt b Q ⟨fr', H⟩) : QbK P nt l b Q .normal ⟨fr, H⟩ := by
 simp only [QbK, h]; exact k
theorem LU (h : Q (.exit id) s) : QbK P nt l b Q (.exit id) s := h
theorem Ss (h : Q .ret s) : QbK P nt l b Q .ret s := h
end
section
variable {P : Program}
theorem OkH.ofX {f : Nat} {fn : Func} {tf : TFn} {ds : List D} {H : Qed} {R : D -> Qed -> Prop} (hm : P.follows .mixedOrders = true) (hf : P.funcs[f]? = some fn) (hp : QV P fn = some tf.erase) (hn : ds.length <= tf.nt)
  (h : TX P tf.nt tf.body (fun e s => ∃ d H', R d H' /\ (∀ k, 1000000 <= k -> (lk H k).isSome = true -> (lk H' k).isSome = true) /\ (∀ k b, lk H' k = some b -> 500000 <= k /\ ∀ j ∈ b.ids, (lk H' j).isSome = true) /\ NZ tf.rs d H' e s) ⟨SJ 0 ds, H⟩) (hg : GR f = [] := by rfl) : ∃ d H', R d H' /\ OkH P f ds H d H' := by
 obtain ⟨e, s, ⟨d, H', h1, h2, h3, h4⟩, h5⟩ := h
 exact ⟨d, H', h1, OkH.ofT hm hf hp hn h2 h3 (YZ (fun _ _ ⟨p, q⟩ => by subst p q; exact h4) h5) hg⟩
end
section
variable {fr : Qee} {H H' : Qed} {t : Nat}
theorem Xj {e : ZX} {p d : D} (h : lk fr t = some p) (hd : Qay small ⟨fr, H⟩ p = d) (hH : ∀ k b, lk H' k = some b -> lk H k = some b) (he : e = .ret \/ e = .normal := by first | exact .inl rfl | exact .inr rfl) : NZ [.tmp t] d H' e ⟨fr, H⟩ := by
 subst hd; rcases he with rfl | rfl <;> exact ⟨.inr (.inl ⟨_, rfl, _, h, rfl⟩), hH⟩
end
section
variable {fr : Qee} {H : Qed} {t u : Nat}
theorem Post.eq {rs : List MP} {d d' : D} {e : ZX} {s : St} (h : Post rs d e s) (hd : d = d') : Post rs d' e s := hd ▸ h
end
theorem Sb {m k : Nat} {b0 b : Box} (h : lk [(m, b0)] k = some b) : k = m /\ b = b0 := by
 rw [Qr] at h
 split at h
 ·rename_i e; cases h; exact ⟨e.symm, rfl⟩
 ·cases h
theorem FC {s : St} {k i off : Nat} {b : Box} {row : List D} (hb : lk s.H k = some b) (hr : b.rows[i]? = some row) : s.atO (.ref k i off) = some (row.drop off) := by
 simp only [St.atO, hb, hr]
section
variable {P : Program} {dr : Dr} {r : List AOper} {K : St -> Prop} {fr : Qee} {H : Qed} {t : Nat} {bt : Bool} {x y : Opd} {ki kj : IntKind} {m n z : Int}
end
end Go.Abs
namespace Go.Abs
open Go
theorem Kg {H : Qed} {S : Nat -> Bool} {d : D} (h : ∀ k ∈ d.sid, S k = false) : d.fzS H S = d := by
 cases d <;> try rfl
 ·rename_i k n
  simp only [D.fzS]; rw [if_neg (by rw [h k Wo]; simp)]
 ·rename_i k lo c n
  simp only [D.fzS]; rw [if_neg (by rw [h k Wo]; simp)]
 ·rename_i k i o
  simp only [D.fzS]; rw [if_neg (by rw [h k Wo]; simp)]
 ·rename_i f k ps
  simp only [D.fzS]; rw [if_neg (by rw [h k Wo]; simp)]
theorem CH {H : Qed} {S : Nat -> Bool} {d : D} (h : ∀ k ∈ d.ids, S k = false) : d.fz H S = d := by
 cases d
 case agg cs =>
  simp only [D.fz]
  rw [Ya fun x hx => Kg fun k hk => h k (Qem.2 ⟨x, hx, hk⟩)]
 case clo f cs =>
  simp only [D.fz]
  rw [Ya fun x hx => Kg fun k hk => h k (Qem.2 ⟨x, hx, hk⟩)]
 case tpo cs z =>
  simp only [D.fz]
  rw [Ya fun x hx => Kg fun k hk => h k (Qem.2 ⟨x, hx, hk⟩)]
 case osl k n => exact Kg (d := .osl k n) h
 case osv k lo c n => exact Kg (H := H) (d := .osv k lo c n) h
 case ref k i o => exact Kg (d := .ref k i o) h
 case clr f k ps => exact Kg (H := H) (d := .clr f k ps) h
 all_goals rfl
theorem MZ {H : Qed} {S : Nat -> Bool} {b : Box} (h : b.pr = true \/ ∀ k ∈ b.ids, S k = false) : b.fz H S = b := by
 unfold Box.fz
 split
 ·rfl
 ·rename_i hp
  have h' := h.resolve_left hp
  have hids : b.ids = b.rows.flatMap fun r => r.flatMap D.sid := by unfold Box.ids; rw [if_neg hp]
  rw [hids] at h'
  have key : ∀ rows : List (List D), (∀ k ∈ rows.flatMap (fun r => r.flatMap D.sid), S k = false) -> (rows.map fun r => r.map (D.fzS H S)) = rows := by
   intro rows
   induction rows with
   | nil => intro _; rfl
   | cons r rs ih =>
    intro h'
    rw [List.map_cons, ih (fun k hk => h' k (by rw [List.flatMap_cons]; exact Qeu _ hk)),
     Ya fun x hx => Kg fun k hk => h' k (by rw [List.flatMap_cons]; exact List.mem_append_left _ (Qem.2 ⟨x, hx, hk⟩))]
  have this := key b.rows h'
  rw [this]
theorem Li {fr fr1 : Qee} {H H1 : Qed} {l lH : List Nat} (k t : Nat) {n : Nat} {b : Box} (hf : Q6 l fr = fr1) (hH : Hq lH H = H1) (ht : lk fr t = some (.osl k n)) (hb : lk H k = some b) (hp : b.pr = true) (hn : n = b.rows.length)
  (c1 : (fr1.all fun p => !p.2.ids.contains k) = true) (c2 : (H1.all fun p => p.1 != k && (p.2.pr || !p.2.ids.contains k)) = true) (hw : wfB H1 fr1 = true) (hbk : Bt H H1 = true) (hk : k < 1000000 := by decide) : St.le ⟨fr, H⟩ ⟨(t, .sl b.rows) :: fr1, H1⟩ := by
 intro E g a w r
 obtain ⟨g', _, r'⟩ := r.freeze k hk
 subst hf hH
 simp only [wfB, Qej, Qep] at hw
 simp only [Qep, Bool.not_eq_true', List.contains_eq_mem, decide_eq_false_iff_not] at c1
 simp only [Qep, Qej, Bool.or_eq_true, Bool.not_eq_true', List.contains_eq_mem, decide_eq_false_iff_not, bne_iff_ne, ne_eq] at c2
 have hS : ∀ (x : D), k ∉ x.ids -> x.fz H (· == k) = x := fun x hx => CH fun j hj => by
  simp only [beq_eq_false_iff_ne, ne_eq]; rintro rfl; exact hx hj
 refine ⟨g', r'.less (fun u d h => ?_) (fun j x h => ?_) (fun u d h j hj => ?_) (fun j x h i hi => hw.2 (j, x) (ZR h) i hi) fun j hj hs => ?_⟩
 ·simp only [St.freeze, Z8]
  rw [Qr] at h
  split at h
  ·rename_i e; cases h; subst e
   rw [ht]; simp only [Option.map_some]
   congr 1
   simp only [D.fz, D.fzS, beq_self_eq_true, if_true, hb, hp, hn, and_self]
  ·have h1 := YL l fr u d h
   rw [h1, Option.map_some, hS d (c1 (u, d) (ZR h))]
 ·have h1 := JU lH H j x h
  have h2 := c2 (j, x) (ZR h)
  simp only [St.freeze, H6]
  rw [if_neg h2.1, Z8 (Box.fz H (· == k)), h1, Option.map_some]
  congr 1
  refine MZ (h2.2.imp id fun h3 i hi => ?_)
  simp only [beq_eq_false_iff_ne, ne_eq]; rintro rfl; exact h3 hi
 ·rw [Qr] at h
  split at h
  ·cases h; simp [D.ids, D.sid] at hj
  ·exact hw.1 (u, d) (ZR h) j hj
 ·have : (lk H j).isSome = true := by
   simp only [St.freeze, H6] at hs
   rw [if_neg Wa, Z8 (Box.fz H (· == k)), Qex] at hs
   exact hs
  exact FE hbk j hj this
theorem OkH.new {P : Program} {f : Nat} {fn : Func} {tf : TFn} {ds : List D} {d : D} {b' : Box} (hm : P.follows .mixedOrders = true) (hf : P.funcs[f]? = some fn) (hp : QV P fn = some tf.erase) (hn : ds.length <= tf.nt) (hb : b'.pr = true)
  (h : TW P tf.nt tf.body (NZ tf.rs d [(500000, b')]) ⟨SJ 0 ds, []⟩) (hg : GR f = [] := by rfl) : OkH P f ds [] d [(500000, b')] := by
 refine OkH.ofT hm hf hp hn (fun k hk h1 => by cases h1) (fun k x hk => ?_) h hg
 obtain ⟨rfl, rfl⟩ := Sb hk
 refine ⟨Nat.le_refl _, fun j hj => ?_⟩
 simp [Box.ids, hb] at hj
theorem QO {α : Type} {f : α -> List D} {l : List α} : QaG (.sl (l.map f)) = some (l.length : Int) := by simp [QaG]
theorem Jn {ρ : Nat -> Nat} {d : D} (h : ∀ k ∈ d.sid, ρ k = k) : d.renS ρ = d := by
 cases d <;> try rfl
 ·rename_i k n; simp only [D.renS]; rw [h k Wo]
 ·rename_i k lo c n; simp only [D.renS]; rw [h k Wo]
 ·rename_i k i o; simp only [D.renS]; rw [h k Wo]
 ·rename_i f k ps; simp only [D.renS]; rw [h k Wo]
theorem LG {ρ : Nat -> Nat} {d : D} (h : ∀ k ∈ d.ids, ρ k = k) : d.ren ρ = d := by
 cases d
 case agg cs =>
  simp only [D.ren]
  rw [Ya fun x hx => Jn fun k hk => h k (Qem.2 ⟨x, hx, hk⟩)]
 case clo f cs =>
  simp only [D.ren]
  rw [Ya fun x hx => Jn fun k hk => h k (Qem.2 ⟨x, hx, hk⟩)]
 case tpo cs z =>
  simp only [D.ren]
  rw [Ya fun x hx => Jn fun k hk => h k (Qem.2 ⟨x, hx, hk⟩)]
 case osl k n => exact Jn (d := .osl k n) h
 case osv k lo c n => exact Jn (d := .osv k lo c n) h
 case ref k i o => exact Jn (d := .ref k i o) h
 case clr f k ps => exact Jn (d := .clr f k ps) h
 all_goals rfl
theorem NB {ρ : Nat -> Nat} {b : Box} (hp : b.pr = false) (h : ∀ k ∈ b.ids, ρ k = k) : b.ren ρ = b := by
 have hids : b.ids = b.rows.flatMap fun r => r.flatMap D.sid := by unfold Box.ids; rw [if_neg (by rw [hp]; simp)]
 rw [hids] at h
 have key : ∀ rows : List (List D), (∀ k ∈ rows.flatMap (fun r => r.flatMap D.sid), ρ k = k) -> (rows.map fun r => r.map (D.renS ρ)) = rows := by
  intro rows
  induction rows with
  | nil => intro _; rfl
  | cons r rs ih =>
   intro h'
   rw [List.map_cons, ih (fun k hk => h' k (by rw [List.flatMap_cons]; exact Qeu _ hk)),
    Ya fun x hx => Jn fun k hk => h' k (by rw [List.flatMap_cons]; exact List.mem_append_left _ (Qem.2 ⟨x, hx, hk⟩))]
 unfold Box.ren
 rw [key b.rows h]
theorem BO {fr fr1 : Qee} {H H1 : Qed} {l lH : List Nat} (t m u : Nat) {n : Nat} {b : Box} (hf : Q6 l fr = fr1) (hH : Hq lH H = H1) (hu : lk fr u = some (.osl t n)) (hb : lk H t = some b) (hpr : b.pr = true)
  (c1 : (fr1.all fun p => !p.2.ids.contains t && !p.2.ids.contains m) = true) (c2 : (H1.all fun p => p.1 != t && p.1 != m && (p.2.pr || (!p.2.ids.contains t && !p.2.ids.contains m))) = true) (hw : wfB H1 fr1 = true) (hbk : Bt H H1 = true) (ht : t < 1000000 := by decide) (hm : m < 1000000 := by decide) :
  St.le ⟨fr, H⟩ ⟨(u, .osl m n) :: fr1, (m, b) :: H1⟩ := fun E g a w r => by
 subst hf hH
 obtain ⟨g', r'⟩ := Mo t m ht hm ⟨fr, H⟩ E g a w r
 have hsw : J4 t m t = m := by unfold J4; rw [if_pos rfl]
 have hsm : J4 t m m = t := by have := X5 t m t; rw [hsw] at this; exact this
 have hid : ∀ k, k ≠ t -> k ≠ m -> J4 t m k = k := fun k h1 h2 => by unfold J4; rw [if_neg h1, if_neg h2]
 have hren : b.ren (J4 t m) = b := Box.ren_pure ((r.bx t b hb).2.1 hpr)
 simp only [wfB, Qej, Qep] at hw
 simp only [Qep, Qej, Bool.not_eq_true', List.contains_eq_mem, decide_eq_false_iff_not] at c1
 simp only [Qep, Qej, Bool.or_eq_true, Bool.not_eq_true', List.contains_eq_mem, decide_eq_false_iff_not, bne_iff_ne, ne_eq] at c2
 have up : ∀ j, (lk (Hq lH H) j).isSome = true -> (lk ((m, b) :: Hq lH H) j).isSome = true := fun j hj => by
  rw [Qr]; split
  ·rfl
  ·exact hj
 refine ⟨g', r'.less (fun v d h => ?_) (fun j x h => ?_) (fun v d h j hj => ?_) (fun j x h i hi => ?_) fun j hj hs => ?_⟩
 ·simp only [St.ren, Z8]
  rw [Qr] at h
  split at h
  ·rename_i e
   cases h; subst e
   rw [hu]
   simp only [Option.map_some, D.ren, D.renS, hsw]
  ·have h2 := YL l fr v d h
   rw [h2, Option.map_some]
   congr 1
   have h3 := c1 (v, d) (ZR h)
   exact LG fun k hk => hid k (by rintro rfl; exact h3.1 hk) (by rintro rfl; exact h3.2 hk)
 ·show lk (Rr (J4 t m) H) j = some x
  rw [GE (X5 t m)]
  rw [Qr] at h
  split at h
  ·rename_i e; cases h; subst e
   rw [hsm, hb, Option.map_some, hren]
  ·have h2 := JU lH H j x h
   have h3 := c2 (j, x) (ZR h)
   rw [hid j h3.1.1 h3.1.2, h2, Option.map_some]
   congr 1
   cases hp : x.pr with
   | true => exact Box.ren_pure ((r.bx j x h2).2.1 hp)
   | false =>
    have h4 := h3.2.resolve_left (by rw [hp]; simp)
    exact NB hp fun k hk => hid k (by rintro rfl; exact h4.1 hk) (by rintro rfl; exact h4.2 hk)
 ·rw [Qr] at h
  split at h
  ·cases h
   simp [D.ids, D.sid] at hj; subst hj; simp [Qr]
  ·exact up j (hw.1 (v, d) (ZR h) j hj)
 ·rw [Qr] at h
  split at h
  ·rename_i e; cases h; simp [Box.ids, hpr] at hi
  ·exact up i (hw.2 (j, x) (ZR h) i hi)
 ·have hs' : (lk (Rr (J4 t m) H) j).isSome = true := hs
  rw [GE (X5 t m), Qex, hid j Wa Wa] at hs'
  exact up j (FE hbk j hj hs')
section
variable {P : Program} {dr : Dr} {r : List AOper} {K : St -> Prop} {fr : Qee} {H : Qed} {t : Nat}
theorem CA {esz et bytes : Nat} {zero : List D} {x y : Opd} {ki kj : IntKind} {n : Int} (hx : St.ev ⟨fr, H⟩ x = some (.int ki n)) (hy : St.ev ⟨fr, H⟩ y = some (.int kj n)) (hn : lk H t = none) (h0 : 0 <= n) (hb : n.toNat * bytes <= 281474976710656) (hc : n.toNat <= 4611686018427387904)
  (k : run P dr r K ⟨(t, .osl t n.toNat) :: fr, (t, ⟨List.replicate n.toNat zero, esz, et, true⟩) :: H⟩) : run P dr (⟨some t, .makeSlice esz et bytes zero x y, none⟩ :: r) K ⟨fr, H⟩ := QX rfl rfl ⟨_, hx, _, hy, t, rfl, hn, rfl, h0, hb, hc, k⟩
end
end Go.Abs
namespace Go.Abs
open Go
/-! ### Walks over boxes that are lent, of which little is known -/
theorem BR {α : Type} {k : Nat} {v : α} {l : List (Nat × α)} : lk ((k, v) :: l) k = some v := by rw [Qr, if_pos rfl]
def QaO (b : Box) : Prop := b.ids = []
section
variable {P : Program} {r : List AOper} {K : St -> Prop} {fr : Qee} {H : Qed} {t : Nat}
end
/-! ### The same over boxes whose names are greater than N -/
/-! ### Cells told az plain slices -/
end Go.Abs
namespace Go.Abs
open Go
end Go.Abs
namespace Go.Abs
open Go
theorem Z.{u} {α : Sort u} {a : α} : a = a := rfl
theorem qB : (∀ (p : Prop) [Decidable p], (decide p = true) = p) /\ (∀ (p : Prop) [Decidable p], (decide p = false) ↔ ¬ p) /\ (∀ a b : Bool, ((!a) = b) = (a = !b)) /\ (!true) = false /\ (!false) = true := ⟨fun _ _ => decide_eq_true_eq, fun _ _ => decide_eq_false_iff_not, fun a b => by simp, rfl, rfl⟩
theorem qA : (∀ (p : Prop) [Decidable p], (decide p = true) = p) /\ (∀ (p : Prop) [Decidable p], (decide p = false) ↔ ¬ p) /\ (∀ a b : Bool, ((!a) = b) = (a = !b)) /\ (!true) = false /\ (!false) = true /\ (∀ (α β : Type) (f : α -> β) (l : List α), (l.map f).length = l.length) := ⟨qB.1, qB.2.1, qB.2.2.1, rfl, rfl, fun _ _ _ _ => List.length_map _⟩
theorem qa {p : Prop} [Decidable p] : (decide p = true) = p := decide_eq_true_eq
theorem qb {p : Prop} [Decidable p] : (decide p = false) ↔ ¬ p := decide_eq_false_iff_not
theorem qc {a b : Bool} : ((!a) = b) = (a = !b) := by simp
theorem qd : (!true) = false := rfl
theorem qe : (!false) = true := rfl
section
variable {fr : Qee} {t0 t1 t2 t3 t4 t5 t6 t7 t8 t9 t10 t11 t12 t13 t14 t15 t16 t17 t18 t19 t20 t21 t22 t23 : Nat} {d0 d1 d2 d3 d4 d5 d6 d7 d8 d9 d10 d11 d12 d13 d14 d15 d16 d17 d18 d19 d20 d21 d22 d23 : D}
abbrev kE (fr : Qee) (t : Nat) (d : D) : Prop := lk fr t = some d
theorem kp1 (h0 : kE fr t0 d0) : Q6 [t0] fr = [(t0, d0)] := Qo h0 QJ
theorem kp2 (h0 : kE fr t0 d0) (h1 : kE fr t1 d1) : Q6 [t0, t1] fr = [(t0, d0), (t1, d1)] := Qo h0 (kp1 h1)
theorem kp3 (h0 : kE fr t0 d0) (h1 : kE fr t1 d1) (h2 : kE fr t2 d2) : Q6 [t0, t1, t2] fr = [(t0, d0), (t1, d1), (t2, d2)] := Qo h0 (kp2 h1 h2)
theorem kp4 (h0 : kE fr t0 d0) (h1 : kE fr t1 d1) (h2 : kE fr t2 d2) (h3 : kE fr t3 d3) : Q6 [t0, t1, t2, t3] fr = [(t0, d0), (t1, d1), (t2, d2), (t3, d3)] := Qo h0 (kp3 h1 h2 h3)
theorem kp5 (h0 : kE fr t0 d0) (h1 : kE fr t1 d1) (h2 : kE fr t2 d2) (h3 : kE fr t3 d3) (h4 : kE fr t4 d4) : Q6 [t0, t1, t2, t3, t4] fr = [(t0, d0), (t1, d1), (t2, d2), (t3, d3), (t4, d4)] := Qo h0 (kp4 h1 h2 h3 h4)
theorem kp6 (h0 : kE fr t0 d0) (h1 : kE fr t1 d1) (h2 : kE fr t2 d2) (h3 : kE fr t3 d3) (h4 : kE fr t4 d4) (h5 : kE fr t5 d5) : Q6 [t0, t1, t2, t3, t4, t5] fr = [(t0, d0), (t1, d1), (t2, d2), (t3, d3), (t4, d4), (t5, d5)] := Qo h0 (kp5 h1 h2 h3 h4 h5)
theorem kp7 (h0 : kE fr t0 d0) (h1 : kE fr t1 d1) (h2 : kE fr t2 d2) (h3 : kE fr t3 d3) (h4 : kE fr t4 d4) (h5 : kE fr t5 d5) (h6 : kE fr t6 d6) : Q6 [t0, t1, t2, t3, t4, t5, t6] fr = [(t0, d0), (t1, d1), (t2, d2), (t3, d3), (t4, d4), (t5, d5), (t6, d6)] := Qo h0 (kp6 h1 h2 h3 h4 h5 h6)
theorem kp8 (h0 : kE fr t0 d0) (h1 : kE fr t1 d1) (h2 : kE fr t2 d2) (h3 : kE fr t3 d3) (h4 : kE fr t4 d4) (h5 : kE fr t5 d5) (h6 : kE fr t6 d6) (h7 : kE fr t7 d7) : Q6 [t0, t1, t2, t3, t4, t5, t6, t7] fr = [(t0, d0), (t1, d1), (t2, d2), (t3, d3), (t4, d4), (t5, d5), (t6, d6), (t7, d7)] := Qo h0 (kp7 h1 h2 h3 h4 h5 h6 h7)
theorem kp9 (h0 : kE fr t0 d0) (h1 : kE fr t1 d1) (h2 : kE fr t2 d2) (h3 : kE fr t3 d3) (h4 : kE fr t4 d4) (h5 : kE fr t5 d5) (h6 : kE fr t6 d6) (h7 : kE fr t7 d7) (h8 : kE fr t8 d8) : Q6 [t0, t1, t2, t3, t4, t5, t6, t7, t8] fr = [(t0, d0), (t1, d1), (t2, d2), (t3, d3), (t4, d4), (t5, d5), (t6, d6), (t7, d7), (t8, d8)] := Qo h0 (kp8 h1 h2 h3 h4 h5 h6 h7 h8)
theorem GT (h0 : kE fr t0 d0) (h1 : kE fr t1 d1) (h2 : kE fr t2 d2) (h3 : kE fr t3 d3) (h4 : kE fr t4 d4) (h5 : kE fr t5 d5) (h6 : kE fr t6 d6) (h7 : kE fr t7 d7) (h8 : kE fr t8 d8) (h9 : kE fr t9 d9) : Q6 [t0, t1, t2, t3, t4, t5, t6, t7, t8, t9] fr = [(t0, d0), (t1, d1), (t2, d2), (t3, d3), (t4, d4), (t5, d5), (t6, d6), (t7, d7), (t8, d8), (t9, d9)] := Qo h0 (kp9 h1 h2 h3 h4 h5 h6 h7 h8 h9)
theorem Pm (h0 : kE fr t0 d0) (h1 : kE fr t1 d1) (h2 : kE fr t2 d2) (h3 : kE fr t3 d3) (h4 : kE fr t4 d4) (h5 : kE fr t5 d5) (h6 : kE fr t6 d6) (h7 : kE fr t7 d7) (h8 : kE fr t8 d8) (h9 : kE fr t9 d9) (h10 : kE fr t10 d10) : Q6 [t0, t1, t2, t3, t4, t5, t6, t7, t8, t9, t10] fr = [(t0, d0), (t1, d1), (t2, d2), (t3, d3), (t4, d4), (t5, d5), (t6, d6), (t7, d7), (t8, d8), (t9, d9), (t10, d10)] := Qo h0 (GT h1 h2 h3 h4 h5 h6 h7 h8 h9 h10)
theorem NO (h0 : kE fr t0 d0) (h1 : kE fr t1 d1) (h2 : kE fr t2 d2) (h3 : kE fr t3 d3) (h4 : kE fr t4 d4) (h5 : kE fr t5 d5) (h6 : kE fr t6 d6) (h7 : kE fr t7 d7) (h8 : kE fr t8 d8) (h9 : kE fr t9 d9) (h10 : kE fr t10 d10) (h11 : kE fr t11 d11) : Q6 [t0, t1, t2, t3, t4, t5, t6, t7, t8, t9, t10, t11] fr = [(t0, d0), (t1, d1), (t2, d2), (t3, d3), (t4, d4), (t5, d5), (t6, d6), (t7, d7), (t8, d8), (t9, d9), (t10, d10), (t11, d11)] := Qo h0 (Pm h1 h2 h3 h4 h5 h6 h7 h8 h9 h10 h11)
theorem QaE (h0 : kE fr t0 d0) (h1 : kE fr t1 d1) (h2 : kE fr t2 d2) (h3 : kE fr t3 d3) (h4 : kE fr t4 d4) (h5 : kE fr t5 d5) (h6 : kE fr t6 d6) (h7 : kE fr t7 d7) (h8 : kE fr t8 d8) (h9 : kE fr t9 d9) (h10 : kE fr t10 d10) (h11 : kE fr t11 d11) (h12 : kE fr t12 d12) : Q6 [t0, t1, t2, t3, t4, t5, t6, t7, t8, t9, t10, t11, t12] fr = [(t0, d0), (t1, d1), (t2, d2), (t3, d3), (t4, d4), (t5, d5), (t6, d6), (t7, d7), (t8, d8), (t9, d9), (t10, d10), (t11, d11), (t12, d12)] := Qo h0 (NO h1 h2 h3 h4 h5 h6 h7 h8 h9 h10 h11 h12)
theorem BN (h0 : kE fr t0 d0) (h1 : kE fr t1 d1) (h2 : kE fr t2 d2) (h3 : kE fr t3 d3) (h4 : kE fr t4 d4) (h5 : kE fr t5 d5) (h6 : kE fr t6 d6) (h7 : kE fr t7 d7) (h8 : kE fr t8 d8) (h9 : kE fr t9 d9) (h10 : kE fr t10 d10) (h11 : kE fr t11 d11) (h12 : kE fr t12 d12) (h13 : kE fr t13 d13) : Q6 [t0, t1, t2, t3, t4, t5, t6, t7, t8, t9, t10, t11, t12, t13] fr = [(t0, d0), (t1, d1), (t2, d2), (t3, d3), (t4, d4), (t5, d5), (t6, d6), (t7, d7), (t8, d8), (t9, d9), (t10, d10), (t11, d11), (t12, d12), (t13, d13)] := Qo h0 (QaE h1 h2 h3 h4 h5 h6 h7 h8 h9 h10 h11 h12 h13)
theorem PO (h0 : kE fr t0 d0) (h1 : kE fr t1 d1) (h2 : kE fr t2 d2) (h3 : kE fr t3 d3) (h4 : kE fr t4 d4) (h5 : kE fr t5 d5) (h6 : kE fr t6 d6) (h7 : kE fr t7 d7) (h8 : kE fr t8 d8) (h9 : kE fr t9 d9) (h10 : kE fr t10 d10) (h11 : kE fr t11 d11) (h12 : kE fr t12 d12) (h13 : kE fr t13 d13) (h14 : kE fr t14 d14) : Q6 [t0, t1, t2, t3, t4, t5, t6, t7, t8, t9, t10, t11, t12, t13, t14] fr = [(t0, d0), (t1, d1), (t2, d2), (t3, d3), (t4, d4), (t5, d5), (t6, d6), (t7, d7), (t8, d8), (t9, d9), (t10, d10), (t11, d11), (t12, d12), (t13, d13), (t14, d14)] := Qo h0 (BN h1 h2 h3 h4 h5 h6 h7 h8 h9 h10 h11 h12 h13 h14)
theorem CM (h0 : kE fr t0 d0) (h1 : kE fr t1 d1) (h2 : kE fr t2 d2) (h3 : kE fr t3 d3) (h4 : kE fr t4 d4) (h5 : kE fr t5 d5) (h6 : kE fr t6 d6) (h7 : kE fr t7 d7) (h8 : kE fr t8 d8) (h9 : kE fr t9 d9) (h10 : kE fr t10 d10) (h11 : kE fr t11 d11) (h12 : kE fr t12 d12) (h13 : kE fr t13 d13) (h14 : kE fr t14 d14) (h15 : kE fr t15 d15) : Q6 [t0, t1, t2, t3, t4, t5, t6, t7, t8, t9, t10, t11, t12, t13, t14, t15] fr = [(t0, d0), (t1, d1), (t2, d2), (t3, d3), (t4, d4), (t5, d5), (t6, d6), (t7, d7), (t8, d8), (t9, d9), (t10, d10), (t11, d11), (t12, d12), (t13, d13), (t14, d14), (t15, d15)] := Qo h0 (PO h1 h2 h3 h4 h5 h6 h7 h8 h9 h10 h11 h12 h13 h14 h15)
theorem QcN (h0 : kE fr t0 d0) (h1 : kE fr t1 d1) (h2 : kE fr t2 d2) (h3 : kE fr t3 d3) (h4 : kE fr t4 d4) (h5 : kE fr t5 d5) (h6 : kE fr t6 d6) (h7 : kE fr t7 d7) (h8 : kE fr t8 d8) (h9 : kE fr t9 d9) (h10 : kE fr t10 d10) (h11 : kE fr t11 d11) (h12 : kE fr t12 d12) (h13 : kE fr t13 d13) (h14 : kE fr t14 d14) (h15 : kE fr t15 d15) (h16 : kE fr t16 d16) : Q6 [t0, t1, t2, t3, t4, t5, t6, t7, t8, t9, t10, t11, t12, t13, t14, t15, t16] fr = [(t0, d0), (t1, d1), (t2, d2), (t3, d3), (t4, d4), (t5, d5), (t6, d6), (t7, d7), (t8, d8), (t9, d9), (t10, d10), (t11, d11), (t12, d12), (t13, d13), (t14, d14), (t15, d15), (t16, d16)] := Qo h0 (CM h1 h2 h3 h4 h5 h6 h7 h8 h9 h10 h11 h12 h13 h14 h15 h16)
theorem QcZ (h0 : kE fr t0 d0) (h1 : kE fr t1 d1) (h2 : kE fr t2 d2) (h3 : kE fr t3 d3) (h4 : kE fr t4 d4) (h5 : kE fr t5 d5) (h6 : kE fr t6 d6) (h7 : kE fr t7 d7) (h8 : kE fr t8 d8) (h9 : kE fr t9 d9) (h10 : kE fr t10 d10) (h11 : kE fr t11 d11) (h12 : kE fr t12 d12) (h13 : kE fr t13 d13) (h14 : kE fr t14 d14) (h15 : kE fr t15 d15) (h16 : kE fr t16 d16) (h17 : kE fr t17 d17) : Q6 [t0, t1, t2, t3, t4, t5, t6, t7, t8, t9, t10, t11, t12, t13, t14, t15, t16, t17] fr = [(t0, d0), (t1, d1), (t2, d2), (t3, d3), (t4, d4), (t5, d5), (t6, d6), (t7, d7), (t8, d8), (t9, d9), (t10, d10), (t11, d11), (t12, d12), (t13, d13), (t14, d14), (t15, d15), (t16, d16), (t17, d17)] := Qo h0 (QcN h1 h2 h3 h4 h5 h6 h7 h8 h9 h10 h11 h12 h13 h14 h15 h16 h17)
theorem QaF (h0 : kE fr t0 d0) (h1 : kE fr t1 d1) (h2 : kE fr t2 d2) (h3 : kE fr t3 d3) (h4 : kE fr t4 d4) (h5 : kE fr t5 d5) (h6 : kE fr t6 d6) (h7 : kE fr t7 d7) (h8 : kE fr t8 d8) (h9 : kE fr t9 d9) (h10 : kE fr t10 d10) (h11 : kE fr t11 d11) (h12 : kE fr t12 d12) (h13 : kE fr t13 d13) (h14 : kE fr t14 d14) (h15 : kE fr t15 d15) (h16 : kE fr t16 d16) (h17 : kE fr t17 d17) (h18 : kE fr t18 d18) : Q6 [t0, t1, t2, t3, t4, t5, t6, t7, t8, t9, t10, t11, t12, t13, t14, t15, t16, t17, t18] fr = [(t0, d0), (t1, d1), (t2, d2), (t3, d3), (t4, d4), (t5, d5), (t6, d6), (t7, d7), (t8, d8), (t9, d9), (t10, d10), (t11, d11), (t12, d12), (t13, d13), (t14, d14), (t15, d15), (t16, d16), (t17, d17), (t18, d18)] := Qo h0 (QcZ h1 h2 h3 h4 h5 h6 h7 h8 h9 h10 h11 h12 h13 h14 h15 h16 h17 h18)
theorem QcO (h0 : kE fr t0 d0) (h1 : kE fr t1 d1) (h2 : kE fr t2 d2) (h3 : kE fr t3 d3) (h4 : kE fr t4 d4) (h5 : kE fr t5 d5) (h6 : kE fr t6 d6) (h7 : kE fr t7 d7) (h8 : kE fr t8 d8) (h9 : kE fr t9 d9) (h10 : kE fr t10 d10) (h11 : kE fr t11 d11) (h12 : kE fr t12 d12) (h13 : kE fr t13 d13) (h14 : kE fr t14 d14) (h15 : kE fr t15 d15) (h16 : kE fr t16 d16) (h17 : kE fr t17 d17) (h18 : kE fr t18 d18) (h19 : kE fr t19 d19) : Q6 [t0, t1, t2, t3, t4, t5, t6, t7, t8, t9, t10, t11, t12, t13, t14, t15, t16, t17, t18, t19] fr = [(t0, d0), (t1, d1), (t2, d2), (t3, d3), (t4, d4), (t5, d5), (t6, d6), (t7, d7), (t8, d8), (t9, d9), (t10, d10), (t11, d11), (t12, d12), (t13, d13), (t14, d14), (t15, d15), (t16, d16), (t17, d17), (t18, d18), (t19, d19)] := Qo h0 (QaF h1 h2 h3 h4 h5 h6 h7 h8 h9 h10 h11 h12 h13 h14 h15 h16 h17 h18 h19)
end
section
variable {P : Program} {nt : Nat} {Q : ZX -> St -> Prop} {l : List Nat} {b : TCode} {K : St -> Prop} {H : Qed} {fr fr' : Qee} {r : List AOper} {dr : Dr} {x y z v : Opd} {p q : D} {t u : Nat}
variable {t0 t1 t2 t3 t4 t5 t6 t7 t8 : Nat} {d0 d1 d2 d3 d4 d5 d6 d7 d8 : D}
theorem kc (hK : ∀ fr H, TW P nt b Q ⟨Q6 l fr, H⟩ -> K ⟨fr, H⟩) (h : Q6 l fr = fr') (k : TW P nt b Q ⟨fr', H⟩) : K ⟨fr, H⟩ := hK _ _ (Zw h k)
theorem kc1 (hK : ∀ fr H, TW P nt b Q ⟨Q6 [t0] fr, H⟩ -> K ⟨fr, H⟩) (h0 : kE fr t0 d0) (k : TW P nt b Q ⟨[(t0, d0)], H⟩) : K ⟨fr, H⟩ := kc hK (kp1 h0) k
theorem ks1 (h0 : kE fr t0 d0) (k : TW P nt b Q ⟨[(t0, d0)], H⟩) : S3 P nt [t0] b Q .normal ⟨fr, H⟩ := QG (kp1 h0) k
theorem kc2 (hK : ∀ fr H, TW P nt b Q ⟨Q6 [t0, t1] fr, H⟩ -> K ⟨fr, H⟩) (h0 : kE fr t0 d0) (h1 : kE fr t1 d1) (k : TW P nt b Q ⟨[(t0, d0), (t1, d1)], H⟩) : K ⟨fr, H⟩ := kc hK (kp2 h0 h1) k
theorem ks2 (h0 : kE fr t0 d0) (h1 : kE fr t1 d1) (k : TW P nt b Q ⟨[(t0, d0), (t1, d1)], H⟩) : S3 P nt [t0, t1] b Q .normal ⟨fr, H⟩ := QG (kp2 h0 h1) k
theorem kc3 (hK : ∀ fr H, TW P nt b Q ⟨Q6 [t0, t1, t2] fr, H⟩ -> K ⟨fr, H⟩) (h0 : kE fr t0 d0) (h1 : kE fr t1 d1) (h2 : kE fr t2 d2) (k : TW P nt b Q ⟨[(t0, d0), (t1, d1), (t2, d2)], H⟩) : K ⟨fr, H⟩ := kc hK (kp3 h0 h1 h2) k
theorem ks3 (h0 : kE fr t0 d0) (h1 : kE fr t1 d1) (h2 : kE fr t2 d2) (k : TW P nt b Q ⟨[(t0, d0), (t1, d1), (t2, d2)], H⟩) : S3 P nt [t0, t1, t2] b Q .normal ⟨fr, H⟩ := QG (kp3 h0 h1 h2) k
theorem kc4 (hK : ∀ fr H, TW P nt b Q ⟨Q6 [t0, t1, t2, t3] fr, H⟩ -> K ⟨fr, H⟩) (h0 : kE fr t0 d0) (h1 : kE fr t1 d1) (h2 : kE fr t2 d2) (h3 : kE fr t3 d3) (k : TW P nt b Q ⟨[(t0, d0), (t1, d1), (t2, d2), (t3, d3)], H⟩) : K ⟨fr, H⟩ := kc hK (kp4 h0 h1 h2 h3) k
theorem ks4 (h0 : kE fr t0 d0) (h1 : kE fr t1 d1) (h2 : kE fr t2 d2) (h3 : kE fr t3 d3) (k : TW P nt b Q ⟨[(t0, d0), (t1, d1), (t2, d2), (t3, d3)], H⟩) : S3 P nt [t0, t1, t2, t3] b Q .normal ⟨fr, H⟩ := QG (kp4 h0 h1 h2 h3) k
theorem kc5 (hK : ∀ fr H, TW P nt b Q ⟨Q6 [t0, t1, t2, t3, t4] fr, H⟩ -> K ⟨fr, H⟩) (h0 : kE fr t0 d0) (h1 : kE fr t1 d1) (h2 : kE fr t2 d2) (h3 : kE fr t3 d3) (h4 : kE fr t4 d4) (k : TW P nt b Q ⟨[(t0, d0), (t1, d1), (t2, d2), (t3, d3), (t4, d4)], H⟩) : K ⟨fr, H⟩ := kc hK (kp5 h0 h1 h2 h3 h4) k
theorem ks5 (h0 : kE fr t0 d0) (h1 : kE fr t1 d1) (h2 : kE fr t2 d2) (h3 : kE fr t3 d3) (h4 : kE fr t4 d4) (k : TW P nt b Q ⟨[(t0, d0), (t1, d1), (t2, d2), (t3, d3), (t4, d4)], H⟩) : S3 P nt [t0, t1, t2, t3, t4] b Q .normal ⟨fr, H⟩ := QG (kp5 h0 h1 h2 h3 h4) k
theorem kc6 (hK : ∀ fr H, TW P nt b Q ⟨Q6 [t0, t1, t2, t3, t4, t5] fr, H⟩ -> K ⟨fr, H⟩) (h0 : kE fr t0 d0) (h1 : kE fr t1 d1) (h2 : kE fr t2 d2) (h3 : kE fr t3 d3) (h4 : kE fr t4 d4) (h5 : kE fr t5 d5) (k : TW P nt b Q ⟨[(t0, d0), (t1, d1), (t2, d2), (t3, d3), (t4, d4), (t5, d5)], H⟩) : K ⟨fr, H⟩ := kc hK (kp6 h0 h1 h2 h3 h4 h5) k
theorem ks6 (h0 : kE fr t0 d0) (h1 : kE fr t1 d1) (h2 : kE fr t2 d2) (h3 : kE fr t3 d3) (h4 : kE fr t4 d4) (h5 : kE fr t5 d5) (k : TW P nt b Q ⟨[(t0, d0), (t1, d1), (t2, d2), (t3, d3), (t4, d4), (t5, d5)], H⟩) : S3 P nt [t0, t1, t2, t3, t4, t5] b Q .normal ⟨fr, H⟩ := QG (kp6 h0 h1 h2 h3 h4 h5) k
theorem kc7 (hK : ∀ fr H, TW P nt b Q ⟨Q6 [t0, t1, t2, t3, t4, t5, t6] fr, H⟩ -> K ⟨fr, H⟩) (h0 : kE fr t0 d0) (h1 : kE fr t1 d1) (h2 : kE fr t2 d2) (h3 : kE fr t3 d3) (h4 : kE fr t4 d4) (h5 : kE fr t5 d5) (h6 : kE fr t6 d6) (k : TW P nt b Q ⟨[(t0, d0), (t1, d1), (t2, d2), (t3, d3), (t4, d4), (t5, d5), (t6, d6)], H⟩) : K ⟨fr, H⟩ := kc hK (kp7 h0 h1 h2 h3 h4 h5 h6) k
theorem ks7 (h0 : kE fr t0 d0) (h1 : kE fr t1 d1) (h2 : kE fr t2 d2) (h3 : kE fr t3 d3) (h4 : kE fr t4 d4) (h5 : kE fr t5 d5) (h6 : kE fr t6 d6) (k : TW P nt b Q ⟨[(t0, d0), (t1, d1), (t2, d2), (t3, d3), (t4, d4), (t5, d5), (t6, d6)], H⟩) : S3 P nt [t0, t1, t2, t3, t4, t5, t6] b Q .normal ⟨fr, H⟩ := QG (kp7 h0 h1 h2 h3 h4 h5 h6) k
theorem kc8 (hK : ∀ fr H, TW P nt b Q ⟨Q6 [t0, t1, t2, t3, t4, t5, t6, t7] fr, H⟩ -> K ⟨fr, H⟩) (h0 : kE fr t0 d0) (h1 : kE fr t1 d1) (h2 : kE fr t2 d2) (h3 : kE fr t3 d3) (h4 : kE fr t4 d4) (h5 : kE fr t5 d5) (h6 : kE fr t6 d6) (h7 : kE fr t7 d7) (k : TW P nt b Q ⟨[(t0, d0), (t1, d1), (t2, d2), (t3, d3), (t4, d4), (t5, d5), (t6, d6), (t7, d7)], H⟩) : K ⟨fr, H⟩ := kc hK (kp8 h0 h1 h2 h3 h4 h5 h6 h7) k
theorem kc9 (hK : ∀ fr H, TW P nt b Q ⟨Q6 [t0, t1, t2, t3, t4, t5, t6, t7, t8] fr, H⟩ -> K ⟨fr, H⟩) (h0 : kE fr t0 d0) (h1 : kE fr t1 d1) (h2 : kE fr t2 d2) (h3 : kE fr t3 d3) (h4 : kE fr t4 d4) (h5 : kE fr t5 d5) (h6 : kE fr t6 d6) (h7 : kE fr t7 d7) (h8 : kE fr t8 d8) (k : TW P nt b Q ⟨[(t0, d0), (t1, d1), (t2, d2), (t3, d3), (t4, d4), (t5, d5), (t6, d6), (t7, d7), (t8, d8)], H⟩) : K ⟨fr, H⟩ := kc hK (kp9 h0 h1 h2 h3 h4 h5 h6 h7 h8) k
theorem ks9 (h0 : kE fr t0 d0) (h1 : kE fr t1 d1) (h2 : kE fr t2 d2) (h3 : kE fr t3 d3) (h4 : kE fr t4 d4) (h5 : kE fr t5 d5) (h6 : kE fr t6 d6) (h7 : kE fr t7 d7) (h8 : kE fr t8 d8) (k : TW P nt b Q ⟨[(t0, d0), (t1, d1), (t2, d2), (t3, d3), (t4, d4), (t5, d5), (t6, d6), (t7, d7), (t8, d8)], H⟩) : S3 P nt [t0, t1, t2, t3, t4, t5, t6, t7, t8] b Q .normal ⟨fr, H⟩ := QG (kp9 h0 h1 h2 h3 h4 h5 h6 h7 h8) k
theorem gn2 {o0 : AOp} {g0 : Nat} {b0 : Bool} {w0 : Nat} {o1 : AOp} {g1 : Nat} {b1 : Bool} {w1 : Nat} (h0 : lk (fr) g0 = some (.bool (!b0))) (h1 : lk ((w0, .undef) :: fr) g1 = some (.bool (!b1))) (k : run P dr r K ⟨(w1, .undef) :: (w0, .undef) :: fr, H⟩) : run P dr (⟨some w0, o0, some (g0, b0)⟩ :: ⟨some w1, o1, some (g1, b1)⟩ :: r) K ⟨fr, H⟩ := (Yv h0 (Yv h1 k))
theorem gn3 {o0 : AOp} {g0 : Nat} {b0 : Bool} {w0 : Nat} {o1 : AOp} {g1 : Nat} {b1 : Bool} {w1 : Nat} {o2 : AOp} {g2 : Nat} {b2 : Bool} {w2 : Nat} (h0 : lk (fr) g0 = some (.bool (!b0))) (h1 : lk ((w0, .undef) :: fr) g1 = some (.bool (!b1))) (h2 : lk ((w1, .undef) :: (w0, .undef) :: fr) g2 = some (.bool (!b2))) (k : run P dr r K ⟨(w2, .undef) :: (w1, .undef) :: (w0, .undef) :: fr, H⟩) : run P dr (⟨some w0, o0, some (g0, b0)⟩ :: ⟨some w1, o1, some (g1, b1)⟩ :: ⟨some w2, o2, some (g2, b2)⟩ :: r) K ⟨fr, H⟩ := (Yv h0 (Yv h1 (Yv h2 k)))
theorem gn4 {o0 : AOp} {g0 : Nat} {b0 : Bool} {w0 : Nat} {o1 : AOp} {g1 : Nat} {b1 : Bool} {w1 : Nat} {o2 : AOp} {g2 : Nat} {b2 : Bool} {w2 : Nat} {o3 : AOp} {g3 : Nat} {b3 : Bool} {w3 : Nat} (h0 : lk (fr) g0 = some (.bool (!b0))) (h1 : lk ((w0, .undef) :: fr) g1 = some (.bool (!b1))) (h2 : lk ((w1, .undef) :: (w0, .undef) :: fr) g2 = some (.bool (!b2))) (h3 : lk ((w2, .undef) :: (w1, .undef) :: (w0, .undef) :: fr) g3 = some (.bool (!b3))) (k : run P dr r K ⟨(w3, .undef) :: (w2, .undef) :: (w1, .undef) :: (w0, .undef) :: fr, H⟩) : run P dr (⟨some w0, o0, some (g0, b0)⟩ :: ⟨some w1, o1, some (g1, b1)⟩ :: ⟨some w2, o2, some (g2, b2)⟩ :: ⟨some w3, o3, some (g3, b3)⟩ :: r) K ⟨fr, H⟩ := (Yv h0 (Yv h1 (Yv h2 (Yv h3 k))))
theorem mv2 (hx : St.ev ⟨fr, H⟩ x = some p) (hy : St.ev ⟨(t, p) :: fr, H⟩ y = some q) (k : run P dr r K ⟨(u, q) :: (t, p) :: fr, H⟩) : run P dr (⟨some t, .mov x, none⟩ :: ⟨some u, .mov y, none⟩ :: r) K ⟨fr, H⟩ := Qa hx (Qa hy k)
end
end Go.Abs
namespace Go.Proofs
open Go Go.Abs
set_option maxRecDepth 100000
abbrev oo (t : Nat) (op : AOp) : AOper := ⟨some t,op,none⟩
abbrev om (t x : Nat) : AOper := ⟨some t,.mov (.s x),none⟩
abbrev oL (t n x : Nat) : AOper := ⟨some t,.load true n (.s x),none⟩
abbrev ol (t n x : Nat) : AOper := ⟨some t,.load false n (.s x),none⟩
abbrev oA (t n x : Nat) : AOper := ⟨some t,.fieldAddr n (.s x),none⟩
abbrev oe (t n x : Nat) : AOper := ⟨some t,.extract n (.s x),none⟩
abbrev oT (t g : Nat) (op : AOp) : AOper := ⟨some t,op,some (g,true)⟩
abbrev oF (t g : Nat) (op : AOp) : AOper := ⟨some t,op,some (g,false)⟩
abbrev jf : Opd := .c (.bool false)
abbrev je : Opd := .c (.fsl [])
abbrev jv (t : Nat) (x : Opd) : AOper := ⟨some t,.mov x,none⟩
abbrev jw (t : Nat) (x : Int) : AOper := ⟨some t,.mov (.c (.int .i64 x)),none⟩
abbrev jp (t x y : Nat) : AOper := ⟨some t,.pick (.s x) (.s y) (.c (.bool false)),none⟩
abbrev jh (t x : Nat) : AOper := ⟨some t,.nilCheck (.s x),none⟩
abbrev jA (t g n x : Nat) : AOper := ⟨some t,.fieldAddr n (.s x),some (g,true)⟩
abbrev ja (t g n x : Nat) : AOper := ⟨some t,.fieldAddr n (.s x),some (g,false)⟩
abbrev jY (t g : Nat) (o : BinOp) (x : Nat) (y : Int) : AOper := ⟨some t,.bin o false (.s x) (.c (.int .i64 y)),some (g,true)⟩
abbrev jy (t g : Nat) (o : BinOp) (x : Nat) (y : Int) : AOper := ⟨some t,.bin o false (.s x) (.c (.int .i64 y)),some (g,false)⟩
abbrev jS (n a b : Nat) : AOper := ⟨none,.store n (.s a) (.s b),none⟩
abbrev jI (n : Int) : Opd := .c (.int .i64 n)
abbrev jn (t x : Nat) : AOper := ⟨some t,.len (.s x),none⟩
abbrev jB (t : Nat) (o : BinOp) (x y : Nat) : AOper := ⟨some t,.bin o false (.s x) (.s y),none⟩
abbrev jb (t : Nat) (o : BinOp) (x : Nat) (y : Int) : AOper := ⟨some t,.bin o false (.s x) (.c (.int .i64 y)),none⟩
abbrev jx (t e x y : Nat) : AOper := ⟨some t,.indexAddr e (.s x) (.s y),none⟩
abbrev jc (t f : Nat) (l : List Opd) : AOper := ⟨some t,.call f l,none⟩
abbrev jo (t e x : Nat) : AOper := ⟨some t,.box e (.s x),none⟩
abbrev jT (t g x : Nat) : AOper := ⟨some t,.mov (.s x),some (g,true)⟩
abbrev jF (t g x : Nat) : AOper := ⟨some t,.mov (.s x),some (g,false)⟩
abbrev jL (t g n x : Nat) : AOper := ⟨some t,.load true n (.s x),some (g,true)⟩
abbrev jl (t g n x : Nat) : AOper := ⟨some t,.load false n (.s x),some (g,true)⟩
abbrev jM (t g n x : Nat) : AOper := ⟨some t,.load true n (.s x),some (g,false)⟩
abbrev jm (t g n x : Nat) : AOper := ⟨some t,.load false n (.s x),some (g,false)⟩
abbrev jC (c : Nat) (a b : TCode) : TCode := .cond (.s c) a b
abbrev jr (l : List AOper) : TCode := .region false l
abbrev jR (l : List AOper) : TCode := .region true l
abbrev jq (a : TCode) (v : List Nat) (b : TCode) : TCode := .seq a v b
abbrev jk (n : Nat) (a : TCode) : TCode := .block n (.loop a)
def tf3 : TFn := ⟨19,[.tmp 4],jq (jr [jo 2 24 0,jv 4 jf]) [1,2,900000] (jq (jq (jr [oL 5 1 2,jc 6 5 [.s 5],oo 7 (.un .not (.s 6))]) [1,2,7,900000] (jC 7 (jq (jr [jc 8 6 [.s 900000],om 4 8]) [4] .ret) .skip)) [1,2,900000] (jq (jR [jc 9 6 [.s 900000],om 10 9,jL 11 10 1 2,jT 12 10 1,oT 13 10 (.call 7 [.s 11,.s 12,.s 900000]),jL 14 10 1 2,jT 15 10 1,oT 16 10 (.call 8 [.s 14,.s 15]),oT 17 10 (.bin .eql false (.s 13) (.s 16)),jp 18 10 17,om 4 18]) [4] .ret))⟩
def tf5 : TFn := ⟨81,[.tmp 2],jq (jr [jo 1 24 0,jv 2 jf]) [1] (jq (jq (jr [oA 6 0 1,ol 7 1 6,jn 8 7,jb 9 .gtr 8 12]) [1,9] (jC 9 (jq (jr [jv 2 jf]) [2] .ret) .skip)) [1] (jq (jq (jr [jw 3 0]) [1,3] (jk 0 (jq (jq (jr [om 10 3,oA 11 0 1,ol 12 1 11,jn 13 12,jB 14 .lss 10 13]) [1,3,14] (jC 14 .skip (.exit 0))) [1,3] (jq (.block 1 (jq (jr [oA 17 0 1,ol 18 1 17,om 19 3,jx 20 3 18 19,oL 21 3 20,oo 4 (.alloc 39 [(.str []),(.str []),(.fsl [])]),jS 3 4 21]) [1,3,4] (jq (jq (jr [oA 22 0 4,ol 23 1 22,oo 24 (.lenStr (.s 23)),oA 25 1 4,ol 26 1 25,oo 27 (.lenStr (.s 26)),jB 28 .add 24 27,jb 29 .gtr 28 100,om 30 29,ja 31 30 2 4,jm 32 30 1 31,oF 33 30 (.len (.s 32)),jy 34 30 .gtr 33 20,oo 35 (.pick (.s 30) (.c (.bool true)) (.s 34))]) [1,3,4,35] (jC 35 (jq (jr [jv 2 jf]) [2] .ret) .skip)) [1,3,4] (jq (jr [jw 5 0]) [1,3,4,5] (jk 2 (jq (jq (jr [om 36 5,oA 37 2 4,ol 38 1 37,jn 39 38,jB 40 .lss 36 39]) [1,3,4,5,40] (jC 40 .skip (.exit 2))) [1,3,4,5] (jq (.block 3 (jq (jR [oA 43 2 4,ol 44 1 43,om 45 5,jx 46 8 44 45,oA 47 6 46,ol 48 1 47,jn 49 48,jb 50 .gtr 49 26,om 51 50,ja 52 51 2 4,jm 53 51 1 52,jF 54 51 5,oF 55 51 (.indexAddr 8 (.s 53) (.s 54)),ja 56 51 7 55,jm 57 51 1 56,oF 58 51 (.len (.s 57)),jy 59 51 .gtr 58 26,oo 60 (.pick (.s 51) (.c (.bool true)) (.s 59)),om 61 60,ja 62 61 2 4,jm 63 61 1 62,jF 64 61 5,oF 65 61 (.indexAddr 8 (.s 63) (.s 64)),ja 66 61 0 65,ja 67 61 3 66,jm 68 61 1 67,oF 69 61 (.lenStr (.s 68)),ja 70 61 2 4,jm 71 61 1 70,jF 72 61 5,oF 73 61 (.indexAddr 8 (.s 71) (.s 72)),ja 74 61 0 73,ja 75 61 4 74,jm 76 61 1 75,oF 77 61 (.lenStr (.s 76)),oF 78 61 (.bin .add false (.s 69) (.s 77)),jy 79 61 .gtr 78 100,oo 80 (.pick (.s 61) (.c (.bool true)) (.s 79))]) [1,3,4,5,80] (jC 80 (jq (jr [jv 2 jf]) [2] .ret) .skip))) [1,3,4,5] (jr [om 41 5,jb 42 .add 41 1,om 5 42])))))))) [1,3] (jr [om 15 3,jb 16 .add 15 1,om 3 16]))))) [] (jq (jr [oo 2 (.mov (.c (.bool true)))]) [2] .ret)))⟩
def tf6 : TFn := ⟨73,[.tmp 0],jq (jr [jv 0 jf]) [900000] (jq (jr [jc 7 15 [],oo 1 (.alloc 48 [(.fsl []),(.fsl [])]),jS 2 1 7]) [1,900000] (jq (jr [oL 8 2 1,oo 9 (.build [(.int .i64 0),(.fsl []),(.fsl [])] [(0,1,(jI 1)),(1,2,(.s 8))]),oo 10 (.buildSlice 3 51 [.s 9]),oo 11 (.buildSlice 1 43 [.s 10]),oo 12 (.build [(.int .i64 0),(.int .i64 0),(.int .i64 0),(.str []),(.str []),(.int .i64 0),(.fsl []),(.fsl [])] [(6,1,(.s 11))]),oo 13 (.buildSlice 8 45 [.s 12]),oo 14 (.build [(.str []),(.str []),(.fsl [])] [(2,1,(.s 13))]),oo 15 (.build [(.int .i64 0),(.int .i64 0),(.int .i64 0),(.str []),(.str [])] [(0,1,(jI 1))]),oo 16 (.build [(.int .i64 0),(.int .i64 0),(.int .i64 0),(.str []),(.str []),(.int .i64 0),(.fsl []),(.fsl [])] [(0,5,(.s 15))]),oo 17 (.build [(.int .i64 0),(.int .i64 0),(.int .i64 0),(.str []),(.str [])] [(0,1,(jI 2))]),oo 18 (.build [(.int .i64 0),(.int .i64 0),(.int .i64 0),(.str []),(.str []),(.int .i64 0),(.fsl []),(.fsl [])] [(0,5,(.s 17))]),oo 19 (.buildSlice 8 45 [.s 16,.s 18]),oo 20 (.build [(.str []),(.str []),(.fsl [])] [(0,1,(.c (.str [98]))),(2,1,(.s 19))]),oo 21 (.buildSlice 3 39 [.s 14,.s 20]),oo 22 (.build [(.fsl [])] [(0,1,(.s 21))]),oo 2 (.alloc 24 [(.fsl [])]),jS 1 2 22]) [2,900000] (jq (jr [oL 24 1 2,jc 25 9 [.s 24,jI 9,.s 900000],om 23 25,oe 26 0 23,oe 27 1 23,om 3 26,om 4 27]) [2,3,4,900000] (jq (jr [oL 29 1 2,jc 30 11 [.s 29,.s 900000],om 28 30,oe 31 0 28,oe 32 1 28,om 5 31,om 6 32]) [2,3,4,5,6,900000] (jq (jr [oL 33 1 2,jc 34 7 [.s 33,jI 100,.s 900000],jb 35 .eql 34 6,om 36 35,jT 37 36 4,jp 38 36 37,om 39 38,jT 40 39 3,oT 41 39 (.len (.s 40)),jY 42 39 .eql 41 2,jp 43 39 42,om 44 43,jT 45 44 3,oT 46 44 (.indexAddr 1 (.s 45) (jI 0)),jl 47 44 1 46,oT 48 44 (.len (.s 47)),jY 49 44 .eql 48 2,jp 50 44 49,om 51 50,jT 52 51 3,oT 53 51 (.indexAddr 1 (.s 52) (jI 0)),jl 54 51 1 53,oT 55 51 (.indexAddr 1 (.s 54) (jI 1)),jl 56 51 1 55,jY 57 51 .eql 56 0,jp 58 51 57,om 59 58,jT 60 59 6,jp 61 59 60,om 62 61,jT 63 62 5,oT 64 62 (.len (.s 63)),jY 65 62 .eql 64 2,jp 66 62 65,om 67 66,jT 68 67 5,oT 69 67 (.indexAddr 1 (.s 68) (jI 1)),jl 70 67 1 69,jY 71 67 .eql 70 1,jp 72 67 71,om 0 72]) [0] .ret)))))⟩
def tf7 : TFn := ⟨40,[.tmp 4],jq (jr [jo 2 24 0,jw 4 0]) [1,2,900000] (jq (jq (jr [om 9 1,jb 10 .leq 9 0,om 11 10,jM 12 11 1 2,oF 13 11 (.call 16 [.s 12,.s 900000]),oF 14 11 (.un .not (.s 13)),oo 15 (.pick (.s 11) (.c (.bool true)) (.s 14))]) [1,2,15] (jC 15 (jq (jr [jw 4 0]) [4] .ret) .skip)) [1,2] (jq (jr [jw 5 1]) [1,2,5] (jq (jq (jr [oA 16 0 2,ol 17 1 16,jn 18 17,jw 19 0]) [1,5,17,18,19] (jk 0 (jq (jr [jB 20 .lss 19 18]) [1,5,17,18,19,20] (jq (jC 20 .skip (.exit 0)) [1,5,17,18,19] (jq (.block 1 (jq (jr [jx 21 3 17 19,oL 22 3 21,oo 7 (.alloc 39 [(.str []),(.str []),(.fsl [])]),jS 3 7 22]) [1,5,7,17,18,19] (jq (jr [oA 23 2 7,ol 24 1 23,jn 25 24,jb 26 .add 25 1,om 8 26]) [1,5,8,17,18,19] (jq (jq (jr [om 27 5,om 28 1,om 29 8,jB 30 .quo 28 29,jB 31 .gtr 27 30]) [1,5,8,17,18,19,31] (jC 31 (jq (jr [om 32 1,om 4 32]) [4] .ret) .skip)) [1,5,8,17,18,19] (jr [om 33 5,om 34 8,jB 35 .mul 33 34,om 5 35]))))) [1,5,17,18,19] (jr [jb 36 .add 19 1,om 19 36])))))) [1,5] (jq (jr [om 37 5,om 38 1,oo 39 (.min (.s 37) (.s 38)),om 4 39]) [4] .ret))))⟩
def tf8 : TFn := ⟨40,[.tmp 4],jq (jr [jo 2 24 0,jw 4 0]) [1,2] (jq (jq (jr [oL 8 1 2,jc 9 17 [.s 8],oo 10 (.un .not (.s 9)),om 11 10,jF 12 11 1,jy 13 11 .lss 12 1,oo 14 (.pick (.s 11) (.c (.bool true)) (.s 13))]) [1,2,14] (jC 14 (jq (jr [jw 4 0]) [4] .ret) .skip)) [1,2] (jq (jr [jw 5 1]) [1,2,5] (jq (jq (jr [jw 6 0]) [1,2,5,6] (jk 0 (jq (jq (jr [om 15 6,oA 16 0 2,ol 17 1 16,jn 18 17,jB 19 .lss 15 18]) [1,2,5,6,19] (jC 19 .skip (.exit 0))) [1,2,5,6] (jq (.block 1 (jq (jr [oA 22 0 2,ol 23 1 22,om 24 6,jx 25 3 23 24,oA 26 2 25,ol 27 1 26,jn 28 27,oo 29 (.bin .add false (jI 1) (.s 28)),om 7 29]) [1,2,5,6,7] (jq (jq (jr [om 30 5,om 31 1,om 32 7,jB 33 .quo 31 32,jB 34 .gtr 30 33]) [1,2,5,6,7,34] (jC 34 (jq (jr [om 35 1,om 4 35]) [4] .ret) .skip)) [1,2,5,6,7] (jr [om 36 5,om 37 7,jB 38 .mul 36 37,om 5 38])))) [1,2,5,6] (jr [om 20 6,jb 21 .add 20 1,om 6 21]))))) [5] (jq (jr [om 39 5,om 4 39]) [4] .ret))))⟩
def tf9 : TFn := ⟨17,[.tmp 4,.tmp 5],jq (jr [jo 2 24 0,jo 3 3 1,jv 4 je,jv 5 jf]) [2,3,900000] (jq (jq (jr [oL 8 1 2,jc 9 16 [.s 8,.s 900000],oo 10 (.un .not (.s 9))]) [2,3,10,900000] (jC 10 (jq (jr [jv 4 je,oo 5 (.mov (.c (.bool true)))]) [4,5] .ret) .skip)) [2,3,900000] (jq (jr [oo 6 (.alloc 29 [(.fsl [])])]) [2,3,6,900000] (jq (jr [oL 11 1 2,oo 12 (.mkfn 19 [.s 6,.s 3]),jc 13 18 [.s 11,jf,.s 12,.s 900000],jc 14 20 [.s 13,jI 0],om 7 14]) [6,7] (jq (jr [ol 15 1 6,om 16 7,om 4 15,om 5 16]) [4,5] .ret))))⟩
def tf11 : TFn := ⟨16,[.tmp 2,.tmp 3],jq (jr [jo 1 24 0,jv 2 je,jv 3 jf]) [1,900000] (jq (jq (jr [oL 6 1 1,jc 7 16 [.s 6,.s 900000],oo 8 (.un .not (.s 7))]) [1,8,900000] (jC 8 (jq (jr [jv 2 je,jv 3 jf]) [2,3] .ret) .skip)) [1,900000] (jq (jr [oo 4 (.alloc 32 [(.fsl [])])]) [1,4,900000] (jq (jr [oL 9 1 1,oo 10 (.mkfn 25 [.s 4]),jc 11 18 [.s 9,(.c (.bool true)),.s 10,.s 900000],jc 12 20 [.s 11,jI 0],om 5 12]) [4,5] (jq (jr [ol 13 1 4,om 14 5,oo 15 (.un .not (.s 14)),om 2 13,om 3 15]) [2,3] .ret))))⟩
def tf15 : TFn := ⟨4,[.cell 0 true 2],jq (jr [oo 0 (.alloc 48 [(.fsl []),(.fsl [])])]) [0] (jq (jr [jc 1 26 [],jc 2 26 [],oo 3 (.build [(.fsl []),(.fsl [])] [(0,1,(.s 1)),(1,1,(.s 2))]),jS 2 0 3]) [0] .ret)⟩
def tf16 : TFn := ⟨128,[.tmp 2],jq (jr [jo 1 24 0,jv 2 jf]) [1,900000] (jq (jr [oA 8 0 1,ol 9 1 8,jn 10 9,om 3 10]) [1,3,900000] (jq (jq (jr [om 11 3,jb 12 .lss 11 1,om 13 12,jF 14 13 3,jy 15 13 .gtr 14 48,oo 16 (.pick (.s 13) (.c (.bool true)) (.s 15)),om 17 16,ja 18 17 0 1,jm 19 17 1 18,oF 20 17 (.indexAddr 3 (.s 19) (jI 0)),ja 21 17 0 20,jm 22 17 1 21,oF 23 17 (.bin .neq false (.s 22) (.c (.str []))),oo 24 (.pick (.s 17) (.c (.bool true)) (.s 23)),om 25 24,ja 26 25 0 1,jm 27 25 1 26,oF 28 25 (.indexAddr 3 (.s 27) (jI 0)),ja 29 25 1 28,jm 30 25 1 29,oF 31 25 (.bin .neq false (.s 30) (.c (.str []))),oo 32 (.pick (.s 25) (.c (.bool true)) (.s 31)),om 33 32,ja 34 33 0 1,jm 35 33 1 34,oF 36 33 (.indexAddr 3 (.s 35) (jI 0)),ja 37 33 2 36,jm 38 33 1 37,oF 39 33 (.len (.s 38)),jy 40 33 .neq 39 1,oo 41 (.pick (.s 33) (.c (.bool true)) (.s 40))]) [1,3,41,900000] (jC 41 (jq (jr [jv 2 jf]) [2] .ret) .skip)) [1,3,900000] (jq (jq (jr [oA 42 0 1,ol 43 1 42,jn 44 43,jw 45 0]) [1,3,43,44,45,900000] (jk 0 (jq (jr [jB 46 .lss 45 44]) [1,3,43,44,45,46,900000] (jq (jC 46 .skip (.exit 0)) [1,3,43,44,45,900000] (jq (.block 1 (jq (jr [om 47 45,jx 48 3 43 45,oL 49 3 48,oo 5 (.alloc 39 [(.str []),(.str []),(.fsl [])]),om 4 47,jS 3 5 49]) [1,3,4,5,43,44,45,900000] (jq (jq (jR [om 50 4,jb 51 .gtr 50 0,om 52 51,jA 53 52 0 5,jl 54 52 1 53,oT 55 52 (.bin .eql false (.s 54) (.c (.str []))),jp 56 52 55,om 57 56,jF 58 57 4,jy 59 57 .gtr 58 1,jF 60 57 59,jA 61 60 0 1,jl 62 60 1 61,jT 63 60 4,jY 64 60 .sub 63 1,oT 65 60 (.indexAddr 3 (.s 62) (.s 64)),jA 66 60 0 65,jl 67 60 1 66,jA 68 60 0 1,jl 69 60 1 68,jT 70 60 4,jY 71 60 .sub 70 1,oT 72 60 (.indexAddr 3 (.s 69) (.s 71)),jA 73 60 1 72,jl 74 60 1 73,oT 75 60 (.build [(.str []),(.str [])] [(0,1,(.s 67)),(1,1,(.s 74))]),jA 76 60 0 5,jl 77 60 1 76,jA 78 60 1 5,jl 79 60 1 78,oT 80 60 (.build [(.str []),(.str [])] [(0,1,(.s 77)),(1,1,(.s 79))]),oT 81 60 (.call 27 [.s 75,.s 80]),jY 82 60 .geq 81 0,oF 83 57 (.pick (.s 60) (.s 82) jf),oo 84 (.pick (.s 57) (.c (.bool true)) (.s 83)),om 85 84,ja 86 85 2 5,jm 87 85 1 86,oF 88 85 (.len (.s 87)),jy 89 85 .gtr 88 16,oo 90 (.pick (.s 85) (.c (.bool true)) (.s 89))]) [1,3,5,43,44,45,90,900000] (jC 90 (jq (jr [jv 2 jf]) [2] .ret) .skip)) [1,3,5,43,44,45,900000] (jq (jr [oA 91 2 5,ol 92 1 91,jn 93 92,jw 94 0]) [1,3,5,43,44,45,92,93,94,900000] (jk 2 (jq (jr [jB 95 .lss 94 93]) [1,3,5,43,44,45,92,93,94,95,900000] (jq (jC 95 .skip (.exit 2)) [1,3,5,43,44,45,92,93,94,900000] (jq (.block 3 (jq (jr [om 96 94,jx 97 8 92 94,oL 98 8 97,oo 7 (.alloc 45 [(.int .i64 0),(.int .i64 0),(.int .i64 0),(.str []),(.str []),(.int .i64 0),(.fsl []),(.fsl [])]),om 6 96,jS 8 7 98]) [1,3,5,6,7,43,44,45,92,93,94,900000] (jq (jR [oA 99 0 7,oL 100 5 99,jc 101 28 [.s 100],oo 102 (.un .not (.s 101)),om 103 102,jF 104 103 6,jy 105 103 .gtr 104 0,jF 106 103 105,jA 107 106 2 5,jl 108 106 1 107,jT 109 106 6,jY 110 106 .sub 109 1,oT 111 106 (.indexAddr 8 (.s 108) (.s 110)),jA 112 106 0 111,jL 113 106 5 112,jA 114 106 0 7,jL 115 106 5 114,oT 116 106 (.call 29 [.s 113,.s 115]),jY 117 106 .geq 116 0,oF 118 103 (.pick (.s 106) (.s 117) jf),oo 119 (.pick (.s 103) (.c (.bool true)) (.s 118)),om 120 119,jM 121 120 8 7,jF 122 120 3,oF 123 120 (.call 30 [.s 121,.s 122,.s 900000]),oF 124 120 (.un .not (.s 123)),oo 125 (.pick (.s 120) (.c (.bool true)) (.s 124))]) [1,3,5,43,44,45,92,93,94,125,900000] (jC 125 (jq (jr [jv 2 jf]) [2] .ret) .skip)))) [1,3,5,43,44,45,92,93,94,900000] (jr [jb 126 .add 94 1,om 94 126]))))))))) [1,3,43,44,45,900000] (jr [jb 127 .add 45 1,om 45 127])))))) [] (jq (jr [oo 2 (.mov (.c (.bool true)))]) [2] .ret))))⟩
def tf17 : TFn := ⟨25,[.tmp 2],jq (jr [jo 1 24 0,jv 2 jf]) [1] (jq (jq (jr [oA 4 0 1,ol 5 1 4,jn 6 5,jb 7 .lss 6 1,om 8 7,ja 9 8 0 1,jm 10 8 1 9,oF 11 8 (.len (.s 10)),jy 12 8 .gtr 11 48,oo 13 (.pick (.s 8) (.c (.bool true)) (.s 12))]) [1,13] (jC 13 (jq (jr [jv 2 jf]) [2] .ret) .skip)) [1] (jq (jq (jr [jw 3 0]) [1,3] (jk 0 (jq (jq (jr [om 14 3,oA 15 0 1,ol 16 1 15,jn 17 16,jB 18 .lss 14 17]) [1,3,18] (jC 18 .skip (.exit 0))) [1,3] (jq (.block 1 (jq (jr [oL 21 1 1,om 22 3,jc 23 31 [.s 21,.s 22],oo 24 (.un .not (.s 23))]) [1,3,24] (jC 24 (jq (jr [jv 2 jf]) [2] .ret) .skip))) [1,3] (jr [om 19 3,jb 20 .add 19 1,om 3 20]))))) [] (jq (jr [oo 2 (.mov (.c (.bool true)))]) [2] .ret)))⟩
def tf18 : TFn := ⟨103,[.tmp 6],jq (jr [jo 3 24 0,oo 6 (.mov (.c (.val (.pointer none))))]) [1,2,3,900000] (jq (jr [om 21 1,om 22 2,oA 23 0 3,ol 24 1 23,jn 25 24,oo 26 (.makeSlice 1 3 8 [(.int .i64 0)] (.s 25) (.s 25)),oo 27 (.build [(.fsl []),(.fsl []),(.bool false),(.val .nilFunc)] [(2,1,(.s 21)),(3,1,(.s 22)),(1,1,(.s 26))]),jo 28 73 27,om 7 28]) [3,7,900000] (jq (jq (jr [oA 29 0 3,ol 30 1 29,jn 31 30,jw 32 0]) [3,7,30,31,32,900000] (jk 0 (jq (jr [jB 33 .lss 32 31]) [3,7,30,31,32,33,900000] (jq (jC 33 .skip (.exit 0)) [3,7,30,31,32,900000] (jq (.block 1 (jq (jr [jx 34 3 30 32,oL 35 3 34,oo 9 (.alloc 39 [(.str []),(.str []),(.fsl [])]),jS 3 9 35]) [3,7,9,30,31,32,900000] (jq (jr [jv 10 je]) [3,7,9,10,30,31,32,900000] (jq (jq (jr [oA 36 2 9,ol 37 1 36,jn 38 37,jw 39 0]) [3,7,10,30,31,32,37,38,39,900000] (jk 2 (jq (jr [jB 40 .lss 39 38]) [3,7,10,30,31,32,37,38,39,40,900000] (jq (jC 40 .skip (.exit 2)) [3,7,10,30,31,32,37,38,39,900000] (jq (.block 3 (jq (jr [jx 41 8 37 39,oL 42 8 41,oo 12 (.alloc 45 [(.int .i64 0),(.int .i64 0),(.int .i64 0),(.str []),(.str []),(.int .i64 0),(.fsl []),(.fsl [])]),jS 8 12 42]) [3,7,10,12,30,31,32,37,38,39,900000] (jq (jr [oo 13 (.alloc 78 [(.fsl []),(.fsl [])])]) [3,7,10,12,13,30,31,32,37,38,39,900000] (jq (jq (jr [oA 43 6 12,ol 44 1 43,jn 45 44,jw 46 0]) [3,7,10,12,13,30,31,32,37,38,39,44,45,46,900000] (jk 4 (jq (jr [jB 47 .lss 46 45]) [3,7,10,12,13,30,31,32,37,38,39,44,45,46,47,900000] (jq (jC 47 .skip (.exit 4)) [3,7,10,12,13,30,31,32,37,38,39,44,45,46,900000] (jq (.block 5 (jq (jr [jx 48 1 44 46,ol 49 1 48,om 15 49]) [3,7,10,12,13,15,30,31,32,37,38,39,44,45,46,900000] (jq (jr [jv 16 je]) [3,7,10,12,13,15,16,30,31,32,37,38,39,44,45,46,900000] (jq (jq (jr [om 50 15,jn 51 50,jw 52 0]) [3,7,10,12,13,16,30,31,32,37,38,39,44,45,46,50,51,52,900000] (jk 6 (jq (jr [jB 53 .lss 52 51]) [3,7,10,12,13,16,30,31,32,37,38,39,44,45,46,50,51,52,53,900000] (jq (jC 53 .skip (.exit 6)) [3,7,10,12,13,16,30,31,32,37,38,39,44,45,46,50,51,52,900000] (jq (.block 7 (jq (jr [jx 54 3 50 52,oL 55 3 54,oo 18 (.alloc 51 [(.int .i64 0),(.fsl []),(.fsl [])]),jS 3 18 55]) [3,7,10,12,13,16,18,30,31,32,37,38,39,44,45,46,50,51,52,900000] (jr [om 56 16,oL 57 1 3,oL 58 3 18,jc 59 32 [.s 57,.s 58,.s 900000],oo 60 (.buildSlice 2 81 [.s 59]),oo 61 (.append 2 81 32 (.s 56) (.s 60)),om 16 61]))) [3,7,10,12,13,16,30,31,32,37,38,39,44,45,46,50,51,52,900000] (jr [jb 62 .add 52 1,om 52 62])))))) [3,7,10,12,13,16,30,31,32,37,38,39,44,45,46,900000] (jr [oA 63 0 13,ol 64 1 63,om 65 16,oo 66 (.buildSlice 1 76 [.s 65]),oo 67 (.append 1 76 24 (.s 64) (.s 66)),oA 68 0 13,jS 1 68 67]))))) [3,7,10,12,13,30,31,32,37,38,39,44,45,46,900000] (jr [jb 69 .add 46 1,om 46 69])))))) [3,7,10,12,13,30,31,32,37,38,39,900000] (jq (jq (jr [oA 70 7 12,ol 71 1 70,jn 72 71,jw 73 0]) [3,7,10,13,30,31,32,37,38,39,71,72,73,900000] (jk 8 (jq (jr [jB 74 .lss 73 72]) [3,7,10,13,30,31,32,37,38,39,71,72,73,74,900000] (jq (jC 74 .skip (.exit 8)) [3,7,10,13,30,31,32,37,38,39,71,72,73,900000] (jq (.block 9 (jq (jr [jx 75 3 71 73,oL 76 3 75,oo 20 (.alloc 51 [(.int .i64 0),(.fsl []),(.fsl [])]),jS 3 20 76]) [3,7,10,13,20,30,31,32,37,38,39,71,72,73,900000] (jR [oA 77 1 13,ol 78 1 77,oL 79 1 3,oL 80 3 20,jc 81 32 [.s 79,.s 80,.s 900000],oo 82 (.buildSlice 2 81 [.s 81]),oo 83 (.append 2 81 32 (.s 78) (.s 82)),oA 84 1 13,jS 1 84 83]))) [3,7,10,13,30,31,32,37,38,39,71,72,73,900000] (jr [jb 85 .add 73 1,om 73 85])))))) [3,7,10,13,30,31,32,37,38,39,900000] (jr [om 86 10,oL 87 2 13,oo 88 (.buildSlice 2 78 [.s 87]),oo 89 (.append 2 78 48 (.s 86) (.s 88)),om 10 89])))))) [3,7,10,30,31,32,37,38,39,900000] (jr [jb 90 .add 39 1,om 39 90])))))) [3,7,10,30,31,32,900000] (jr [om 91 7,om 92 7,jh 93 92,oA 94 0 93,ol 95 1 94,om 96 10,oo 97 (.buildSlice 1 74 [.s 96]),oo 98 (.append 1 74 24 (.s 95) (.s 97)),jh 99 91,oA 100 0 99,jS 1 100 98]))))) [3,7,30,31,32,900000] (jr [jb 101 .add 32 1,om 32 101])))))) [7] (jq (jr [om 102 7,om 6 102]) [6] .ret)))⟩
def tf19 : TFn := ⟨13,[.tmp 4],jq (jr [jv 4 jf]) [0,1,2] (jq (jq (jr [ol 5 1 1,jn 6 5,ol 7 1 2,jB 8 .geq 6 7]) [0,1,8] (jC 8 (jq (jr [jv 4 jf]) [4] .ret) .skip)) [0,1] (jq (jr [ol 9 1 1,om 10 0,oo 11 (.buildSlice 1 32 [.s 10]),oo 12 (.append 1 32 24 (.s 9) (.s 11)),jS 1 1 12]) [] (jq (jr [oo 4 (.mov (.c (.bool true)))]) [4] .ret)))⟩
def tf20 : TFn := ⟨107,[.tmp 4],jq (jr [jv 4 jf]) [0,1] (jq (jq (jr [om 7 1,om 8 0,jh 9 8,oA 10 1 9,ol 11 1 10,jn 12 11,jB 13 .eql 7 12]) [0,1,13] (jC 13 (jq (jR [om 14 0,jc 15 33 [.s 14],oo 16 (.un .not (.s 15)),om 17 16,jF 18 17 0,oF 19 17 (.nilCheck (.s 18)),ja 20 17 3 19,jm 21 17 1 20,jF 22 17 0,oF 23 17 (.nilCheck (.s 22)),ja 24 17 1 23,jm 25 17 1 24,oF 26 17 (.call 34 [.s 25]),oF 27 17 (.callV (.s 21) [.s 26]),oo 28 (.pick (.s 17) (.c (.bool true)) (.s 27)),om 4 28]) [4] .ret) .skip)) [0,1] (jq (jr [om 29 0,jh 30 29,oA 31 0 30,ol 32 1 31,om 33 1,jx 34 1 32 33,ol 35 1 34,jn 36 35,om 5 36]) [0,1,5] (jq (jq (jr [om 37 5,jb 38 .add 37 1,jw 39 0]) [0,1,5,38,39] (jk 0 (jq (jr [jB 40 .lss 39 38]) [0,1,5,38,39,40] (jq (jC 40 .skip (.exit 0)) [0,1,5,38,39] (jq (.block 1 (jq (jr [om 41 39,om 6 41]) [0,1,5,6,38,39] (jq (jr [om 42 0,jh 43 42,oA 44 1 43,ol 45 1 44,om 46 1,om 47 6,jb 48 .sub 47 1,jx 49 1 45 46,jS 1 49 48]) [0,1,5,6,38,39] (jq (jq (jr [om 50 0,jh 51 50,oA 52 2 51,ol 53 1 52]) [0,1,5,6,38,39,53] (jC 53 (jr [om 54 0,jh 55 54,oA 56 1 55,ol 57 1 56,om 58 1,om 59 5,jb 60 .sub 59 1,om 61 6,jB 62 .sub 60 61,jx 63 1 57 58,jS 1 63 62]) .skip)) [0,1,5,38,39] (jq (jq (jr [om 64 1,jb 65 .eql 64 0,om 66 65,jT 67 66 0,oT 68 66 (.nilCheck (.s 67)),jA 69 66 1 68,jl 70 66 1 69,oT 71 66 (.indexAddr 1 (.s 70) (jI 0)),jl 72 66 1 71,jY 73 66 .lss 72 0,jp 74 66 73,om 75 74,jF 76 75 0,jF 77 75 1,oF 78 75 (.call 35 [.s 76,.s 77]),oF 79 75 (.un .not (.s 78)),oo 80 (.pick (.s 75) (.c (.bool true)) (.s 79)),om 81 80,jF 82 81 1,jy 83 81 .gtr 82 0,jF 84 81 83,jT 85 84 0,oT 86 84 (.nilCheck (.s 85)),jA 87 84 1 86,jl 88 84 1 87,jT 89 84 1,oT 90 84 (.indexAddr 1 (.s 88) (.s 89)),jl 91 84 1 90,jY 92 84 .geq 91 0,oF 93 81 (.pick (.s 84) (.s 92) jf),jF 94 81 93,jT 95 94 0,jT 96 94 1,oT 97 94 (.call 36 [.s 95,.s 96]),oT 98 94 (.un .not (.s 97)),oF 99 81 (.pick (.s 94) (.s 98) jf),oo 100 (.pick (.s 81) (.c (.bool true)) (.s 99))]) [0,1,5,38,39,100] (jC 100 (.exit 1) .skip)) [0,1,5,38,39] (jq (jr [om 101 0,om 102 1,jb 103 .add 102 1,jc 104 20 [.s 101,.s 103],oo 105 (.un .not (.s 104))]) [0,1,5,38,39,105] (jC 105 (jq (jr [jv 4 jf]) [4] .ret) .skip))))))) [0,1,5,38,39] (jr [jb 106 .add 39 1,om 39 106])))))) [] (jq (jr [oo 4 (.mov (.c (.bool true)))]) [4] .ret))))⟩
def tf25 : TFn := ⟨5,[.tmp 3],jq (jr [jv 3 jf]) [0,1] (jq (jr [om 4 0,jS 1 1 4]) [] (jq (jr [jv 3 jf]) [3] .ret))⟩
def tf26 : TFn := ⟨5,[.tmp 0],jq (jr [jv 0 je]) [] (jq (jr [jc 1 41 [],jc 2 42 [],oo 3 (.build [(.int .i64 0),(.int .i64 0),(.int .i64 0),(.int .i64 0),(.str []),(.str []),(.bool false),(.int .i64 0),(.int .i64 0),(.int .i64 0),(.int .i64 0),(.str []),(.str []),(.bool false)] [(0,7,(.s 1)),(7,7,(.s 2))]),oo 4 (.buildSlice 14 93 [.s 3]),om 0 4]) [0] .ret)⟩
def tf27 : TFn := ⟨17,[.tmp 4],jq (jr [jo 2 67 0,jo 3 67 1,jw 4 0]) [2,3] (jq (jR [oA 5 0 2,ol 6 1 5,oA 7 0 3,ol 8 1 7,jc 9 44 [.s 6,.s 8],oA 10 1 2,ol 11 1 10,oA 12 1 3,ol 13 1 12,jc 14 44 [.s 11,.s 13],oo 15 (.buildSlice 1 3 [.s 9,.s 14]),jc 16 43 [.s 15],om 4 16]) [4] .ret)⟩
def tf28 : TFn := ⟨36,[.tmp 2],jq (jr [jo 1 41 0,jv 2 jf]) [1] (jq (jr [oA 3 0 1,ol 4 1 3,jc 5 45 [.s 4],om 6 5,jA 7 6 1 1,jl 8 6 1 7,oT 9 6 (.call 45 [.s 8]),jp 10 6 9,om 11 10,jA 12 11 2 1,jl 13 11 1 12,oT 14 11 (.call 45 [.s 13]),jp 15 11 14,om 16 15,jA 17 16 3 1,jl 18 16 1 17,oT 19 16 (.bin .eql false (.s 18) (.c (.str []))),jT 20 16 19,ja 21 20 3 1,jm 22 20 1 21,oF 23 20 (.call 46 [.s 22]),oT 24 16 (.pick (.s 20) (.c (.bool true)) (.s 23)),jp 25 16 24,om 26 25,jA 27 26 4 1,jl 28 26 1 27,oT 29 26 (.bin .eql false (.s 28) (.c (.str []))),jT 30 26 29,ja 31 30 4 1,jm 32 30 1 31,oF 33 30 (.call 47 [.s 32]),oT 34 26 (.pick (.s 30) (.c (.bool true)) (.s 33)),jp 35 26 34,om 2 35]) [2] .ret)⟩
def tf29 : TFn := ⟨86,[.tmp 4],jq (jr [jo 2 41 0,jo 3 41 1,jw 4 0]) [2,3] (jq (jq (jR [oL 10 5 2,jc 11 28 [.s 10],oo 12 (.un .not (.s 11)),om 13 12,jM 14 13 5 3,oF 15 13 (.call 28 [.s 14]),oF 16 13 (.un .not (.s 15)),oo 17 (.pick (.s 13) (.c (.bool true)) (.s 16)),om 18 17,jM 19 18 5 2,oF 20 18 (.call 48 [.s 19]),jM 21 18 5 3,oF 22 18 (.call 48 [.s 21]),oF 23 18 (.eqs false [0,0,0,2,2] (.s 20) (.s 22)),oo 24 (.pick (.s 18) (.c (.bool true)) (.s 23))]) [2,3,24] (jC 24 (jq (jr [jw 4 0]) [4] .ret) .skip)) [2,3] (jq (jq (jR [oA 25 0 2,ol 26 1 25,oA 27 0 3,ol 28 1 27,jc 29 49 [.s 26,.s 28],oA 30 1 2,ol 31 1 30,oA 32 1 3,ol 33 1 32,jc 34 49 [.s 31,.s 33],oA 35 2 2,ol 36 1 35,oA 37 2 3,ol 38 1 37,jc 39 49 [.s 36,.s 38],oo 40 (.buildSlice 1 3 [.s 29,.s 34,.s 39]),jc 41 43 [.s 40],om 5 41]) [2,3,5] (jq (jr [om 42 5,jb 43 .neq 42 0]) [2,3,5,43] (jC 43 (jq (jr [om 44 5,om 4 44]) [4] .ret) .skip))) [2,3] (jq (jq (jr [oA 45 3 2,ol 46 1 45,oo 47 (.bin .eql false (.s 46) (.c (.str [])))]) [2,3,47] (jC 47 (jq (jr [jw 4 1]) [4] .ret) .skip)) [2,3] (jq (jq (jr [oA 48 3 3,ol 49 1 48,oo 50 (.bin .eql false (.s 49) (.c (.str [])))]) [2,3,50] (jC 50 (jq (jr [oo 4 (.mov (.c (.int .i64 (-1))))]) [4] .ret) .skip)) [2,3] (jq (jR [oA 51 3 2,ol 52 1 51,jc 53 50 [.s 52,(.c (.int .u8 46))],oA 54 3 3,ol 55 1 54,jc 56 50 [.s 55,(.c (.int .u8 46))],om 6 53,om 7 56]) [6,7] (jq (jq (jr [jw 8 0]) [6,7,8] (jk 0 (jq (jq (jr [om 57 8,om 58 6,jn 59 58,jB 60 .lss 57 59,om 61 60,jT 62 61 8,jT 63 61 7,oT 64 61 (.len (.s 63)),oT 65 61 (.bin .lss false (.s 62) (.s 64)),jp 66 61 65]) [6,7,8,66] (jC 66 .skip (.exit 0))) [6,7,8] (jq (.block 1 (jq (jR [om 69 6,om 70 8,jx 71 1 69 70,ol 72 1 71,om 73 7,om 74 8,jx 75 1 73 74,ol 76 1 75,jc 77 51 [.s 72,.s 76],om 9 77]) [6,7,8,9] (jq (jr [om 78 9,jb 79 .neq 78 0]) [6,7,8,9,79] (jC 79 (jq (jr [om 80 9,om 4 80]) [4] .ret) .skip)))) [6,7,8] (jr [om 67 8,jb 68 .add 67 1,om 8 68]))))) [6,7] (jq (jr [om 81 6,jn 82 81,om 83 7,jn 84 83,jc 85 49 [.s 82,.s 84],om 4 85]) [4] .ret)))))))⟩
def tf30 : TFn := ⟨43,[.tmp 4],jq (jr [jo 2 45 0,jv 4 jf]) [1,2,900000] (jq (jq (jr [oA 7 6 2,ol 8 1 7,jn 9 8,jb 10 .gtr 9 24,om 11 10,ja 12 11 7 2,jm 13 11 1 12,oF 14 11 (.len (.s 13)),jy 15 11 .gtr 14 24,oo 16 (.pick (.s 11) (.c (.bool true)) (.s 15))]) [1,2,16,900000] (jC 16 (jq (jr [jv 4 jf]) [4] .ret) .skip)) [1,2,900000] (jq (jq (jr [oA 17 6 2,ol 18 1 17,jn 19 18,jw 20 0]) [1,2,18,19,20,900000] (jk 0 (jq (jr [jB 21 .lss 20 19]) [1,2,18,19,20,21,900000] (jq (jC 21 .skip (.exit 0)) [1,2,18,19,20,900000] (jq (.block 1 (jq (jr [jx 22 1 18 20,ol 23 1 22,om 6 23]) [1,2,6,18,19,20,900000] (jq (jr [om 24 6,jn 25 24,jb 26 .lss 25 1,om 27 26,jF 28 27 6,oF 29 27 (.len (.s 28)),jy 30 27 .gtr 29 24,oo 31 (.pick (.s 27) (.c (.bool true)) (.s 30)),om 32 31,jF 33 32 6,jF 34 32 1,oF 35 32 (.call 52 [.s 33,.s 34,.s 900000]),oF 36 32 (.un .not (.s 35)),oo 37 (.pick (.s 32) (.c (.bool true)) (.s 36))]) [1,2,18,19,20,37,900000] (jC 37 (jq (jr [jv 4 jf]) [4] .ret) .skip)))) [1,2,18,19,20,900000] (jr [jb 38 .add 20 1,om 20 38])))))) [1,2,900000] (jq (jr [oA 39 7 2,ol 40 1 39,om 41 1,jc 42 52 [.s 40,.s 41,.s 900000],om 4 42]) [4] .ret)))⟩
def tf31 : TFn := ⟨94,[.tmp 4],jq (jr [jo 2 24 0,jv 4 jf]) [1,2] (jq (jr [oA 7 0 2,ol 8 1 7,om 9 1,jx 10 3 8 9,oL 11 3 10,oo 5 (.alloc 39 [(.str []),(.str []),(.fsl [])]),jS 3 5 11]) [1,2,5] (jq (jq (jr [oA 12 2 5,ol 13 1 12,jn 14 13,jb 15 .gtr 14 16]) [1,2,5,15] (jC 15 (jq (jr [jv 4 jf]) [4] .ret) .skip)) [1,2,5] (jq (jq (jr [om 16 1,jb 17 .eql 16 0,om 18 17,jA 19 18 0 5,jl 20 18 1 19,oT 21 18 (.bin .neq false (.s 20) (.c (.str []))),jT 22 18 21,ja 23 22 1 5,jm 24 22 1 23,oF 25 22 (.bin .neq false (.s 24) (.c (.str []))),oT 26 18 (.pick (.s 22) (.c (.bool true)) (.s 25)),jT 27 18 26,ja 28 27 2 5,jm 29 27 1 28,oF 30 27 (.len (.s 29)),jy 31 27 .neq 30 1,oT 32 18 (.pick (.s 27) (.c (.bool true)) (.s 31)),jp 33 18 32]) [1,2,5,33] (jC 33 (jq (jr [jv 4 jf]) [4] .ret) .skip)) [1,2,5] (jq (jq (jR [om 34 1,jb 35 .gtr 34 0,om 36 35,jA 37 36 0 5,jl 38 36 1 37,oT 39 36 (.bin .eql false (.s 38) (.c (.str []))),jp 40 36 39,om 41 40,jF 42 41 1,jy 43 41 .gtr 42 1,jF 44 41 43,jA 45 44 0 2,jl 46 44 1 45,jT 47 44 1,jY 48 44 .sub 47 1,oT 49 44 (.indexAddr 3 (.s 46) (.s 48)),jL 50 44 3 49,jL 51 44 3 5,oT 52 44 (.call 53 [.s 50,.s 51]),oT 53 44 (.un .not (.s 52)),oF 54 41 (.pick (.s 44) (.s 53) jf),oo 55 (.pick (.s 41) (.c (.bool true)) (.s 54))]) [2,5,55] (jC 55 (jq (jr [jv 4 jf]) [4] .ret) .skip)) [2,5] (jq (jq (jr [jw 6 0]) [2,5,6] (jk 0 (jq (jq (jr [om 56 6,oA 57 2 5,ol 58 1 57,jn 59 58,jB 60 .lss 56 59]) [2,5,6,60] (jC 60 .skip (.exit 0))) [2,5,6] (jq (.block 1 (jq (jR [oA 63 2 5,ol 64 1 63,om 65 6,jx 66 8 64 65,oL 67 8 66,oA 68 0 2,ol 69 1 68,jn 70 69,jc 71 54 [.s 67,.s 70],oo 72 (.un .not (.s 71)),om 73 72,jF 74 73 6,jy 75 73 .gtr 74 0,jF 76 73 75,jA 77 76 2 5,jl 78 76 1 77,jT 79 76 6,jY 80 76 .sub 79 1,oT 81 76 (.indexAddr 8 (.s 78) (.s 80)),jA 82 76 0 81,jL 83 76 5 82,jA 84 76 2 5,jl 85 76 1 84,jT 86 76 6,oT 87 76 (.indexAddr 8 (.s 85) (.s 86)),jA 88 76 0 87,jL 89 76 5 88,oT 90 76 (.call 55 [.s 83,.s 89]),jY 91 76 .geq 90 0,oF 92 73 (.pick (.s 76) (.s 91) jf),oo 93 (.pick (.s 73) (.c (.bool true)) (.s 92))]) [2,5,6,93] (jC 93 (jq (jr [jv 4 jf]) [4] .ret) .skip))) [2,5,6] (jr [om 61 6,jb 62 .add 61 1,om 6 62]))))) [] (jq (jr [oo 4 (.mov (.c (.bool true)))]) [4] .ret))))))⟩
def tf32 : TFn := ⟨35,[.cell 4 true 2],jq (jr [jo 2 24 0,jo 3 51 1,oo 4 (.alloc 81 [(.int .i64 0),(.fsl [])])]) [2,3,4,900000] (jq (jr [oA 8 0 3,ol 9 1 8,oo 10 (.build [(.int .i64 0),(.fsl [])] [(0,1,(.s 9))]),oo 5 (.alloc 81 [(.int .i64 0),(.fsl [])]),jS 2 5 10]) [2,3,4,5,900000] (jq (jq (jr [oA 11 0 2,ol 12 1 11,oA 13 0 3,ol 14 1 13,jx 15 3 12 14,oA 16 2 15,ol 17 1 16,jn 18 17,jw 19 0]) [3,4,5,17,18,19,900000] (jk 0 (jq (jr [jB 20 .lss 19 18]) [3,4,5,17,18,19,20,900000] (jq (jC 20 .skip (.exit 0)) [3,4,5,17,18,19,900000] (jq (.block 1 (jq (jr [jx 21 8 17 19,oL 22 8 21,oo 7 (.alloc 45 [(.int .i64 0),(.int .i64 0),(.int .i64 0),(.str []),(.str []),(.int .i64 0),(.fsl []),(.fsl [])]),jS 8 7 22]) [3,4,5,7,17,18,19,900000] (jR [oA 23 1 5,ol 24 1 23,oA 25 1 3,oL 26 2 25,oA 27 0 7,oL 28 5 27,jc 29 56 [.s 26,.s 28,.s 900000],oo 30 (.buildSlice 1 4 [.s 29]),oo 31 (.append 1 4 1 (.s 24) (.s 30)),oA 32 1 5,jS 1 32 31]))) [3,4,5,17,18,19,900000] (jr [jb 33 .add 19 1,om 19 33])))))) [4,5] (jq (jr [oL 34 2 5,jS 2 4 34]) [4] .ret)))⟩
def tf33 : TFn := ⟨102,[.tmp 2],jq (jr [jv 2 jf]) [0] (jq (jr [om 13 0,jh 14 13,oA 15 1 14,ol 16 1 15,jn 17 16,oo 18 (.makeSlice 1 4 1 [(.bool false)] (.s 17) (.s 17)),om 3 18]) [0,3] (jq (jr [oo 19 (.buildSlice 1 3 [jI 0]),om 4 19]) [0,3,4] (jq (jr [om 20 3,oo 21 (.indexAddr 1 (.s 20) (jI 0)),⟨none,.store 1 (.s 21) (.c (.bool true)),none⟩]) [0,3,4] (jq (jq (jr [jw 5 0]) [0,3,4,5] (jk 0 (jq (jq (jr [om 22 5,om 23 4,jn 24 23,jB 25 .lss 22 24]) [0,3,4,5,25] (jC 25 .skip (.exit 0))) [0,3,4,5] (jq (.block 1 (jq (jr [om 28 4,om 29 5,jx 30 1 28 29,ol 31 1 30,om 6 31]) [0,3,4,5,6] (jq (jR [om 32 0,jh 33 32,oA 34 0 33,ol 35 1 34,om 36 6,jx 37 1 35 36,ol 38 1 37,om 39 0,jh 40 39,oA 41 1 40,ol 42 1 41,om 43 6,jx 44 1 42 43,ol 45 1 44,jx 46 2 38 45,oA 47 0 46,ol 48 1 47,jn 49 48,jw 50 0]) [0,3,4,5,48,49,50] (jk 2 (jq (jr [jB 51 .lss 50 49]) [0,3,4,5,48,49,50,51] (jq (jC 51 .skip (.exit 2)) [0,3,4,5,48,49,50] (jq (.block 3 (jq (jr [jx 52 1 48 50,ol 53 1 52,om 8 53]) [0,3,4,5,8,48,49,50] (jq (jr [om 54 8,jn 55 54,jw 56 0]) [0,3,4,5,48,49,50,54,55,56] (jk 4 (jq (jr [jB 57 .lss 56 55]) [0,3,4,5,48,49,50,54,55,56,57] (jq (jC 57 .skip (.exit 4)) [0,3,4,5,48,49,50,54,55,56] (jq (.block 5 (jq (jr [jx 58 2 54 56,oL 59 2 58,oo 10 (.alloc 81 [(.int .i64 0),(.fsl [])]),jS 2 10 59]) [0,3,4,5,10,48,49,50,54,55,56] (jq (jr [om 60 3,oA 61 0 10,ol 62 1 61,jx 63 1 60 62,ol 64 1 63,oo 65 (.un .not (.s 64)),om 66 65,jT 67 66 0,jL 68 66 2 10,oT 69 66 (.call 57 [.s 67,.s 68]),jp 70 66 69]) [0,3,4,5,10,48,49,50,54,55,56,70] (jC 70 (jq (jr [om 71 3,oA 72 0 10,ol 73 1 72,jx 74 1 71 73,⟨none,.store 1 (.s 74) (.c (.bool true)),none⟩]) [0,3,4,5,10,48,49,50,54,55,56] (jr [om 75 4,oA 76 0 10,ol 77 1 76,oo 78 (.buildSlice 1 3 [.s 77]),oo 79 (.append 1 3 8 (.s 75) (.s 78)),om 4 79])) .skip)))) [0,3,4,5,48,49,50,54,55,56] (jr [jb 80 .add 56 1,om 56 80])))))))) [0,3,4,5,48,49,50] (jr [jb 81 .add 50 1,om 50 81])))))))) [0,3,4,5] (jr [om 26 5,jb 27 .add 26 1,om 5 27]))))) [0,3] (jq (jq (jr [om 82 0,jh 83 82,oA 84 1 83,ol 85 1 84,jn 86 85,jw 87 0]) [3,85,86,87] (jk 6 (jq (jr [jB 88 .lss 87 86]) [3,85,86,87,88] (jq (jC 88 .skip (.exit 6)) [3,85,86,87] (jq (.block 7 (jq (jr [om 89 87,jx 90 1 85 87,ol 91 1 90,om 11 89,om 12 91]) [3,11,12,85,86,87] (jq (jr [om 92 12,jb 93 .geq 92 0,om 94 93,jT 95 94 3,jT 96 94 11,oT 97 94 (.indexAddr 1 (.s 95) (.s 96)),jl 98 94 1 97,oT 99 94 (.un .not (.s 98)),jp 100 94 99]) [3,85,86,87,100] (jC 100 (jq (jr [jv 2 jf]) [2] .ret) .skip)))) [3,85,86,87] (jr [jb 101 .add 87 1,om 87 101])))))) [] (jq (jr [oo 2 (.mov (.c (.bool true)))]) [2] .ret))))))⟩
def tf34 : TFn := ⟨8,[.tmp 2],jq (jr [jv 2 je]) [0] (jq (jq (jr [om 3 0,oo 4 (.un .plus (.s 3))]) [0,4] (jC 4 (jq (jr [jv 2 je]) [2] .ret) .skip)) [0] (jq (jr [oo 5 (.buildSlice 1 3 []),om 6 0,oo 7 (.append 1 3 8 (.s 5) (.s 6)),om 2 7]) [2] .ret))⟩
def tf35 : TFn := ⟨100,[.tmp 4],jq (jr [jv 4 jf]) [0,1] (jq (jq (jr [jw 5 0]) [0,1,5] (jk 0 (jq (jq (jr [om 15 5,om 16 1,jB 17 .leq 15 16]) [0,1,5,17] (jC 17 .skip (.exit 0))) [0,1,5] (jq (.block 1 (jq (jq (jr [om 20 0,jh 21 20,oA 22 1 21,ol 23 1 22,om 24 5,jx 25 1 23 24,ol 26 1 25,jb 27 .lss 26 0]) [0,1,5,27] (jC 27 (.exit 1) .skip)) [0,1,5] (jq (jR [om 28 0,jh 29 28,oA 30 0 29,ol 31 1 30,om 32 5,jx 33 1 31 32,ol 34 1 33,om 35 0,jh 36 35,oA 37 1 36,ol 38 1 37,om 39 5,jx 40 1 38 39,ol 41 1 40,jx 42 2 34 41,oL 43 2 42,oo 6 (.alloc 78 [(.fsl []),(.fsl [])]),jS 2 6 43]) [0,1,5,6] (jq (jq (jr [oA 44 0 6,ol 45 1 44,jn 46 45,jw 47 0]) [0,1,5,6,45,46,47] (jk 2 (jq (jr [jB 48 .lss 47 46]) [0,1,5,6,45,46,47,48] (jq (jC 48 .skip (.exit 2)) [0,1,5,6,45,46,47] (jq (.block 3 (jq (jr [jx 49 1 45 47,ol 50 1 49,om 8 50]) [0,1,5,6,8,45,46,47] (jq (jr [om 51 5,om 9 51,jv 10 jf]) [0,1,5,6,8,9,10,45,46,47] (jq (jq (jr [om 52 8,jn 53 52,jw 54 0]) [0,1,5,6,9,10,45,46,47,52,53,54] (jk 4 (jq (jr [jB 55 .lss 54 53]) [0,1,5,6,9,10,45,46,47,52,53,54,55] (jq (jC 55 .skip (.exit 4)) [0,1,5,6,9,10,45,46,47,52,53,54] (jq (.block 5 (jq (jr [jx 56 2 52 54,oL 57 2 56,oo 12 (.alloc 81 [(.int .i64 0),(.fsl [])]),jS 2 12 57]) [0,1,5,6,9,10,12,45,46,47,52,53,54] (jq (jr [om 58 9,oA 59 0 12,ol 60 1 59,oo 61 (.max (.s 58) (.s 60)),om 9 61]) [0,1,5,6,9,10,12,45,46,47,52,53,54] (jr [om 62 10,om 63 62,ja 64 63 0 12,jm 65 63 1 64,jF 66 63 1,oF 67 63 (.bin .leq false (.s 65) (.s 66)),jF 68 63 67,jT 69 68 0,jL 70 68 2 12,oT 71 68 (.call 57 [.s 69,.s 70]),oF 72 63 (.pick (.s 68) (.s 71) jf),oo 73 (.pick (.s 63) (.c (.bool true)) (.s 72)),om 10 73])))) [0,1,5,6,9,10,45,46,47,52,53,54] (jr [jb 74 .add 54 1,om 54 74])))))) [0,1,5,6,9,10,45,46,47] (jq (jr [om 75 9,om 76 1,jB 77 .leq 75 76,om 78 77,jT 79 78 10,oT 80 78 (.un .not (.s 79)),jp 81 78 80]) [0,1,5,6,45,46,47,81] (jC 81 (jq (jr [jv 4 jf]) [4] .ret) .skip)))))) [0,1,5,6,45,46,47] (jr [jb 82 .add 47 1,om 47 82])))))) [0,1,5,6] (jq (jr [oA 83 1 6,ol 84 1 83,jn 85 84,jw 86 0]) [0,1,5,84,85,86] (jk 6 (jq (jr [jB 87 .lss 86 85]) [0,1,5,84,85,86,87] (jq (jC 87 .skip (.exit 6)) [0,1,5,84,85,86] (jq (.block 7 (jq (jr [jx 88 2 84 86,oL 89 2 88,oo 14 (.alloc 81 [(.int .i64 0),(.fsl [])]),jS 2 14 89]) [0,1,5,14,84,85,86] (jq (jr [oA 90 0 14,ol 91 1 90,om 92 1,jB 93 .leq 91 92,om 94 93,jT 95 94 0,jL 96 94 2 14,oT 97 94 (.call 57 [.s 95,.s 96]),jp 98 94 97]) [0,1,5,84,85,86,98] (jC 98 (jq (jr [jv 4 jf]) [4] .ret) .skip)))) [0,1,5,84,85,86] (jr [jb 99 .add 86 1,om 86 99])))))))))) [0,1,5] (jr [om 18 5,jb 19 .add 18 1,om 5 19]))))) [] (jq (jr [oo 4 (.mov (.c (.bool true)))]) [4] .ret))⟩
def tf36 : TFn := ⟨78,[.tmp 4],jq (jr [jv 4 jf]) [0,1] (jq (jq (jr [om 13 0,jh 14 13,oA 15 0 14,ol 16 1 15,jn 17 16,jw 18 0]) [0,1,16,17,18] (jk 0 (jq (jr [jB 19 .lss 18 17]) [0,1,16,17,18,19] (jq (jC 19 .skip (.exit 0)) [0,1,16,17,18] (jq (.block 1 (jq (jr [om 20 18,jx 21 1 16 18,ol 22 1 21,om 5 20,om 6 22]) [0,1,5,6,16,17,18] (jq (jr [om 23 6,jn 24 23,jw 25 0]) [0,1,5,16,17,18,23,24,25] (jk 2 (jq (jr [jB 26 .lss 25 24]) [0,1,5,16,17,18,23,24,25,26] (jq (jC 26 .skip (.exit 2)) [0,1,5,16,17,18,23,24,25] (jq (.block 3 (jq (jr [om 27 25,jx 28 2 23 25,oL 29 2 28,oo 8 (.alloc 78 [(.fsl []),(.fsl [])]),om 7 27,jS 2 8 29]) [0,1,5,7,8,16,17,18,23,24,25] (jq (jq (jr [om 30 5,om 31 1,jB 32 .leq 30 31,om 33 32,jT 34 33 0,oT 35 33 (.nilCheck (.s 34)),jA 36 33 1 35,jl 37 33 1 36,jT 38 33 5,oT 39 33 (.indexAddr 1 (.s 37) (.s 38)),jl 40 33 1 39,jT 41 33 7,oT 42 33 (.bin .neq false (.s 40) (.s 41)),jp 43 33 42]) [0,1,5,8,16,17,18,23,24,25,43] (jC 43 (.exit 3) .skip)) [0,1,5,8,16,17,18,23,24,25] (jq (jr [oA 44 0 8,ol 45 1 44,jn 46 45,jw 47 0]) [0,1,5,16,17,18,23,24,25,45,46,47] (jk 4 (jq (jr [jB 48 .lss 47 46]) [0,1,5,16,17,18,23,24,25,45,46,47,48] (jq (jC 48 .skip (.exit 4)) [0,1,5,16,17,18,23,24,25,45,46,47] (jq (.block 5 (jq (jr [jx 49 1 45 47,ol 50 1 49,om 10 50]) [0,1,5,10,16,17,18,23,24,25,45,46,47] (jq (jr [om 51 10,jn 52 51,jw 53 0]) [0,1,5,16,17,18,23,24,25,45,46,47,51,52,53] (jk 6 (jq (jr [jB 54 .lss 53 52]) [0,1,5,16,17,18,23,24,25,45,46,47,51,52,53,54] (jq (jC 54 .skip (.exit 6)) [0,1,5,16,17,18,23,24,25,45,46,47,51,52,53] (jq (.block 7 (jq (jr [jx 55 2 51 53,oL 56 2 55,oo 12 (.alloc 81 [(.int .i64 0),(.fsl [])]),jS 2 12 56]) [0,1,5,12,16,17,18,23,24,25,45,46,47,51,52,53] (jq (jR [oA 57 0 12,ol 58 1 57,om 59 1,jB 60 .eql 58 59,om 61 60,jA 62 61 1 12,jl 63 61 1 62,jT 64 61 0,oT 65 61 (.nilCheck (.s 64)),jA 66 61 1 65,jl 67 61 1 66,jT 68 61 1,oT 69 61 (.indexAddr 1 (.s 67) (.s 68)),jl 70 61 1 69,oT 71 61 (.indexAddr 1 (.s 63) (.s 70)),jl 72 61 1 71,jp 73 61 72]) [0,1,5,16,17,18,23,24,25,45,46,47,51,52,53,73] (jC 73 (jq (jr [oo 4 (.mov (.c (.bool true)))]) [4] .ret) .skip)))) [0,1,5,16,17,18,23,24,25,45,46,47,51,52,53] (jr [jb 74 .add 53 1,om 53 74])))))))) [0,1,5,16,17,18,23,24,25,45,46,47] (jr [jb 75 .add 47 1,om 47 75]))))))))) [0,1,5,16,17,18,23,24,25] (jr [jb 76 .add 25 1,om 25 76])))))))) [0,1,16,17,18] (jr [jb 77 .add 18 1,om 18 77])))))) [] (jq (jr [jv 4 jf]) [4] .ret))⟩
def tf41 : TFn := ⟨2,[.cell 0 true 7],jq (jr [oo 0 (.alloc 90 [(.int .i64 0),(.int .i64 0),(.int .i64 0),(.int .i64 0),(.str []),(.str []),(.bool false)])]) [0] (jq (jr [oo 1 (.build [(.int .i64 0),(.int .i64 0),(.int .i64 0),(.int .i64 0),(.str []),(.str []),(.bool false)] [(0,1,(.c (.int .i64 (-1))))]),jS 7 0 1]) [0] .ret)⟩
def tf42 : TFn := ⟨2,[.cell 0 true 7],jq (jr [oo 0 (.alloc 90 [(.int .i64 0),(.int .i64 0),(.int .i64 0),(.int .i64 0),(.str []),(.str []),(.bool false)])]) [0] (jq (jr [oo 1 (.build [(.int .i64 0),(.int .i64 0),(.int .i64 0),(.int .i64 0),(.str []),(.str []),(.bool false)] [(0,1,(jI 1))]),jS 7 0 1]) [0] .ret)⟩
def tf43 : TFn := ⟨18,[.tmp 2],jq (jr [jw 2 0]) [0] (jq (jr [jw 3 0]) [0,3] (jq (jq (jr [om 6 0,jn 7 6,jw 8 0]) [3,6,7,8] (jk 0 (jq (jr [jB 9 .lss 8 7]) [3,6,7,8,9] (jq (jC 9 .skip (.exit 0)) [3,6,7,8] (jq (.block 1 (jq (jr [jx 10 1 6 8,ol 11 1 10,om 5 11]) [3,5,6,7,8] (jq (jr [om 12 5,om 13 3,jB 14 .neq 12 13]) [3,5,6,7,8,14] (jC 14 (jq (jr [om 15 5,om 2 15]) [2] .ret) .skip)))) [3,6,7,8] (jr [jb 16 .add 8 1,om 8 16])))))) [3] (jq (jr [om 17 3,om 2 17]) [2] .ret)))⟩
def tf44 : TFn := ⟨20,[.tmp 4],jq (jr [jw 4 0]) [0,1] (jq (jr [om 7 0,jc 8 63 [.s 7],om 5 8]) [0,1,5] (jq (jr [om 9 1,jc 10 63 [.s 9],om 6 10]) [0,1,5,6] (jq (jq (jr [om 11 5]) [0,1,6,11] (jC 11 (jq (jq (jr [om 12 6]) [12] (jC 12 (jq (jr [jw 4 0]) [4] .ret) .skip)) [] (jq (jr [oo 4 (.mov (.c (.int .i64 (-1))))]) [4] .ret)) .skip)) [0,1,6] (jq (jq (jr [om 13 6]) [0,1,13] (jC 13 (jq (jr [jw 4 1]) [4] .ret) .skip)) [0,1] (jq (jq (jr [om 14 0,om 15 1,jB 16 .lss 14 15]) [0,1,16] (jC 16 (jq (jr [oo 4 (.mov (.c (.int .i64 (-1))))]) [4] .ret) .skip)) [0,1] (jq (jq (jr [om 17 0,om 18 1,jB 19 .gtr 17 18]) [19] (jC 19 (jq (jr [jw 4 1]) [4] .ret) .skip)) [] (jq (jr [jw 4 0]) [4] .ret)))))))⟩
def tf45 : TFn := ⟨9,[.tmp 2],jq (jr [jv 2 jf]) [0] (jq (jr [om 3 0,jb 4 .geq 3 0,om 5 4,jT 6 5 0,jY 7 5 .leq 6 9999,jp 8 5 7,om 2 8]) [2] .ret)⟩
def tf46 : TFn := ⟨29,[.tmp 2],jq (jr [jv 2 jf]) [0] (jq (jq (jr [om 7 0,jc 8 47 [.s 7],oo 9 (.un .not (.s 8))]) [0,9] (jC 9 (jq (jr [jv 2 jf]) [2] .ret) .skip)) [0] (jq (jq (jr [om 10 0,jc 11 50 [.s 10,(.c (.int .u8 46))],jn 12 11,jw 13 0]) [11,12,13] (jk 0 (jq (jr [jB 14 .lss 13 12]) [11,12,13,14] (jq (jC 14 .skip (.exit 0)) [11,12,13] (jq (.block 1 (jq (jr [jx 15 1 11 13,ol 16 1 15,om 4 16]) [4,11,12,13] (jq (jr [om 18 4,jc 19 64 [.s 18],om 17 19,oe 20 0 17,oe 21 1 17,om 5 20,om 6 21]) [4,6,11,12,13] (jq (jr [om 22 4,jc 23 65 [.s 22],om 24 23,jT 25 24 6,oT 26 24 (.un .not (.s 25)),jp 27 24 26]) [11,12,13,27] (jC 27 (jq (jr [jv 2 jf]) [2] .ret) .skip))))) [11,12,13] (jr [jb 28 .add 13 1,om 13 28])))))) [] (jq (jr [oo 2 (.mov (.c (.bool true)))]) [2] .ret)))⟩
def tf47 : TFn := ⟨52,[.tmp 2],jq (jr [jv 2 jf]) [0] (.scope (jq (jr [om 9 0,jc 10 50 [.s 9,(.c (.int .u8 46))],om 3 10]) [3] (jq (jr [om 11 3,jn 12 11,jb 13 .leq 12 4,om 4 13]) [3,4] (.seq .skip [3,4] (jq (jq (jr [om 14 3,jn 15 14,jw 16 0]) [4,14,15,16] (jk 0 (jq (jr [jB 17 .lss 16 15]) [4,14,15,16,17] (jq (jC 17 .skip (.exit 0)) [4,14,15,16] (jq (.block 1 (jq (jr [jx 18 1 14 16,ol 19 1 18,om 6 19]) [4,6,14,15,16] (jq (jq (jr [om 20 6,oo 21 (.bin .eql false (.s 20) (.c (.str []))),om 22 21,jF 23 22 6,oF 24 22 (.lenStr (.s 23)),jy 25 22 .gtr 24 8,oo 26 (.pick (.s 22) (.c (.bool true)) (.s 25))]) [4,6,14,15,16,26] (jC 26 (jq (jr [jv 4 jf]) [4] (.exit 0)) .skip)) [4,6,14,15,16] (jq (jr [om 27 6,oo 28 (.range (.s 27))]) [4,14,15,16,28] (jk 2 (jq (jr [oo 29 (.next (.s 28)),oe 30 0 29]) [4,14,15,16,28,29,30] (jq (jC 30 .skip (.exit 2)) [4,14,15,16,28,29] (.block 3 (jq (jr [oe 31 2 29,om 8 31]) [4,8,14,15,16,28] (jq (jr [om 32 8,oo 33 (.bin .lss false (.s 32) (.c (.int .i32 97))),om 34 33,jF 35 34 8,oF 36 34 (.bin .gtr false (.s 35) (.c (.int .i32 122))),oo 37 (.pick (.s 34) (.c (.bool true)) (.s 36)),om 38 37,jT 39 38 8,oT 40 38 (.bin .lss false (.s 39) (.c (.int .i32 48))),jT 41 38 40,jF 42 41 8,oF 43 41 (.bin .gtr false (.s 42) (.c (.int .i32 57))),oT 44 38 (.pick (.s 41) (.c (.bool true)) (.s 43)),jp 45 38 44,om 46 45,jT 47 46 8,oT 48 46 (.bin .neq false (.s 47) (.c (.int .i32 45))),jp 49 46 48]) [4,14,15,16,28,49] (jC 49 (jq (jr [jv 4 jf]) [4] (.exit 0)) .skip))))))))))) [4,14,15,16] (jr [jb 50 .add 16 1,om 16 50])))))) [4] (jq (jr [om 51 4,om 2 51]) [2] .ret))))))⟩
def tf48 : TFn := ⟨5,[.cell 2 true 5],jq (jr [jo 1 41 0,oo 2 (.alloc 41 [(.int .i64 0),(.int .i64 0),(.int .i64 0),(.str []),(.str [])])]) [1,2] (jq (jr [oA 3 4 1,⟨none,.store 1 (.s 3) (.c (.str [])),none⟩]) [1,2] (jq (jr [oL 4 5 1,jS 5 2 4]) [2] .ret))⟩
def tf49 : TFn := ⟨20,[.tmp 4],jq (jr [jw 4 0]) [0,1] (jq (jr [om 7 0,jc 8 66 [.s 7],om 5 8]) [0,1,5] (jq (jr [om 9 1,jc 10 66 [.s 9],om 6 10]) [0,1,5,6] (jq (jq (jr [om 11 5]) [0,1,6,11] (jC 11 (jq (jq (jr [om 12 6]) [12] (jC 12 (jq (jr [jw 4 0]) [4] .ret) .skip)) [] (jq (jr [oo 4 (.mov (.c (.int .i64 (-1))))]) [4] .ret)) .skip)) [0,1,6] (jq (jq (jr [om 13 6]) [0,1,13] (jC 13 (jq (jr [jw 4 1]) [4] .ret) .skip)) [0,1] (jq (jq (jr [om 14 0,om 15 1,jB 16 .lss 14 15]) [0,1,16] (jC 16 (jq (jr [oo 4 (.mov (.c (.int .i64 (-1))))]) [4] .ret) .skip)) [0,1] (jq (jq (jr [om 17 0,om 18 1,jB 19 .gtr 17 18]) [19] (jC 19 (jq (jr [jw 4 1]) [4] .ret) .skip)) [] (jq (jr [jw 4 0]) [4] .ret)))))))⟩
def tf50 : TFn := ⟨34,[.tmp 4],jq (jr [jv 4 je]) [0,1] (jq (jr [jv 5 je]) [0,1,5] (jq (jr [jw 6 0]) [0,1,5,6] (jq (jq (jr [om 8 0,oo 9 (.lenStr (.s 8)),jw 10 0]) [0,1,5,6,9,10] (jk 0 (jq (jr [jB 11 .lss 10 9]) [0,1,5,6,9,10,11] (jq (jC 11 .skip (.exit 0)) [0,1,5,6,9,10] (jq (.block 1 (jq (jr [om 12 10,om 7 12]) [0,1,5,6,7,9,10] (jq (jr [om 13 0,om 14 7,oo 15 (.indexStr (.s 13) (.s 14)),om 16 1,jB 17 .eql 15 16]) [0,1,5,6,7,9,10,17] (jC 17 (jq (jr [om 18 5,om 19 0,om 20 6,om 21 7,oo 22 (.sliceStr (.s 19) (some (.s 20)) (some (.s 21))),oo 23 (.buildSlice 1 9 [.s 22]),oo 24 (.append 1 9 16 (.s 18) (.s 23)),om 5 24]) [0,1,5,7,9,10] (jr [om 25 7,jb 26 .add 25 1,om 6 26])) .skip)))) [0,1,5,6,9,10] (jr [jb 27 .add 10 1,om 10 27])))))) [0,5,6] (jq (jr [om 28 5,om 29 0,om 30 6,oo 31 (.sliceStr (.s 29) (some (.s 30)) none),oo 32 (.buildSlice 1 9 [.s 31]),oo 33 (.append 1 9 16 (.s 28) (.s 32)),om 4 33]) [4] .ret))))⟩
def tf51 : TFn := ⟨39,[.tmp 4],jq (jr [jw 4 0]) [0,1] (jq (jr [om 11 0,jc 12 65 [.s 11],om 13 1,jc 14 65 [.s 13],om 5 12,om 6 14]) [0,1,5,6] (jq (jq (jr [om 15 5,om 16 15,jT 17 16 6,jp 18 16 17]) [0,1,5,6,18] (jC 18 (jq (jr [om 20 0,jc 21 64 [.s 20],om 19 21,oe 22 0 19,oe 23 1 19,om 7 22,om 8 23]) [1,7] (jq (jr [om 25 1,jc 26 64 [.s 25],om 24 26,oe 27 0 24,oe 28 1 24,om 9 27,om 10 28]) [7,9] (jq (jr [om 29 7,om 30 9,jc 31 49 [.s 29,.s 30],om 4 31]) [4] .ret))) .skip)) [0,1,5,6] (jq (jq (jr [om 32 5,om 33 6,oo 34 (.bin .neq true (.s 32) (.s 33))]) [0,1,5,34] (jC 34 (jq (jq (jr [om 35 5]) [35] (jC 35 (jq (jr [oo 4 (.mov (.c (.int .i64 (-1))))]) [4] .ret) .skip)) [] (jq (jr [jw 4 1]) [4] .ret)) .skip)) [0,1] (jq (jr [om 36 0,om 37 1,jc 38 44 [.s 36,.s 37],om 4 38]) [4] .ret))))⟩
def tf52 : TFn := ⟨29,[.tmp 4],jq (jr [jv 4 jf]) [0,1,900000] (jq (jq (jr [om 7 0,jn 8 7,jw 9 0]) [1,7,8,9,900000] (jk 0 (jq (jr [jB 10 .lss 9 8]) [1,7,8,9,10,900000] (jq (jC 10 .skip (.exit 0)) [1,7,8,9,900000] (jq (.block 1 (jq (jr [jx 11 3 7 9,oL 12 3 11,oo 6 (.alloc 51 [(.int .i64 0),(.fsl []),(.fsl [])]),jS 3 6 12]) [1,6,7,8,9,900000] (jq (jr [oA 13 0 6,ol 14 1 13,jb 15 .lss 14 1,om 16 15,ja 17 16 0 6,jm 18 16 1 17,jF 19 16 1,oF 20 16 (.bin .geq false (.s 18) (.s 19)),oo 21 (.pick (.s 16) (.c (.bool true)) (.s 20)),om 22 21,ja 23 22 1 6,jM 24 22 2 23,oF 25 22 (.call 67 [.s 24,.s 900000]),oF 26 22 (.un .not (.s 25)),oo 27 (.pick (.s 22) (.c (.bool true)) (.s 26))]) [1,7,8,9,27,900000] (jC 27 (jq (jr [jv 4 jf]) [4] .ret) .skip)))) [1,7,8,9,900000] (jr [jb 28 .add 9 1,om 9 28])))))) [] (jq (jr [oo 4 (.mov (.c (.bool true)))]) [4] .ret))⟩
def tf53 : TFn := ⟨24,[.tmp 4],jq (jr [jo 2 39 0,jo 3 39 1,jv 4 jf]) [2,3] (jq (jr [oA 5 0 2,ol 6 1 5,oA 7 0 3,ol 8 1 7,jB 9 .lss 6 8,om 10 9,ja 11 10 0 2,jm 12 10 1 11,ja 13 10 0 3,jm 14 10 1 13,oF 15 10 (.bin .eql false (.s 12) (.s 14)),jF 16 10 15,jA 17 16 1 2,jl 18 16 1 17,jA 19 16 1 3,jl 20 16 1 19,oT 21 16 (.bin .lss false (.s 18) (.s 20)),oF 22 10 (.pick (.s 16) (.s 21) jf),oo 23 (.pick (.s 10) (.c (.bool true)) (.s 22)),om 4 23]) [4] .ret)⟩
def tf54 : TFn := ⟨53,[.tmp 4],jq (jr [jo 2 45 0,jv 4 jf]) [1,2] (jq (jq (jr [oA 7 0 2,oL 8 5 7,jc 9 68 [.s 8],oo 10 (.un .not (.s 9)),om 11 10,ja 12 11 6 2,jm 13 11 1 12,oF 14 11 (.len (.s 13)),jy 15 11 .gtr 14 24,oo 16 (.pick (.s 11) (.c (.bool true)) (.s 15)),om 17 16,ja 18 17 7 2,jm 19 17 1 18,oF 20 17 (.len (.s 19)),jy 21 17 .gtr 20 24,oo 22 (.pick (.s 17) (.c (.bool true)) (.s 21))]) [1,2,22] (jC 22 (jq (jr [jv 4 jf]) [4] .ret) .skip)) [1,2] (jq (jq (jr [jw 5 0]) [1,2,5] (jk 0 (jq (jq (jr [om 23 5,oA 24 6 2,ol 25 1 24,jn 26 25,jB 27 .lss 23 26]) [1,2,5,27] (jC 27 .skip (.exit 0))) [1,2,5] (jq (.block 1 (jq (jr [oA 30 6 2,ol 31 1 30,om 32 5,jx 33 1 31 32,ol 34 1 33,om 35 1,jc 36 69 [.s 34,.s 35],oo 37 (.un .not (.s 36))]) [1,2,5,37] (jC 37 (jq (jr [jv 4 jf]) [4] .ret) .skip))) [1,2,5] (jr [om 28 5,jb 29 .add 28 1,om 5 29]))))) [1,2] (jq (jq (jr [jw 6 0]) [1,2,6] (jk 2 (jq (jq (jr [om 38 6,oA 39 7 2,ol 40 1 39,jn 41 40,jB 42 .lss 38 41]) [1,2,6,42] (jC 42 .skip (.exit 2))) [1,2,6] (jq (.block 3 (jq (jr [oA 45 7 2,ol 46 1 45,om 47 6,jx 48 3 46 47,oL 49 3 48,om 50 1,jc 51 70 [.s 49,.s 50],oo 52 (.un .not (.s 51))]) [1,2,6,52] (jC 52 (jq (jr [jv 4 jf]) [4] .ret) .skip))) [1,2,6] (jr [om 43 6,jb 44 .add 43 1,om 6 44]))))) [] (jq (jr [oo 4 (.mov (.c (.bool true)))]) [4] .ret))))⟩
def tf55 : TFn := ⟨45,[.tmp 4],jq (jr [jo 2 41 0,jo 3 41 1,jw 4 0]) [2,3] (jq (jq (jr [oL 8 5 2,jc 9 68 [.s 8],oo 10 (.un .not (.s 9)),om 11 10,jM 12 11 5 3,oF 13 11 (.call 68 [.s 12]),oF 14 11 (.un .not (.s 13)),oo 15 (.pick (.s 11) (.c (.bool true)) (.s 14))]) [2,3,15] (jC 15 (jq (jr [jw 4 0]) [4] .ret) .skip)) [2,3] (jq (jq (jr [oA 16 0 2,ol 17 1 16,oA 18 0 3,ol 19 1 18,jc 20 71 [.s 17,.s 19],om 5 20]) [2,3,5] (jq (jr [om 21 5,jb 22 .neq 21 0]) [2,3,5,22] (jC 22 (jq (jr [om 23 5,om 4 23]) [4] .ret) .skip))) [2,3] (jq (jq (jr [oA 24 1 2,ol 25 1 24,oA 26 1 3,ol 27 1 26,jc 28 71 [.s 25,.s 27],om 6 28]) [2,3,6] (jq (jr [om 29 6,jb 30 .neq 29 0]) [2,3,6,30] (jC 30 (jq (jr [om 31 6,om 4 31]) [4] .ret) .skip))) [2,3] (jq (jq (jr [oA 32 2 2,ol 33 1 32,oA 34 2 3,ol 35 1 34,jc 36 71 [.s 33,.s 35],om 7 36]) [2,3,7] (jq (jr [om 37 7,jb 38 .neq 37 0]) [2,3,7,38] (jC 38 (jq (jr [om 39 7,om 4 39]) [4] .ret) .skip))) [2,3] (jq (jr [oA 40 3 2,ol 41 1 40,oA 42 3 3,ol 43 1 42,jc 44 72 [.s 41,.s 43],om 4 44]) [4] .ret)))))⟩
def tf56 : TFn := ⟨24,[.tmp 4],jq (jr [jo 2 48 0,jo 3 41 1,jv 4 jf]) [2,3,900000] (jq (jq (jr [oL 5 2 2,jc 6 67 [.s 5,.s 900000],oo 7 (.un .not (.s 6)),om 8 7,jM 9 8 5 3,oF 10 8 (.call 28 [.s 9]),oF 11 8 (.un .not (.s 10)),oo 12 (.pick (.s 8) (.c (.bool true)) (.s 11))]) [2,3,12] (jC 12 (jq (jr [jv 4 jf]) [4] .ret) .skip)) [2,3] (jq (jq (jr [oA 13 3 3,ol 14 1 13,oo 15 (.bin .eql false (.s 14) (.c (.str [])))]) [2,3,15] (jC 15 (jq (jr [oA 16 0 2,ol 17 1 16,oL 18 5 3,jc 19 73 [.s 17,.s 18],om 4 19]) [4] .ret) .skip)) [2,3] (jq (jr [oA 20 1 2,ol 21 1 20,oL 22 5 3,jc 23 73 [.s 21,.s 22],om 4 23]) [4] .ret)))⟩
def tf57 : TFn := ⟨28,[.tmp 4],jq (jr [jo 3 81 1,jv 4 jf]) [0,3] (jq (jR [om 5 0,jh 6 5,oA 7 1 6,ol 8 1 7,oA 9 0 3,ol 10 1 9,jx 11 1 8 10,ol 12 1 11,jb 13 .geq 12 0,om 14 13,jA 15 14 1 3,jl 16 14 1 15,jT 17 14 0,oT 18 14 (.nilCheck (.s 17)),jA 19 14 1 18,jl 20 14 1 19,jA 21 14 0 3,jl 22 14 1 21,oT 23 14 (.indexAddr 1 (.s 20) (.s 22)),jl 24 14 1 23,oT 25 14 (.indexAddr 1 (.s 16) (.s 24)),jl 26 14 1 25,jp 27 14 26,om 4 27]) [4] .ret)⟩
def tf63 : TFn := ⟨6,[.tmp 2],jq (jr [jv 2 jf]) [0] (jq (jr [om 3 0,om 4 0,jB 5 .neq 3 4,om 2 5]) [2] .ret)⟩
def tf64 : TFn := ⟨45,[.tmp 2,.tmp 3],jq (jr [jw 2 0,jv 3 jf]) [0] (jq (jq (jr [om 7 0,oo 8 (.bin .eql false (.s 7) (.c (.str []))),om 9 8,jF 10 9 0,oF 11 9 (.lenStr (.s 10)),jy 12 9 .gtr 11 4,oo 13 (.pick (.s 9) (.c (.bool true)) (.s 12)),om 14 13,jF 15 14 0,oF 16 14 (.indexStr (.s 15) (jI 0)),oF 17 14 (.bin .eql false (.s 16) (.c (.int .u8 48))),jF 18 14 17,jT 19 18 0,oT 20 18 (.lenStr (.s 19)),jY 21 18 .gtr 20 1,oF 22 14 (.pick (.s 18) (.s 21) jf),oo 23 (.pick (.s 14) (.c (.bool true)) (.s 22))]) [0,23] (jC 23 (jq (jr [jw 2 0,jv 3 jf]) [2,3] .ret) .skip)) [0] (jq (jr [jw 4 0]) [0,4] (jq (jq (jr [om 24 0,oo 25 (.range (.s 24))]) [4,25] (jk 0 (jq (jr [oo 26 (.next (.s 25)),oe 27 0 26]) [4,25,26,27] (jq (jC 27 .skip (.exit 0)) [4,25,26] (.block 1 (jq (jr [oe 28 2 26,om 6 28]) [4,6,25] (.block 2 (jq (jr [om 30 6,oo 31 (.bin .geq false (.s 30) (.c (.int .i32 48))),om 32 31,jT 33 32 6,oT 34 32 (.bin .leq false (.s 33) (.c (.int .i32 57))),jp 35 32 34,om 29 35]) [4,6,25,29] (jC 29 (jr [om 36 4,oo 37 (.bin .mul false (jI 10) (.s 36)),om 38 6,oo 39 (.bin .sub false (.s 38) (.c (.int .i32 48))),oo 40 (.conv .i64 (.s 39)),jB 41 .add 37 40,om 4 41]) (jq (jr [jw 2 0,jv 3 jf]) [2,3] .ret)))))))))) [4] (jq (jr [om 42 4,om 43 4,jb 44 .leq 43 9999,om 2 42,om 3 44]) [2,3] .ret))))⟩
def tf65 : TFn := ⟨22,[.tmp 2],jq (jr [jv 2 jf]) [0] (jq (jq (jr [om 4 0,oo 5 (.lenStr (.s 4)),jw 6 0]) [0,5,6] (jk 0 (jq (jr [jB 7 .lss 6 5]) [0,5,6,7] (jq (jC 7 .skip (.exit 0)) [0,5,6] (jq (.block 1 (jq (jr [om 8 6,om 3 8]) [0,3,5,6] (jq (jr [om 9 0,om 10 3,oo 11 (.indexStr (.s 9) (.s 10)),oo 12 (.bin .lss false (.s 11) (.c (.int .u8 48))),om 13 12,jF 14 13 0,jF 15 13 3,oF 16 13 (.indexStr (.s 14) (.s 15)),oF 17 13 (.bin .gtr false (.s 16) (.c (.int .u8 57))),oo 18 (.pick (.s 13) (.c (.bool true)) (.s 17))]) [0,5,6,18] (jC 18 (jq (jr [jv 2 jf]) [2] .ret) .skip)))) [0,5,6] (jr [jb 19 .add 6 1,om 6 19])))))) [0] (jq (jr [om 20 0,oo 21 (.bin .neq false (.s 20) (.c (.str []))),om 2 21]) [2] .ret))⟩
def tf66 : TFn := ⟨6,[.tmp 2],jq (jr [jv 2 jf]) [0] (jq (jr [om 3 0,om 4 0,jB 5 .neq 3 4,om 2 5]) [2] .ret)⟩
def tf67 : TFn := ⟨31,[.tmp 2],jq (jr [jo 1 48 0,jv 2 jf]) [1,900000] (jq (jq (jr [oA 5 0 1,ol 6 1 5,jn 7 6,jw 8 0]) [1,6,7,8,900000] (jk 0 (jq (jr [jB 9 .lss 8 7]) [1,6,7,8,9,900000] (jq (jC 9 .skip (.exit 0)) [1,6,7,8,900000] (jq (.block 1 (jq (jr [jx 10 14 6 8,oL 11 14 10,oo 4 (.alloc 93 [(.int .i64 0),(.int .i64 0),(.int .i64 0),(.int .i64 0),(.str []),(.str []),(.bool false),(.int .i64 0),(.int .i64 0),(.int .i64 0),(.int .i64 0),(.str []),(.str []),(.bool false)]),jS 14 4 11]) [1,4,6,7,8,900000] (jq (jr [oA 12 0 4,oL 13 7 12,jc 14 75 [.s 13,.s 900000],oo 15 (.un .not (.s 14)),om 16 15,ja 17 16 7 4,jM 18 16 7 17,oF 19 16 (.call 75 [.s 18,.s 900000]),oF 20 16 (.un .not (.s 19)),oo 21 (.pick (.s 16) (.c (.bool true)) (.s 20))]) [1,6,7,8,21,900000] (jC 21 (jq (jr [jv 2 jf]) [2] .ret) .skip)))) [1,6,7,8,900000] (jr [jb 22 .add 8 1,om 8 22])))))) [1] (jq (jr [oA 23 0 1,ol 24 1 23,jc 25 76 [.s 24],om 26 25,jA 27 26 1 1,jl 28 26 1 27,oT 29 26 (.call 76 [.s 28]),jp 30 26 29,om 2 30]) [2] .ret))⟩
def tf68 : TFn := ⟨26,[.tmp 2],jq (jr [jo 1 41 0,jv 2 jf]) [1] (jq (jr [oA 3 0 1,ol 4 1 3,jc 5 77 [.s 4],om 6 5,jA 7 6 1 1,jl 8 6 1 7,oT 9 6 (.call 77 [.s 8]),jp 10 6 9,om 11 10,jA 12 11 2 1,jl 13 11 1 12,oT 14 11 (.call 77 [.s 13]),jp 15 11 14,om 16 15,jA 17 16 3 1,jl 18 16 1 17,oT 19 16 (.call 78 [.s 18,(.c (.bool true))]),jp 20 16 19,om 21 20,jA 22 21 4 1,jl 23 21 1 22,oT 24 21 (.call 78 [.s 23,jf]),jp 25 21 24,om 2 25]) [2] .ret)⟩
def tf69 : TFn := ⟨27,[.tmp 4],jq (jr [jv 4 jf]) [0,1] (jq (jq (jr [jw 5 0]) [0,1,5] (jk 0 (jq (jq (jr [om 6 5,om 7 0,jn 8 7,jB 9 .lss 6 8]) [0,1,5,9] (jC 9 .skip (.exit 0))) [0,1,5] (jq (.block 1 (jq (jr [om 12 0,om 13 5,jx 14 3 12 13,oL 15 3 14,om 16 1,jc 17 70 [.s 15,.s 16],oo 18 (.un .not (.s 17))]) [0,1,5,18] (jC 18 (jq (jr [jv 4 jf]) [4] .ret) .skip))) [0,1,5] (jr [om 10 5,jb 11 .add 10 1,om 5 11]))))) [0] (jq (jr [om 19 0,jn 20 19,jb 21 .gtr 20 0,om 22 21,jT 23 22 0,oT 24 22 (.len (.s 23)),jY 25 22 .leq 24 24,jp 26 22 25,om 4 26]) [4] .ret))⟩
def tf70 : TFn := ⟨19,[.tmp 4],jq (jr [jo 2 51 0,jv 4 jf]) [1,2] (jq (jr [oA 5 0 2,ol 6 1 5,jb 7 .gtr 6 0,om 8 7,jA 9 8 0 2,jl 10 8 1 9,jT 11 8 1,oT 12 8 (.bin .lss false (.s 10) (.s 11)),jp 13 8 12,om 14 13,jA 15 14 1 2,jL 16 14 2 15,oT 17 14 (.call 79 [.s 16]),jp 18 14 17,om 4 18]) [4] .ret)⟩
def tf71 : TFn := ⟨13,[.tmp 4],jq (jr [jw 4 0]) [0,1] (jq (.block 0 (jq (jr [om 6 0,om 7 1,jB 8 .lss 6 7,om 5 8]) [0,1,5] (jC 5 (jq (jr [oo 4 (.mov (.c (.int .i64 (-1))))]) [4] .ret) (jq (jr [om 10 0,om 11 1,jB 12 .gtr 10 11,om 9 12]) [9] (jC 9 (jq (jr [jw 4 1]) [4] .ret) .skip))))) [] (jq (jr [jw 4 0]) [4] .ret))⟩
def tf72 : TFn := ⟨52,[.tmp 4],jq (jr [jw 4 0]) [0,1] (jq (.block 0 (jq (jr [om 10 0,om 11 1,jB 12 .eql 10 11,om 9 12]) [0,1,9] (jC 9 (jq (jr [jw 4 0]) [4] .ret) (jq (jr [om 14 0,oo 15 (.bin .eql false (.s 14) (.c (.str []))),om 13 15]) [0,1,13] (jC 13 (jq (jr [jw 4 1]) [4] .ret) (jq (jr [om 17 1,oo 18 (.bin .eql false (.s 17) (.c (.str []))),om 16 18]) [0,1,16] (jC 16 (jq (jr [oo 4 (.mov (.c (.int .i64 (-1))))]) [4] .ret) .skip))))))) [0,1] (jq (jr [om 19 0,jc 20 80 [.s 19,(.c (.int .u8 46))],om 21 1,jc 22 80 [.s 21,(.c (.int .u8 46))],om 5 20,om 6 22]) [5,6] (jq (jq (jr [jw 7 0]) [5,6,7] (jk 1 (jq (jq (jr [om 23 7,om 24 5,jn 25 24,jB 26 .lss 23 25,om 27 26,jT 28 27 7,jT 29 27 6,oT 30 27 (.len (.s 29)),oT 31 27 (.bin .lss false (.s 28) (.s 30)),jp 32 27 31]) [5,6,7,32] (jC 32 .skip (.exit 1))) [5,6,7] (jq (.block 2 (jq (jR [om 35 5,om 36 7,jx 37 1 35 36,ol 38 1 37,om 39 6,om 40 7,jx 41 1 39 40,ol 42 1 41,jc 43 81 [.s 38,.s 42],om 8 43]) [5,6,7,8] (jq (jr [om 44 8,jb 45 .neq 44 0]) [5,6,7,8,45] (jC 45 (jq (jr [om 46 8,om 4 46]) [4] .ret) .skip)))) [5,6,7] (jr [om 33 7,jb 34 .add 33 1,om 7 34]))))) [5,6] (jq (jr [om 47 5,jn 48 47,om 49 6,jn 50 49,jc 51 71 [.s 48,.s 50],om 4 51]) [4] .ret))))⟩
def tf73 : TFn := ⟨20,[.tmp 4],jq (jr [jo 3 41 1,jv 4 jf]) [0,3] (jq (jq (jr [om 7 0,jc 8 76 [.s 7],oo 9 (.un .not (.s 8))]) [0,3,9] (jC 9 (jq (jr [jv 4 jf]) [4] .ret) .skip)) [0,3] (jq (jq (jr [om 10 0,jn 11 10,jw 12 0]) [3,10,11,12] (jk 0 (jq (jr [jB 13 .lss 12 11]) [3,10,11,12,13] (jq (jC 13 .skip (.exit 0)) [3,10,11,12] (jq (.block 1 (jq (jr [jx 14 14 10 12,oL 15 14 14,oo 6 (.alloc 93 [(.int .i64 0),(.int .i64 0),(.int .i64 0),(.int .i64 0),(.str []),(.str []),(.bool false),(.int .i64 0),(.int .i64 0),(.int .i64 0),(.int .i64 0),(.str []),(.str []),(.bool false)]),jS 14 6 15]) [3,6,10,11,12] (jq (jr [oL 16 14 6,oL 17 5 3,jc 18 82 [.s 16,.s 17]]) [3,10,11,12,18] (jC 18 (jq (jr [oo 4 (.mov (.c (.bool true)))]) [4] .ret) .skip)))) [3,10,11,12] (jr [jb 19 .add 12 1,om 12 19])))))) [] (jq (jr [jv 4 jf]) [4] .ret)))⟩
def tf75 : TFn := ⟨23,[.tmp 2],jq (jr [jo 1 90 0,jv 2 jf]) [1,900000] (jq (jr [oA 3 0 1,ol 4 1 3,jb 5 .neq 4 0,om 6 5,ja 7 6 6 1,jm 8 6 1 7,oF 9 6 (.un .not (.s 8)),jF 10 6 9,jA 11 10 1 1,jA 12 10 3 11,jl 13 10 1 12,oT 14 10 (.bin .eql false (.s 13) (.c (.str []))),oF 15 6 (.pick (.s 10) (.s 14) jf),jF 16 6 15,jA 17 16 1 1,jL 18 16 5 17,jL 19 16 5 900000,oT 20 16 (.eqs true [0,0,0,2,2] (.s 18) (.s 19)),oF 21 6 (.pick (.s 16) (.s 20) jf),oo 22 (.pick (.s 6) (.c (.bool true)) (.s 21)),om 2 22]) [2] .ret)⟩
def tf76 : TFn := ⟨32,[.tmp 2],jq (jr [jv 2 jf]) [0] (jq (jq (jr [om 5 0,jn 6 5,jw 7 0]) [0,5,6,7] (jk 0 (jq (jr [jB 8 .lss 7 6]) [0,5,6,7,8] (jq (jC 8 .skip (.exit 0)) [0,5,6,7] (jq (.block 1 (jq (jr [om 9 7,jx 10 14 5 7,oL 11 14 10,oo 4 (.alloc 93 [(.int .i64 0),(.int .i64 0),(.int .i64 0),(.int .i64 0),(.str []),(.str []),(.bool false),(.int .i64 0),(.int .i64 0),(.int .i64 0),(.int .i64 0),(.str []),(.str []),(.bool false)]),om 3 9,jS 14 4 11]) [0,3,4,5,6,7] (jq (jR [oL 12 14 4,jc 13 84 [.s 12],oo 14 (.un .not (.s 13)),om 15 14,jF 16 15 3,jy 17 15 .gtr 16 0,jF 18 15 17,jT 19 18 0,jT 20 18 3,jY 21 18 .sub 20 1,oT 22 18 (.indexAddr 14 (.s 19) (.s 21)),jA 23 18 7 22,jL 24 18 7 23,jA 25 18 0 4,jL 26 18 7 25,oT 27 18 (.call 85 [.s 24,.s 26]),jY 28 18 .geq 27 0,oF 29 15 (.pick (.s 18) (.s 28) jf),oo 30 (.pick (.s 15) (.c (.bool true)) (.s 29))]) [0,5,6,7,30] (jC 30 (jq (jr [jv 2 jf]) [2] .ret) .skip)))) [0,5,6,7] (jr [jb 31 .add 7 1,om 7 31])))))) [] (jq (jr [oo 2 (.mov (.c (.bool true)))]) [2] .ret))⟩
def tf77 : TFn := ⟨9,[.tmp 2],jq (jr [jv 2 jf]) [0] (jq (jr [om 3 0,jb 4 .geq 3 0,om 5 4,jT 6 5 0,jY 7 5 .leq 6 9999,jp 8 5 7,om 2 8]) [2] .ret)⟩
def tf78 : TFn := ⟨48,[.tmp 4],jq (jr [jv 4 jf]) [0,1] (jq (jq (jr [om 9 0,oo 10 (.bin .eql false (.s 9) (.c (.str [])))]) [0,1,10] (jC 10 (jq (jr [oo 4 (.mov (.c (.bool true)))]) [4] .ret) .skip)) [0,1] (jq (jr [om 11 0,jc 12 80 [.s 11,(.c (.int .u8 46))],om 5 12]) [1,5] (jq (jq (jr [om 13 5,jn 14 13,jb 15 .gtr 14 4]) [1,5,15] (jC 15 (jq (jr [jv 4 jf]) [4] .ret) .skip)) [1,5] (jq (jq (jr [jw 6 0]) [1,5,6] (jk 0 (jq (jq (jr [om 16 6,om 17 5,jn 18 17,jB 19 .lss 16 18]) [1,5,6,19] (jC 19 .skip (.exit 0))) [1,5,6] (jq (.block 1 (jq (jq (jr [om 22 5,om 23 6,jx 24 1 22 23,ol 25 1 24,jc 26 86 [.s 25],oo 27 (.un .not (.s 26))]) [1,5,6,27] (jC 27 (jq (jr [jv 4 jf]) [4] .ret) .skip)) [1,5,6] (jq (jr [om 29 5,om 30 6,jx 31 1 29 30,ol 32 1 31,jc 33 87 [.s 32],om 28 33,oe 34 0 28,oe 35 1 28,om 7 34,om 8 35]) [1,5,6,8] (jq (jr [om 36 1,om 37 36,jT 38 37 5,jT 39 37 6,oT 40 37 (.indexAddr 1 (.s 38) (.s 39)),jl 41 37 1 40,oT 42 37 (.call 88 [.s 41]),jp 43 37 42,om 44 43,jT 45 44 8,oT 46 44 (.un .not (.s 45)),jp 47 44 46]) [1,5,6,47] (jC 47 (jq (jr [jv 4 jf]) [4] .ret) .skip))))) [1,5,6] (jr [om 20 6,jb 21 .add 20 1,om 6 21]))))) [] (jq (jr [oo 4 (.mov (.c (.bool true)))]) [4] .ret)))))⟩
def tf79 : TFn := ⟨39,[.tmp 2],jq (jr [jo 1 48 0,jv 2 jf]) [1] (jq (jq (jr [oA 4 0 1,ol 5 1 4,jc 6 89 [.s 5],oo 7 (.un .not (.s 6)),om 8 7,ja 9 8 1 1,jm 10 8 1 9,oF 11 8 (.call 89 [.s 10]),oF 12 8 (.un .not (.s 11)),oo 13 (.pick (.s 8) (.c (.bool true)) (.s 12))]) [1,13] (jC 13 (jq (jr [jv 2 jf]) [2] .ret) .skip)) [1] (jq (jq (jr [jw 3 0]) [1,3] (jk 0 (jq (jq (jr [om 14 3,oA 15 0 1,ol 16 1 15,jn 17 16,jB 18 .lss 14 17]) [1,3,18] (jC 18 .skip (.exit 0))) [1,3] (jq (.block 1 (jq (jr [oA 21 0 1,ol 22 1 21,om 23 3,jx 24 14 22 23,oA 25 0 24,oL 26 7 25,jc 27 90 [.s 26],oo 28 (.un .not (.s 27)),om 29 28,ja 30 29 0 1,jm 31 29 1 30,jF 32 29 3,oF 33 29 (.indexAddr 14 (.s 31) (.s 32)),ja 34 29 7 33,jM 35 29 7 34,oF 36 29 (.call 90 [.s 35]),oF 37 29 (.un .not (.s 36)),oo 38 (.pick (.s 29) (.c (.bool true)) (.s 37))]) [1,3,38] (jC 38 (jq (jr [jv 2 jf]) [2] .ret) .skip))) [1,3] (jr [om 19 3,jb 20 .add 19 1,om 3 20]))))) [] (jq (jr [oo 2 (.mov (.c (.bool true)))]) [2] .ret)))⟩
def tf80 : TFn := ⟨34,[.tmp 4],jq (jr [jv 4 je]) [0,1] (jq (jr [jv 5 je]) [0,1,5] (jq (jr [jw 6 0]) [0,1,5,6] (jq (jq (jr [jw 7 0]) [0,1,5,6,7] (jk 0 (jq (jq (jr [om 8 7,om 9 0,oo 10 (.lenStr (.s 9)),jB 11 .lss 8 10]) [0,1,5,6,7,11] (jC 11 .skip (.exit 0))) [0,1,5,6,7] (jq (.block 1 (jq (jr [om 14 0,om 15 7,oo 16 (.indexStr (.s 14) (.s 15)),om 17 1,jB 18 .eql 16 17]) [0,1,5,6,7,18] (jC 18 (jq (jr [om 19 5,om 20 0,om 21 6,om 22 7,oo 23 (.sliceStr (.s 20) (some (.s 21)) (some (.s 22))),oo 24 (.buildSlice 1 9 [.s 23]),oo 25 (.append 1 9 16 (.s 19) (.s 24)),om 5 25]) [0,1,5,7] (jr [om 26 7,jb 27 .add 26 1,om 6 27])) .skip))) [0,1,5,6,7] (jr [om 12 7,jb 13 .add 12 1,om 7 13]))))) [0,5,6] (jq (jr [om 28 5,om 29 0,om 30 6,oo 31 (.sliceStr (.s 29) (some (.s 30)) none),oo 32 (.buildSlice 1 9 [.s 31]),oo 33 (.append 1 9 16 (.s 28) (.s 32)),om 4 33]) [4] .ret))))⟩
def tf81 : TFn := ⟨40,[.tmp 4],jq (jr [jw 4 0]) [0,1] (jq (jr [om 11 0,jc 12 88 [.s 11],om 13 1,jc 14 88 [.s 13],om 5 12,om 6 14]) [0,1,5,6] (jq (.block 0 (jq (jr [om 16 5,om 17 16,jT 18 17 6,jp 19 17 18,om 15 19]) [0,1,5,6,15] (jC 15 (jq (jr [om 21 0,jc 22 87 [.s 21],om 20 22,oe 23 0 20,oe 24 1 20,om 7 23,om 8 24]) [1,7] (jq (jr [om 26 1,jc 27 87 [.s 26],om 25 27,oe 28 0 25,oe 29 1 25,om 9 28,om 10 29]) [7,9] (jq (jr [om 30 7,om 31 9,jc 32 71 [.s 30,.s 31],om 4 32]) [4] .ret))) (jq (jr [om 34 5,om 33 34]) [0,1,6,33] (jC 33 (jq (jr [oo 4 (.mov (.c (.int .i64 (-1))))]) [4] .ret) (jq (jr [om 36 6,om 35 36]) [0,1,35] (jC 35 (jq (jr [jw 4 1]) [4] .ret) .skip))))))) [0,1] (jq (jr [om 37 0,om 38 1,jc 39 91 [.s 37,.s 38],om 4 39]) [4] .ret)))⟩
def tf82 : TFn := ⟨24,[.tmp 4],jq (jr [jo 2 93 0,jo 3 41 1,jv 4 jf]) [2,3] (jq (jr [oL 5 14 2,jc 6 84 [.s 5],om 7 6,jL 8 7 5 3,oT 9 7 (.call 28 [.s 8]),jp 10 7 9,om 11 10,jA 12 11 0 2,jL 13 11 7 12,jL 14 11 5 3,oT 15 11 (.call 92 [.s 13,.s 14]),jp 16 11 15,om 17 16,jA 18 17 7 2,jL 19 17 7 18,jL 20 17 5 3,oT 21 17 (.call 92 [.s 19,.s 20]),oT 22 17 (.un .not (.s 21)),jp 23 17 22,om 4 23]) [4] .ret)⟩
def tf84 : TFn := ⟨19,[.tmp 2],jq (jr [jo 1 93 0,jv 2 jf]) [1] (jq (jr [oA 3 0 1,oL 4 7 3,jc 5 94 [.s 4],om 6 5,jA 7 6 7 1,jL 8 6 7 7,oT 9 6 (.call 94 [.s 8]),jp 10 6 9,om 11 10,jA 12 11 0 1,jL 13 11 7 12,jA 14 11 7 1,jL 15 11 7 14,oT 16 11 (.call 85 [.s 13,.s 15]),jY 17 11 .lss 16 0,jp 18 11 17,om 2 18]) [2] .ret)⟩
def tf85 : TFn := ⟨42,[.tmp 4],jq (jr [jo 2 90 0,jo 3 90 1,jw 4 0]) [2,3] (jq (jq (jr [oL 6 7 2,jc 7 94 [.s 6],oo 8 (.un .not (.s 7)),om 9 8,jM 10 9 7 3,oF 11 9 (.call 94 [.s 10]),oF 12 9 (.un .not (.s 11)),oo 13 (.pick (.s 9) (.c (.bool true)) (.s 12))]) [2,3,13] (jC 13 (jq (jr [jw 4 0]) [4] .ret) (jq (jr [oA 14 0 2,ol 15 1 14,jb 16 .neq 15 0,om 17 16,ja 18 17 0 3,jm 19 17 1 18,jy 20 17 .neq 19 0,oo 21 (.pick (.s 17) (.c (.bool true)) (.s 20))]) [2,3,21] (jC 21 (jq (jr [oA 22 0 2,ol 23 1 22,oA 24 0 3,ol 25 1 24,jc 26 49 [.s 23,.s 25],om 4 26]) [4] .ret) (jq (jr [oA 27 1 2,oL 28 5 27,oA 29 1 3,oL 30 5 29,jc 31 29 [.s 28,.s 30],om 5 31]) [2,3,5] (jq (jr [om 32 5,jb 33 .neq 32 0]) [2,3,5,33] (jC 33 (jq (jr [om 34 5,om 4 34]) [4] .ret) (jq (jr [oA 35 6 2,ol 36 1 35,oA 37 6 3,ol 38 1 37,oo 39 (.bin .eql true (.s 36) (.s 38))]) [3,39] (jC 39 (jq (jr [jw 4 0]) [4] .ret) (jq (jr [oA 40 6 3,ol 41 1 40]) [41] (jC 41 (jq (jr [oo 4 (.mov (.c (.int .i64 (-1))))]) [4] .ret) .skip))))))))))) [] (jq (jr [jw 4 1]) [4] .ret))⟩
def tf86 : TFn := ⟨40,[.tmp 2],jq (jr [jv 2 jf]) [0] (jq (jq (jr [om 5 0,oo 6 (.lenStr (.s 5)),jb 7 .lss 6 1,om 8 7,jF 9 8 0,oF 10 8 (.lenStr (.s 9)),jy 11 8 .gtr 10 8,oo 12 (.pick (.s 8) (.c (.bool true)) (.s 11))]) [0,12] (jC 12 (jq (jr [jv 2 jf]) [2] .ret) .skip)) [0] (jq (jq (jr [jw 3 0]) [0,3] (jk 0 (jq (jq (jr [om 13 3,om 14 0,oo 15 (.lenStr (.s 14)),jB 16 .lss 13 15]) [0,3,16] (jC 16 .skip (.exit 0))) [0,3] (jq (.block 1 (jq (jr [om 19 0,om 20 3,oo 21 (.indexStr (.s 19) (.s 20)),om 4 21]) [0,3,4] (jq (jr [om 22 4,oo 23 (.bin .lss false (.s 22) (.c (.int .u8 97))),om 24 23,jF 25 24 4,oF 26 24 (.bin .gtr false (.s 25) (.c (.int .u8 122))),oo 27 (.pick (.s 24) (.c (.bool true)) (.s 26)),om 28 27,jT 29 28 4,oT 30 28 (.bin .lss false (.s 29) (.c (.int .u8 48))),jT 31 28 30,jF 32 31 4,oF 33 31 (.bin .gtr false (.s 32) (.c (.int .u8 57))),oT 34 28 (.pick (.s 31) (.c (.bool true)) (.s 33)),jp 35 28 34,om 36 35,jT 37 36 4,oT 38 36 (.bin .neq false (.s 37) (.c (.int .u8 45))),jp 39 36 38]) [0,3,39] (jC 39 (jq (jr [jv 2 jf]) [2] .ret) .skip)))) [0,3] (jr [om 17 3,jb 18 .add 17 1,om 3 18]))))) [] (jq (jr [oo 2 (.mov (.c (.bool true)))]) [2] .ret)))⟩
def tf87 : TFn := ⟨46,[.tmp 2,.tmp 3],jq (jr [jw 2 0,jv 3 jf]) [0] (jq (jq (jr [om 6 0,oo 7 (.lenStr (.s 6)),jb 8 .lss 7 1,om 9 8,jF 10 9 0,oF 11 9 (.lenStr (.s 10)),jy 12 9 .gtr 11 9,oo 13 (.pick (.s 9) (.c (.bool true)) (.s 12)),om 14 13,jF 15 14 0,oF 16 14 (.lenStr (.s 15)),jy 17 14 .gtr 16 1,jF 18 14 17,jT 19 18 0,oT 20 18 (.indexStr (.s 19) (jI 0)),oT 21 18 (.bin .eql false (.s 20) (.c (.int .u8 48))),oF 22 14 (.pick (.s 18) (.s 21) jf),oo 23 (.pick (.s 14) (.c (.bool true)) (.s 22))]) [0,23] (jC 23 (jq (jr [jw 2 0,jv 3 jf]) [2,3] .ret) .skip)) [0] (jq (jr [jw 4 0]) [0,4] (jq (jq (jr [jw 5 0]) [0,4,5] (jk 0 (jq (jq (jr [om 24 5,om 25 0,oo 26 (.lenStr (.s 25)),jB 27 .lss 24 26]) [0,4,5,27] (jC 27 .skip (.exit 0))) [0,4,5] (jq (.block 1 (jq (jq (jr [om 30 0,om 31 5,oo 32 (.indexStr (.s 30) (.s 31)),jc 33 95 [.s 32],oo 34 (.un .not (.s 33))]) [0,4,5,34] (jC 34 (jq (jr [jw 2 0,jv 3 jf]) [2,3] .ret) .skip)) [0,4,5] (jr [om 35 4,jb 36 .mul 35 10,om 37 0,om 38 5,oo 39 (.indexStr (.s 37) (.s 38)),oo 40 (.bin .sub false (.s 39) (.c (.int .u8 48))),oo 41 (.conv .i64 (.s 40)),jB 42 .add 36 41,om 4 42]))) [0,4,5] (jr [om 28 5,jb 29 .add 28 1,om 5 29]))))) [4] (jq (jq (jr [om 43 4,jb 44 .gtr 43 9999]) [4,44] (jC 44 (jq (jr [jw 2 0,jv 3 jf]) [2,3] .ret) .skip)) [4] (jq (jr [om 45 4,om 2 45,oo 3 (.mov (.c (.bool true)))]) [2,3] .ret)))))⟩
def tf88 : TFn := ⟨23,[.tmp 2],jq (jr [jv 2 jf]) [0] (jq (jq (jr [jw 3 0]) [0,3] (jk 0 (jq (jq (jr [om 4 3,om 5 0,oo 6 (.lenStr (.s 5)),jB 7 .lss 4 6]) [0,3,7] (jC 7 .skip (.exit 0))) [0,3] (jq (.block 1 (jq (jr [om 10 0,om 11 3,oo 12 (.indexStr (.s 10) (.s 11)),oo 13 (.bin .lss false (.s 12) (.c (.int .u8 48))),om 14 13,jF 15 14 0,jF 16 14 3,oF 17 14 (.indexStr (.s 15) (.s 16)),oF 18 14 (.bin .gtr false (.s 17) (.c (.int .u8 57))),oo 19 (.pick (.s 14) (.c (.bool true)) (.s 18))]) [0,3,19] (jC 19 (jq (jr [jv 2 jf]) [2] .ret) .skip))) [0,3] (jr [om 8 3,jb 9 .add 8 1,om 3 9]))))) [0] (jq (jr [om 20 0,oo 21 (.lenStr (.s 20)),jb 22 .gtr 21 0,om 2 22]) [2] .ret))⟩
def tf89 : TFn := ⟨35,[.tmp 2],jq (jr [jv 2 jf]) [0] (jq (jq (jr [jw 3 0]) [0,3] (jk 0 (jq (jq (jr [om 4 3,om 5 0,jn 6 5,jB 7 .lss 4 6]) [0,3,7] (jC 7 .skip (.exit 0))) [0,3] (jq (.block 1 (jq (jR [om 10 0,om 11 3,jx 12 14 10 11,oL 13 14 12,jc 14 96 [.s 13],oo 15 (.un .not (.s 14)),om 16 15,jF 17 16 3,jy 18 16 .gtr 17 0,jF 19 16 18,jT 20 19 0,jT 21 19 3,jY 22 19 .sub 21 1,oT 23 19 (.indexAddr 14 (.s 20) (.s 22)),jA 24 19 7 23,jL 25 19 7 24,jT 26 19 0,jT 27 19 3,oT 28 19 (.indexAddr 14 (.s 26) (.s 27)),jA 29 19 0 28,jL 30 19 7 29,oT 31 19 (.call 97 [.s 25,.s 30]),jY 32 19 .geq 31 0,oF 33 16 (.pick (.s 19) (.s 32) jf),oo 34 (.pick (.s 16) (.c (.bool true)) (.s 33))]) [0,3,34] (jC 34 (jq (jr [jv 2 jf]) [2] .ret) .skip))) [0,3] (jr [om 8 3,jb 9 .add 8 1,om 3 9]))))) [] (jq (jr [oo 2 (.mov (.c (.bool true)))]) [2] .ret))⟩
def tf90 : TFn := ⟨23,[.tmp 2],jq (jr [jo 1 90 0,jv 2 jf]) [1] (jq (jr [oA 3 0 1,ol 4 1 3,jb 5 .neq 4 0,om 6 5,ja 7 6 6 1,jm 8 6 1 7,oF 9 6 (.un .not (.s 8)),jF 10 6 9,jA 11 10 1 1,jA 12 10 3 11,jl 13 10 1 12,oT 14 10 (.bin .eql false (.s 13) (.c (.str []))),oF 15 6 (.pick (.s 10) (.s 14) jf),jF 16 6 15,jA 17 16 1 1,jL 18 16 5 17,oT 19 16 (.call 98 [.s 18]),oT 20 16 (.un .not (.s 19)),oF 21 6 (.pick (.s 16) (.s 20) jf),oo 22 (.pick (.s 6) (.c (.bool true)) (.s 21)),om 2 22]) [2] .ret)⟩
def tf91 : TFn := ⟨13,[.tmp 4],jq (jr [jw 4 0]) [0,1] (jq (.block 0 (jq (jr [om 6 0,om 7 1,jB 8 .lss 6 7,om 5 8]) [0,1,5] (jC 5 (jq (jr [oo 4 (.mov (.c (.int .i64 (-1))))]) [4] .ret) (jq (jr [om 10 0,om 11 1,jB 12 .gtr 10 11,om 9 12]) [9] (jC 9 (jq (jr [jw 4 1]) [4] .ret) .skip))))) [] (jq (jr [jw 4 0]) [4] .ret))⟩
def tf92 : TFn := ⟨35,[.tmp 4],jq (jr [jo 2 90 0,jo 3 41 1,jv 4 jf]) [2,3] (jq (jq (jr [oL 6 7 2,jc 7 94 [.s 6],oo 8 (.un .not (.s 7)),om 9 8,jM 10 9 5 3,oF 11 9 (.call 28 [.s 10]),oF 12 9 (.un .not (.s 11)),oo 13 (.pick (.s 9) (.c (.bool true)) (.s 12))]) [2,3,13] (jC 13 (jq (jr [jv 4 jf]) [4] .ret) (jq (jr [oA 14 0 2,ol 15 1 14,jb 16 .neq 15 0]) [2,3,16] (jC 16 (jq (jr [oA 17 0 2,ol 18 1 17,jb 19 .lss 18 0,om 4 19]) [4] .ret) .skip)))) [2,3] (jq (jr [oA 20 1 2,oL 21 5 20,oL 22 5 3,jc 23 29 [.s 21,.s 22],om 5 23]) [2,5] (jq (jr [om 24 5,jb 25 .lss 24 0,om 26 25,jF 27 26 5,jy 28 26 .eql 27 0,jF 29 26 28,jA 30 29 6 2,jl 31 29 1 30,oT 32 29 (.un .not (.s 31)),oF 33 26 (.pick (.s 29) (.s 32) jf),oo 34 (.pick (.s 26) (.c (.bool true)) (.s 33)),om 4 34]) [4] .ret)))⟩
def tf94 : TFn := ⟨32,[.tmp 2],jq (jr [jo 1 90 0,jv 2 jf]) [1] (jq (jq (jr [oA 3 0 1,ol 4 1 3,oo 5 (.bin .eql false (.s 4) (.c (.int .i64 (-1)))),om 6 5,ja 7 6 0 1,jm 8 6 1 7,jy 9 6 .eql 8 1,oo 10 (.pick (.s 6) (.c (.bool true)) (.s 9))]) [1,10] (jC 10 (jq (jr [oA 11 1 1,oL 12 5 11,oo 13 (.build [(.int .i64 0),(.int .i64 0),(.int .i64 0),(.str []),(.str [])] []),oo 14 (.eqs false [0,0,0,2,2] (.s 12) (.s 13)),om 15 14,jA 16 15 6 1,jl 17 15 1 16,oT 18 15 (.un .not (.s 17)),jp 19 15 18,om 2 19]) [2] .ret) (jq (jr [oA 20 0 1,ol 21 1 20,jb 22 .neq 21 0]) [1,22] (jC 22 (jq (jr [jv 2 jf]) [2] .ret) .skip)))) [1] (jq (jr [oA 23 1 1,oL 24 5 23,jc 25 28 [.s 24],om 26 25,jA 27 26 1 1,jA 28 26 4 27,jl 29 26 1 28,oT 30 26 (.bin .eql false (.s 29) (.c (.str []))),jp 31 26 30,om 2 31]) [2] .ret))⟩
def tf95 : TFn := ⟨9,[.tmp 2],jq (jr [jv 2 jf]) [0] (jq (jr [om 3 0,oo 4 (.bin .geq false (.s 3) (.c (.int .u8 48))),om 5 4,jT 6 5 0,oT 7 5 (.bin .leq false (.s 6) (.c (.int .u8 57))),jp 8 5 7,om 2 8]) [2] .ret)⟩
def tf96 : TFn := ⟨19,[.tmp 2],jq (jr [jo 1 93 0,jv 2 jf]) [1] (jq (jr [oA 3 0 1,oL 4 7 3,jc 5 100 [.s 4],om 6 5,jA 7 6 7 1,jL 8 6 7 7,oT 9 6 (.call 100 [.s 8]),jp 10 6 9,om 11 10,jA 12 11 0 1,jL 13 11 7 12,jA 14 11 7 1,jL 15 11 7 14,oT 16 11 (.call 97 [.s 13,.s 15]),jY 17 11 .lss 16 0,jp 18 11 17,om 2 18]) [2] .ret)⟩
def tf97 : TFn := ⟨46,[.tmp 4],jq (jr [jo 2 90 0,jo 3 90 1,jw 4 0]) [2,3] (jq (jq (jr [oL 6 7 2,jc 7 100 [.s 6],oo 8 (.un .not (.s 7)),om 9 8,jM 10 9 7 3,oF 11 9 (.call 100 [.s 10]),oF 12 9 (.un .not (.s 11)),oo 13 (.pick (.s 9) (.c (.bool true)) (.s 12))]) [2,3,13] (jC 13 (jq (jr [jw 4 0]) [4] .ret) .skip)) [2,3] (jq (jq (jr [oA 14 0 2,ol 15 1 14,oA 16 0 3,ol 17 1 16,jB 18 .neq 15 17,om 19 18,ja 20 19 0 2,jm 21 19 1 20,jy 22 19 .neq 21 0,oo 23 (.pick (.s 19) (.c (.bool true)) (.s 22))]) [2,3,23] (jC 23 (jq (jr [oA 24 0 2,ol 25 1 24,oA 26 0 3,ol 27 1 26,jc 28 71 [.s 25,.s 27],om 4 28]) [4] .ret) .skip)) [2,3] (jq (jq (jr [oA 29 1 2,oL 30 5 29,oA 31 1 3,oL 32 5 31,jc 33 55 [.s 30,.s 32],om 5 33]) [2,3,5] (jq (jr [om 34 5,jb 35 .neq 34 0]) [2,3,5,35] (jC 35 (jq (jr [om 36 5,om 4 36]) [4] .ret) .skip))) [2,3] (jq (.block 0 (jq (jr [oA 38 6 2,ol 39 1 38,oA 40 6 3,ol 41 1 40,oo 42 (.bin .eql true (.s 39) (.s 41)),om 37 42]) [3,37] (jC 37 (jq (jr [jw 4 0]) [4] .ret) (jq (jr [oA 44 6 3,ol 45 1 44,om 43 45]) [43] (jC 43 (jq (jr [oo 4 (.mov (.c (.int .i64 (-1))))]) [4] .ret) .skip))))) [] (jq (jr [jw 4 1]) [4] .ret)))))⟩
def tf98 : TFn := ⟨16,[.tmp 2],jq (jr [jo 1 41 0,jv 2 jf]) [1] (jq (jr [oA 3 0 1,ol 4 1 3,jb 5 .eql 4 0,om 6 5,jA 7 6 1 1,jl 8 6 1 7,jY 9 6 .eql 8 0,jp 10 6 9,om 11 10,jA 12 11 2 1,jl 13 11 1 12,jY 14 11 .eql 13 0,jp 15 11 14,om 2 15]) [2] .ret)⟩
def tf100 : TFn := ⟨34,[.tmp 2],jq (jr [jo 1 90 0,jv 2 jf]) [1] (jq (jq (jr [oA 3 0 1,ol 4 1 3,jb 5 .eql 4 0]) [1,5] (jC 5 (jq (jr [oA 6 1 1,oL 7 5 6,jc 8 68 [.s 7],om 9 8,jA 10 9 1 1,jA 11 9 4 10,jl 12 9 1 11,oT 13 9 (.bin .eql false (.s 12) (.c (.str []))),jp 14 9 13,om 2 14]) [2] .ret) .skip)) [1] (jq (jr [oA 15 0 1,ol 16 1 15,oo 17 (.bin .eql false (.s 16) (.c (.int .i64 (-1)))),om 18 17,ja 19 18 0 1,jm 20 18 1 19,jy 21 18 .eql 20 1,oo 22 (.pick (.s 18) (.c (.bool true)) (.s 21)),om 23 22,jA 24 23 1 1,jL 25 23 5 24,oT 26 23 (.build [(.int .i64 0),(.int .i64 0),(.int .i64 0),(.str []),(.str [])] []),oT 27 23 (.eqs false [0,0,0,2,2] (.s 25) (.s 26)),jp 28 23 27,om 29 28,jA 30 29 6 1,jl 31 29 1 30,oT 32 29 (.un .not (.s 31)),jp 33 29 32,om 2 33]) [2] .ret))⟩
theorem tp3 : QV Tryd.prog Tryd.f3 = some tf3.erase := by kernel_rfl
theorem tp5 : QV Tryd.prog Tryd.f5 = some tf5.erase := by kernel_rfl
theorem tp6 : QV Tryd.prog Tryd.f6 = some tf6.erase := by kernel_rfl
theorem tp7 : QV Tryd.prog Tryd.f7 = some tf7.erase := by kernel_rfl
theorem tp8 : QV Tryd.prog Tryd.f8 = some tf8.erase := by kernel_rfl
theorem tp9 : QV Tryd.prog Tryd.f9 = some tf9.erase := by kernel_rfl
theorem Qc7 : QV Tryd.prog Tryd.f11 = some tf11.erase := by kernel_rfl
theorem Qc8 : QV Tryd.prog Tryd.f15 = some tf15.erase := by kernel_rfl
theorem Qc9 : QV Tryd.prog Tryd.f16 = some tf16.erase := by kernel_rfl
theorem Qda : QV Tryd.prog Tryd.f17 = some tf17.erase := by kernel_rfl
theorem Qdb : QV Tryd.prog Tryd.f18 = some tf18.erase := by kernel_rfl
theorem QcR : QV Tryd.prog Tryd.f19 = some tf19.erase := by kernel_rfl
theorem QcE : QV Tryd.prog Tryd.f20 = some tf20.erase := by kernel_rfl
theorem Qdc : QV Tryd.prog Tryd.f25 = some tf25.erase := by kernel_rfl
theorem Qdd : QV Tryd.prog Tryd.f26 = some tf26.erase := by kernel_rfl
theorem Qde : QV Tryd.prog Tryd.f27 = some tf27.erase := by kernel_rfl
theorem Qdf : QV Tryd.prog Tryd.f28 = some tf28.erase := by kernel_rfl
theorem Qdg : QV Tryd.prog Tryd.f29 = some tf29.erase := by kernel_rfl
theorem Qdh : QV Tryd.prog Tryd.f30 = some tf30.erase := by kernel_rfl
theorem Qdi : QV Tryd.prog Tryd.f31 = some tf31.erase := by kernel_rfl
theorem Qdj : QV Tryd.prog Tryd.f32 = some tf32.erase := by kernel_rfl
theorem Qdk : QV Tryd.prog Tryd.f33 = some tf33.erase := by kernel_rfl
theorem Qdl : QV Tryd.prog Tryd.f34 = some tf34.erase := by kernel_rfl
theorem Qdm : QV Tryd.prog Tryd.f35 = some tf35.erase := by kernel_rfl
theorem Qdn : QV Tryd.prog Tryd.f36 = some tf36.erase := by kernel_rfl
theorem Qdo : QV Tryd.prog Tryd.f41 = some tf41.erase := by kernel_rfl
theorem Qdp : QV Tryd.prog Tryd.f42 = some tf42.erase := by kernel_rfl
theorem Qdq : QV Tryd.prog Tryd.f43 = some tf43.erase := by kernel_rfl
theorem Qdr : QV Tryd.prog Tryd.f44 = some tf44.erase := by kernel_rfl
theorem Qds : QV Tryd.prog Tryd.f45 = some tf45.erase := by kernel_rfl
theorem Qdt : QV Tryd.prog Tryd.f46 = some tf46.erase := by kernel_rfl
theorem Qdu : QV Tryd.prog Tryd.f47 = some tf47.erase := by kernel_rfl
theorem Qdv : QV Tryd.prog Tryd.f48 = some tf48.erase := by kernel_rfl
theorem Qdw : QV Tryd.prog Tryd.f49 = some tf49.erase := by kernel_rfl
theorem Qdx : QV Tryd.prog Tryd.f50 = some tf50.erase := by kernel_rfl
theorem Qdy : QV Tryd.prog Tryd.f51 = some tf51.erase := by kernel_rfl
theorem Qdz : QV Tryd.prog Tryd.f52 = some tf52.erase := by kernel_rfl
theorem QdA : QV Tryd.prog Tryd.f53 = some tf53.erase := by kernel_rfl
theorem QdB : QV Tryd.prog Tryd.f54 = some tf54.erase := by kernel_rfl
theorem QdC : QV Tryd.prog Tryd.f55 = some tf55.erase := by kernel_rfl
theorem QdD : QV Tryd.prog Tryd.f56 = some tf56.erase := by kernel_rfl
theorem QdE : QV Tryd.prog Tryd.f57 = some tf57.erase := by kernel_rfl
theorem QdF : QV Tryd.prog Tryd.f63 = some tf63.erase := by kernel_rfl
theorem QdG : QV Tryd.prog Tryd.f64 = some tf64.erase := by kernel_rfl
theorem QdH : QV Tryd.prog Tryd.f65 = some tf65.erase := by kernel_rfl
theorem QdI : QV Tryd.prog Tryd.f66 = some tf66.erase := by kernel_rfl
theorem QdJ : QV Tryd.prog Tryd.f67 = some tf67.erase := by kernel_rfl
theorem QdK : QV Tryd.prog Tryd.f68 = some tf68.erase := by kernel_rfl
theorem QdL : QV Tryd.prog Tryd.f69 = some tf69.erase := by kernel_rfl
theorem QdM : QV Tryd.prog Tryd.f70 = some tf70.erase := by kernel_rfl
theorem QdN : QV Tryd.prog Tryd.f71 = some tf71.erase := by kernel_rfl
theorem QdO : QV Tryd.prog Tryd.f72 = some tf72.erase := by kernel_rfl
theorem QdP : QV Tryd.prog Tryd.f73 = some tf73.erase := by kernel_rfl
theorem QdQ : QV Tryd.prog Tryd.f75 = some tf75.erase := by kernel_rfl
theorem QdR : QV Tryd.prog Tryd.f76 = some tf76.erase := by kernel_rfl
theorem QdS : QV Tryd.prog Tryd.f77 = some tf77.erase := by kernel_rfl
theorem QdT : QV Tryd.prog Tryd.f78 = some tf78.erase := by kernel_rfl
theorem QdU : QV Tryd.prog Tryd.f79 = some tf79.erase := by kernel_rfl
theorem QdV : QV Tryd.prog Tryd.f80 = some tf80.erase := by kernel_rfl
theorem QdW : QV Tryd.prog Tryd.f81 = some tf81.erase := by kernel_rfl
theorem QdX : QV Tryd.prog Tryd.f82 = some tf82.erase := by kernel_rfl
theorem QdY : QV Tryd.prog Tryd.f84 = some tf84.erase := by kernel_rfl
theorem QdZ : QV Tryd.prog Tryd.f85 = some tf85.erase := by kernel_rfl
theorem Qd0 : QV Tryd.prog Tryd.f86 = some tf86.erase := by kernel_rfl
theorem Qd1 : QV Tryd.prog Tryd.f87 = some tf87.erase := by kernel_rfl
theorem Qd2 : QV Tryd.prog Tryd.f88 = some tf88.erase := by kernel_rfl
theorem Qd3 : QV Tryd.prog Tryd.f89 = some tf89.erase := by kernel_rfl
theorem Qd4 : QV Tryd.prog Tryd.f90 = some tf90.erase := by kernel_rfl
theorem Qd5 : QV Tryd.prog Tryd.f91 = some tf91.erase := by kernel_rfl
theorem Qd6 : QV Tryd.prog Tryd.f92 = some tf92.erase := by kernel_rfl
theorem Qd7 : QV Tryd.prog Tryd.f94 = some tf94.erase := by kernel_rfl
theorem Qd8 : QV Tryd.prog Tryd.f95 = some tf95.erase := by kernel_rfl
theorem Qd9 : QV Tryd.prog Tryd.f96 = some tf96.erase := by kernel_rfl
theorem Qea : QV Tryd.prog Tryd.f97 = some tf97.erase := by kernel_rfl
theorem Qeb : QV Tryd.prog Tryd.f98 = some tf98.erase := by kernel_rfl
theorem QcD : QV Tryd.prog Tryd.f100 = some tf100.erase := by kernel_rfl
theorem Z5 : Tryd.prog.follows .mixedOrders = true := by kernel_rfl
end Go.Proofs
namespace M3
open Go Go.Abs
def Mp (n : Int) : Bool := decide (0 <= n) && decide (n <= 9999)
def ZG (m n : Int) : Int := if m < n then -1 else if n < m then 1 else 0
def Z1 (c : UInt8) : Bool := decide (48 <= c.toNat) && decide (c.toNat <= 57)
def YB (s : List UInt8) : Bool := s.all Z1 && !decide (s = [])
theorem KN {s : List UInt8} {i : Nat} (h : i < s.length) (hd : Z1 s[i] = false) : YB s = false := by
 have : s.all Z1 = false := by
  rw [Bool.eq_false_iff]
  intro ha
  rw [Qep] at ha
  rw [ha _ (Qek h)] at hd
  cases hd
 rw [YB, this]; rfl
theorem F6 {s : List UInt8} {i : Nat} (hi : s.length <= i) (h : (s.take i).all Z1 = true) : YB s = !decide (s = []) := by
 rw [Qev hi] at h
 rw [YB, h]; rfl
def Qbu (v n : Int) : Int := if v.tmod n < 0 then v.tmod n + n else v.tmod n
def mAt (l : List Int) (i : Int) : Int := if i < 0 \/ (l.length : Int) <= i then 0 else l.getD i.toNat 0
def Lj (l : List Int) (i n : Int) : Int := Qbu (mAt l i) n
def ZT (l : List Int) : D := .sl (l.map fun x => [.int .i64 x])
end M3
namespace M3
open Go Go.Abs
def JA (c : Int) : List UInt8 -> List UInt8 -> List (List UInt8)
 | [], cur => [cur]
 | x :: xs, cur => if (x.toNat : Int) = c then cur :: JA c xs [] else JA c xs (cur ++ [x])
def QZ (s : List UInt8) (c : Int) : List (List UInt8) := JA c s []
def YJ (l : List (List UInt8)) : List (List D) := l.map fun x => [.str x]
def SplitI (s : List UInt8) (c : Int) (i k : Nat) (acc : List (List UInt8)) : Prop :=
 i <= s.length /\ k <= i /\ acc.length <= i /\ QZ s c = acc ++ JA c (s.drop i) ((s.take i).drop k)
theorem SplitI.zero {s : List UInt8} {c : Int} : SplitI s c 0 0 [] := ⟨Qer _, Nat.le_refl _, Nat.le_refl _, by simp [QZ]⟩
theorem SplitI.hit {s : List UInt8} {c : Int} {i k : Nat} {acc : List (List UInt8)} (h : SplitI s c i k acc) (hi : i < s.length) (he : ((s[i]).toNat : Int) = c) : SplitI s c (i + 1) (i + 1) (acc ++ [(s.take i).drop k]) := by
 obtain ⟨h1, h2, h3, h4⟩ := h
 refine ⟨hi, Nat.le_refl _, by simp; omega, ?_⟩
 rw [Qew hi] at h4
 simp only [JA, he, if_true] at h4
 rw [h4, List.append_assoc]
 simp
theorem SplitI.miss {s : List UInt8} {c : Int} {i k : Nat} {acc : List (List UInt8)} (h : SplitI s c i k acc) (hi : i < s.length) (he : ¬ ((s[i]).toNat : Int) = c) : SplitI s c (i + 1) k acc := by
 obtain ⟨h1, h2, h3, h4⟩ := h
 refine ⟨hi, Wa, Wa, ?_⟩
 rw [Qew hi] at h4
 simp only [JA, he, if_false] at h4
 rw [h4, List.take_succ_eq_append_getElem hi, List.drop_append_of_le_length Wh]
theorem SplitI.done {s : List UInt8} {c : Int} {i k : Nat} {acc : List (List UInt8)} (h : SplitI s c i k acc) (hi : s.length <= i) : QZ s c = acc ++ [s.drop k] := by
 obtain ⟨h1, h2, h3, h4⟩ := h
 rw [h4, QeA hi, Qev hi]
 rfl
end M3
namespace M3
open Go Go.Abs
def YO (a b : List UInt8) : Int := if Op.bytesLess a b = true then -1 else if a = b then 0 else 1
def Xi (c : Int) : Bool := decide (48 <= c) && decide (c <= 57)
def ZB (c : UInt8) : Bool := (decide (97 <= c.toNat) && decide (c.toNat <= 122)) || (decide (48 <= c.toNat) && decide (c.toNat <= 57)) || decide (c.toNat = 45)
def J2 (s : List UInt8) : Bool := decide (1 <= s.length) && decide (s.length <= 8) && s.all ZB
def val (s : List UInt8) : Nat := s.foldl (fun n c => 10 * n + (c.toNat - 48)) 0
def ZU (s : List UInt8) : Int × Bool :=
 if s.length < 1 \/ 9 < s.length \/ (1 < s.length /\ s.head? = some 48) \/ s.all Z1 = false \/ 9999 < val s then (0, false) else ((val s : Int), true)
def Nv (a b : List UInt8) : Int :=
 if YB a = true /\ YB b = true then ZG (ZU a).1 (ZU b).1
 else if YB a = true then -1 else if YB b = true then 1 else YO a b
def Sc : List (List UInt8) -> List (List UInt8) -> Int
 | [], [] => 0
 | [], _ :: _ => -1
 | _ :: _, [] => 1
 | a :: l, b :: m => if Nv a b ≠ 0 then Nv a b else Sc l m
def Hv (a b : List UInt8) : Int := if a = b then 0 else if a = [] then 1 else if b = [] then -1 else Sc (QZ a 46) (QZ b 46)
def K7 (pre : Bool) (t : List UInt8) : Bool := J2 t && !(pre && YB t && !(ZU t).2)
def Jx (s : List UInt8) (pre : Bool) : Bool := decide (s = []) || (decide ((QZ s 46).length <= 4) && (QZ s 46).all (K7 pre))
def Kp (a b c : Int) (p q : List UInt8) : Bool := Mp a && Mp b && Mp c && Jx p true && Jx q false
def KM (a b c : Int) (p q : List UInt8) (a' b' c' : Int) (p' q' : List UInt8) : Int :=
 if Kp a b c p q = false \/ Kp a' b' c' p' q' = false then 0
 else if ZG a a' ≠ 0 then ZG a a' else if ZG b b' ≠ 0 then ZG b b' else if ZG c c' ≠ 0 then ZG c c' else Hv p p'
theorem Yj {α : Type} {s : List α} {p : α -> Bool} {i : Nat} (h : i < s.length) (hd : p s[i] = false) : s.all p = false := by
 rw [Bool.eq_false_iff]
 intro ha
 rw [Qep] at ha
 rw [ha _ (Qek h)] at hd
 cases hd
theorem Y0 {α : Type} {s : List α} {p : α -> Bool} {i : Nat} (hi : s.length <= i) (h : (s.take i).all p = true) : s.all p = true := by rwa [Qev hi] at h
theorem Fs {s : List UInt8} {i : Nat} (h : i < s.length) : val (s.take (i + 1)) = 10 * val (s.take i) + (s[i].toNat - 48) := by
 rw [List.take_succ_eq_append_getElem h]; simp only [val, List.foldl_append, List.foldl_cons, List.foldl_nil]
theorem L4 : ∀ {s : List UInt8}, s.all Z1 = true -> val s < 10 ^ s.length := by
 intro s
 rw [<- List.reverse_reverse s]
 generalize s.reverse = r
 induction r with
 | nil => intro _; decide
 | cons c r ih =>
  intro h
  rw [List.reverse_cons, List.all_append, Qej] at h
  have h1 := ih h.1
  have h2 : Z1 c = true := by simpa using h.2
  simp only [Z1, Qej, decide_eq_true_eq] at h2
  rw [List.reverse_cons]
  simp only [val, List.foldl_append, List.foldl_cons, List.foldl_nil, List.length_append, List.length_cons, List.length_nil] at h1 ⊢
  rw [Nat.pow_succ]
  omega
theorem Pn {l m : List (List UInt8)} {i : Nat} (h1 : i < l.length) (h2 : i < m.length) (h : Nv l[i] m[i] = 0) : Sc (l.drop i) (m.drop i) = Sc (l.drop (i + 1)) (m.drop (i + 1)) := by
 rw [Qew h1, Qew h2]
 simp [Sc, h]
theorem Z4 {l m : List (List UInt8)} {i : Nat} (h1 : i < l.length) (h2 : i < m.length) (h : Nv l[i] m[i] ≠ 0) : Sc (l.drop i) (m.drop i) = Nv l[i] m[i] := by
 rw [Qew h1, Qew h2]
 simp [Sc, h]
theorem Z3 {l m : List (List UInt8)} {i : Nat} (hl : i <= l.length) (hm : i <= m.length) (h : l.length <= i \/ m.length <= i) : Sc (l.drop i) (m.drop i) = ZG l.length m.length := by
 rcases QeC i l.length with h1 | h1 <;> rcases QeC i m.length with h2 | h2
 ·omega
 ·rw [Qew h1, QeA h2]
  simp only [Sc, ZG]
  rw [if_neg Wa, if_pos Wa]
 ·rw [Qew h2, QeA h1]
  simp only [Sc, ZG]
  rw [if_pos Wa]
 ·rw [QeA h1, QeA h2]
  simp only [Sc, ZG]
  rw [if_neg Wa, if_neg Wa]
end M3
namespace M3
end M3
namespace M3
theorem Qbm {s : List UInt8} (h : 0 < s.length) (e : ((s[0]).toNat : Int) = 48) : s.head? = some 48 := by
 cases s with
 | nil => simp at h
 | cons x r =>
  simp only [List.getElem_cons_zero] at e
  have : x = 48 := UInt8.toNat_inj.1 (by simpa using (by omega : x.toNat = 48))
  simp [this]
theorem Ml {s : List UInt8} (h : 0 < s.length) (e : ¬ ((s[0]).toNat : Int) = 48) : s.head? ≠ some 48 := by
 cases s with
 | nil => simp at h
 | cons x r =>
  simp only [List.getElem_cons_zero] at e
  intro hh
  simp at hh
  subst hh
  exact e rfl
theorem F5 {s : List UInt8} {i : Nat} (h : ¬ (s.length < 1 \/ 9 < s.length \/ (1 < s.length /\ s.head? = some 48))) (hi : s.length <= i) (ha : (s.take i).all Z1 = true) (hv : val (s.take i) <= 9999) : ZU s = ((val (s.take i) : Int), true) := by
 have h1 := Y0 hi ha
 rw [Qev hi] at hv ⊢
 rw [ZU, if_neg]
 rintro (q | q | q | q | q)
 ·exact h (.inl q)
 ·exact h (.inr (.inl q))
 ·exact h (.inr (.inr q))
 ·rw [h1] at q; cases q
 ·omega
theorem GF {s : List UInt8} {i : Nat} (hi : s.length <= i) (hv : 9999 < val (s.take i)) : ZU s = (0, false) := by
 rw [Qev hi] at hv
 rw [ZU, if_pos (.inr (.inr (.inr (.inr hv))))]
theorem YP {s : List UInt8} {i : Nat} (h : i < s.length) (hd : Z1 s[i] = false) : ZU s = (0, false) := by
 rw [ZU, if_pos (.inr (.inr (.inr (.inl (Yj h hd)))))]
theorem GG {s : List UInt8} (h : s.length < 1 \/ 9 < s.length) : ZU s = (0, false) := by
 rw [ZU, if_pos (by rcases h with h | h; exact .inl h; exact .inr (.inl h))]
theorem Yh {s : List UInt8} (h : 1 < s.length) (e : ((s[0]).toNat : Int) = 48) : ZU s = (0, false) := by
 rw [ZU, if_pos (.inr (.inr (.inl ⟨h, Qbm Wa e⟩)))]
end M3
namespace M3
open Go Go.Abs
theorem Qn (l : List (List UInt8)) : (YJ l).length = l.length := by simp [YJ]
theorem XC {l : List (List UInt8)} {i : Nat} (h : i < l.length) : (YJ l)[((i : Nat) : Int).toNat]? = some [.str l[i]] := by simp [YJ, h]
theorem JW {c : Int} : ∀ (s cur : List UInt8), (JA c s cur).length <= s.length + 1 /\ ∀ x ∈ JA c s cur, x.length <= s.length + cur.length
 | [], cur => by simp [JA]
 | x :: xs, cur => by
  simp only [JA]
  split
  ·obtain ⟨h1, h2⟩ := JW (c := c) xs []
   refine ⟨by simp; omega, fun y hy => ?_⟩
   rcases Qeh.1 hy with rfl | hy
   ·simp <;> omega
   ·have := h2 y hy; simp at this ⊢; omega
  ·obtain ⟨h1, h2⟩ := JW (c := c) xs (cur ++ [x])
   refine ⟨by simp; omega, fun y hy => ?_⟩
   have := h2 y hy; simp at this ⊢; omega
theorem Gm {s : List UInt8} {c : Int} : (QZ s c).length <= s.length + 1 := (JW s []).1
theorem XH {s : List UInt8} {c : Int} {i : Nat} (h : i < (QZ s c).length) (hl : s.length <= 1048576) : ((QZ s c)[i]).length <= 1048576 := by
 have := (JW (c := c) s []).2 _ (Qek h)
 simp only [List.length_nil, Nat.add_zero] at this
 exact Qey this hl
end M3
namespace M3
open Go Go.Abs
theorem H7 {s : List UInt8} {pre : Bool} {i : Nat} (hs : s ≠ []) (h : i < (QZ s 46).length) (hd : K7 pre (QZ s 46)[i] = false) : Jx s pre = false := by
 rw [Jx, Yj h hd]; simp [hs]
theorem Kr {s : List UInt8} {pre : Bool} {i : Nat} (h4 : (QZ s 46).length <= 4) (hi : (QZ s 46).length <= i) (h : ((QZ s 46).take i).all (K7 pre) = true) : Jx s pre = true := by
 rw [Jx, Y0 hi h]; simp [h4]
def ZL : List Int -> Int
 | [] => 0
 | x :: r => if x ≠ 0 then x else ZL r
theorem FS {l : List Int} {i : Nat} (h : i < l.length) (e : ¬ l[i] = 0) : ZL (l.drop i) = l[i] := by
 rw [Qew h]; simp [ZL, e]
theorem Pc {l : List Int} {i : Nat} (h : i < l.length) (e : l[i] = 0) : ZL (l.drop i) = ZL (l.drop (i + 1)) := by
 rw [Qew h]; simp [ZL, e]
end M3
namespace M3
open Go Go.Abs
structure Cu where
 e : Int
 a : Int
 b : Int
 c : Int
 p : List UInt8
 q : List UInt8
 f : Bool
def Yz (e a b c : Int) (p q : List UInt8) (f : Bool) : Bool :=
 if e = 0 then Kp a b c p q && decide (q = [])
 else (decide (e = -1) || decide (e = 1)) && (decide (a = 0) && (decide (b = 0) && (decide (c = 0) && (decide (p = []) && (decide (q = []) && true))))) && !f
def Z9 (e a b c : Int) (p q : List UInt8) (f : Bool) (e' a' b' c' : Int) (p' q' : List UInt8) (f' : Bool) : Int :=
 if Yz e a b c p q f = false \/ Yz e' a' b' c' p' q' f' = false then 0
 else if e ≠ e' \/ e ≠ 0 then ZG e e'
 else if KM a b c p q a' b' c' p' q' ≠ 0 then KM a b c p q a' b' c' p' q'
 else if f = f' then 0 else if f' = true then -1 else 1
def XV (e a b c : Int) (p q : List UInt8) (f : Bool) (a' b' c' : Int) (p' q' : List UInt8) : Bool :=
 if Yz e a b c p q f = false \/ Kp a' b' c' p' q' = false then false
 else if e ≠ 0 then decide (e < 0)
 else decide (KM a b c p q a' b' c' p' q' < 0) || (decide (KM a b c p q a' b' c' p' q' = 0) && !f)
end M3
namespace M3
def Kq (e a b c : Int) (p q : List UInt8) (f : Bool) (e' a' b' c' : Int) (p' q' : List UInt8) (f' : Bool) : Bool :=
 Yz e a b c p q f && Yz e' a' b' c' p' q' f' && decide (Z9 e a b c p q f e' a' b' c' p' q' f' < 0)
def Hd (e a b c : Int) (p q : List UInt8) (f : Bool) (e' a' b' c' : Int) (p' q' : List UInt8) (f' : Bool) (x y z : Int) (r s : List UInt8) : Bool :=
 Kq e a b c p q f e' a' b' c' p' q' f' && Kp x y z r s && XV e a b c p q f x y z r s && !XV e' a' b' c' p' q' f' x y z r s
end M3
namespace M3
open Go Go.Abs
theorem Jl {s : List UInt8} (h : s = [] \/ 4 < s.length) : ZU s = (0, false) := by
 rcases h with rfl | h
 ·rfl
 ·unfold ZU
  split
  ·rfl
  ·rename_i hn
   exfalso
   apply hn
   by_cases h1 : s.head? = some 48
   ·exact .inr (.inr (.inl ⟨Wa, h1⟩))
   ·cases hd : s.all Z1 with
    | false => exact .inr (.inr (.inr (.inl rfl)))
    | true =>
     refine .inr (.inr (.inr (.inr ?_)))
     cases s with
     | nil => simp at h
     | cons x r =>
      simp only [List.all_cons, Qej, Z1, decide_eq_true_eq] at hd
      simp only [List.head?_cons, Qei] at h1
      have hx : 1 <= x.toNat - 48 := by
       have : x.toNat ≠ 48 := fun e => h1 (UInt8.toNat_inj.1 (by simpa using e))
       omega
      have key : ∀ (r : List UInt8) (n : Nat), n * 10 ^ r.length <= r.foldl (fun n c => 10 * n + (c.toNat - 48)) n := by
       intro r
       induction r with
       | nil => intro n; simp
       | cons c r ih =>
        intro n
        simp only [List.foldl_cons, List.length_cons]
        refine Qey ?_ (ih _)
        rw [Nat.pow_succ, <- Nat.mul_assoc, Nat.mul_right_comm]
        exact Nat.mul_le_mul_right _ Wa
      have h2 := key r (10 * 0 + (x.toNat - 48))
      have h3 : 10 ^ 4 <= 10 ^ r.length := Nat.pow_le_pow_right Wa (by simp at h; omega)
      have h4 : 10 ^ r.length <= (10 * 0 + (x.toNat - 48)) * 10 ^ r.length := Nat.le_mul_of_pos_left _ Wa
      show 9999 < (x :: r).foldl (fun n c => 10 * n + (c.toNat - 48)) 0
      simp only [List.foldl_cons]
      omega
theorem Ks {s : List UInt8} {i : Nat} (h : ¬ (s = [] \/ 4 < s.length \/ (1 < s.length /\ s.head? = some 48))) (hi : s.length <= i) (ha : (s.take i).all Z1 = true) : ZU s = ((val (s.take i) : Int), true) := by
 have h1 := Y0 hi ha
 have hv := L4 h1
 have h4 : s.length <= 4 := Nat.le_of_not_lt fun q => h (.inr (.inl q))
 have hp : 10 ^ s.length <= 10 ^ 4 := Nat.pow_le_pow_right Wa h4
 refine F5 ?_ hi ha ?_
 ·rintro (q | q | q)
  ·exact h (.inl (List.eq_nil_of_length_eq_zero Wa))
  ·omega
  ·exact h (.inr (.inr q))
 ·rw [Qev hi]; omega
end M3
namespace M3
open Go Go.Abs
def He (s : List UInt8) : Bool := decide ((QZ s 46).length <= 4) && (QZ s 46).all J2
theorem BT {t : List UInt8} (h0 : ¬ t = []) (h8 : t.length <= 8) (h : t.all ZB = true) : J2 t = true := by
 have : 1 <= t.length := List.length_pos_iff.2 h0
 simp [J2, h, h8, this]
theorem YN {t : List UInt8} (h : t = [] \/ 8 < t.length) : J2 t = false := by
 rcases h with rfl | h
 ·rfl
 ·simp [J2]; omega
theorem YM {t : List UInt8} (h : t.all ZB = false) : J2 t = false := by simp [J2, h]
theorem ZE {s : List UInt8} {i : Nat} (h : i < (QZ s 46).length) (hd : J2 (QZ s 46)[i] = false) : He s = false := by
 rw [He, Yj h hd, Bool.and_false]
theorem Ys {s : List UInt8} {i : Nat} (hi : (QZ s 46).length <= i) (h : ((QZ s 46).take i).all J2 = true) : He s = decide ((QZ s 46).length <= 4) := by
 rw [He, Y0 hi h, Bool.and_true]
theorem Yo (s : List UInt8) : Jx s false = (decide (s = []) || He s) := by
 have : K7 false = J2 := by funext t; simp [K7]
 rw [Jx, He, this]
end M3
namespace M3
open Go Go.Abs
def G5 (t : List UInt8) : Bool := !(YB t && !(ZU t).2)
def Nw (s : List UInt8) : Bool := He s && (QZ s 46).all G5
theorem Rq {s : List UInt8} {i : Nat} (h : i < (QZ s 46).length) (hd : G5 (QZ s 46)[i] = false) : Nw s = false := by
 rw [Nw, Yj h hd, Bool.and_false]
theorem Mw {s : List UInt8} {i : Nat} (h1 : He s = true) (hi : (QZ s 46).length <= i) (h : ((QZ s 46).take i).all G5 = true) : Nw s = true := by
 rw [Nw, Y0 hi h, h1]; rfl
theorem YG (s : List UInt8) : Jx s true = (decide (s = []) || Nw s) := by
 have : K7 true = fun t => J2 t && G5 t := by funext t; simp [K7, G5]
 rw [Jx, Nw, He, this, Bool.and_assoc]
 congr 2
 induction (QZ s 46) with
 | nil => rfl
 | cons x xs ih => simp only [List.all_cons, ih]; cases J2 x <;> cases G5 x <;> simp
theorem NQ {a b : Int} : ZG a b = 0 ↔ a = b := by unfold ZG; (repeat' split) <;> omega
theorem HR {a b c : Int} {p q : List UInt8} {a' b' c' : Int} {p' q' : List UInt8} (h1 : Kp a b c p q = true) (h2 : Kp a' b' c' p' q' = true)
  (h : (decide (a = a') && (decide (b = b') && (decide (c = c') && (decide (p = p') && (decide (([] : List UInt8) = []) && true))))) = true) : KM a b c p q a' b' c' p' q' = 0 := by
 simp only [Qej, decide_eq_true_eq, and_true] at h
 obtain ⟨rfl, rfl, rfl, rfl⟩ := h
 have e : ∀ x, ZG x x = 0 := fun x => NQ.2 rfl
 simp [KM, h1, h2, e, Hv]
theorem JQ {a b c : Int} {p q : List UInt8} {a' b' c' : Int} {p' q' : List UInt8} (h1 : Kp a b c p q = true) (h2 : Kp a' b' c' p' q' = true)
  (h : ¬ ZL [ZG a a', ZG b b', ZG c c'] = 0) : ZL [ZG a a', ZG b b', ZG c c'] = KM a b c p q a' b' c' p' q' := by
 simp only [ZL, KM, h1, h2] at h ⊢
 simp only [Bool.true_eq_false, or_self, if_false]
 repeat' split
 all_goals first | rfl | (exfalso; simp_all)
theorem FM {a b c : Int} {p q : List UInt8} {a' b' c' : Int} {p' q' : List UInt8} (h1 : Kp a b c p q = true) (h2 : Kp a' b' c' p' q' = true) (h : ZL [ZG a a', ZG b b', ZG c c'] = 0) :
  KM a b c p q a' b' c' p' q' = Hv p p' := by
 simp only [ZL] at h
 simp only [KM, h1, h2, Bool.true_eq_false, or_self, if_false]
 repeat' split
 all_goals first | rfl | (exfalso; simp_all)
theorem CG {a b c : Int} {p : List UInt8} {a' b' c' : Int} {p' : List UInt8} (h : (decide (a = a') && (decide (b = b') && (decide (c = c') && (decide (p = p') && (decide (([] : List UInt8) = []) && true))))) = false)
  (h0 : ZL [ZG a a', ZG b b', ZG c c'] = 0) : p ≠ p' := by
 rintro rfl
 have e : ZG a a' = 0 /\ ZG b b' = 0 /\ ZG c c' = 0 := by
  simp only [ZL] at h0
  revert h0
  repeat' split
  all_goals simp_all
 simp only [NQ] at e
 simp [e] at h
theorem Xz {a b c : Int} {p q : List UInt8} {a' b' c' : Int} {p' q' : List UInt8} (h1 : Kp a b c p q = true) (h2 : Kp a' b' c' p' q' = true)
  (h : (decide (a = a') && (decide (b = b') && (decide (c = c') && (decide (p = p') && (decide (([] : List UInt8) = []) && true))))) = false)
  (h0 : ZL [ZG a a', ZG b b', ZG c c'] = 0) (hp : p = []) : KM a b c p q a' b' c' p' q' = 1 := by
 rw [FM h1 h2 h0, Hv, if_neg (CG h h0), if_pos hp]
theorem XA {a b c : Int} {p q : List UInt8} {a' b' c' : Int} {p' q' : List UInt8} (h1 : Kp a b c p q = true) (h2 : Kp a' b' c' p' q' = true)
  (h0 : ZL [ZG a a', ZG b b', ZG c c'] = 0) (hp : ¬ p = []) (hp' : p' = []) : KM a b c p q a' b' c' p' q' = -1 := by
 have : p ≠ p' := fun e => hp (e.trans hp')
 rw [FM h1 h2 h0, Hv, if_neg this, if_neg hp, if_pos hp']
theorem BG {a b c : Int} {p q : List UInt8} {a' b' c' : Int} {p' q' : List UInt8} (h1 : Kp a b c p q = true) (h2 : Kp a' b' c' p' q' = true)
  (h : (decide (a = a') && (decide (b = b') && (decide (c = c') && (decide (p = p') && (decide (([] : List UInt8) = []) && true))))) = false)
  (h0 : ZL [ZG a a', ZG b b', ZG c c'] = 0) (hp : ¬ p = []) (hp' : ¬ p' = []) : KM a b c p q a' b' c' p' q' = Sc ((QZ p 46).drop 0) ((QZ p' 46).drop 0) := by
 rw [FM h1 h2 h0, Hv, if_neg (CG h h0), if_neg hp, if_neg hp']; rfl
end M3
namespace M3
open Go Go.Abs
theorem Je {e a b c : Int} {p q : List UInt8} {f : Bool} {e' a' b' c' : Int} {p' q' : List UInt8} {f' : Bool} (h1 : Yz e a b c p q f = true) (h2 : Yz e' a' b' c' p' q' f' = true) (h : ¬ e = 0 \/ ¬ e' = 0) :
  Z9 e a b c p q f e' a' b' c' p' q' f' = ZG e e' := by
 rw [Z9, h1, h2, if_neg Wd, if_pos]
 by_cases h0 : e = 0
 ·exact .inl Wa
 ·exact .inr h0
end M3
namespace Go.Proofs
open Go Go.Abs M3
theorem Jq {n : Int} : Ok Tryd.prog 45 [.int .i64 n] (.bool (Mp n)) := by
 refine Ok.ofT Z5 Tryd.func45 Qds (Qeg Z) ?_
 show TW _ _ tf45.body _ _
 refine Qd fun K hK => Qa Z (kc1 hK Z ?_)
 refine Qd fun K hK => Qa Z (MU Z Z (Qa Z ?_))
 refine Qp (g := 5) Z (fun h1 => ?_) (fun h1 => ?_)
 ·try rw [h1]
  try simp only [qB] at h1
  refine Qc Z (Qa Z (Qc Z (RJ Z Z (Qf Z Z (Qa Z (kc1 hK Z ?_))))))
  refine Qq (Qh Z ?_)
  (repeat clear hK K); simp_all [Mp] <;> omega
 ·try rw [h1]
  try simp only [qB] at h1
  refine gn2 Z Z (Qf Z Z (Qa Z (kc1 hK Z ?_)))
  refine Qq (Qh Z ?_)
  (repeat clear hK K); simp_all [Mp] <;> omega
theorem YK {n : Int} : Ok Tryd.prog 77 [.int .i64 n] (.bool (Mp n)) := by
 refine Ok.ofT Z5 Tryd.func77 QdS (Qeg Z) ?_
 show TW _ _ tf77.body _ _
 refine Qd fun K hK => Qa Z (kc1 hK Z ?_)
 refine Qd fun K hK => Qa Z (MU Z Z (Qa Z ?_))
 refine Qp (g := 5) Z (fun h1 => ?_) (fun h1 => ?_)
 ·try rw [h1]
  try simp only [qB] at h1
  refine Qc Z (Qa Z (Qc Z (RJ Z Z (Qf Z Z (Qa Z (kc1 hK Z ?_))))))
  refine Qq (Qh Z ?_)
  (repeat clear hK K); simp_all [Mp] <;> omega
 ·try rw [h1]
  try simp only [qB] at h1
  refine gn2 Z Z (Qf Z Z (Qa Z (kc1 hK Z ?_)))
  refine Qq (Qh Z ?_)
  (repeat clear hK K); simp_all [Mp] <;> omega
theorem J9 {n : Int} : Ok Tryd.prog 66 [.int .i64 n] (.bool false) := by
 refine Ok.ofT Z5 Tryd.func66 QdI (Qeg Z) ?_
 show TW _ _ tf66.body _ _
 refine Qd fun K hK => Qa Z (kc1 hK Z ?_)
 refine Qd fun K hK => mv2 Z Z (Yw Z Z (Qa Z (kc1 hK Z ?_)))
 refine Qq (Qh Z ?_)
 (repeat clear hK K); simp_all
theorem Zo {m n : Int} : Ok Tryd.prog 71 [.int .i64 m, .int .i64 n] (.int .i64 (ZG m n)) := by
 refine Ok.ofT Z5 Tryd.func71 QdN (Qeg Z) ?_
 show TW _ _ tf71.body _ _
 refine Qd fun K hK => Qa Z (kc2 hK Z Z ?_)
 refine QC ?_ -- 0
 refine Qz (Qd fun K hK => mv2 Z Z (Z6 Z Z (Qa Z (kc3 hK Z Z Z ?_))))
 refine Qw Z (fun h1 => ?_) (fun h1 => ?_)
 ·try rw [h1]
  try simp only [qB] at h1
  refine Qd fun K hK => Qa Z (kc1 hK Z ?_)
  refine Qq (Qi (Qg (QA Z ?_)))
  (repeat clear hK K); simp_all [ZG] <;> omega
 ·try rw [h1]
  try simp only [qB] at h1
  refine Qd fun K hK => mv2 Z Z (YW Z Z (Qa Z (kc1 hK Z ?_)))
  refine Qw Z (fun h2 => ?_) (fun h2 => ?_)
  ·try rw [h2]
   try simp only [qB] at h2
   refine Qd fun K hK => Qa Z (kc1 hK Z ?_)
   refine Qq (Qi (Qg (QA Z ?_)))
   (repeat clear hK K); simp_all [ZG] <;> omega
  ·try rw [h2]
   try simp only [qB] at h2
   refine Qt (Qk (QG (QJ) (Qd fun K hK => Qa Z (kc1 hK Z ?_))))
   refine Qq (QA Z ?_)
   (repeat clear hK K); simp_all [ZG] <;> omega
theorem Zy {m n : Int} : Ok Tryd.prog 49 [.int .i64 m, .int .i64 n] (.int .i64 (ZG m n)) := by
 refine Ok.ofT Z5 Tryd.func49 Qdw (Qeg Z) ?_
 show TW _ _ tf49.body _ _
 refine Qd fun K hK => Qa Z (kc2 hK Z Z ?_)
 refine Qd fun K hK => Qa Z (QK (J9) Z Z (.inr Z) (Qa Z (kc3 hK Z Z Z ?_)))
 refine Qd fun K hK => Qa Z (QK (J9) Z Z (.inr Z) (Qa Z (kc4 hK Z Z Z Z ?_)))
 refine QC ?_ -- 0
 refine Qd fun K hK => Qa Z (kc4 hK Z Z Z Z ?_)
 refine Qw Z (fun h1 => ?_) (fun h1 => ?_)
 ·try rw [h1]
  try simp only [qB] at h1
  refine QC ?_ -- 1
  refine Qd fun K hK => Qa Z (kc1 hK Z ?_)
  refine Qw Z (fun h2 => ?_) (fun h2 => ?_)
  ·try rw [h2]
   try simp only [qB] at h2
   refine Qd fun K hK => Qa Z (kc1 hK Z ?_)
   refine Qq (Qg (Qg (QA Z ?_)))
   (repeat clear hK K); simp_all [ZG] <;> omega
  ·try rw [h2]
   try simp only [qB] at h2
   refine Qt (QG (QJ) (Qd fun K hK => Qa Z (kc1 hK Z ?_)))
   refine Qq (Qg (QA Z ?_))
   (repeat clear hK K); simp_all [ZG] <;> omega
 ·try rw [h1]
  try simp only [qB] at h1
  refine Qt (ks3 Z Z Z ?_)
  refine QC ?_ -- 2
  refine Qd fun K hK => Qa Z (kc3 hK Z Z Z ?_)
  refine Qw Z (fun h3 => ?_) (fun h3 => ?_)
  ·try rw [h3]
   try simp only [qB] at h3
   refine Qd fun K hK => Qa Z (kc1 hK Z ?_)
   refine Qq (Qg (QA Z ?_))
   (repeat clear hK K); simp_all [ZG] <;> omega
  ·try rw [h3]
   try simp only [qB] at h3
   refine Qt (ks2 Z Z ?_)
   refine QC ?_ -- 3
   refine Qd fun K hK => mv2 Z Z (Z6 Z Z (kc3 hK Z Z Z ?_))
   refine Qw Z (fun h4 => ?_) (fun h4 => ?_)
   ·try rw [h4]
    try simp only [qB] at h4
    refine Qd fun K hK => Qa Z (kc1 hK Z ?_)
    refine Qq (Qg (QA Z ?_))
    (repeat clear hK K); simp_all [ZG] <;> omega
   ·try rw [h4]
    try simp only [qB] at h4
    refine Qt (ks2 Z Z ?_)
    refine QC ?_ -- 4
    refine Qd fun K hK => mv2 Z Z (YW Z Z (kc1 hK Z ?_))
    refine Qw Z (fun h5 => ?_) (fun h5 => ?_)
    ·try rw [h5]
     try simp only [qB] at h5
     refine Qd fun K hK => Qa Z (kc1 hK Z ?_)
     refine Qq (Qg (QA Z ?_))
     (repeat clear hK K); simp_all [ZG] <;> omega
    ·try rw [h5]
     try simp only [qB] at h5
     refine Qt (QG (QJ) (Qd fun K hK => Qa Z (kc1 hK Z ?_)))
     refine Qq (QA Z ?_)
     (repeat clear hK K); simp_all [ZG] <;> omega
theorem _root_.Wj {p : Prop} (h : p := by simp [Z1]; omega) : p := h
theorem _root_.Wb {p : Prop} (h : p := by first | exact Qu (by omega) (by omega) | exact QD (by omega) (by omega) | exact QL (by omega) (by omega) | rfl) : p := h
theorem Y3 {s : List UInt8} (hl : s.length <= 1048576) : Ok Tryd.prog 65 [.str s] (.bool (YB s)) := by
 refine Ok.ofT Z5 Tryd.func65 QdH (Qeg Z) ?_
 show TW _ _ tf65.body _ _
 refine Qd fun K hK => Qa Z (kc1 hK Z ?_)
 refine QC ?_ -- 0
 refine Qd fun K hK => Qa Z (ZK Z (Qa Z (kc3 hK Z Z Z ?_)))
 refine Qz ?_
 refine Zh (ι := Nat) (fun i => ⟨[(0, .str s), (5, .int .i64 s.length), (6, .int .i64 i)], []⟩) (fun i => i <= s.length /\ (s.take i).all Z1 = true) (fun i => s.length - i) 0 ?_ ?_ ?_
 ·exact Q5 (kp3 rfl rfl rfl)
 ·exact ⟨Qer _, rfl⟩
 intro i hI
 try dsimp only
 refine Qd fun K hK => Z6 Z Z (kc4 hK Z Z Z Z ?_)
 refine QC ?_ -- 1
 refine Qw Z (fun h1 => ?_) (fun h1 => ?_)
 ·try rw [h1]
  try simp only [qB] at h1
  refine Qt (ks3 Z Z Z ?_)
  refine QC ?_ -- 2
  refine Qz (Qd fun K hK => mv2 Z Z (kc4 hK Z Z Z Z ?_))
  refine Qd fun K hK => mv2 Z Z (ZY Z Z Wa (Ki Wa) (Z6 Z Z (Qa Z ?_)))
  refine Qp (g := 13) Z (fun h2 => ?_) (fun h2 => ?_)
  ·try rw [h2]
   try simp only [qB] at h2
   refine gn4 Z Z Z Z (Qf Z Z (kc4 hK Z Z Z Z ?_))
   refine QY Z (Qd fun K hK => Qa Z (kc1 hK Z ?_))
   refine Qq (Qi (Qg (QB (Qi (Qg (Qh Z ?_))))))
   exact (KN (i := i) Wa Wj).symm
  ·try rw [h2]
   try simp only [qB] at h2
   refine Qc Z (Qa Z (Qc Z (Qa Z (Qc Z (ZY Z Z Wa (Ki Wa) (Qc Z (YW Z Z (Qf Z Z (kc4 hK Z Z Z Z ?_)))))))))
   refine Qw Z (fun h3 => ?_) (fun h3 => ?_)
   ·try rw [h3]
    try simp only [qB] at h3
    refine Qd fun K hK => Qa Z (kc1 hK Z ?_)
    refine Qq (Qi (Qg (QB (Qi (Qg (Qh Z ?_))))))
    exact (KN (i := i) Wa Wj).symm
   ·try rw [h3]
    try simp only [qB] at h3
    refine Qt (Qk (ks3 Z Z Z (QU fun K hK => Zb Z Z Wb (Qa Z (hK _ ?_)))))
    refine Ql (i + 1) ?_ ?_ ?_
    ·exact Q5 (kp3 rfl rfl rfl)
    ·exact ⟨Wa, Q3 Wa hI.2 Wj⟩
    ·first | omega | (simp only; omega) | (dsimp only; omega)
 ·try rw [h1]
  try simp only [qB] at h1
  refine Q4 (QF (Qx (QE (ks1 Z (Qd fun K hK => Qa Z (PU Z Z (Qa Z (kc1 hK Z ?_))))))))
  refine Qq (Qh Z ?_)
  exact (F6 (i := i) Wa hI.2).symm
theorem Yx {s : List UInt8} {c : Int} (hl : s.length <= 1048576) : Ok Tryd.prog 80 [.str s, .int .u8 c] (.sl (YJ (QZ s c))) := by
 refine Ok.ofT Z5 Tryd.func80 QdV (Qeg Z) ?_
 show TW _ _ tf80.body _ _
 refine Qd fun K hK => Qa Z (kc2 hK Z Z ?_)
 refine Qd fun K hK => Qa Z (kc3 hK Z Z Z ?_)
 refine Qd fun K hK => Qa Z (kc4 hK Z Z Z Z ?_)
 refine QC ?_ -- 0
 refine Qd fun K hK => Qa Z (kc5 hK Z Z Z Z Z ?_)
 refine Qz ?_
 refine Zh (ι := Nat × Nat × List (List UInt8)) (fun ⟨i, k, acc⟩ => ⟨[(0, .str s), (1, .int .u8 c), (5, .osl 25 acc.length), (6, .int .i64 k), (7, .int .i64 i)], [(25, ⟨YJ acc, 1, 9, true⟩)]⟩) (fun ⟨i, k, acc⟩ => SplitI s c i k acc) (fun ⟨i, k, acc⟩ => s.length - i) (0, 0, []) ?_ ?_ ?_
 ·exact le_trans (H4 5 25 1 9 rfl rfl) (QT (l := [0, 1, 5, 6, 7]) (lH := [25]) (kp5 rfl rfl rfl rfl rfl) (Qb rfl Qj) rfl rfl rfl)
 ·exact SplitI.zero
 intro ⟨i, k, acc⟩ hI
 have hI1 := hI.1
 have hI2 := hI.2.1
 have hI3 := hI.2.2.1
 try dsimp only
 refine QC ?_ -- 1
 refine Qd fun K hK => mv2 Z Z (ZK Z (Z6 Z Z (kc6 hK Z Z Z Z Z Z ?_)))
 refine Qw Z (fun h1 => ?_) (fun h1 => ?_)
 ·try rw [h1]
  try simp only [qB] at h1
  refine Qt (ks5 Z Z Z Z Z ?_)
  refine QC ?_ -- 2
  refine Qz (Qd fun K hK => mv2 Z Z (ZY Z Z Wa (Ki Wa) (Qa Z (Xd Z Z (kc6 hK Z Z Z Z Z Z ?_)))))
  refine Qw Z (fun h2 => ?_) (fun h2 => ?_)
  ·try rw [h2]
   try simp only [qB] at h2
   refine Qd fun K hK => mv2 Z Z (mv2 Z Z (KC Z Z Z Wa Wa Wa Z (Zl Z Z (J5 Z Z (fun _ h => Gn Z Z Z h) Z (by simp [YJ]) Z Z Z Wh Wh (Qa Z (kc4 hK Z Z Z Z ?_))))))
   refine QU fun K hK => Qa Z (Zb Z Z Wb (Qa Z (hK _ ?_)))
   refine Qk (ks5 Z Z Z Z Z (QU fun K hK => Qa Z (Zb Z Z Wb (Qa Z (hK _ ?_)))))
   refine Ql (i + 1, i + 1, acc ++ [(s.take i).drop k]) ?_ ?_ ?_
   ·exact QT (l := [0, 1, 5, 6, 7]) (lH := [25]) (kp5 rfl rfl rfl rfl rfl) (Qb rfl Qj) (by simp [YJ, D.scrub]) (by simp [YJ, Box.scrub]) rfl
   ·exact hI.hit Wa Wc
   ·show s.length - (i + 1) < s.length - i; omega
  ·try rw [h2]
   try simp only [qB] at h2
   refine Qt (Qk (ks5 Z Z Z Z Z (QU fun K hK => Qa Z (Zb Z Z Wb (Qa Z (hK _ ?_))))))
   refine Ql (i + 1, k, acc) ?_ ?_ ?_
   ·exact QT (l := [0, 1, 5, 6, 7]) (lH := [25]) (kp5 rfl rfl rfl rfl rfl) (Qb rfl Qj) (by simp [YJ, D.scrub]) (by simp [YJ, Box.scrub]) rfl
   ·exact hI.miss Wa Wc
   ·show s.length - (i + 1) < s.length - i; omega
 ·try rw [h1]
  try simp only [qB] at h1
  refine Q4 (QF (Qx (QE (ks3 Z Z Z (Qd fun K hK => mv2 Z Z (Qa Z (KC Z Z Z Wa Wa Wa Z (Zl Z Z (J5 Z Z (fun _ h => Gn Z Z Z h) Z (by simp [YJ]) Z Z Z Wh Wh ?_)))))))))
  refine Qa Z (kc1 hK Z ?_)
  refine Qq (F9 Z ?_)
  rw [hI.done Wa]; simp [JM, D.fz, D.fzS, Nn, lk, D.can, D.canS, YJ]
theorem Xw {s : List UInt8} {c : Int} (hl : s.length <= 1048576) : Ok Tryd.prog 50 [.str s, .int .u8 c] (.sl (YJ (QZ s c))) := by
 refine Ok.ofT Z5 Tryd.func50 Qdx (Qeg Z) ?_
 show TW _ _ tf50.body _ _
 refine Qd fun K hK => Qa Z (kc2 hK Z Z ?_)
 refine Qd fun K hK => Qa Z (kc3 hK Z Z Z ?_)
 refine Qd fun K hK => Qa Z (kc4 hK Z Z Z Z ?_)
 refine QC ?_ -- 0
 refine Qd fun K hK => Qa Z (ZK Z (Qa Z (kc6 hK Z Z Z Z Z Z ?_)))
 refine Qz ?_
 refine Zh (ι := Nat × Nat × List (List UInt8)) (fun ⟨i, k, acc⟩ => ⟨[(0, .str s), (1, .int .u8 c), (5, .osl 24 acc.length), (6, .int .i64 k), (9, .int .i64 s.length), (10, .int .i64 i)], [(24, ⟨YJ acc, 1, 9, true⟩)]⟩) (fun ⟨i, k, acc⟩ => SplitI s c i k acc) (fun ⟨i, k, acc⟩ => s.length - i) (0, 0, []) ?_ ?_ ?_
 ·exact le_trans (H4 5 24 1 9 rfl rfl) (QT (l := [0, 1, 5, 6, 9, 10]) (lH := [24]) (kp6 rfl rfl rfl rfl rfl rfl) (Qb rfl Qj) rfl rfl rfl)
 ·exact SplitI.zero
 intro ⟨i, k, acc⟩ hI
 have hI1 := hI.1
 have hI2 := hI.2.1
 have hI3 := hI.2.2.1
 try dsimp only
 refine Qd fun K hK => Z6 Z Z (kc7 hK Z Z Z Z Z Z Z ?_)
 refine QC ?_ -- 1
 refine Qw Z (fun h1 => ?_) (fun h1 => ?_)
 ·try rw [h1]
  try simp only [qB] at h1
  refine Qt (ks6 Z Z Z Z Z Z ?_)
  refine QC ?_ -- 2
  refine Qz (Qd fun K hK => mv2 Z Z (kc7 hK Z Z Z Z Z Z Z ?_))
  refine Qd fun K hK => mv2 Z Z (ZY Z Z Wa (Ki Wa) (Qa Z (Xd Z Z (kc8 hK Z Z Z Z Z Z Z Z ?_))))
  refine Qw Z (fun h2 => ?_) (fun h2 => ?_)
  ·try rw [h2]
   try simp only [qB] at h2
   refine Qd fun K hK => mv2 Z Z (mv2 Z Z (KC Z Z Z Wa Wa Wa Z (Zl Z Z (J5 Z Z (fun _ h => Gn Z Z Z h) Z (by simp [YJ]) Z Z Z Wh Wh (Qa Z (kc6 hK Z Z Z Z Z Z ?_))))))
   refine QU fun K hK => Qa Z (Zb Z Z Wb (Qa Z (hK _ ?_)))
   refine Qk (ks6 Z Z Z Z Z Z (QU fun K hK => Zb Z Z Wb (Qa Z (hK _ ?_))))
   refine Ql (i + 1, i + 1, acc ++ [(s.take i).drop k]) ?_ ?_ ?_
   ·exact QT (l := [0, 1, 5, 6, 9, 10]) (lH := [24]) (kp6 rfl rfl rfl rfl rfl rfl) (Qb rfl Qj) (by simp [YJ, D.scrub]) (by simp [YJ, Box.scrub]) rfl
   ·exact hI.hit Wa Wc
   ·show s.length - (i + 1) < s.length - i; omega
  ·try rw [h2]
   try simp only [qB] at h2
   refine Qt (Qk (ks6 Z Z Z Z Z Z (QU fun K hK => Zb Z Z Wb (Qa Z (hK _ ?_)))))
   refine Ql (i + 1, k, acc) ?_ ?_ ?_
   ·exact QT (l := [0, 1, 5, 6, 9, 10]) (lH := [24]) (kp6 rfl rfl rfl rfl rfl rfl) (Qb rfl Qj) (by simp [YJ, D.scrub]) (by simp [YJ, Box.scrub]) rfl
   ·exact hI.miss Wa Wc
   ·show s.length - (i + 1) < s.length - i; omega
 ·try rw [h1]
  try simp only [qB] at h1
  refine Q4 (QF (Qx (QE (ks3 Z Z Z (Qd fun K hK => mv2 Z Z (Qa Z (KC Z Z Z Wa Wa Wa Z (Zl Z Z (J5 Z Z (fun _ h => Gn Z Z Z h) Z (by simp [YJ]) Z Z Z Wh Wh ?_)))))))))
  refine Qa Z (kc1 hK Z ?_)
  refine Qq (F9 Z ?_)
  rw [hI.done Wa]; simp [JM, D.fz, D.fzS, Nn, lk, D.can, D.canS, YJ]
open Go Go.Abs M3
theorem Jc {s : List UInt8} : Ok Tryd.prog 63 [.str s] (.bool false) := by
 refine Ok.ofT Z5 Tryd.func63 QdF (Qeg Z) ?_
 show TW _ _ tf63.body _ _
 refine Qd fun K hK => Qa Z (kc1 hK Z ?_)
 refine Qd fun K hK => mv2 Z Z (PU Z Z (Qa Z (kc1 hK Z ?_)))
 refine Qq (Qh Z ?_)
 simp
theorem ZW {a b : List UInt8} : Ok Tryd.prog 44 [.str a, .str b] (.int .i64 (YO a b)) := by
 refine Ok.ofT Z5 Tryd.func44 Qdr (Qeg Z) ?_
 show TW _ _ tf44.body _ _
 refine Qd fun K hK => Qa Z (kc2 hK Z Z ?_)
 refine Qd fun K hK => Qa Z (QK (Jc) Z Z (.inr Z) (Qa Z (kc3 hK Z Z Z ?_)))
 refine Qd fun K hK => Qa Z (QK (Jc) Z Z (.inr Z) (Qa Z (kc4 hK Z Z Z Z ?_)))
 refine QC ?_ -- 0
 refine Qd fun K hK => Qa Z (kc4 hK Z Z Z Z ?_)
 refine Qw Z (fun h1 => ?_) (fun h1 => ?_)
 ·try rw [h1]
  try simp only [qB] at h1
  refine QC ?_ -- 1
  refine Qd fun K hK => Qa Z (kc1 hK Z ?_)
  refine Qw Z (fun h2 => ?_) (fun h2 => ?_)
  ·try rw [h2]
   try simp only [qB] at h2
   refine Qd fun K hK => Qa Z (kc1 hK Z ?_)
   refine Qq (Qg (Qg (QA Z ?_)))
   (repeat clear hK K); simp_all [YO]
  ·try rw [h2]
   try simp only [qB] at h2
   refine Qt (QG (QJ) (Qd fun K hK => Qa Z (kc1 hK Z ?_)))
   refine Qq (Qg (QA Z ?_))
   (repeat clear hK K); simp_all [YO]
 ·try rw [h1]
  try simp only [qB] at h1
  refine Qt (ks3 Z Z Z ?_)
  refine QC ?_ -- 2
  refine Qd fun K hK => Qa Z (kc3 hK Z Z Z ?_)
  refine Qw Z (fun h3 => ?_) (fun h3 => ?_)
  ·try rw [h3]
   try simp only [qB] at h3
   refine Qd fun K hK => Qa Z (kc1 hK Z ?_)
   refine Qq (Qg (QA Z ?_))
   (repeat clear hK K); simp_all [YO]
  ·try rw [h3]
   try simp only [qB] at h3
   refine Qt (ks2 Z Z ?_)
   refine QC ?_ -- 3
   refine Qd fun K hK => mv2 Z Z (Dl Z Z (kc3 hK Z Z Z ?_))
   refine Qw Z (fun h4 => ?_) (fun h4 => ?_)
   ·try rw [h4]
    try simp only [qB] at h4
    refine Qd fun K hK => Qa Z (kc1 hK Z ?_)
    refine Qq (Qg (QA Z ?_))
    (repeat clear hK K); simp_all [YO]
   ·try rw [h4]
    try simp only [qB] at h4
    refine Qt (ks2 Z Z ?_)
    refine QC ?_ -- 4
    refine Qd fun K hK => mv2 Z Z (QaS Z Z (kc1 hK Z ?_))
    refine Qw Z (fun h5 => ?_) (fun h5 => ?_)
    ·try rw [h5]
     try simp only [qB] at h5
     refine Qd fun K hK => Qa Z (kc1 hK Z ?_)
     refine Qq (Qg (QA Z ?_))
     (repeat clear hK K); simp_all [YO]
    ·try rw [h5]
     try simp only [qB] at h5
     refine Qt (QG (QJ) (Qd fun K hK => Qa Z (kc1 hK Z ?_)))
     refine Qq (QA Z ?_)
     (repeat clear hK K); simp_all [YO]
theorem KY {a b : List UInt8} : Ok Tryd.prog 91 [.str a, .str b] (.int .i64 (YO a b)) := by
 refine Ok.ofT Z5 Tryd.func91 Qd5 (Qeg Z) ?_
 show TW _ _ tf91.body _ _
 refine Qd fun K hK => Qa Z (kc2 hK Z Z ?_)
 refine QC ?_ -- 0
 refine Qz (Qd fun K hK => mv2 Z Z (Dl Z Z (Qa Z (kc3 hK Z Z Z ?_))))
 refine Qw Z (fun h1 => ?_) (fun h1 => ?_)
 ·try rw [h1]
  try simp only [qB] at h1
  refine Qd fun K hK => Qa Z (kc1 hK Z ?_)
  refine Qq (Qi (Qg (QA Z ?_)))
  (repeat clear hK K); simp_all [YO]
 ·try rw [h1]
  try simp only [qB] at h1
  refine Qd fun K hK => mv2 Z Z (QaS Z Z (Qa Z (kc1 hK Z ?_)))
  refine Qw Z (fun h2 => ?_) (fun h2 => ?_)
  ·try rw [h2]
   try simp only [qB] at h2
   refine Qd fun K hK => Qa Z (kc1 hK Z ?_)
   refine Qq (Qi (Qg (QA Z ?_)))
   (repeat clear hK K); simp_all [YO]
  ·try rw [h2]
   try simp only [qB] at h2
   refine Qt (Qk (QG (QJ) (Qd fun K hK => Qa Z (kc1 hK Z ?_))))
   refine Qq (QA Z ?_)
   (repeat clear hK K); simp_all [YO]
theorem KW {c : Int} : Ok Tryd.prog 95 [.int .u8 c] (.bool (Xi c)) := by
 refine Ok.ofT Z5 Tryd.func95 Qd8 (Qeg Z) ?_
 show TW _ _ tf95.body _ _
 refine Qd fun K hK => Qa Z (kc1 hK Z ?_)
 refine Qd fun K hK => Qa Z (MU Z Z (Qa Z ?_))
 refine Qp (g := 5) Z (fun h1 => ?_) (fun h1 => ?_)
 ·try rw [h1]
  try simp only [qB] at h1
  refine Qc Z (Qa Z (Qc Z (RJ Z Z (Qf Z Z (Qa Z (kc1 hK Z ?_))))))
  refine Qq (Qh Z ?_)
  (repeat clear hK K); simp_all [Xi] <;> omega
 ·try rw [h1]
  try simp only [qB] at h1
  refine gn2 Z Z (Qf Z Z (Qa Z (kc1 hK Z ?_)))
  refine Qq (Qh Z ?_)
  (repeat clear hK K); simp_all [Xi] <;> omega
theorem Yb {s : List UInt8} (hl : s.length <= 1048576) : Ok Tryd.prog 88 [.str s] (.bool (YB s)) := by
 refine Ok.ofT Z5 Tryd.func88 Qd2 (Qeg Z) ?_
 show TW _ _ tf88.body _ _
 refine Qd fun K hK => Qa Z (kc1 hK Z ?_)
 refine QC ?_ -- 0
 refine Qd fun K hK => Qa Z (kc2 hK Z Z ?_)
 refine Qz ?_
 refine Zh (ι := Nat) (fun i => ⟨[(0, .str s), (3, .int .i64 i)], []⟩) (fun i => i <= s.length /\ (s.take i).all Z1 = true) (fun i => s.length - i) 0 ?_ ?_ ?_
 ·exact Q5 (kp2 rfl rfl)
 ·exact ⟨Qer _, rfl⟩
 intro i hI
 try dsimp only
 refine QC ?_ -- 1
 refine Qd fun K hK => mv2 Z Z (ZK Z (Z6 Z Z (kc3 hK Z Z Z ?_)))
 refine Qw Z (fun h1 => ?_) (fun h1 => ?_)
 ·try rw [h1]
  try simp only [qB] at h1
  refine Qt (ks2 Z Z ?_)
  refine QC ?_ -- 2
  refine Qz (Qd fun K hK => mv2 Z Z (ZY Z Z Wa (Ki Wa) (Z6 Z Z (Qa Z ?_))))
  refine Qp (g := 14) Z (fun h2 => ?_) (fun h2 => ?_)
  ·try rw [h2]
   try simp only [qB] at h2
   refine gn4 Z Z Z Z (Qf Z Z (kc3 hK Z Z Z ?_))
   refine QY Z (Qd fun K hK => Qa Z (kc1 hK Z ?_))
   refine Qq (Qi (Qg (QB (Qi (Qg (Qh Z ?_))))))
   exact (KN (i := i) Wa Wj).symm
  ·try rw [h2]
   try simp only [qB] at h2
   refine Qc Z (Qa Z (Qc Z (Qa Z (Qc Z (ZY Z Z Wa (Ki Wa) (Qc Z (YW Z Z (Qf Z Z (kc3 hK Z Z Z ?_)))))))))
   refine Qw Z (fun h3 => ?_) (fun h3 => ?_)
   ·try rw [h3]
    try simp only [qB] at h3
    refine Qd fun K hK => Qa Z (kc1 hK Z ?_)
    refine Qq (Qi (Qg (QB (Qi (Qg (Qh Z ?_))))))
    exact (KN (i := i) Wa Wj).symm
   ·try rw [h3]
    try simp only [qB] at h3
    refine Qt (Qk (ks2 Z Z (QU fun K hK => Qa Z (Zb Z Z Wb (Qa Z (hK _ ?_))))))
    refine Ql (i + 1) ?_ ?_ ?_
    ·exact Q5 (kp2 rfl rfl)
    ·exact ⟨Wa, Q3 Wa hI.2 Wj⟩
    ·first | omega | (simp only; omega) | (dsimp only; omega)
 ·try rw [h1]
  try simp only [qB] at h1
  refine Q4 (QF (Qx (QE (ks1 Z (Qd fun K hK => Qa Z (ZK Z (YW Z Z (Qa Z (kc1 hK Z ?_)))))))))
  refine Qq (Qh Z ?_)
  rw [F6 (i := i) Wa hI.2]; cases s <;> simp
theorem _root_.Wg {p : Prop} (h : p := by simp [ZB]; omega) : p := h
theorem HI {s : List UInt8} (hl : s.length <= 1048576) : Ok Tryd.prog 86 [.str s] (.bool (J2 s)) := by
 refine Ok.ofT Z5 Tryd.func86 Qd0 (Qeg Z) ?_
 show TW _ _ tf86.body _ _
 refine Qd fun K hK => Qa Z (kc1 hK Z ?_)
 refine QC ?_ -- 0
 refine Qd fun K hK => Qa Z (ZK Z (Z6 Z Z (Qa Z ?_)))
 refine Qp (g := 8) Z (fun h1 => ?_) (fun h1 => ?_)
 ·try rw [h1]
  try simp only [qB] at h1
  refine gn3 Z Z Z (Qf Z Z (kc2 hK Z Z ?_))
  refine QY Z (Qd fun K hK => Qa Z (kc1 hK Z ?_))
  refine Qq (Qg (Qh Z ?_))
  first | (have hz := Y0 (p := ZB) (s := s) (i := i) Wa hI.2; simp [J2, hz]; omega) | (have hz := Yj (p := ZB) (s := s) (i := i) Wa Wg; simp [J2, hz]; done) | (simp [J2]; omega)
 ·try rw [h1]
  try simp only [qB] at h1
  refine Qc Z (Qa Z (Qc Z (ZK Z (Qc Z (YW Z Z (Qf Z Z (kc2 hK Z Z ?_)))))))
  refine Qw Z (fun h2 => ?_) (fun h2 => ?_)
  ·try rw [h2]
   try simp only [qB] at h2
   refine Qd fun K hK => Qa Z (kc1 hK Z ?_)
   refine Qq (Qg (Qh Z ?_))
   first | (have hz := Y0 (p := ZB) (s := s) (i := i) Wa hI.2; simp [J2, hz]; omega) | (have hz := Yj (p := ZB) (s := s) (i := i) Wa Wg; simp [J2, hz]; done) | (simp [J2]; omega)
  ·try rw [h2]
   try simp only [qB] at h2
   refine Qt (ks1 Z ?_)
   refine QC ?_ -- 1
   refine Qd fun K hK => Qa Z (kc2 hK Z Z ?_)
   refine Qz ?_
   refine Zh (ι := Nat) (fun i => ⟨[(0, .str s), (3, .int .i64 i)], []⟩) (fun i => i <= s.length /\ (s.take i).all ZB = true) (fun i => s.length - i) 0 ?_ ?_ ?_
   ·exact Q5 (kp2 rfl rfl)
   ·exact ⟨Qer _, rfl⟩
   intro i hI
   try dsimp only
   refine QC ?_ -- 2
   refine Qd fun K hK => mv2 Z Z (ZK Z (Z6 Z Z (kc3 hK Z Z Z ?_)))
   refine Qw Z (fun h3 => ?_) (fun h3 => ?_)
   ·try rw [h3]
    try simp only [qB] at h3
    refine Qt (ks2 Z Z ?_)
    refine QC ?_ -- 3
    refine Qz (Qd fun K hK => mv2 Z Z (ZY Z Z Wa (Ki Wa) (Qa Z (kc3 hK Z Z Z ?_))))
    refine Qd fun K hK => Qa Z (Z6 Z Z (Qa Z ?_))
    refine Qp (g := 24) Z (fun h4 => ?_) (fun h4 => ?_)
    ·try rw [h4]
     try simp only [qB] at h4
     refine gn2 Z Z (Qf Z Z (Qa Z (Qc Z (Qa Z (Qc Z (Z6 Z Z (Qc Z (Qa Z ?_))))))))
     refine Qp (g := 31) Z (fun h5 => ?_) (fun h5 => ?_)
     ·try rw [h5]
      try simp only [qB] at h5
      refine gn2 Z Z (Qc Z (Qf Z Z (Qf Z Z (Qa Z (Qc Z (Qa Z (Qc Z (Yw Z Z (Qf Z Z (kc3 hK Z Z Z ?_))))))))))
      refine Qw Z (fun h6 => ?_) (fun h6 => ?_)
      ·try rw [h6]
       try simp only [qB] at h6
       refine Qd fun K hK => Qa Z (kc1 hK Z ?_)
       refine Qq (Qi (Qg (QB (Qi (Qg (Qh Z ?_))))))
       first | (have hz := Y0 (p := ZB) (s := s) (i := i) Wa hI.2; simp [J2, hz]; omega) | (have hz := Yj (p := ZB) (s := s) (i := i) Wa Wg; simp [J2, hz]; done) | (simp [J2]; omega)
      ·try rw [h6]
       try simp only [qB] at h6
       refine Qt (Qk (ks2 Z Z (QU fun K hK => Qa Z (Zb Z Z Wb (Qa Z (hK _ ?_))))))
       refine Ql (i + 1) ?_ ?_ ?_
       ·exact Q5 (kp2 rfl rfl)
       ·exact ⟨Wa, Q3 Wa hI.2 Wg⟩
       ·first | omega | (simp only; omega) | (dsimp only; omega)
     ·try rw [h5]
      try simp only [qB] at h5
      refine Qc Z (Qa Z (Qc Z (YW Z Z (Qc Z (Qf Z Z (Qf Z Z (Qa Z ?_)))))))
      refine Qp (g := 36) Z (fun h7 => ?_) (fun h7 => ?_)
      ·try rw [h7]
       try simp only [qB] at h7
       refine Qc Z (Qa Z (Qc Z (Yw Z Z (Qf Z Z (kc3 hK Z Z Z ?_)))))
       refine Qw Z (fun h8 => ?_) (fun h8 => ?_)
       ·try rw [h8]
        try simp only [qB] at h8
        refine Qd fun K hK => Qa Z (kc1 hK Z ?_)
        refine Qq (Qi (Qg (QB (Qi (Qg (Qh Z ?_))))))
        first | (have hz := Y0 (p := ZB) (s := s) (i := i) Wa hI.2; simp [J2, hz]; omega) | (have hz := Yj (p := ZB) (s := s) (i := i) Wa Wg; simp [J2, hz]; done) | (simp [J2]; omega)
       ·try rw [h8]
        try simp only [qB] at h8
        refine Qt (Qk (ks2 Z Z (QU fun K hK => Qa Z (Zb Z Z Wb (Qa Z (hK _ ?_))))))
        refine Ql (i + 1) ?_ ?_ ?_
        ·exact Q5 (kp2 rfl rfl)
        ·exact ⟨Wa, Q3 Wa hI.2 Wg⟩
        ·first | omega | (simp only; omega) | (dsimp only; omega)
      ·try rw [h7]
       try simp only [qB] at h7
       refine gn2 Z Z (Qf Z Z (kc3 hK Z Z Z ?_))
       refine Ze Z (Qt (Qk (ks2 Z Z (QU fun K hK => Qa Z (Zb Z Z Wb (Qa Z (hK _ ?_)))))))
       refine Ql (i + 1) ?_ ?_ ?_
       ·exact Q5 (kp2 rfl rfl)
       ·exact ⟨Wa, Q3 Wa hI.2 Wg⟩
       ·first | omega | (simp only; omega) | (dsimp only; omega)
    ·try rw [h4]
     try simp only [qB] at h4
     refine Qc Z (Qa Z (Qc Z (YW Z Z (Qf Z Z (Qa Z ?_)))))
     refine Qp (g := 28) Z (fun h9 => ?_) (fun h9 => ?_)
     ·try rw [h9]
      try simp only [qB] at h9
      refine Qc Z (Qa Z (Qc Z (Z6 Z Z (Qc Z (Qa Z ?_)))))
      refine Qp (g := 31) Z (fun h10 => ?_) (fun h10 => ?_)
      ·try rw [h10]
       try simp only [qB] at h10
       refine gn2 Z Z (Qc Z (Qf Z Z (Qf Z Z (Qa Z (Qc Z (Qa Z (Qc Z (Yw Z Z (Qf Z Z (kc3 hK Z Z Z ?_))))))))))
       refine Qw Z (fun h11 => ?_) (fun h11 => ?_)
       ·try rw [h11]
        try simp only [qB] at h11
        refine Qd fun K hK => Qa Z (kc1 hK Z ?_)
        refine Qq (Qi (Qg (QB (Qi (Qg (Qh Z ?_))))))
        first | (have hz := Y0 (p := ZB) (s := s) (i := i) Wa hI.2; simp [J2, hz]; omega) | (have hz := Yj (p := ZB) (s := s) (i := i) Wa Wg; simp [J2, hz]; done) | (simp [J2]; omega)
       ·try rw [h11]
        try simp only [qB] at h11
        refine Qt (Qk (ks2 Z Z (QU fun K hK => Qa Z (Zb Z Z Wb (Qa Z (hK _ ?_))))))
        refine Ql (i + 1) ?_ ?_ ?_
        ·exact Q5 (kp2 rfl rfl)
        ·exact ⟨Wa, Q3 Wa hI.2 Wg⟩
        ·first | omega | (simp only; omega) | (dsimp only; omega)
      ·try rw [h10]
       try simp only [qB] at h10
       refine Qc Z (Qa Z (Qc Z (YW Z Z (Qc Z (Qf Z Z (Qf Z Z (Qa Z ?_)))))))
       refine Qp (g := 36) Z (fun h12 => ?_) (fun h12 => ?_)
       ·try rw [h12]
        try simp only [qB] at h12
        refine Qc Z (Qa Z (Qc Z (Yw Z Z (Qf Z Z (kc3 hK Z Z Z ?_)))))
        refine Qw Z (fun h13 => ?_) (fun h13 => ?_)
        ·try rw [h13]
         try simp only [qB] at h13
         refine Qd fun K hK => Qa Z (kc1 hK Z ?_)
         refine Qq (Qi (Qg (QB (Qi (Qg (Qh Z ?_))))))
         first | (have hz := Y0 (p := ZB) (s := s) (i := i) Wa hI.2; simp [J2, hz]; omega) | (have hz := Yj (p := ZB) (s := s) (i := i) Wa Wg; simp [J2, hz]; done) | (simp [J2]; omega)
        ·try rw [h13]
         try simp only [qB] at h13
         refine Qt (Qk (ks2 Z Z (QU fun K hK => Qa Z (Zb Z Z Wb (Qa Z (hK _ ?_))))))
         refine Ql (i + 1) ?_ ?_ ?_
         ·exact Q5 (kp2 rfl rfl)
         ·exact ⟨Wa, Q3 Wa hI.2 Wg⟩
         ·first | omega | (simp only; omega) | (dsimp only; omega)
       ·try rw [h12]
        try simp only [qB] at h12
        refine gn2 Z Z (Qf Z Z (kc3 hK Z Z Z ?_))
        refine Ze Z (Qt (Qk (ks2 Z Z (QU fun K hK => Qa Z (Zb Z Z Wb (Qa Z (hK _ ?_)))))))
        refine Ql (i + 1) ?_ ?_ ?_
        ·exact Q5 (kp2 rfl rfl)
        ·exact ⟨Wa, Q3 Wa hI.2 Wg⟩
        ·first | omega | (simp only; omega) | (dsimp only; omega)
     ·try rw [h9]
      try simp only [qB] at h9
      refine gn3 Z Z Z (Qm Z (Qm Z (Yv Z (Qf Z Z (Qa Z (gn2 Z Z (Qf Z Z (kc3 hK Z Z Z ?_))))))))
      refine Ze Z (Qt (Qk (ks2 Z Z (QU fun K hK => Qa Z (Zb Z Z Wb (Qa Z (hK _ ?_)))))))
      refine Ql (i + 1) ?_ ?_ ?_
      ·exact Q5 (kp2 rfl rfl)
      ·exact ⟨Wa, Q3 Wa hI.2 Wg⟩
      ·first | omega | (simp only; omega) | (dsimp only; omega)
   ·try rw [h3]
    try simp only [qB] at h3
    refine Q4 (QF (Qx (QE (QG (QJ) (Qd fun K hK => Qa Z (kc1 hK Z ?_))))))
    refine Qq (Qh Z ?_)
    first | (have hz := Y0 (p := ZB) (s := s) (i := i) Wa hI.2; simp [J2, hz]; omega) | (have hz := Yj (p := ZB) (s := s) (i := i) Wa Wg; simp [J2, hz]; done) | (simp [J2]; omega)
theorem K9 {a b c : Int} {p q : List UInt8} : Ok Tryd.prog 48 [.agg [.int .i64 a, .int .i64 b, .int .i64 c, .str p, .str q]] (.agg [.int .i64 a, .int .i64 b, .int .i64 c, .str p, .str []]) := by
 refine Ok.ofT Z5 Tryd.func48 Qdv (Qeg Z) ?_
 show TW _ _ tf48.body _ _
 refine Qd fun K hK => ZJ Z Z Z (Zu Z (kc2 hK Z Z ?_))
 refine Qd fun K hK => Qe Z Z (Zn Z Z Z Z Z Z Z Z (kc2 hK Z Z ?_))
 refine Qd fun K hK => QH (cs := [_, _, _, _, _]) Z Z Z Z (Zn Z Z Z Z Z Z Z Z (kc1 hK Z ?_))
 refine Qq (Kt (cs := [_, _, _, _, _]) Z Z Z Z ?_)
 exact rfl
theorem _root_.Wq {p : Prop} (h : p := by rw [Fs (by omega)]; simp; omega) : p := h
theorem Yl {s : List UInt8} (hl : s.length <= 1048576) : Ok Tryd.prog 87 [.str s] (.tup [.int .i64 (ZU s).1, .bool (ZU s).2]) := by
 refine Ok.ofT Z5 Tryd.func87 Qd1 (Qeg Z) ?_
 show TW _ _ tf87.body _ _
 refine Qd fun K hK => mv2 Z Z (kc1 hK Z ?_)
 refine Fu (ι := Unit) (fun _u => ⟨[(0, .str s)], []⟩) (fun _u => ¬ (s.length < 1 \/ 9 < s.length \/ (1 < s.length /\ s.head? = some 48))) ?_ ?_
 ·skip
  refine Qd fun K hK => Qa Z (ZK Z (Z6 Z Z (Qa Z ?_)))
  refine Qp (g := 9) Z (fun h1 => ?_) (fun h1 => ?_)
  ·try rw [h1]
   try simp only [qB, Xi, Qej, Qes] at h1
   refine gn3 Z Z Z (Qf Z Z (Qa Z (gn4 Z Z Z Z (Qm Z (Qm Z (Qm Z ?_))))))
   refine Yv Z (Qf Z Z (kc2 hK Z Z ?_))
   refine QY Z (Qd fun K hK => mv2 Z Z (kc2 hK Z Z ?_))
   refine Qq (ZM (ZH Z Z ?_))
   first | (rw [GG (s := s) Wa]; exact ⟨rfl, rfl⟩) | (rw [Yh (s := s) Wa Wc]; exact ⟨rfl, rfl⟩) | (rw [YP (s := s) (i := i) Wa Wj]; exact ⟨rfl, rfl⟩) | (rw [GF (s := s) (i := i) Wa Wa]; exact ⟨rfl, rfl⟩) | (rw [F5 (s := s) (i := i) hJ Wa hI.2.1 Wa]; exact ⟨rfl, rfl⟩)
  ·try rw [h1]
   try simp only [qB, Xi, Qej, Qes] at h1
   refine Qc Z (Qa Z (Qc Z (ZK Z (Qc Z (YW Z Z (Qf Z Z (Qa Z ?_)))))))
   refine Qp (g := 14) Z (fun h2 => ?_) (fun h2 => ?_)
   ·try rw [h2]
    try simp only [qB, Xi, Qej, Qes] at h2
    refine gn4 Z Z Z Z (Qm Z (Qm Z (Qm Z (Yv Z (Qf Z Z (kc2 hK Z Z ?_))))))
    refine QY Z (Qd fun K hK => mv2 Z Z (kc2 hK Z Z ?_))
    refine Qq (ZM (ZH Z Z ?_))
    first | (rw [GG (s := s) Wa]; exact ⟨rfl, rfl⟩) | (rw [Yh (s := s) Wa Wc]; exact ⟨rfl, rfl⟩) | (rw [YP (s := s) (i := i) Wa Wj]; exact ⟨rfl, rfl⟩) | (rw [GF (s := s) (i := i) Wa Wa]; exact ⟨rfl, rfl⟩) | (rw [F5 (s := s) (i := i) hJ Wa hI.2.1 Wa]; exact ⟨rfl, rfl⟩)
   ·try rw [h2]
    try simp only [qB, Xi, Qej, Qes] at h2
    refine Qc Z (Qa Z (Qc Z (ZK Z (Qc Z (YW Z Z (Qc Z (Qa Z ?_)))))))
    refine Qp (g := 18) Z (fun h3 => ?_) (fun h3 => ?_)
    ·try rw [h3]
     try simp only [qB, Xi, Qej, Qes] at h3
     refine Qc Z (Qa Z (Qc Z (ZY Z Z Wa (Ki (i := 0) Wa) (Qc Z (Xd Z Z (Qc Z (Qf Z Z (Qf Z Z (kc2 hK Z Z ?_)))))))))
     refine Qw Z (fun h4 => ?_) (fun h4 => ?_)
     ·try rw [h4]
      try simp only [qB, Xi, Qej, Qes] at h4
      refine Qd fun K hK => mv2 Z Z (kc2 hK Z Z ?_)
      refine Qq (ZM (ZH Z Z ?_))
      first | (rw [GG (s := s) Wa]; exact ⟨rfl, rfl⟩) | (rw [Yh (s := s) Wa Wc]; exact ⟨rfl, rfl⟩) | (rw [YP (s := s) (i := i) Wa Wj]; exact ⟨rfl, rfl⟩) | (rw [GF (s := s) (i := i) Wa Wa]; exact ⟨rfl, rfl⟩) | (rw [F5 (s := s) (i := i) hJ Wa hI.2.1 Wa]; exact ⟨rfl, rfl⟩)
     ·try rw [h4]
      try simp only [qB, Xi, Qej, Qes] at h4
      refine Qt ?_
      refine Zc () ?_ ?_
      ·exact Q5 (kp1 rfl)
      ·rintro (q | q | q) <;> first | omega | exact Ml (s := s) Wa Wc q.2
    ·try rw [h3]
     try simp only [qB, Xi, Qej, Qes] at h3
     refine gn3 Z Z Z (Qc Z (Qf Z Z (Qf Z Z (kc2 hK Z Z ?_))))
     refine Ze Z (Qt ?_)
     refine Zc () ?_ ?_
     ·exact Q5 (kp1 rfl)
     ·rintro (q | q | q) <;> first | omega | exact Ml (s := s) Wa Wc q.2
 intro _u hJ
 try dsimp only
 refine Qd fun K hK => Qa Z (kc2 hK Z Z ?_)
 refine QC ?_ -- 1
 refine Qd fun K hK => Qa Z (kc3 hK Z Z Z ?_)
 refine Qz ?_
 refine Zh (ι := Nat) (fun i => ⟨[(0, .str s), (4, .int .i64 (val (s.take i))), (5, .int .i64 i)], []⟩) (fun i => i <= s.length /\ (s.take i).all Z1 = true /\ s.length <= 9) (fun i => s.length - i) 0 ?_ ?_ ?_
 ·first | exact Q5 (kp3 rfl rfl rfl) | exact QT (l := [0, 4, 5]) (kp3 rfl rfl rfl) Qj Wq rfl rfl
 ·exact ⟨Qer _, rfl, Wa⟩
 intro i hI
 have hv := L4 (s := s.take i) hI.2.1
 have hp : 10 ^ (s.take i).length <= 10 ^ 9 := Nat.pow_le_pow_right Wa Wh
 try dsimp only
 refine QC ?_ -- 2
 refine Qd fun K hK => mv2 Z Z (ZK Z (Z6 Z Z (kc4 hK Z Z Z Z ?_)))
 refine Qw Z (fun h5 => ?_) (fun h5 => ?_)
 ·try rw [h5]
  try simp only [qB, Xi, Qej, Qes] at h5
  refine Qt (ks3 Z Z Z ?_)
  refine QC ?_ -- 3
  refine Qz ?_
  refine QC ?_ -- 4
  refine Qd fun K hK => mv2 Z Z (ZY Z Z Wa (Ki Wa) (QK (KW) Z Z (.inr Z) (Zv Z (kc4 hK Z Z Z Z ?_))))
  refine Qw Z (fun h6 => ?_) (fun h6 => ?_)
  ·try rw [h6]
   try simp only [qB, Xi, Qej, Qes] at h6
   refine Qd fun K hK => mv2 Z Z (kc2 hK Z Z ?_)
   refine Qq (Qg (Qi (Qg (QB (Qi (Qg (ZH Z Z ?_)))))))
   first | (rw [GG (s := s) Wa]; exact ⟨rfl, rfl⟩) | (rw [Yh (s := s) Wa Wc]; exact ⟨rfl, rfl⟩) | (rw [YP (s := s) (i := i) Wa Wj]; exact ⟨rfl, rfl⟩) | (rw [GF (s := s) (i := i) Wa Wa]; exact ⟨rfl, rfl⟩) | (rw [F5 (s := s) (i := i) hJ Wa hI.2.1 Wa]; exact ⟨rfl, rfl⟩)
  ·try rw [h6]
   try simp only [qB, Xi, Qej, Qes] at h6
   refine Qt (ks3 Z Z Z (QU fun K hK => Qa Z (Te Z Z Wb (mv2 Z Z (ZY Z Z Wa (Ki Wa) (KT Z Z Wb (Tc Z Wb (Zb Z Z Wb (Qa Z ?_)))))))))
   refine hK _ ?_
   refine Qk (ks3 Z Z Z (QU fun K hK => Qa Z (Zb Z Z Wb (Qa Z (hK _ ?_)))))
   refine Ql (i + 1) ?_ ?_ ?_
   ·first | exact Q5 (kp3 rfl rfl rfl) | exact QT (l := [0, 4, 5]) (kp3 rfl rfl rfl) Qj Wq rfl rfl
   ·exact ⟨Wa, Q3 Wa hI.2.1 Wj, hI.2.2⟩
   ·first | omega | (simp only; omega) | (dsimp only; omega)
 ·try rw [h5]
  try simp only [qB, Xi, Qej, Qes] at h5
  refine Q4 (QF (Qx (QE (ks1 Z ?_))))
  refine QC ?_ -- 5
  refine Qd fun K hK => Qa Z (YW Z Z (kc2 hK Z Z ?_))
  refine Qw Z (fun h7 => ?_) (fun h7 => ?_)
  ·try rw [h7]
   try simp only [qB, Xi, Qej, Qes] at h7
   refine Qd fun K hK => mv2 Z Z (kc2 hK Z Z ?_)
   refine Qq (Qg (ZH Z Z ?_))
   first | (rw [GG (s := s) Wa]; exact ⟨rfl, rfl⟩) | (rw [Yh (s := s) Wa Wc]; exact ⟨rfl, rfl⟩) | (rw [YP (s := s) (i := i) Wa Wj]; exact ⟨rfl, rfl⟩) | (rw [GF (s := s) (i := i) Wa Wa]; exact ⟨rfl, rfl⟩) | (rw [F5 (s := s) (i := i) hJ Wa hI.2.1 Wa]; exact ⟨rfl, rfl⟩)
  ·try rw [h7]
   try simp only [qB, Xi, Qej, Qes] at h7
   refine Qt (ks1 Z (Qd fun K hK => mv2 Z Z (Qa Z (kc2 hK Z Z ?_))))
   refine Qq (ZH Z Z ?_)
   first | (rw [GG (s := s) Wa]; exact ⟨rfl, rfl⟩) | (rw [Yh (s := s) Wa Wc]; exact ⟨rfl, rfl⟩) | (rw [YP (s := s) (i := i) Wa Wj]; exact ⟨rfl, rfl⟩) | (rw [GF (s := s) (i := i) Wa Wa]; exact ⟨rfl, rfl⟩) | (rw [F5 (s := s) (i := i) hJ Wa hI.2.1 Wa]; exact ⟨rfl, rfl⟩)
open Go Go.Abs M3
theorem HH {a b : List UInt8} (ha : a.length <= 1048576) (hb : b.length <= 1048576) : Ok Tryd.prog 81 [.str a, .str b] (.int .i64 (Nv a b)) := by
 refine Ok.ofT Z5 Tryd.func81 QdW (Qeg Z) ?_
 show TW _ _ tf81.body _ _
 refine Qd fun K hK => Qa Z (kc2 hK Z Z ?_)
 refine Qd fun K hK => Qa Z (QK (Yb Wa) Z Z (.inr Z) (Qa Z (QK (Yb Wa) Z Z (.inr Z) (mv2 Z Z (kc4 hK Z Z Z Z ?_)))))
 refine QC ?_ -- 0
 refine Qz (Qd fun K hK => mv2 Z Z ?_)
 refine Qp (g := 17) Z (fun h1 => ?_) (fun h1 => ?_)
 ·try rw [h1]
  try simp only [qB] at h1
  refine Qc Z (Qa Z (Qf Z Z (Qa Z (kc5 hK Z Z Z Z Z ?_))))
  refine Qw Z (fun h2 => ?_) (fun h2 => ?_)
  ·try rw [h2]
   try simp only [qB] at h2
   refine Qd fun K hK => Qa Z (QK (Yl Wa) Z Z (.inr Z) (Qa Z (Zf Z Z (Zf Z Z (mv2 Z Z (kc2 hK Z Z ?_))))))
   refine Qd fun K hK => Qa Z (QK (Yl Wa) Z Z (.inr Z) (Qa Z (Zf Z Z (Zf Z Z (mv2 Z Z (kc2 hK Z Z ?_))))))
   refine Qd fun K hK => mv2 Z Z (QK (Zo) Z Z (.inr Z) (Qa Z (kc1 hK Z ?_)))
   refine Qq (Qi (Qg (QA Z ?_)))
   simp [Nv, h1, h2]
  ·try rw [h2]
   try simp only [qB] at h2
   refine Qd fun K hK => mv2 Z Z (kc4 hK Z Z Z Z ?_)
   refine QY Z (Qd fun K hK => Qa Z (kc1 hK Z ?_))
   refine Qq (Qi (Qg (QA Z ?_)))
   simp [Nv, h1, h2]
 ·try rw [h1]
  try simp only [qB] at h1
  refine Yv Z (Qf Z Z (Qa Z (kc5 hK Z Z Z Z Z ?_)))
  refine Ze Z (Qd fun K hK => mv2 Z Z (kc4 hK Z Z Z Z ?_))
  refine Ze Z (Qd fun K hK => mv2 Z Z (kc3 hK Z Z Z ?_))
  refine Qw Z (fun h3 => ?_) (fun h3 => ?_)
  ·try rw [h3]
   try simp only [qB] at h3
   refine Qd fun K hK => Qa Z (kc1 hK Z ?_)
   refine Qq (Qi (Qg (QA Z ?_)))
   simp [Nv, h1, h3]
  ·try rw [h3]
   try simp only [qB] at h3
   refine Qt (Qk (ks2 Z Z (Qd fun K hK => mv2 Z Z (QK (KY) Z Z (.inr Z) (Qa Z (kc1 hK Z ?_))))))
   refine Qq (QA Z ?_)
   simp [Nv, h1, h3]
theorem Hk {a b : List UInt8} (ha : a.length <= 1048576) (hb : b.length <= 1048576) : Ok Tryd.prog 72 [.str a, .str b] (.int .i64 (Hv a b)) := by
 refine Ok.ofT Z5 Tryd.func72 QdO (Qeg Z) ?_
 show TW _ _ tf72.body _ _
 refine Qd fun K hK => Qa Z (kc2 hK Z Z ?_)
 refine QC ?_ -- 0
 refine Qz (Qd fun K hK => mv2 Z Z (JO Z Z (Qa Z (kc3 hK Z Z Z ?_))))
 refine Qw Z (fun h1 => ?_) (fun h1 => ?_)
 ·try rw [h1]
  try simp only [qB, Qn] at h1
  refine Qd fun K hK => Qa Z (kc1 hK Z ?_)
  refine Qq (Qi (Qg (QA Z ?_)))
  (repeat clear hK K); first | (simp_all [Hv]; done) | (rw [hI.2.2, Z4 Wa Wa Wc]) | (rw [hI.2.2, Z3 Wa Wa Wa]; simp [Qn])
 ·try rw [h1]
  try simp only [qB, Qn] at h1
  refine Qd fun K hK => Qa Z (JO Z Z (Qa Z (kc3 hK Z Z Z ?_)))
  refine Qw Z (fun h2 => ?_) (fun h2 => ?_)
  ·try rw [h2]
   try simp only [qB, Qn] at h2
   refine Qd fun K hK => Qa Z (kc1 hK Z ?_)
   refine Qq (Qi (Qg (QA Z ?_)))
   (repeat clear hK K); first | (simp_all [Hv]; done) | (rw [hI.2.2, Z4 Wa Wa Wc]) | (rw [hI.2.2, Z3 Wa Wa Wa]; simp [Qn])
  ·try rw [h2]
   try simp only [qB, Qn] at h2
   refine Qd fun K hK => Qa Z (JO Z Z (Qa Z (kc3 hK Z Z Z ?_)))
   refine Qw Z (fun h3 => ?_) (fun h3 => ?_)
   ·try rw [h3]
    try simp only [qB, Qn] at h3
    refine Qd fun K hK => Qa Z (kc1 hK Z ?_)
    refine Qq (Qi (Qg (QA Z ?_)))
    (repeat clear hK K); first | (simp_all [Hv]; done) | (rw [hI.2.2, Z4 Wa Wa Wc]) | (rw [hI.2.2, Z3 Wa Wa Wa]; simp [Qn])
   ·try rw [h3]
    try simp only [qB, Qn] at h3
    refine Qt (Qk (ks2 Z Z (Qd fun K hK => Qa Z (QK (Yx Wa) Z Z (.inl Z) (Qa Z (QK (Yx Wa) Z Z (.inl Z) (mv2 Z Z (kc2 hK Z Z ?_))))))))
    refine QC ?_ -- 1
    refine Qd fun K hK => Qa Z (kc3 hK Z Z Z ?_)
    refine Qz ?_
    refine Zh (ι := Nat) (fun i => ⟨[(5, .sl (YJ (QZ a 46))), (6, .sl (YJ (QZ b 46))), (7, .int .i64 i)], []⟩) (fun i => i <= (QZ a 46).length /\ i <= (QZ b 46).length /\ Hv a b = Sc ((QZ a 46).drop i) ((QZ b 46).drop i)) (fun i => (QZ a 46).length - i) 0 ?_ ?_ ?_
    ·exact Q5 (kp3 rfl rfl rfl)
    ·exact ⟨Qer _, Qer _, by simp_all [Hv]⟩
    intro i hI
    have sl := Gm (s := a) (c := 46)
    try dsimp only
    refine QC ?_ -- 2
    refine Qd fun K hK => mv2 Z Z (QP Z Z (Z6 Z Z (Qa Z ?_)))
    refine Qp (g := 27) Z (fun h4 => ?_) (fun h4 => ?_)
    ·try rw [h4]
     try simp only [qB, Qn] at h4
     refine Qc Z (Qa Z (Qc Z (Qa Z (Qc Z (QP Z Z (Qc Z (Z6 Z Z (Qf Z Z (kc4 hK Z Z Z Z ?_)))))))))
     refine Qw Z (fun h5 => ?_) (fun h5 => ?_)
     ·try rw [h5]
      try simp only [qB, Qn] at h5
      refine Qt (ks3 Z Z Z ?_)
      refine QC ?_ -- 3
      refine Qz (Qd fun K hK => mv2 Z Z (QN Z Z Z Wa (XC Wa) Z (QQ (ds0 := [1, 0]) Z Z Z Z Z (mv2 Z Z (QN Z Z Z Wa (XC Wa) Z (QQ (ds0 := [1, 0]) Z Z Z Z Z (Zp (ds0 := [0]) (HH (XH Wa ha) (XH Wa hb)) Z Z (.inr Z) Z Z (Qa Z ?_))))))))
      refine kc4 hK Z Z Z Z ?_
      refine Qd fun K hK => Qa Z (Yw Z Z (kc5 hK Z Z Z Z Z ?_))
      refine Qw Z (fun h6 => ?_) (fun h6 => ?_)
      ·try rw [h6]
       try simp only [qB, Qn] at h6
       refine Qd fun K hK => mv2 Z Z (kc1 hK Z ?_)
       refine Qq (Qi (Qg (QB (Qi (Qg (QA Z ?_))))))
       (repeat clear hK K); first | (simp_all [Hv]; done) | (rw [hI.2.2, Z4 Wa Wa Wc]) | (rw [hI.2.2, Z3 Wa Wa Wa]; simp [Qn])
      ·try rw [h6]
       try simp only [qB, Qn] at h6
       refine Qt (Qk (ks3 Z Z Z (QU fun K hK => Qa Z (Zb Z Z Wb (Qa Z (hK _ ?_))))))
       refine Ql (i + 1) ?_ ?_ ?_
       ·exact Q5 (kp3 rfl rfl rfl)
       ·exact ⟨Wa, Wa, by rw [hI.2.2, Pn Wa Wa Wc]⟩
       ·first | omega | (simp only; omega) | (dsimp only; omega)
     ·try rw [h5]
      try simp only [qB, Qn] at h5
      refine Q4 (QF (Qx (QE (ks2 Z Z (Qd fun K hK => Qa Z (QP Z Z (Qa Z (QP Z Z (QK (Zo) Z Z (.inr Z) (Qa Z ?_))))))))))
      refine kc1 hK Z ?_
      refine Qq (QA Z ?_)
      (repeat clear hK K); first | (simp_all [Hv]; done) | (rw [hI.2.2, Z4 Wa Wa Wc]) | (rw [hI.2.2, Z3 Wa Wa Wa]; simp [Qn])
    ·try rw [h4]
     try simp only [qB, Qn] at h4
     refine gn4 Z Z Z Z (Qf Z Z (kc4 hK Z Z Z Z ?_))
     refine Ze Z (Q4 (QF (Qx (QE (ks2 Z Z (Qd fun K hK => Qa Z (QP Z Z (Qa Z (QP Z Z (QK (Zo) Z Z (.inr Z) ?_))))))))))
     refine Qa Z (kc1 hK Z ?_)
     refine Qq (QA Z ?_)
     (repeat clear hK K); first | (simp_all [Hv]; done) | (rw [hI.2.2, Z4 Wa Wa Wc]) | (rw [hI.2.2, Z3 Wa Wa Wa]; simp [Qn])
theorem XL {s : List UInt8} {pre : Bool} (hl : s.length <= 1048576) : Ok Tryd.prog 78 [.str s, .bool pre] (.bool (Jx s pre)) := by
 refine Ok.ofT Z5 Tryd.func78 QdT (Qeg Z) ?_
 show TW _ _ tf78.body _ _
 refine Qd fun K hK => Qa Z (kc2 hK Z Z ?_)
 refine QC ?_ -- 0
 refine Qd fun K hK => Qa Z (JO Z Z (kc3 hK Z Z Z ?_))
 refine Qw Z (fun h1 => ?_) (fun h1 => ?_)
 ·try rw [h1]
  try simp only [qB, Qn] at h1
  refine Qd fun K hK => Qa Z (kc1 hK Z ?_)
  refine Qq (Qg (Qh Z ?_))
  (repeat clear hK K); first | (simp_all [Jx]; done) | (simp [Jx, h1]; omega) | exact (H7 (i := i) Wc Wa (by simp [K7, h1])).symm | exact (Kr (i := i) Wa Wa hI.2).symm
 ·try rw [h1]
  try simp only [qB, Qn] at h1
  refine Qt (ks2 Z Z (Qd fun K hK => Qa Z (QK (Yx Wa) Z Z (.inl Z) (Qa Z (kc2 hK Z Z ?_)))))
  refine QC ?_ -- 1
  refine Qd fun K hK => Qa Z (QP Z Z (YW Z Z (kc3 hK Z Z Z ?_)))
  refine Qw Z (fun h2 => ?_) (fun h2 => ?_)
  ·try rw [h2]
   try simp only [qB, Qn] at h2
   refine Qd fun K hK => Qa Z (kc1 hK Z ?_)
   refine Qq (Qg (Qh Z ?_))
   (repeat clear hK K); first | (simp_all [Jx]; done) | (simp [Jx, h1, h2]; omega) | exact (H7 (i := i) Wc Wa (by simp [K7, h1, h2])).symm | exact (Kr (i := i) Wa Wa hI.2).symm
  ·try rw [h2]
   try simp only [qB, Qn] at h2
   refine Qt (ks2 Z Z ?_)
   refine QC ?_ -- 2
   refine Qd fun K hK => Qa Z (kc3 hK Z Z Z ?_)
   refine Qz ?_
   refine Zh (ι := Nat) (fun i => ⟨[(1, .bool pre), (5, .sl (YJ (QZ s 46))), (6, .int .i64 i)], []⟩) (fun i => i <= (QZ s 46).length /\ ((QZ s 46).take i).all (K7 pre) = true) (fun i => (QZ s 46).length - i) 0 ?_ ?_ ?_
   ·first | exact Q5 (kp3 rfl rfl rfl) | exact QT (l := [1, 5, 6]) (kp3 rfl rfl rfl) Qj (by simp [h1, h2]) rfl rfl
   ·exact ⟨Qer _, rfl⟩
   intro i hI
   try dsimp only
   refine QC ?_ -- 3
   refine Qd fun K hK => mv2 Z Z (QP Z Z (Z6 Z Z (kc4 hK Z Z Z Z ?_)))
   refine Qw Z (fun h3 => ?_) (fun h3 => ?_)
   ·try rw [h3]
    try simp only [qB, Qn] at h3
    refine Qt (ks3 Z Z Z ?_)
    refine QC ?_ -- 4
    refine Qz ?_
    refine QC ?_ -- 5
    refine Qd fun K hK => mv2 Z Z (QN Z Z Z Wa (XC Wa) Z (Qs Z Z Z (QK (HI (XH Wa hl)) Z Z (.inr Z) (Zv Z (kc4 hK Z Z Z Z ?_)))))
    refine Qw Z (fun h4 => ?_) (fun h4 => ?_)
    ·try rw [h4]
     try simp only [qB, Qn] at h4
     refine Qd fun K hK => Qa Z (kc1 hK Z ?_)
     refine Qq (Qg (Qi (Qg (QB (Qi (Qg (Qh Z ?_)))))))
     (repeat clear hK K); first | (simp_all [Jx]; done) | (simp [Jx, h1, h2, h3, h4]; omega) | exact (H7 (i := i) Wc Wa (by simp [K7, h1, h2, h3, h4])).symm | exact (Kr (i := i) Wa Wa hI.2).symm
    ·try rw [h4]
     try simp only [qB, Qn] at h4
     refine Qt (ks3 Z Z Z (Qd fun K hK => mv2 Z Z (QN Z Z Z Wa (XC Wa) Z (Qs Z Z Z (QK (Yl (XH Wa hl)) Z Z (.inr Z) (Qa Z (Zf Z Z (Zf Z Z (Qa Z ?_)))))))))
     refine Qa Z (kc4 hK Z Z Z Z ?_)
     refine Qd fun K hK => mv2 Z Z ?_
     refine Qp (g := 37) Z (fun h5 => ?_) (fun h5 => ?_)
     ·try rw [h5]
      try simp only [qB, Qn] at h5
      refine Qc Z (Qa Z (Qc Z (Qa Z (Qc Z (QN Z Z Z Wa (XC Wa) Z (Qc Z (Qs Z Z Z (Qc Z (QK (Yb (XH Wa hl)) Z Z (.inr Z) (Qf Z Z (Qa Z ?_)))))))))))
      refine Qp (g := 44) Z (fun h6 => ?_) (fun h6 => ?_)
      ·try rw [h6]
       try simp only [qB, Qn] at h6
       refine Qc Z (Qa Z (Qc Z (Zv Z (Qf Z Z (kc4 hK Z Z Z Z ?_)))))
       refine Qw Z (fun h7 => ?_) (fun h7 => ?_)
       ·try rw [h7]
        try simp only [qB, Qn] at h7
        refine Qd fun K hK => Qa Z (kc1 hK Z ?_)
        refine Qq (Qi (Qg (QB (Qi (Qg (Qh Z ?_))))))
        (repeat clear hK K); first | (simp_all [Jx]; done) | (simp [Jx, h1, h2, h3, h4, h5, h6, h7]; omega) | exact (H7 (i := i) Wc Wa (by simp [K7, h1, h2, h3, h4, h5, h6, h7])).symm | exact (Kr (i := i) Wa Wa hI.2).symm
       ·try rw [h7]
        try simp only [qB, Qn] at h7
        refine Qt (Qk (ks3 Z Z Z (QU fun K hK => Qa Z (Zb Z Z Wb (Qa Z (hK _ ?_))))))
        refine Ql (i + 1) ?_ ?_ ?_
        ·first | exact Q5 (kp3 rfl rfl rfl) | exact QT (l := [1, 5, 6]) (kp3 rfl rfl rfl) Qj (by simp [h1, h2, h3, h4, h5, h6, h7]) rfl rfl
        ·exact ⟨Wa, Q3 Wa hI.2 (by simp [K7, h1, h2, h3, h4, h5, h6, h7])⟩
        ·first | omega | (simp only; omega) | (dsimp only; omega)
      ·try rw [h6]
       try simp only [qB, Qn] at h6
       refine gn2 Z Z (Qf Z Z (kc4 hK Z Z Z Z ?_))
       refine Ze Z (Qt (Qk (ks3 Z Z Z (QU fun K hK => Qa Z (Zb Z Z Wb (Qa Z (hK _ ?_)))))))
       refine Ql (i + 1) ?_ ?_ ?_
       ·first | exact Q5 (kp3 rfl rfl rfl) | exact QT (l := [1, 5, 6]) (kp3 rfl rfl rfl) Qj (by simp [h1, h2, h3, h4, h5, h6]) rfl rfl
       ·exact ⟨Wa, Q3 Wa hI.2 (by simp [K7, h1, h2, h3, h4, h5, h6])⟩
       ·first | omega | (simp only; omega) | (dsimp only; omega)
     ·try rw [h5]
      try simp only [qB, Qn] at h5
      refine gn4 Z Z Z Z (Yv Z (Qf Z Z (Qa Z (gn2 Z Z (Qf Z Z (kc4 hK Z Z Z Z ?_))))))
      refine Ze Z (Qt (Qk (ks3 Z Z Z (QU fun K hK => Qa Z (Zb Z Z Wb (Qa Z (hK _ ?_)))))))
      refine Ql (i + 1) ?_ ?_ ?_
      ·first | exact Q5 (kp3 rfl rfl rfl) | exact QT (l := [1, 5, 6]) (kp3 rfl rfl rfl) Qj (by simp [h1, h2, h3, h4, h5]) rfl rfl
      ·exact ⟨Wa, Q3 Wa hI.2 (by simp [K7, h1, h2, h3, h4, h5])⟩
      ·first | omega | (simp only; omega) | (dsimp only; omega)
   ·try rw [h3]
    try simp only [qB, Qn] at h3
    refine Q4 (QF (Qx (QE (QG (QJ) (Qd fun K hK => Qa Z (kc1 hK Z ?_))))))
    refine Qq (Qh Z ?_)
    (repeat clear hK K); first | (simp_all [Jx]; done) | (simp [Jx, h1, h2, h3]; omega) | exact (H7 (i := i) Wc Wa (by simp [K7, h1, h2, h3])).symm | exact (Kr (i := i) Wa Wa hI.2).symm
theorem Yf {a b c : Int} {p q : List UInt8} (hp : p.length <= 1048576) (hq : q.length <= 1048576) : Ok Tryd.prog 68 [.agg [.int .i64 a, .int .i64 b, .int .i64 c, .str p, .str q]] (.bool (Kp a b c p q)) := by
 refine Ok.ofT Z5 Tryd.func68 QdK (Qeg Z) ?_
 show TW _ _ tf68.body _ _
 refine Qd fun K hK => ZJ Z Z Z (Qa Z (kc1 hK Z ?_))
 refine Qd fun K hK => Qe Z Z (Qs Z Z Z (QK (YK) Z Z (.inr Z) (Qa Z ?_)))
 refine Qp (g := 6) Z (fun h1 => ?_) (fun h1 => ?_)
 ·try rw [h1]
  try simp only [qB] at h1
  refine Qc Z (Qe Z Z (Qc Z (Qs Z Z Z (Qc Z (QK (YK) Z Z (.inr Z) (Qf Z Z (Qa Z ?_)))))))
  refine Qp (g := 11) Z (fun h2 => ?_) (fun h2 => ?_)
  ·try rw [h2]
   try simp only [qB] at h2
   refine Qc Z (Qe Z Z (Qc Z (Qs Z Z Z (Qc Z (QK (YK) Z Z (.inr Z) (Qf Z Z (Qa Z ?_)))))))
   refine Qp (g := 16) Z (fun h3 => ?_) (fun h3 => ?_)
   ·try rw [h3]
    try simp only [qB] at h3
    refine Qc Z (Qe Z Z (Qc Z (Qs Z Z Z (Qc Z (QK (XL Wa) Z Z (.inr Z) (Qf Z Z (Qa Z ?_)))))))
    refine Qp (g := 21) Z (fun h4 => ?_) (fun h4 => ?_)
    ·try rw [h4]
     try simp only [qB] at h4
     refine Qc Z (Qe Z Z (Qc Z (Qs Z Z Z (Qc Z (QK (XL Wa) Z Z (.inr Z) (Qf Z Z (Qa Z (kc1 hK Z ?_))))))))
     refine Qq (Qh Z ?_)
     simp [Kp, h1, h2, h3, h4]
    ·try rw [h4]
     try simp only [qB] at h4
     refine gn3 Z Z Z (Qf Z Z (Qa Z (kc1 hK Z ?_)))
     refine Qq (Qh Z ?_)
     simp [Kp, h1, h2, h3, h4]
   ·try rw [h3]
    try simp only [qB] at h3
    refine gn3 Z Z Z (Qf Z Z (Qa Z (gn3 Z Z Z (Qf Z Z (Qa Z (kc1 hK Z ?_))))))
    refine Qq (Qh Z ?_)
    simp [Kp, h1, h2, h3]
  ·try rw [h2]
   try simp only [qB] at h2
   refine gn3 Z Z Z (Qf Z Z (Qa Z (gn3 Z Z Z (Qf Z Z (Qa Z (gn2 Z Z ?_))))))
   refine Yv Z (Qf Z Z (Qa Z (kc1 hK Z ?_)))
   refine Qq (Qh Z ?_)
   simp [Kp, h1, h2]
 ·try rw [h1]
  try simp only [qB] at h1
  refine gn3 Z Z Z (Qf Z Z (Qa Z (gn3 Z Z Z (Qf Z Z (Qa Z (gn2 Z Z ?_))))))
  refine Yv Z (Qf Z Z (Qa Z (gn3 Z Z Z (Qf Z Z (Qa Z (kc1 hK Z ?_))))))
  refine Qq (Qh Z ?_)
  simp [Kp, h1]
theorem GM {l : List Int} (hl : l.length <= 1048576) : Ok Tryd.prog 43 [ZT l] (.int .i64 (ZL l)) := by
 refine Ok.ofT Z5 Tryd.func43 Qdq (Qeg Z) ?_
 show TW _ _ tf43.body _ _
 refine Qd fun K hK => Qa Z (kc1 hK Z ?_)
 refine Qd fun K hK => Qa Z (kc2 hK Z Z ?_)
 refine QC ?_ -- 0
 refine Qd fun K hK => Qa Z (QP Z Z (Qa Z (kc4 hK Z Z Z Z ?_)))
 refine Qz ?_
 refine Zh (ι := Nat) (fun i => ⟨[(3, .int .i64 0), (6, ZT l), (7, .int .i64 l.length), (8, .int .i64 i)], []⟩) (fun i => i <= l.length /\ ZL l = ZL (l.drop i)) (fun i => l.length - i) 0 ?_ ?_ ?_
 ·exact QT (l := [3, 6, 7, 8]) (kp4 rfl rfl rfl rfl) Qj (by simp [ZT]) rfl rfl
 ·exact ⟨Qer _, rfl⟩
 intro i hI
 try dsimp only
 refine Qd fun K hK => Z6 Z Z (kc5 hK Z Z Z Z Z ?_)
 refine QC ?_ -- 1
 refine Qw Z (fun h1 => ?_) (fun h1 => ?_)
 ·try rw [h1]
  try simp only [qB] at h1
  refine Qt (ks4 Z Z Z Z ?_)
  refine QC ?_ -- 2
  refine Qz (Qd fun K hK => QN Z Z Z Wa (Q0 Wa) Z (Qs Z Z Z (Qa Z (kc5 hK Z Z Z Z Z ?_))))
  refine Qd fun K hK => mv2 Z Z (Yw Z Z (kc6 hK Z Z Z Z Z Z ?_))
  refine Qw Z (fun h2 => ?_) (fun h2 => ?_)
  ·try rw [h2]
   try simp only [qB] at h2
   refine Qd fun K hK => mv2 Z Z (kc1 hK Z ?_)
   refine Qq (Qi (Qg (QB (Qi (Qg (QA Z ?_))))))
   first | (rw [hI.2, FS Wa Wc]) | (rw [hI.2, QeA Wa]; rfl)
  ·try rw [h2]
   try simp only [qB] at h2
   refine Qt (Qk (ks4 Z Z Z Z (QU fun K hK => Zb Z Z Wb (Qa Z (hK _ ?_)))))
   refine Ql (i + 1) ?_ ?_ ?_
   ·exact Q5 (kp4 rfl rfl rfl rfl)
   ·exact ⟨Wa, by rw [hI.2, Pc Wa Wc]⟩
   ·first | omega | (simp only; omega) | (dsimp only; omega)
 ·try rw [h1]
  try simp only [qB] at h1
  refine Q4 (QF (Qx (QE (ks1 Z (Qd fun K hK => mv2 Z Z (kc1 hK Z ?_))))))
  refine Qq (QA Z ?_)
  first | (rw [hI.2, FS Wa Wc]) | (rw [hI.2, QeA Wa]; rfl)
open Go Go.Abs M3
theorem YX {a b c : Int} {p q : List UInt8} (hp : p.length <= 1048576) (hq : q.length <= 1048576) {a' b' c' : Int} {p' q' : List UInt8} (hp' : p'.length <= 1048576) (hq' : q'.length <= 1048576) : Ok Tryd.prog 55 [.agg [.int .i64 a, .int .i64 b, .int .i64 c, .str p, .str q], .agg [.int .i64 a', .int .i64 b', .int .i64 c', .str p', .str q']] (.int .i64 (KM a b c p q a' b' c' p' q')) := by
 refine Ok.ofT Z5 Tryd.func55 QdC (Qeg Z) ?_
 show TW _ _ tf55.body _ _
 refine Qd fun K hK => ZJ Z Z Z (ZJ Z Z Z (Qa Z (kc2 hK Z Z ?_)))
 refine QC ?_ -- 0
 refine Qd fun K hK => QH (cs := [_, _, _, _, _]) Z Z Z Z (QK (Yf Wa Wa) Z Z (.inr Z) (Zv Z (Qa Z ?_)))
 refine Qp (g := 11) Z (fun h1 => ?_) (fun h1 => ?_)
 ·try rw [h1]
  try simp only [qB] at h1
  refine gn3 Z Z Z (Qf Z Z (kc3 hK Z Z Z ?_))
  refine QY Z (Qd fun K hK => Qa Z (kc1 hK Z ?_))
  refine Qq (Qg (QA Z ?_))
  simp [KM, h1]
 ·try rw [h1]
  try simp only [qB] at h1
  refine Qc Z (QH (cs := [_, _, _, _, _]) Z Z Z Z (Qc Z (QK (Yf Wa Wa) Z Z (.inr Z) (Qc Z (Zv Z (Qf Z Z (kc3 hK Z Z Z ?_)))))))
  refine Qw Z (fun h2 => ?_) (fun h2 => ?_)
  ·try rw [h2]
   try simp only [qB] at h2
   refine Qd fun K hK => Qa Z (kc1 hK Z ?_)
   refine Qq (Qg (QA Z ?_))
   simp [KM, h1, h2]
  ·try rw [h2]
   try simp only [qB] at h2
   refine Qt (ks2 Z Z ?_)
   refine QC ?_ -- 1
   refine Qd fun K hK => Qe Z Z (Qs Z Z Z (Qe Z Z (Qs Z Z Z (QK (Zo) Z Z (.inr Z) (Qa Z (kc3 hK Z Z Z ?_))))))
   refine Qd fun K hK => Qa Z (Yw Z Z (kc4 hK Z Z Z Z ?_))
   refine Qw Z (fun h3 => ?_) (fun h3 => ?_)
   ·try rw [h3]
    try simp only [qB] at h3
    refine Qd fun K hK => mv2 Z Z (kc1 hK Z ?_)
    refine Qq (Qg (QA Z ?_))
    simp [KM, h1, h2, h3]
   ·try rw [h3]
    try simp only [qB] at h3
    refine Qt (ks2 Z Z ?_)
    refine QC ?_ -- 2
    refine Qd fun K hK => Qe Z Z (Qs Z Z Z (Qe Z Z (Qs Z Z Z (QK (Zo) Z Z (.inr Z) (Qa Z (kc3 hK Z Z Z ?_))))))
    refine Qd fun K hK => Qa Z (Yw Z Z (kc4 hK Z Z Z Z ?_))
    refine Qw Z (fun h4 => ?_) (fun h4 => ?_)
    ·try rw [h4]
     try simp only [qB] at h4
     refine Qd fun K hK => mv2 Z Z (kc1 hK Z ?_)
     refine Qq (Qg (QA Z ?_))
     simp [KM, h1, h2, h3, h4]
    ·try rw [h4]
     try simp only [qB] at h4
     refine Qt (ks2 Z Z ?_)
     refine QC ?_ -- 3
     refine Qd fun K hK => Qe Z Z (Qs Z Z Z (Qe Z Z (Qs Z Z Z (QK (Zo) Z Z (.inr Z) (Qa Z (kc3 hK Z Z Z ?_))))))
     refine Qd fun K hK => Qa Z (Yw Z Z (kc4 hK Z Z Z Z ?_))
     refine Qw Z (fun h5 => ?_) (fun h5 => ?_)
     ·try rw [h5]
      try simp only [qB] at h5
      refine Qd fun K hK => mv2 Z Z (kc1 hK Z ?_)
      refine Qq (Qg (QA Z ?_))
      simp [KM, h1, h2, h3, h4, h5]
     ·try rw [h5]
      try simp only [qB] at h5
      refine Qt (ks2 Z Z (Qd fun K hK => Qe Z Z (Qs Z Z Z (Qe Z Z (Qs Z Z Z (QK (Hk Wa Wa) Z Z (.inr Z) (Qa Z (kc1 hK Z ?_))))))))
      refine Qq (QA Z ?_)
      simp [KM, h1, h2, h3, h4, h5]
theorem Yg {e a b c : Int} {p q : List UInt8} {f : Bool} (hp : p.length <= 1048576) (hq : q.length <= 1048576) : Ok Tryd.prog 100 [.agg [.int .i64 e, .int .i64 a, .int .i64 b, .int .i64 c, .str p, .str q, .bool f]] (.bool (Yz e a b c p q f)) := by
 refine Ok.ofT Z5 Tryd.func100 QcD (Qeg Z) ?_
 show TW _ _ tf100.body _ _
 refine Qd fun K hK => ZJ Z Z Z (Qa Z (kc1 hK Z ?_))
 refine QC ?_ -- 0
 refine Qd fun K hK => Qe Z Z (Qs Z Z Z (Xd Z Z (kc2 hK Z Z ?_)))
 refine Qw Z (fun h1 => ?_) (fun h1 => ?_)
 ·try rw [h1]
  try simp only [qB] at h1
  refine Qd fun K hK => Qe Z Z (QH (cs := [_, _, _, _, _]) Z Z Z Z (QK (Yf Wa Wa) Z Z (.inr Z) (Qa Z ?_)))
  refine Qp (g := 9) Z (fun h2 => ?_) (fun h2 => ?_)
  ·try rw [h2]
   try simp only [qB] at h2
   refine Qc Z (Qe Z Z (Qc Z (Qe Z Z (Qc Z (Qs Z Z Z (Qc Z (JO Z Z (Qf Z Z (Qa Z (kc1 hK Z ?_))))))))))
   refine Qq (Qg (Qh Z ?_))
   (repeat clear hK K); simp_all [Yz]
  ·try rw [h2]
   try simp only [qB] at h2
   refine gn4 Z Z Z Z (Qf Z Z (Qa Z (kc1 hK Z ?_)))
   refine Qq (Qg (Qh Z ?_))
   (repeat clear hK K); simp_all [Yz]
 ·try rw [h1]
  try simp only [qB] at h1
  refine Qt (ks1 Z (Qd fun K hK => Qe Z Z (Qs Z Z Z (Xd Z Z (Qa Z ?_)))))
  refine Qp (g := 18) Z (fun h3 => ?_) (fun h3 => ?_)
  ·try rw [h3]
   try simp only [qB] at h3
   refine gn3 Z Z Z (Qf Z Z (Qa Z (Qc Z (Qe Z Z (Qc Z (QH (cs := [_, _, _, _, _]) Z Z Z Z (Qc Z (ZO Z Z (Qc Z ?_)))))))))
   refine MT Z Z Z (Qf Z Z (Qa Z ?_))
   refine Qp (g := 29) Z (fun h4 => ?_) (fun h4 => ?_)
   ·try rw [h4]
    try simp only [qB] at h4
    refine Qc Z (Qe Z Z (Qc Z (Qs Z Z Z (Qc Z (Zv Z (Qf Z Z (Qa Z (kc1 hK Z ?_))))))))
    refine Qq (Qh Z ?_)
    (repeat clear hK K); simp_all [Yz]
   ·try rw [h4]
    try simp only [qB] at h4
    refine gn3 Z Z Z (Qf Z Z (Qa Z (kc1 hK Z ?_)))
    refine Qq (Qh Z ?_)
    (repeat clear hK K); simp_all [Yz]
  ·try rw [h3]
   try simp only [qB] at h3
   refine Qc Z (Qe Z Z (Qc Z (Qs Z Z Z (Qc Z (Xd Z Z (Qf Z Z (Qa Z ?_)))))))
   refine Qp (g := 23) Z (fun h5 => ?_) (fun h5 => ?_)
   ·try rw [h5]
    try simp only [qB] at h5
    refine Qc Z (Qe Z Z (Qc Z (QH (cs := [_, _, _, _, _]) Z Z Z Z (Qc Z (ZO Z Z (Qc Z (MT Z Z Z (Qf Z Z (Qa Z ?_)))))))))
    refine Qp (g := 29) Z (fun h6 => ?_) (fun h6 => ?_)
    ·try rw [h6]
     try simp only [qB] at h6
     refine Qc Z (Qe Z Z (Qc Z (Qs Z Z Z (Qc Z (Zv Z (Qf Z Z (Qa Z (kc1 hK Z ?_))))))))
     refine Qq (Qh Z ?_)
     (repeat clear hK K); simp_all [Yz]
    ·try rw [h6]
     try simp only [qB] at h6
     refine gn3 Z Z Z (Qf Z Z (Qa Z (kc1 hK Z ?_)))
     refine Qq (Qh Z ?_)
     (repeat clear hK K); simp_all [Yz]
   ·try rw [h5]
    try simp only [qB] at h5
    refine gn4 Z Z Z Z (Qf Z Z (Qa Z (gn3 Z Z Z (Qf Z Z (Qa Z (kc1 hK Z ?_))))))
    refine Qq (Qh Z ?_)
    (repeat clear hK K); simp_all [Yz]
theorem YY {e a b c : Int} {p q : List UInt8} {f : Bool} (hp : p.length <= 1048576) (hq : q.length <= 1048576) {e' a' b' c' : Int} {p' q' : List UInt8} {f' : Bool} (hp' : p'.length <= 1048576) (hq' : q'.length <= 1048576) : Ok Tryd.prog 97 [.agg [.int .i64 e, .int .i64 a, .int .i64 b, .int .i64 c, .str p, .str q, .bool f], .agg [.int .i64 e', .int .i64 a', .int .i64 b', .int .i64 c', .str p', .str q', .bool f']] (.int .i64 (Z9 e a b c p q f e' a' b' c' p' q' f')) := by
 refine Ok.ofT Z5 Tryd.func97 Qea (Qeg Z) ?_
 show TW _ _ tf97.body _ _
 refine Qd fun K hK => ZJ Z Z Z (ZJ Z Z Z (Qa Z (kc2 hK Z Z ?_)))
 refine QC ?_ -- 0
 refine Qd fun K hK => QH (cs := [_, _, _, _, _, _, _]) Z Z Z Z (QK (Yg Wa Wa) Z Z (.inr Z) (Zv Z (Qa Z ?_)))
 refine Qp (g := 9) Z (fun h1 => ?_) (fun h1 => ?_)
 ·try rw [h1]
  try simp only [qB] at h1
  refine gn3 Z Z Z (Qf Z Z (kc3 hK Z Z Z ?_))
  refine QY Z (Qd fun K hK => Qa Z (kc1 hK Z ?_))
  refine Qq (Qg (QA Z ?_))
  (repeat clear hK K); first | (simp [Z9, h1]; done) | (simp_all [Z9]; done)
 ·try rw [h1]
  try simp only [qB] at h1
  refine Qc Z (QH (cs := [_, _, _, _, _, _, _]) Z Z Z Z (Qc Z (QK (Yg Wa Wa) Z Z (.inr Z) (Qc Z (Zv Z (Qf Z Z (kc3 hK Z Z Z ?_)))))))
  refine Qw Z (fun h2 => ?_) (fun h2 => ?_)
  ·try rw [h2]
   try simp only [qB] at h2
   refine Qd fun K hK => Qa Z (kc1 hK Z ?_)
   refine Qq (Qg (QA Z ?_))
   (repeat clear hK K); first | (simp [Z9, h1, h2]; done) | (simp_all [Z9]; done)
  ·try rw [h2]
   try simp only [qB] at h2
   refine Qt (ks2 Z Z ?_)
   refine QC ?_ -- 1
   refine Qd fun K hK => Qe Z Z (Qs Z Z Z (Qe Z Z (Qs Z Z Z ?_)))
   first | refine Yw rfl rfl ?_ | refine PU rfl rfl ?_
   refine Qa Z ?_
   refine Qp (g := 19) Z (fun h3 => ?_) (fun h3 => ?_)
   ·try rw [h3]
    try simp only [qB] at h3
    refine gn3 Z Z Z (Qf Z Z (kc3 hK Z Z Z ?_))
    refine QY Z (Qd fun K hK => Qe Z Z (Qs Z Z Z (Qe Z Z (Qs Z Z Z (QK (Zo) Z Z (.inr Z) (Qa Z (kc1 hK Z ?_)))))))
    refine Qq (Qg (QA Z ?_))
    (repeat clear hK K); first | (simp [Z9, h1, h2, h3]; done) | (simp_all [Z9]; done)
   ·try rw [h3]
    try simp only [qB] at h3
    refine Qc Z (Qe Z Z (Qc Z (Qs Z Z Z (Qc Z (Yw Z Z (Qf Z Z (kc3 hK Z Z Z ?_)))))))
    refine Qw Z (fun h4 => ?_) (fun h4 => ?_)
    ·try rw [h4]
     try simp only [qB] at h4
     refine Qd fun K hK => Qe Z Z (Qs Z Z Z (Qe Z Z (Qs Z Z Z (QK (Zo) Z Z (.inr Z) (Qa Z (kc1 hK Z ?_))))))
     refine Qq (Qg (QA Z ?_))
     (repeat clear hK K); first | (simp [Z9, h1, h2, h3, h4]; done) | (simp_all [Z9]; done)
    ·try rw [h4]
     try simp only [qB] at h4
     refine Qt (ks2 Z Z ?_)
     refine QC ?_ -- 2
     refine Qd fun K hK => Qe Z Z (QH (cs := [_, _, _, _, _]) Z Z Z Z (Qe Z Z (QH (cs := [_, _, _, _, _]) Z Z Z Z (QK (YX Wa Wa Wa Wa) Z Z (.inr Z) (Qa Z (kc3 hK Z Z Z ?_))))))
     refine Qd fun K hK => Qa Z (Yw Z Z (kc4 hK Z Z Z Z ?_))
     refine Qw Z (fun h5 => ?_) (fun h5 => ?_)
     ·try rw [h5]
      try simp only [qB] at h5
      refine Qd fun K hK => mv2 Z Z (kc1 hK Z ?_)
      refine Qq (Qg (QA Z ?_))
      (repeat clear hK K); first | (simp [Z9, h1, h2, h3, h4, h5]; done) | (simp_all [Z9]; done)
     ·try rw [h5]
      try simp only [qB] at h5
      refine Qt (ks2 Z Z ?_)
      refine QC ?_ -- 3
      refine Qz (Qd fun K hK => Qe Z Z (Qs Z Z Z (Qe Z Z (Qs Z Z Z (QaP Z Z (Qa Z (kc2 hK Z Z ?_)))))))
      refine Qw Z (fun h6 => ?_) (fun h6 => ?_)
      ·try rw [h6]
       try simp only [qB] at h6
       refine Qd fun K hK => Qa Z (kc1 hK Z ?_)
       refine Qq (Qi (Qg (QA Z ?_)))
       (repeat clear hK K); first | (simp [Z9, h1, h2, h3, h4, h5, h6]; done) | (simp_all [Z9]; done)
      ·try rw [h6]
       try simp only [qB] at h6
       refine Qd fun K hK => Qe Z Z (Qs Z Z Z (Qa Z (kc1 hK Z ?_)))
       refine Qw Z (fun h7 => ?_) (fun h7 => ?_)
       ·try rw [h7]
        try simp only [qB] at h7
        refine Qd fun K hK => Qa Z (kc1 hK Z ?_)
        refine Qq (Qi (Qg (QA Z ?_)))
        (repeat clear hK K); first | (simp [Z9, h1, h2, h3, h4, h5, h6, h7]; done) | (simp_all [Z9]; done)
       ·try rw [h7]
        try simp only [qB] at h7
        refine Qt (Qk (QG (QJ) (Qd fun K hK => Qa Z (kc1 hK Z ?_))))
        refine Qq (QA Z ?_)
        (repeat clear hK K); first | (simp [Z9, h1, h2, h3, h4, h5, h6, h7]; done) | (simp_all [Z9]; done)
theorem J1 {e a b c : Int} {p q : List UInt8} {f : Bool} (hp : p.length <= 1048576) (hq : q.length <= 1048576) {e' a' b' c' : Int} {p' q' : List UInt8} {f' : Bool} (hp' : p'.length <= 1048576) (hq' : q'.length <= 1048576) : Ok Tryd.prog 96 [.agg [.int .i64 e, .int .i64 a, .int .i64 b, .int .i64 c, .str p, .str q, .bool f, .int .i64 e', .int .i64 a', .int .i64 b', .int .i64 c', .str p', .str q', .bool f']] (.bool (Kq e a b c p q f e' a' b' c' p' q' f')) := by
 refine Ok.ofT Z5 Tryd.func96 Qd9 (Qeg Z) ?_
 show TW _ _ tf96.body _ _
 refine Qd fun K hK => ZJ Z Z Z (Qa Z (kc1 hK Z ?_))
 refine Qd fun K hK => Qe Z Z (QH (cs := [_, _, _, _, _, _, _]) Z Z Z Z (QK (Yg Wa Wa) Z Z (.inr Z) (Qa Z ?_)))
 refine Qp (g := 6) Z (fun h1 => ?_) (fun h1 => ?_)
 ·try rw [h1]
  try simp only [qB] at h1
  refine Qc Z (Qe Z Z (Qc Z (QH (cs := [_, _, _, _, _, _, _]) Z Z Z Z (Qc Z (QK (Yg Wa Wa) Z Z (.inr Z) (Qf Z Z (Qa Z ?_)))))))
  refine Qp (g := 11) Z (fun h2 => ?_) (fun h2 => ?_)
  ·try rw [h2]
   try simp only [qB] at h2
   refine Qc Z (Qe Z Z (Qc Z (QH (cs := [_, _, _, _, _, _, _]) Z Z Z Z (Qc Z (Qe Z Z (Qc Z (QH (cs := [_, _, _, _, _, _, _]) Z Z Z Z (Qc Z (QK (YY Wa Wa Wa Wa) Z Z (.inr Z) (Qc Z (Z6 Z Z ?_)))))))))))
   refine Qf Z Z (Qa Z (kc1 hK Z ?_))
   refine Qq (Qh Z ?_)
   (repeat clear hK K); first | (simp [Kq, h1, h2]; done) | (simp_all [Kq]; done)
  ·try rw [h2]
   try simp only [qB] at h2
   refine gn4 Z Z Z Z (gn2 Z Z (Qf Z Z (Qa Z (kc1 hK Z ?_))))
   refine Qq (Qh Z ?_)
   (repeat clear hK K); first | (simp [Kq, h1, h2]; done) | (simp_all [Kq]; done)
 ·try rw [h1]
  try simp only [qB] at h1
  refine gn3 Z Z Z (Qf Z Z (Qa Z (gn4 Z Z Z Z (gn2 Z Z (Qf Z Z ?_)))))
  refine Qa Z (kc1 hK Z ?_)
  refine Qq (Qh Z ?_)
  (repeat clear hK K); first | (simp [Kq, h1]; done) | (simp_all [Kq]; done)
open Go Go.Abs M3
theorem _root_.We {p : Prop} (h : p := by first | (left; assumption) | (right; omega)) : p := h
theorem Jp {s : List UInt8} (hl : s.length <= 1048576) : Ok Tryd.prog 64 [.str s] (.tup [.int .i64 (ZU s).1, .bool (ZU s).2]) := by
 refine Ok.ofT Z5 Tryd.func64 QdG (Qeg Z) ?_
 show TW _ _ tf64.body _ _
 refine Qd fun K hK => mv2 Z Z (kc1 hK Z ?_)
 refine Fu (ι := Unit) (fun _u => ⟨[(0, .str s)], []⟩) (fun _u => ¬ (s = [] \/ 4 < s.length \/ (1 < s.length /\ s.head? = some 48))) ?_ ?_
 ·skip
  refine Qd fun K hK => Qa Z (JO Z Z (Qa Z ?_))
  refine Qp (g := 9) Z (fun h1 => ?_) (fun h1 => ?_)
  ·try rw [h1]
   try simp only [qB, Qej, Qes, decide_eq_true_eq] at h1
   refine gn3 Z Z Z (Qf Z Z (Qa Z (gn4 Z Z Z Z (Qm Z (Qm Z (Qm Z ?_))))))
   refine Yv Z (Qf Z Z (kc2 hK Z Z ?_))
   refine QY Z (Qd fun K hK => mv2 Z Z (kc2 hK Z Z ?_))
   refine Qq (ZM (ZH Z Z ?_))
   first | (rw [Jl (s := s) We]; exact ⟨rfl, rfl⟩) | (rw [Yh (s := s) Wa Wc]; exact ⟨rfl, rfl⟩) | (rw [YP (s := s) (i := i) Wa Wj]; exact ⟨rfl, rfl⟩) | (rw [Ks (s := s) (i := i) hJ Wa hI.2.1]; exact ⟨rfl, by simp [JM, D.fz, D.fzS, D.can, D.canS]; omega⟩)
  ·try rw [h1]
   try simp only [qB, Qej, Qes, decide_eq_true_eq] at h1
   refine Qc Z (Qa Z (Qc Z (ZK Z (Qc Z (YW Z Z (Qf Z Z (Qa Z ?_)))))))
   refine Qp (g := 14) Z (fun h2 => ?_) (fun h2 => ?_)
   ·try rw [h2]
    try simp only [qB, Qej, Qes, decide_eq_true_eq] at h2
    refine gn4 Z Z Z Z (Qm Z (Qm Z (Qm Z (Yv Z (Qf Z Z (kc2 hK Z Z ?_))))))
    refine QY Z (Qd fun K hK => mv2 Z Z (kc2 hK Z Z ?_))
    refine Qq (ZM (ZH Z Z ?_))
    first | (rw [Jl (s := s) We]; exact ⟨rfl, rfl⟩) | (rw [Yh (s := s) Wa Wc]; exact ⟨rfl, rfl⟩) | (rw [YP (s := s) (i := i) Wa Wj]; exact ⟨rfl, rfl⟩) | (rw [Ks (s := s) (i := i) hJ Wa hI.2.1]; exact ⟨rfl, by simp [JM, D.fz, D.fzS, D.can, D.canS]; omega⟩)
   ·try rw [h2]
    try simp only [qB, Qej, Qes, decide_eq_true_eq] at h2
    refine Qc Z (Qa Z (Qc Z (ZY Z Z Wa (Ki (i := 0) (List.length_pos_iff.2 Wc)) (Qc Z (Xd Z Z (Qc Z (Qa Z ?_)))))))
    refine Qp (g := 18) Z (fun h3 => ?_) (fun h3 => ?_)
    ·try rw [h3]
     try simp only [qB, Qej, Qes, decide_eq_true_eq] at h3
     refine Qc Z (Qa Z (Qc Z (ZK Z (Qc Z (YW Z Z (Qc Z (Qf Z Z (Qf Z Z (kc2 hK Z Z ?_)))))))))
     refine Qw Z (fun h4 => ?_) (fun h4 => ?_)
     ·try rw [h4]
      try simp only [qB, Qej, Qes, decide_eq_true_eq] at h4
      refine Qd fun K hK => mv2 Z Z (kc2 hK Z Z ?_)
      refine Qq (ZM (ZH Z Z ?_))
      first | (rw [Jl (s := s) We]; exact ⟨rfl, rfl⟩) | (rw [Yh (s := s) Wa Wc]; exact ⟨rfl, rfl⟩) | (rw [YP (s := s) (i := i) Wa Wj]; exact ⟨rfl, rfl⟩) | (rw [Ks (s := s) (i := i) hJ Wa hI.2.1]; exact ⟨rfl, by simp [JM, D.fz, D.fzS, D.can, D.canS]; omega⟩)
     ·try rw [h4]
      try simp only [qB, Qej, Qes, decide_eq_true_eq] at h4
      refine Qt ?_
      refine Zc () ?_ ?_
      ·exact Q5 (kp1 rfl)
      ·rintro (q | q | q) <;> first | (simp_all; done) | omega | exact Ml (s := s) Wa Wc q.2
    ·try rw [h3]
     try simp only [qB, Qej, Qes, decide_eq_true_eq] at h3
     refine gn3 Z Z Z (Qc Z (Qf Z Z (Qf Z Z (kc2 hK Z Z ?_))))
     refine Ze Z (Qt ?_)
     refine Zc () ?_ ?_
     ·exact Q5 (kp1 rfl)
     ·rintro (q | q | q) <;> first | (simp_all; done) | omega | exact Ml (s := s) Wa Wc q.2
 intro _u hJ
 try dsimp only
 refine Qd fun K hK => Qa Z (kc2 hK Z Z ?_)
 refine QC ?_ -- 1
 refine Qd fun K hK => Qa Z (Tf Z Z (kc2 hK Z Z ?_))
 refine Qz ?_
 refine Zh (ι := Nat) (fun i => ⟨[(4, .int .i64 (val (s.take i))), (25, .ref 25 0 0)], [(25, ⟨[], 0, Zj s i, false⟩)]⟩) (fun i => i <= s.length /\ (s.take i).all Z1 = true /\ s.length <= 4 /\ 0 < s.length) (fun i => s.length - i) 0 ?_ ?_ ?_
 ·exact QT (l := [4, 25]) (lH := [25]) (kp2 rfl rfl) (Qb rfl Qj) (by simp [val]) rfl rfl
 ·exact ⟨Qer _, rfl, Nat.le_of_not_lt fun h => hJ (.inr (.inl h)), List.length_pos_iff.2 fun h => hJ (.inl h)⟩
 intro i hI
 have hv := L4 (s := s.take i) hI.2.1
 have hp : 10 ^ (s.take i).length <= 10 ^ 4 := Nat.pow_le_pow_right Wa Wh
 have hI1 := hI.1
 have hI3 := hI.2.2.1
 try dsimp only
 refine Qd fun K hK => ?_
 rcases QeC (i) (s).length with h5 | h5
 ·rcases QeC (((s)[i]).toNat) 128 with h6 | h6
  ·refine RK Z Z h5 (M7 h5 h6) (Zf Z Z (kc4 hK Z Z Z Z ?_))
   refine QC ?_ -- 2
   refine QY Z (Qt (ks3 Z Z Z (Qz (Qd fun K hK => Zf Z Z (Qa Z (kc3 hK Z Z Z ?_))))))
   refine Qz (Qd fun K hK => Qa Z (MU Z Z (Qa Z ?_)))
   refine Qp (g := 32) Z (fun h7 => ?_) (fun h7 => ?_)
   ·try rw [h7]
    try simp only [qB, Qej, Qes, decide_eq_true_eq] at h7
    refine Qc Z (Qa Z (Qc Z (RJ Z Z (Qf Z Z (Qa Z (kc4 hK Z Z Z Z ?_))))))
    refine Qw Z (fun h8 => ?_) (fun h8 => ?_)
    ·try rw [h8]
     try simp only [qB, Qej, Qes, decide_eq_true_eq] at h8
     refine QU fun K hK => Qa Z (Te Z Z Wb (Qa Z (KT Z Z Wb (Tc Z Wb (Zb Z Z Wb (Qa Z (hK _ ?_)))))))
     refine Qk (Qk ?_)
     refine Ql (i + 1) ?_ ?_ ?_
     ·first | exact QT (l := [4, 25]) (lH := [25]) (kp2 rfl rfl) (Qb rfl Qj) rfl rfl rfl | exact QT (l := [4, 25]) (lH := [25]) (kp2 rfl rfl) (Qb rfl Qj) Wq rfl rfl | (exfalso; omega)
     ·first | exact ⟨Wa, Q3 Wa hI.2.1 Wj, hI.2.2⟩ | (exfalso; omega)
     ·first | omega | (simp only; omega) | (dsimp only; omega)
    ·try rw [h8]
     try simp only [qB, Qej, Qes, decide_eq_true_eq] at h8
     refine Qd fun K hK => mv2 Z Z (kc2 hK Z Z ?_)
     refine Qq (Qi (Qi (QB (Qi (Qg (ZH Z Z ?_))))))
     first | (rw [Jl (s := s) We]; exact ⟨rfl, rfl⟩) | (rw [Yh (s := s) Wa Wc]; exact ⟨rfl, rfl⟩) | (rw [YP (s := s) (i := i) Wa Wj]; exact ⟨rfl, rfl⟩) | (rw [Ks (s := s) (i := i) hJ Wa hI.2.1]; exact ⟨rfl, by simp [JM, D.fz, D.fzS, D.can, D.canS]; omega⟩)
   ·try rw [h7]
    try simp only [qB, Qej, Qes, decide_eq_true_eq] at h7
    refine gn2 Z Z (Qf Z Z (Qa Z (kc4 hK Z Z Z Z ?_)))
    refine Ze Z (Qd fun K hK => mv2 Z Z (kc2 hK Z Z ?_))
    refine Qq (Qi (Qi (QB (Qi (Qg (ZH Z Z ?_))))))
    first | (rw [Jl (s := s) We]; exact ⟨rfl, rfl⟩) | (rw [Yh (s := s) Wa Wc]; exact ⟨rfl, rfl⟩) | (rw [YP (s := s) (i := i) Wa Wj]; exact ⟨rfl, rfl⟩) | (rw [Ks (s := s) (i := i) hJ Wa hI.2.1]; exact ⟨rfl, by simp [JM, D.fz, D.fzS, D.can, D.canS]; omega⟩)
  ·obtain ⟨cwh6, nwh6, hch6, hdh6⟩ := RU h5 h6
   refine RK Z Z h5 hdh6 (Zf Z Z (kc4 hK Z Z Z Z ?_))
   refine QC ?_ -- 2
   refine QY Z (Qt (ks3 Z Z Z (Qz (Qd fun K hK => Zf Z Z (Qa Z (kc3 hK Z Z Z ?_))))))
   refine Qz (Qd fun K hK => Qa Z (MU Z Z (Qa Z ?_)))
   refine Qp (g := 32) Z (fun h9 => ?_) (fun h9 => ?_)
   ·try rw [h9]
    try simp only [qB, Qej, Qes, decide_eq_true_eq] at h9
    refine Qc Z (Qa Z (Qc Z (RJ Z Z (Qf Z Z (Qa Z (kc4 hK Z Z Z Z ?_))))))
    refine Qw Z (fun h10 => ?_) (fun h10 => ?_)
    ·try rw [h10]
     try simp only [qB, Qej, Qes, decide_eq_true_eq] at h10
     refine QU fun K hK => Qa Z (Te Z Z Wb (Qa Z (KT Z Z Wb (Tc Z Wb (Zb Z Z Wb (Qa Z (hK _ ?_)))))))
     refine Qk (Qk ?_)
     refine Ql (i + 1) ?_ ?_ ?_
     ·first | exact QT (l := [4, 25]) (lH := [25]) (kp2 rfl rfl) (Qb rfl Qj) rfl rfl rfl | exact QT (l := [4, 25]) (lH := [25]) (kp2 rfl rfl) (Qb rfl Qj) Wq rfl rfl | (exfalso; omega)
     ·first | exact ⟨Wa, Q3 Wa hI.2.1 Wj, hI.2.2⟩ | (exfalso; omega)
     ·first | omega | (simp only; omega) | (dsimp only; omega)
    ·try rw [h10]
     try simp only [qB, Qej, Qes, decide_eq_true_eq] at h10
     refine Qd fun K hK => mv2 Z Z (kc2 hK Z Z ?_)
     refine Qq (Qi (Qi (QB (Qi (Qg (ZH Z Z ?_))))))
     first | (rw [Jl (s := s) We]; exact ⟨rfl, rfl⟩) | (rw [Yh (s := s) Wa Wc]; exact ⟨rfl, rfl⟩) | (rw [YP (s := s) (i := i) Wa Wj]; exact ⟨rfl, rfl⟩) | (rw [Ks (s := s) (i := i) hJ Wa hI.2.1]; exact ⟨rfl, by simp [JM, D.fz, D.fzS, D.can, D.canS]; omega⟩)
   ·try rw [h9]
    try simp only [qB, Qej, Qes, decide_eq_true_eq] at h9
    refine gn2 Z Z (Qf Z Z (Qa Z (kc4 hK Z Z Z Z ?_)))
    refine Ze Z (Qd fun K hK => mv2 Z Z (kc2 hK Z Z ?_))
    refine Qq (Qi (Qi (QB (Qi (Qg (ZH Z Z ?_))))))
    first | (rw [Jl (s := s) We]; exact ⟨rfl, rfl⟩) | (rw [Yh (s := s) Wa Wc]; exact ⟨rfl, rfl⟩) | (rw [YP (s := s) (i := i) Wa Wj]; exact ⟨rfl, rfl⟩) | (rw [Ks (s := s) (i := i) hJ Wa hI.2.1]; exact ⟨rfl, by simp [JM, D.fz, D.fzS, D.can, D.canS]; omega⟩)
 ·refine MV Z Z Wa (Zf Z Z (kc4 hK Z Z Z Z ?_))
  refine QC ?_ -- 2
  refine Ze Z (Q4 (QF (Qx (QE (ks1 Z (Qd fun K hK => mv2 Z Z (RJ Z Z (mv2 Z Z ?_))))))))
  refine kc2 hK Z Z ?_
  refine Qq (ZH Z Z ?_)
  first | (rw [Jl (s := s) We]; exact ⟨rfl, rfl⟩) | (rw [Yh (s := s) Wa Wc]; exact ⟨rfl, rfl⟩) | (rw [YP (s := s) (i := i) Wa Wj]; exact ⟨rfl, rfl⟩) | (rw [Ks (s := s) (i := i) hJ Wa hI.2.1]; exact ⟨rfl, by simp [JM, D.fz, D.fzS, D.can, D.canS]; omega⟩)
theorem _root_.Wf {p : Prop} (h : p := by decide) : p := h
theorem Jr {s : List UInt8} (hl : s.length <= 1048576) : Ok Tryd.prog 47 [.str s] (.bool (He s)) := by
 refine Ok.ofT Z5 Tryd.func47 Qdu (Qeg Z) ?_
 show TW _ _ tf47.body _ _
 refine Qd fun K hK => Qa Z (kc1 hK Z ?_)
 refine Bg (Qd fun K hK => Qa Z (QK (Xw Wa) Z Z (.inl Z) (Qa Z (kc1 hK Z ?_))))
 refine Qd fun K hK => Qa Z (QP Z Z (RJ Z Z (Qa Z (kc2 hK Z Z ?_))))
 refine QC ?_ -- 0
 refine Qt (ks2 Z Z ?_)
 refine QC ?_ -- 1
 refine Qd fun K hK => Qa Z (QP Z Z (Qa Z (kc4 hK Z Z Z Z ?_)))
 refine Qz ?_
 refine Zh (ι := Nat) (fun i => ⟨[(4, .bool (decide ((QZ s 46).length <= 4))), (14, .sl (YJ (QZ s 46))), (15, .int .i64 (QZ s 46).length), (16, .int .i64 i)], []⟩) (fun i => i <= (QZ s 46).length /\ ((QZ s 46).take i).all J2 = true) (fun i => (QZ s 46).length - i) 0 ?_ ?_ ?_
 ·exact QT (l := [4, 14, 15, 16]) (kp4 rfl rfl rfl rfl) Qj (by simp [Qn]; omega) rfl rfl
 ·exact ⟨Qer _, rfl⟩
 intro i hI
 have sl := Gm (s := s) (c := 46)
 try dsimp only
 refine Qd fun K hK => Z6 Z Z (kc5 hK Z Z Z Z Z ?_)
 refine QC ?_ -- 2
 refine Qw Z (fun h1 => ?_) (fun h1 => ?_)
 ·try rw [h1]
  try simp only [qB, Qn] at h1
  refine Qt (ks4 Z Z Z Z ?_)
  refine QC ?_ -- 3
  refine Qz (Qd fun K hK => QN Z Z Z Wa (XC Wa) Z (Qs Z Z Z (Qa Z (kc5 hK Z Z Z Z Z ?_))))
  refine QC ?_ -- 4
  refine Qd fun K hK => Qa Z (JO Z Z (Qa Z ?_))
  refine Qp (g := 22) Z (fun h2 => ?_) (fun h2 => ?_)
  ·try rw [h2]
   try simp only [qB, Qn] at h2
   refine gn3 Z Z Z (Qf Z Z (kc6 hK Z Z Z Z Z Z ?_))
   refine QY Z (Qd fun K hK => Qa Z (kc1 hK Z ?_))
   refine Q4 (QF (Q7 Wf (QF (Qx (QE (ks1 Z (Qd fun K hK => mv2 Z Z (kc1 hK Z ?_))))))))
   refine Qq (Qh Z ?_)
   first | exact (ZE (i := i) Wa (YN We)).symm | exact (ZE (i := i) Wa (YM (Yj (i := j) Wa Wg))).symm | exact (Ys Wa hI.2).symm
  ·try rw [h2]
   try simp only [qB, Qn] at h2
   refine Qc Z (Qa Z (Qc Z (ZK Z (Qc Z (YW Z Z (Qf Z Z (kc6 hK Z Z Z Z Z Z ?_)))))))
   refine Qw Z (fun h3 => ?_) (fun h3 => ?_)
   ·try rw [h3]
    try simp only [qB, Qn] at h3
    refine Qd fun K hK => Qa Z (kc1 hK Z ?_)
    refine Q4 (QF (Q7 Wf (QF (Qx (QE (ks1 Z (Qd fun K hK => mv2 Z Z (kc1 hK Z ?_))))))))
    refine Qq (Qh Z ?_)
    first | exact (ZE (i := i) Wa (YN We)).symm | exact (ZE (i := i) Wa (YM (Yj (i := j) Wa Wg))).symm | exact (Ys Wa hI.2).symm
   ·try rw [h3]
    try simp only [qB, Qn] at h3
    refine Qt (ks5 Z Z Z Z Z (Qd fun K hK => Qa Z (Tf Z Z (kc5 hK Z Z Z Z Z ?_))))
    refine Qz ?_
    have hlt : i < (QZ s 46).length := Wa
    refine Zh (ι := Nat) (fun j => ⟨[(4, .bool (decide ((QZ s 46).length <= 4))), (14, .sl (YJ (QZ s 46))), (15, .int .i64 (QZ s 46).length), (16, .int .i64 i), (28, .ref 28 0 0)], [(28, ⟨[], 0, Zj ((QZ s 46)[i]'hlt) j, false⟩)]⟩) (fun j => j <= ((QZ s 46)[i]'hlt).length /\ (((QZ s 46)[i]'hlt).take j).all ZB = true) (fun j => ((QZ s 46)[i]'hlt).length - j) 0 ?_ ?_ ?_
    ·first | exact QT (l := [4, 14, 15, 16, 28]) (lH := [28]) (kp5 rfl rfl rfl rfl rfl) (Qb rfl Qj) rfl rfl rfl | (exfalso; omega)
    ·exact ⟨Qer _, rfl⟩
    intro j hJ
    have hJ1 := hJ.1
    try dsimp only
    refine Qd fun K hK => ?_
    rcases QeC (j) (((QZ s 46)[i]'hlt)).length with h4 | h4
    ·rcases QeC (((((QZ s 46)[i]'hlt))[j]).toNat) 128 with h5 | h5
     ·refine RK Z Z h4 (M7 h4 h5) (Zf Z Z (kc7 hK Z Z Z Z Z Z Z ?_))
      refine QC ?_ -- 5
      refine QY Z (Qt (ks6 Z Z Z Z Z Z (Qz (Qd fun K hK => Zf Z Z (Qa Z (kc6 hK Z Z Z Z Z Z ?_))))))
      refine Qd fun K hK => Qa Z (Z6 Z Z (Qa Z ?_))
      refine Qp (g := 34) Z (fun h6 => ?_) (fun h6 => ?_)
      ·try rw [h6]
       try simp only [qB, Qn] at h6
       refine gn2 Z Z (Qf Z Z (Qa Z (Qc Z (Qa Z (Qc Z (Z6 Z Z (Qc Z (Qa Z ?_))))))))
       refine Qp (g := 41) Z (fun h7 => ?_) (fun h7 => ?_)
       ·try rw [h7]
        try simp only [qB, Qn] at h7
        refine gn2 Z Z (Qc Z (Qf Z Z (Qf Z Z (Qa Z (Qc Z (Qa Z (Qc Z (Yw Z Z (Qf Z Z (kc6 hK Z Z Z Z Z Z ?_))))))))))
        refine Qw Z (fun h8 => ?_) (fun h8 => ?_)
        ·try rw [h8]
         try simp only [qB, Qn] at h8
         refine Qd fun K hK => Qa Z (kc1 hK Z ?_)
         refine Q4 (Q7 Wf (Qx (Q7 Wf (Q7 Wf (QF (Qx (QE (ks1 Z (Qd fun K hK => mv2 Z Z ?_)))))))))
         refine kc1 hK Z ?_
         refine Qq (Qh Z ?_)
         first | exact (ZE (i := i) Wa (YN We)).symm | exact (ZE (i := i) Wa (YM (Yj (i := j) Wa Wg))).symm | exact (Ys Wa hI.2).symm
        ·try rw [h8]
         try simp only [qB, Qn] at h8
         refine Qt (Qk ?_)
         refine Ql (j + 1) ?_ ?_ ?_
         ·first | exact QT (l := [4, 14, 15, 16, 28]) (lH := [28]) (kp5 rfl rfl rfl rfl rfl) (Qb rfl Qj) rfl rfl rfl | (exfalso; omega)
         ·first | exact ⟨Wa, Q3 Wa hJ.2 Wg⟩ | (exfalso; omega)
         ·first | omega | (simp only; omega) | (dsimp only; omega)
       ·try rw [h7]
        try simp only [qB, Qn] at h7
        refine Qc Z (Qa Z (Qc Z (YW Z Z (Qc Z (Qf Z Z (Qf Z Z (Qa Z ?_)))))))
        refine Qp (g := 46) Z (fun h9 => ?_) (fun h9 => ?_)
        ·try rw [h9]
         try simp only [qB, Qn] at h9
         refine Qc Z (Qa Z (Qc Z (Yw Z Z (Qf Z Z (kc6 hK Z Z Z Z Z Z ?_)))))
         refine Qw Z (fun h10 => ?_) (fun h10 => ?_)
         ·try rw [h10]
          try simp only [qB, Qn] at h10
          refine Qd fun K hK => Qa Z (kc1 hK Z ?_)
          refine Q4 (Q7 Wf (Qx (Q7 Wf (Q7 Wf (QF (Qx (QE (ks1 Z (Qd fun K hK => mv2 Z Z ?_)))))))))
          refine kc1 hK Z ?_
          refine Qq (Qh Z ?_)
          first | exact (ZE (i := i) Wa (YN We)).symm | exact (ZE (i := i) Wa (YM (Yj (i := j) Wa Wg))).symm | exact (Ys Wa hI.2).symm
         ·try rw [h10]
          try simp only [qB, Qn] at h10
          refine Qt (Qk ?_)
          refine Ql (j + 1) ?_ ?_ ?_
          ·first | exact QT (l := [4, 14, 15, 16, 28]) (lH := [28]) (kp5 rfl rfl rfl rfl rfl) (Qb rfl Qj) rfl rfl rfl | (exfalso; omega)
          ·first | exact ⟨Wa, Q3 Wa hJ.2 Wg⟩ | (exfalso; omega)
          ·first | omega | (simp only; omega) | (dsimp only; omega)
        ·try rw [h9]
         try simp only [qB, Qn] at h9
         refine gn2 Z Z (Qf Z Z (kc6 hK Z Z Z Z Z Z ?_))
         refine Ze Z (Qt (Qk ?_))
         refine Ql (j + 1) ?_ ?_ ?_
         ·first | exact QT (l := [4, 14, 15, 16, 28]) (lH := [28]) (kp5 rfl rfl rfl rfl rfl) (Qb rfl Qj) rfl rfl rfl | (exfalso; omega)
         ·first | exact ⟨Wa, Q3 Wa hJ.2 Wg⟩ | (exfalso; omega)
         ·first | omega | (simp only; omega) | (dsimp only; omega)
      ·try rw [h6]
       try simp only [qB, Qn] at h6
       refine Qc Z (Qa Z (Qc Z (YW Z Z (Qf Z Z (Qa Z ?_)))))
       refine Qp (g := 38) Z (fun h11 => ?_) (fun h11 => ?_)
       ·try rw [h11]
        try simp only [qB, Qn] at h11
        refine Qc Z (Qa Z (Qc Z (Z6 Z Z (Qc Z (Qa Z ?_)))))
        refine Qp (g := 41) Z (fun h12 => ?_) (fun h12 => ?_)
        ·try rw [h12]
         try simp only [qB, Qn] at h12
         refine gn2 Z Z (Qc Z (Qf Z Z (Qf Z Z (Qa Z (Qc Z (Qa Z (Qc Z (Yw Z Z (Qf Z Z (kc6 hK Z Z Z Z Z Z ?_))))))))))
         refine Qw Z (fun h13 => ?_) (fun h13 => ?_)
         ·try rw [h13]
          try simp only [qB, Qn] at h13
          refine Qd fun K hK => Qa Z (kc1 hK Z ?_)
          refine Q4 (Q7 Wf (Qx (Q7 Wf (Q7 Wf (QF (Qx (QE (ks1 Z (Qd fun K hK => mv2 Z Z ?_)))))))))
          refine kc1 hK Z ?_
          refine Qq (Qh Z ?_)
          first | exact (ZE (i := i) Wa (YN We)).symm | exact (ZE (i := i) Wa (YM (Yj (i := j) Wa Wg))).symm | exact (Ys Wa hI.2).symm
         ·try rw [h13]
          try simp only [qB, Qn] at h13
          refine Qt (Qk ?_)
          refine Ql (j + 1) ?_ ?_ ?_
          ·first | exact QT (l := [4, 14, 15, 16, 28]) (lH := [28]) (kp5 rfl rfl rfl rfl rfl) (Qb rfl Qj) rfl rfl rfl | (exfalso; omega)
          ·first | exact ⟨Wa, Q3 Wa hJ.2 Wg⟩ | (exfalso; omega)
          ·first | omega | (simp only; omega) | (dsimp only; omega)
        ·try rw [h12]
         try simp only [qB, Qn] at h12
         refine Qc Z (Qa Z (Qc Z (YW Z Z (Qc Z (Qf Z Z (Qf Z Z (Qa Z ?_)))))))
         refine Qp (g := 46) Z (fun h14 => ?_) (fun h14 => ?_)
         ·try rw [h14]
          try simp only [qB, Qn] at h14
          refine Qc Z (Qa Z (Qc Z (Yw Z Z (Qf Z Z (kc6 hK Z Z Z Z Z Z ?_)))))
          refine Qw Z (fun h15 => ?_) (fun h15 => ?_)
          ·try rw [h15]
           try simp only [qB, Qn] at h15
           refine Qd fun K hK => Qa Z (kc1 hK Z ?_)
           refine Q4 (Q7 Wf (Qx (Q7 Wf (Q7 Wf (QF (Qx (QE (ks1 Z (Qd fun K hK => mv2 Z Z ?_)))))))))
           refine kc1 hK Z ?_
           refine Qq (Qh Z ?_)
           first | exact (ZE (i := i) Wa (YN We)).symm | exact (ZE (i := i) Wa (YM (Yj (i := j) Wa Wg))).symm | exact (Ys Wa hI.2).symm
          ·try rw [h15]
           try simp only [qB, Qn] at h15
           refine Qt (Qk ?_)
           refine Ql (j + 1) ?_ ?_ ?_
           ·first | exact QT (l := [4, 14, 15, 16, 28]) (lH := [28]) (kp5 rfl rfl rfl rfl rfl) (Qb rfl Qj) rfl rfl rfl | (exfalso; omega)
           ·first | exact ⟨Wa, Q3 Wa hJ.2 Wg⟩ | (exfalso; omega)
           ·first | omega | (simp only; omega) | (dsimp only; omega)
         ·try rw [h14]
          try simp only [qB, Qn] at h14
          refine gn2 Z Z (Qf Z Z (kc6 hK Z Z Z Z Z Z ?_))
          refine Ze Z (Qt (Qk ?_))
          refine Ql (j + 1) ?_ ?_ ?_
          ·first | exact QT (l := [4, 14, 15, 16, 28]) (lH := [28]) (kp5 rfl rfl rfl rfl rfl) (Qb rfl Qj) rfl rfl rfl | (exfalso; omega)
          ·first | exact ⟨Wa, Q3 Wa hJ.2 Wg⟩ | (exfalso; omega)
          ·first | omega | (simp only; omega) | (dsimp only; omega)
       ·try rw [h11]
        try simp only [qB, Qn] at h11
        refine gn3 Z Z Z (Qm Z (Qm Z (Yv Z (Qf Z Z (Qa Z (gn2 Z Z (Qf Z Z (kc6 hK Z Z Z Z Z Z ?_))))))))
        refine Ze Z (Qt (Qk ?_))
        refine Ql (j + 1) ?_ ?_ ?_
        ·first | exact QT (l := [4, 14, 15, 16, 28]) (lH := [28]) (kp5 rfl rfl rfl rfl rfl) (Qb rfl Qj) rfl rfl rfl | (exfalso; omega)
        ·first | exact ⟨Wa, Q3 Wa hJ.2 Wg⟩ | (exfalso; omega)
        ·first | omega | (simp only; omega) | (dsimp only; omega)
     ·obtain ⟨cwh5, nwh5, hch5, hdh5⟩ := RU h4 h5
      refine RK Z Z h4 hdh5 (Zf Z Z (kc7 hK Z Z Z Z Z Z Z ?_))
      refine QC ?_ -- 5
      refine QY Z (Qt (ks6 Z Z Z Z Z Z (Qz (Qd fun K hK => Zf Z Z (Qa Z (kc6 hK Z Z Z Z Z Z ?_))))))
      refine Qd fun K hK => Qa Z (Z6 Z Z (Qa Z ?_))
      refine Qp (g := 34) Z (fun h16 => ?_) (fun h16 => ?_)
      ·try rw [h16]
       try simp only [qB, Qn] at h16
       refine gn2 Z Z (Qf Z Z (Qa Z (Qc Z (Qa Z (Qc Z (Z6 Z Z (Qc Z (Qa Z ?_))))))))
       refine Qp (g := 41) Z (fun h17 => ?_) (fun h17 => ?_)
       ·try rw [h17]
        try simp only [qB, Qn] at h17
        refine gn2 Z Z (Qc Z (Qf Z Z (Qf Z Z (Qa Z (Qc Z (Qa Z (Qc Z (Yw Z Z (Qf Z Z (kc6 hK Z Z Z Z Z Z ?_))))))))))
        refine Qw Z (fun h18 => ?_) (fun h18 => ?_)
        ·try rw [h18]
         try simp only [qB, Qn] at h18
         refine Qd fun K hK => Qa Z (kc1 hK Z ?_)
         refine Q4 (Q7 Wf (Qx (Q7 Wf (Q7 Wf (QF (Qx (QE (ks1 Z (Qd fun K hK => mv2 Z Z ?_)))))))))
         refine kc1 hK Z ?_
         refine Qq (Qh Z ?_)
         first | exact (ZE (i := i) Wa (YN We)).symm | exact (ZE (i := i) Wa (YM (Yj (i := j) Wa Wg))).symm | exact (Ys Wa hI.2).symm
        ·try rw [h18]
         try simp only [qB, Qn] at h18
         refine Qt (Qk ?_)
         refine Ql (j + 1) ?_ ?_ ?_
         ·first | exact QT (l := [4, 14, 15, 16, 28]) (lH := [28]) (kp5 rfl rfl rfl rfl rfl) (Qb rfl Qj) rfl rfl rfl | (exfalso; omega)
         ·first | exact ⟨Wa, Q3 Wa hJ.2 Wg⟩ | (exfalso; omega)
         ·first | omega | (simp only; omega) | (dsimp only; omega)
       ·try rw [h17]
        try simp only [qB, Qn] at h17
        refine Qc Z (Qa Z (Qc Z (YW Z Z (Qc Z (Qf Z Z (Qf Z Z (Qa Z ?_)))))))
        refine Qp (g := 46) Z (fun h19 => ?_) (fun h19 => ?_)
        ·try rw [h19]
         try simp only [qB, Qn] at h19
         refine Qc Z (Qa Z (Qc Z (Yw Z Z (Qf Z Z (kc6 hK Z Z Z Z Z Z ?_)))))
         refine Qw Z (fun h20 => ?_) (fun h20 => ?_)
         ·try rw [h20]
          try simp only [qB, Qn] at h20
          refine Qd fun K hK => Qa Z (kc1 hK Z ?_)
          refine Q4 (Q7 Wf (Qx (Q7 Wf (Q7 Wf (QF (Qx (QE (ks1 Z (Qd fun K hK => mv2 Z Z ?_)))))))))
          refine kc1 hK Z ?_
          refine Qq (Qh Z ?_)
          first | exact (ZE (i := i) Wa (YN We)).symm | exact (ZE (i := i) Wa (YM (Yj (i := j) Wa Wg))).symm | exact (Ys Wa hI.2).symm
         ·try rw [h20]
          try simp only [qB, Qn] at h20
          refine Qt (Qk ?_)
          refine Ql (j + 1) ?_ ?_ ?_
          ·first | exact QT (l := [4, 14, 15, 16, 28]) (lH := [28]) (kp5 rfl rfl rfl rfl rfl) (Qb rfl Qj) rfl rfl rfl | (exfalso; omega)
          ·first | exact ⟨Wa, Q3 Wa hJ.2 Wg⟩ | (exfalso; omega)
          ·first | omega | (simp only; omega) | (dsimp only; omega)
        ·try rw [h19]
         try simp only [qB, Qn] at h19
         refine gn2 Z Z (Qf Z Z (kc6 hK Z Z Z Z Z Z ?_))
         refine Ze Z (Qt (Qk ?_))
         refine Ql (j + 1) ?_ ?_ ?_
         ·first | exact QT (l := [4, 14, 15, 16, 28]) (lH := [28]) (kp5 rfl rfl rfl rfl rfl) (Qb rfl Qj) rfl rfl rfl | (exfalso; omega)
         ·first | exact ⟨Wa, Q3 Wa hJ.2 Wg⟩ | (exfalso; omega)
         ·first | omega | (simp only; omega) | (dsimp only; omega)
      ·try rw [h16]
       try simp only [qB, Qn] at h16
       refine Qc Z (Qa Z (Qc Z (YW Z Z (Qf Z Z (Qa Z ?_)))))
       refine Qp (g := 38) Z (fun h21 => ?_) (fun h21 => ?_)
       ·try rw [h21]
        try simp only [qB, Qn] at h21
        refine Qc Z (Qa Z (Qc Z (Z6 Z Z (Qc Z (Qa Z ?_)))))
        refine Qp (g := 41) Z (fun h22 => ?_) (fun h22 => ?_)
        ·try rw [h22]
         try simp only [qB, Qn] at h22
         refine gn2 Z Z (Qc Z (Qf Z Z (Qf Z Z (Qa Z (Qc Z (Qa Z (Qc Z (Yw Z Z (Qf Z Z (kc6 hK Z Z Z Z Z Z ?_))))))))))
         refine Qw Z (fun h23 => ?_) (fun h23 => ?_)
         ·try rw [h23]
          try simp only [qB, Qn] at h23
          refine Qd fun K hK => Qa Z (kc1 hK Z ?_)
          refine Q4 (Q7 Wf (Qx (Q7 Wf (Q7 Wf (QF (Qx (QE (ks1 Z (Qd fun K hK => mv2 Z Z ?_)))))))))
          refine kc1 hK Z ?_
          refine Qq (Qh Z ?_)
          first | exact (ZE (i := i) Wa (YN We)).symm | exact (ZE (i := i) Wa (YM (Yj (i := j) Wa Wg))).symm | exact (Ys Wa hI.2).symm
         ·try rw [h23]
          try simp only [qB, Qn] at h23
          refine Qt (Qk ?_)
          refine Ql (j + 1) ?_ ?_ ?_
          ·first | exact QT (l := [4, 14, 15, 16, 28]) (lH := [28]) (kp5 rfl rfl rfl rfl rfl) (Qb rfl Qj) rfl rfl rfl | (exfalso; omega)
          ·first | exact ⟨Wa, Q3 Wa hJ.2 Wg⟩ | (exfalso; omega)
          ·first | omega | (simp only; omega) | (dsimp only; omega)
        ·try rw [h22]
         try simp only [qB, Qn] at h22
         refine Qc Z (Qa Z (Qc Z (YW Z Z (Qc Z (Qf Z Z (Qf Z Z (Qa Z ?_)))))))
         refine Qp (g := 46) Z (fun h24 => ?_) (fun h24 => ?_)
         ·try rw [h24]
          try simp only [qB, Qn] at h24
          refine Qc Z (Qa Z (Qc Z (Yw Z Z (Qf Z Z (kc6 hK Z Z Z Z Z Z ?_)))))
          refine Qw Z (fun h25 => ?_) (fun h25 => ?_)
          ·try rw [h25]
           try simp only [qB, Qn] at h25
           refine Qd fun K hK => Qa Z (kc1 hK Z ?_)
           refine Q4 (Q7 Wf (Qx (Q7 Wf (Q7 Wf (QF (Qx (QE (ks1 Z (Qd fun K hK => mv2 Z Z ?_)))))))))
           refine kc1 hK Z ?_
           refine Qq (Qh Z ?_)
           first | exact (ZE (i := i) Wa (YN We)).symm | exact (ZE (i := i) Wa (YM (Yj (i := j) Wa Wg))).symm | exact (Ys Wa hI.2).symm
          ·try rw [h25]
           try simp only [qB, Qn] at h25
           refine Qt (Qk ?_)
           refine Ql (j + 1) ?_ ?_ ?_
           ·first | exact QT (l := [4, 14, 15, 16, 28]) (lH := [28]) (kp5 rfl rfl rfl rfl rfl) (Qb rfl Qj) rfl rfl rfl | (exfalso; omega)
           ·first | exact ⟨Wa, Q3 Wa hJ.2 Wg⟩ | (exfalso; omega)
           ·first | omega | (simp only; omega) | (dsimp only; omega)
         ·try rw [h24]
          try simp only [qB, Qn] at h24
          refine gn2 Z Z (Qf Z Z (kc6 hK Z Z Z Z Z Z ?_))
          refine Ze Z (Qt (Qk ?_))
          refine Ql (j + 1) ?_ ?_ ?_
          ·first | exact QT (l := [4, 14, 15, 16, 28]) (lH := [28]) (kp5 rfl rfl rfl rfl rfl) (Qb rfl Qj) rfl rfl rfl | (exfalso; omega)
          ·first | exact ⟨Wa, Q3 Wa hJ.2 Wg⟩ | (exfalso; omega)
          ·first | omega | (simp only; omega) | (dsimp only; omega)
       ·try rw [h21]
        try simp only [qB, Qn] at h21
        refine gn3 Z Z Z (Qm Z (Qm Z (Yv Z (Qf Z Z (Qa Z (gn2 Z Z (Qf Z Z (kc6 hK Z Z Z Z Z Z ?_))))))))
        refine Ze Z (Qt (Qk ?_))
        refine Ql (j + 1) ?_ ?_ ?_
        ·first | exact QT (l := [4, 14, 15, 16, 28]) (lH := [28]) (kp5 rfl rfl rfl rfl rfl) (Qb rfl Qj) rfl rfl rfl | (exfalso; omega)
        ·first | exact ⟨Wa, Q3 Wa hJ.2 Wg⟩ | (exfalso; omega)
        ·first | omega | (simp only; omega) | (dsimp only; omega)
    ·refine MV Z Z Wa (Zf Z Z (kc7 hK Z Z Z Z Z Z Z ?_))
     refine QC ?_ -- 5
     refine Ze Z (Q4 (QF (Qx (QE (Qk (ks4 Z Z Z Z (QU fun K hK => Zb Z Z Wb (Qa Z (hK _ ?_)))))))))
     refine Ql (i + 1) ?_ ?_ ?_
     ·exact QT (l := [4, 14, 15, 16]) (kp4 rfl rfl rfl rfl) Qj rfl rfl rfl
     ·exact ⟨Wa, Q3 Wa hI.2 (BT Wc Wa (Y0 Wa hJ.2))⟩
     ·first | omega | (simp only; omega) | (dsimp only; omega)
 ·try rw [h1]
  try simp only [qB, Qn] at h1
  refine Q4 (QF (Qx (QE (ks1 Z (Qd fun K hK => mv2 Z Z (kc1 hK Z ?_))))))
  refine Qq (Qh Z ?_)
  first | exact (ZE (i := i) Wa (YN We)).symm | exact (ZE (i := i) Wa (YM (Yj (i := j) Wa Wg))).symm | exact (Ys Wa hI.2).symm
open Go Go.Abs M3
theorem N8 {a b : List UInt8} (ha : a.length <= 1048576) (hb : b.length <= 1048576) : Ok Tryd.prog 51 [.str a, .str b] (.int .i64 (Nv a b)) := by
 refine Ok.ofT Z5 Tryd.func51 Qdy (Qeg Z) ?_
 show TW _ _ tf51.body _ _
 refine Qd fun K hK => Qa Z (kc2 hK Z Z ?_)
 refine Qd fun K hK => Qa Z (QK (Y3 Wa) Z Z (.inr Z) (Qa Z (QK (Y3 Wa) Z Z (.inr Z) (mv2 Z Z (kc4 hK Z Z Z Z ?_)))))
 refine QC ?_ -- 0
 refine Qd fun K hK => mv2 Z Z ?_
 refine Qp (g := 16) Z (fun h1 => ?_) (fun h1 => ?_)
 ·try rw [h1]
  try simp only [qB] at h1
  refine Qc Z (Qa Z (Qf Z Z (kc5 hK Z Z Z Z Z ?_)))
  refine Qw Z (fun h2 => ?_) (fun h2 => ?_)
  ·try rw [h2]
   try simp only [qB] at h2
   refine Qd fun K hK => Qa Z (QK (Jp Wa) Z Z (.inr Z) (Qa Z (Zf Z Z (Zf Z Z (mv2 Z Z (kc2 hK Z Z ?_))))))
   refine Qd fun K hK => Qa Z (QK (Jp Wa) Z Z (.inr Z) (Qa Z (Zf Z Z (Zf Z Z (mv2 Z Z (kc2 hK Z Z ?_))))))
   refine Qd fun K hK => mv2 Z Z (QK (Zy) Z Z (.inr Z) (Qa Z (kc1 hK Z ?_)))
   refine Qq (Qg (QA Z ?_))
   (repeat clear hK K); first | (simp [Nv, h1, h2]; done) | (simp_all [Nv]; done)
  ·try rw [h2]
   try simp only [qB] at h2
   refine Qt (ks4 Z Z Z Z ?_)
   refine QC ?_ -- 1
   refine Qd fun K hK => mv2 Z Z (QaT Z Z (kc4 hK Z Z Z Z ?_))
   refine Qw Z (fun h3 => ?_) (fun h3 => ?_)
   ·try rw [h3]
    try simp only [qB] at h3
    refine QC ?_ -- 2
    refine Qd fun K hK => Qa Z (kc1 hK Z ?_)
    refine QY Z (Qd fun K hK => Qa Z (kc1 hK Z ?_))
    refine Qq (Qg (Qg (QA Z ?_)))
    (repeat clear hK K); first | (simp [Nv, h1, h2, h3]; done) | (simp_all [Nv]; done)
   ·try rw [h3]
    try simp only [qB] at h3
    refine Qt (ks2 Z Z (Qd fun K hK => mv2 Z Z (QK (ZW) Z Z (.inr Z) (Qa Z (kc1 hK Z ?_)))))
    refine Qq (QA Z ?_)
    (repeat clear hK K); first | (simp [Nv, h1, h2, h3]; done) | (simp_all [Nv]; done)
 ·try rw [h1]
  try simp only [qB] at h1
  refine Yv Z (Qf Z Z (kc5 hK Z Z Z Z Z ?_))
  refine Ze Z (Qt (ks4 Z Z Z Z ?_))
  refine QC ?_ -- 1
  refine Qd fun K hK => mv2 Z Z (QaT Z Z (kc4 hK Z Z Z Z ?_))
  refine Qw Z (fun h4 => ?_) (fun h4 => ?_)
  ·try rw [h4]
   try simp only [qB] at h4
   refine QC ?_ -- 2
   refine Qd fun K hK => Qa Z (kc1 hK Z ?_)
   refine Ze Z (Qt (QG (QJ) (Qd fun K hK => Qa Z (kc1 hK Z ?_))))
   refine Qq (Qg (QA Z ?_))
   (repeat clear hK K); first | (simp [Nv, h1, h4]; done) | (simp_all [Nv]; done)
  ·try rw [h4]
   try simp only [qB] at h4
   refine Qt (ks2 Z Z (Qd fun K hK => mv2 Z Z (QK (ZW) Z Z (.inr Z) (Qa Z (kc1 hK Z ?_)))))
   refine Qq (QA Z ?_)
   (repeat clear hK K); first | (simp [Nv, h1, h4]; done) | (simp_all [Nv]; done)
theorem N7 {s : List UInt8} (hl : s.length <= 1048576) : Ok Tryd.prog 46 [.str s] (.bool (Nw s)) := by
 refine Ok.ofT Z5 Tryd.func46 Qdt (Qeg Z) ?_
 show TW _ _ tf46.body _ _
 refine Qd fun K hK => Qa Z (kc1 hK Z ?_)
 refine QC ?_ -- 0
 refine Qd fun K hK => Qa Z (QK (Jr Wa) Z Z (.inr Z) (Zv Z (kc2 hK Z Z ?_)))
 refine Qw Z (fun h1 => ?_) (fun h1 => ?_)
 ·try rw [h1]
  try simp only [qB, Qn] at h1
  refine Qd fun K hK => Qa Z (kc1 hK Z ?_)
  refine Qq (Qg (Qh Z ?_))
  first | (simp [Nw, h1]; done) | exact (Rq (i := i) Wa (by simp [G5, h1])).symm | exact (Mw (i := i) Wc Wa hI.2).symm
 ·try rw [h1]
  try simp only [qB, Qn] at h1
  refine Qt (ks1 Z ?_)
  refine QC ?_ -- 1
  refine Qd fun K hK => Qa Z (QK (Xw Wa) Z Z (.inl Z) (QP Z Z (Qa Z (kc3 hK Z Z Z ?_))))
  refine Qz ?_
  refine Zh (ι := Nat) (fun i => ⟨[(11, .sl (YJ (QZ s 46))), (12, .int .i64 (QZ s 46).length), (13, .int .i64 i)], []⟩) (fun i => i <= (QZ s 46).length /\ ((QZ s 46).take i).all G5 = true) (fun i => (QZ s 46).length - i) 0 ?_ ?_ ?_
  ·exact QT (l := [11, 12, 13]) (kp3 rfl rfl rfl) Qj (by simp [Qn]) rfl rfl
  ·exact ⟨Qer _, rfl⟩
  intro i hI
  have sl := Gm (s := s) (c := 46)
  try dsimp only
  refine Qd fun K hK => Z6 Z Z (kc4 hK Z Z Z Z ?_)
  refine QC ?_ -- 2
  refine Qw Z (fun h2 => ?_) (fun h2 => ?_)
  ·try rw [h2]
   try simp only [qB, Qn] at h2
   refine Qt (ks3 Z Z Z ?_)
   refine QC ?_ -- 3
   refine Qz (Qd fun K hK => QN Z Z Z Wa (XC Wa) Z (Qs Z Z Z (Qa Z (kc4 hK Z Z Z Z ?_))))
   refine Qd fun K hK => Qa Z (QK (Jp (XH Wa hl)) Z Z (.inr Z) (Qa Z (Zf Z Z (Zf Z Z (mv2 Z Z (kc5 hK Z Z Z Z Z ?_))))))
   refine Qd fun K hK => Qa Z (QK (Y3 (XH Wa hl)) Z Z (.inr Z) (Qa Z ?_))
   refine Qp (g := 24) Z (fun h3 => ?_) (fun h3 => ?_)
   ·try rw [h3]
    try simp only [qB, Qn] at h3
    refine Qc Z (Qa Z (Qc Z (Zv Z (Qf Z Z (kc4 hK Z Z Z Z ?_)))))
    refine Qw Z (fun h4 => ?_) (fun h4 => ?_)
    ·try rw [h4]
     try simp only [qB, Qn] at h4
     refine Qd fun K hK => Qa Z (kc1 hK Z ?_)
     refine Qq (Qi (Qg (QB (Qi (Qg (Qh Z ?_))))))
     first | (simp [Nw, h1, h2, h3, h4]; done) | exact (Rq (i := i) Wa (by simp [G5, h1, h2, h3, h4])).symm | exact (Mw (i := i) Wc Wa hI.2).symm
    ·try rw [h4]
     try simp only [qB, Qn] at h4
     refine Qt (Qk (ks3 Z Z Z (QU fun K hK => Zb Z Z Wb (Qa Z (hK _ ?_)))))
     refine Ql (i + 1) ?_ ?_ ?_
     ·exact Q5 (kp3 rfl rfl rfl)
     ·exact ⟨Wa, Q3 Wa hI.2 (by simp [G5, h1, h2, h3, h4])⟩
     ·first | omega | (simp only; omega) | (dsimp only; omega)
   ·try rw [h3]
    try simp only [qB, Qn] at h3
    refine gn2 Z Z (Qf Z Z (kc4 hK Z Z Z Z ?_))
    refine Ze Z (Qt (Qk (ks3 Z Z Z (QU fun K hK => Zb Z Z Wb (Qa Z (hK _ ?_))))))
    refine Ql (i + 1) ?_ ?_ ?_
    ·exact Q5 (kp3 rfl rfl rfl)
    ·exact ⟨Wa, Q3 Wa hI.2 (by simp [G5, h1, h2, h3])⟩
    ·first | omega | (simp only; omega) | (dsimp only; omega)
  ·try rw [h2]
   try simp only [qB, Qn] at h2
   refine Q4 (QF (Qx (QE (QG (QJ) (Qd fun K hK => Qa Z (kc1 hK Z ?_))))))
   refine Qq (Qh Z ?_)
   first | (simp [Nw, h1, h2]; done) | exact (Rq (i := i) Wa (by simp [G5, h1, h2])).symm | exact (Mw (i := i) Wc Wa hI.2).symm
theorem Z2 {a b c : Int} {p q : List UInt8} (hp : p.length <= 1048576) (hq : q.length <= 1048576) : Ok Tryd.prog 28 [.agg [.int .i64 a, .int .i64 b, .int .i64 c, .str p, .str q]] (.bool (Kp a b c p q)) := by
 refine Ok.ofT Z5 Tryd.func28 Qdf (Qeg Z) ?_
 show TW _ _ tf28.body _ _
 refine Qd fun K hK => ZJ Z Z Z (Qa Z (kc1 hK Z ?_))
 refine Qd fun K hK => Qe Z Z (Qs Z Z Z (QK (Jq) Z Z (.inr Z) (Qa Z ?_)))
 refine Qp (g := 6) Z (fun h1 => ?_) (fun h1 => ?_)
 ·try rw [h1]
  try simp only [qB] at h1
  refine Qc Z (Qe Z Z (Qc Z (Qs Z Z Z (Qc Z (QK (Jq) Z Z (.inr Z) (Qf Z Z (Qa Z ?_)))))))
  refine Qp (g := 11) Z (fun h2 => ?_) (fun h2 => ?_)
  ·try rw [h2]
   try simp only [qB] at h2
   refine Qc Z (Qe Z Z (Qc Z (Qs Z Z Z (Qc Z (QK (Jq) Z Z (.inr Z) (Qf Z Z (Qa Z ?_)))))))
   refine Qp (g := 16) Z (fun h3 => ?_) (fun h3 => ?_)
   ·try rw [h3]
    try simp only [qB] at h3
    refine Qc Z (Qe Z Z (Qc Z (Qs Z Z Z (Qc Z (JO Z Z (Qc Z (Qa Z ?_)))))))
    refine Qp (g := 20) Z (fun h4 => ?_) (fun h4 => ?_)
    ·try rw [h4]
     try simp only [qB] at h4
     refine gn3 Z Z Z (Qc Z (Qf Z Z (Qf Z Z (Qa Z (Qc Z (Qe Z Z (Qc Z (Qs Z Z Z (Qc Z ?_)))))))))
     refine JO Z Z (Qc Z (Qa Z ?_))
     refine Qp (g := 30) Z (fun h5 => ?_) (fun h5 => ?_)
     ·try rw [h5]
      try simp only [qB] at h5
      refine gn3 Z Z Z (Qc Z (Qf Z Z (Qf Z Z (Qa Z (kc1 hK Z ?_)))))
      refine Qq (Qh Z ?_)
      simp [Kp, Yo, YG, h1, h2, h3, h4, h5]
     ·try rw [h5]
      try simp only [qB] at h5
      refine Qc Z (Qe Z Z (Qc Z (Qs Z Z Z (Qc Z (QK (Jr Wa) Z Z (.inr Z) (Qc Z (Qf Z Z (Qf Z Z (Qa Z (kc1 hK Z ?_))))))))))
      refine Qq (Qh Z ?_)
      simp [Kp, Yo, YG, h1, h2, h3, h4, h5]
    ·try rw [h4]
     try simp only [qB] at h4
     refine Qc Z (Qe Z Z (Qc Z (Qs Z Z Z (Qc Z (QK (N7 Wa) Z Z (.inr Z) (Qc Z (Qf Z Z (Qf Z Z (Qa Z ?_)))))))))
     refine Qp (g := 26) Z (fun h6 => ?_) (fun h6 => ?_)
     ·try rw [h6]
      try simp only [qB] at h6
      refine Qc Z (Qe Z Z (Qc Z (Qs Z Z Z (Qc Z (JO Z Z (Qc Z (Qa Z ?_)))))))
      refine Qp (g := 30) Z (fun h7 => ?_) (fun h7 => ?_)
      ·try rw [h7]
       try simp only [qB] at h7
       refine gn3 Z Z Z (Qc Z (Qf Z Z (Qf Z Z (Qa Z (kc1 hK Z ?_)))))
       refine Qq (Qh Z ?_)
       simp [Kp, Yo, YG, h1, h2, h3, h4, h6, h7]
      ·try rw [h7]
       try simp only [qB] at h7
       refine Qc Z (Qe Z Z (Qc Z (Qs Z Z Z (Qc Z (QK (Jr Wa) Z Z (.inr Z) (Qc Z (Qf Z Z (Qf Z Z (Qa Z (kc1 hK Z ?_))))))))))
       refine Qq (Qh Z ?_)
       simp [Kp, Yo, YG, h1, h2, h3, h4, h6, h7]
     ·try rw [h6]
      try simp only [qB] at h6
      refine gn4 Z Z Z Z (Qm Z (Qm Z (Qm Z (Yv Z (Qf Z Z (Qa Z (kc1 hK Z ?_)))))))
      refine Qq (Qh Z ?_)
      simp [Kp, Yo, YG, h1, h2, h3, h4, h6]
   ·try rw [h3]
    try simp only [qB] at h3
    refine gn4 Z Z Z Z (Qm Z (Qm Z (Qm Z (Yv Z (Qf Z Z (Qa Z (gn2 Z Z ?_)))))))
    refine gn2 Z Z (Qm Z (Qm Z (Qm Z (Yv Z (Qf Z Z (Qa Z (kc1 hK Z ?_)))))))
    refine Qq (Qh Z ?_)
    simp [Kp, Yo, YG, h1, h2, h3]
  ·try rw [h2]
   try simp only [qB] at h2
   refine gn3 Z Z Z (Qf Z Z (Qa Z (gn4 Z Z Z Z (Qm Z (Qm Z (Qm Z ?_))))))
   refine Yv Z (Qf Z Z (Qa Z (gn4 Z Z Z Z (Qm Z (Qm Z (Qm Z (Yv Z (Qf Z Z ?_))))))))
   refine Qa Z (kc1 hK Z ?_)
   refine Qq (Qh Z ?_)
   simp [Kp, Yo, YG, h1, h2]
 ·try rw [h1]
  try simp only [qB] at h1
  refine gn3 Z Z Z (Qf Z Z (Qa Z (gn3 Z Z Z (Qf Z Z (Qa Z (gn2 Z Z ?_))))))
  refine gn2 Z Z (Qm Z (Qm Z (Qm Z (Yv Z (Qf Z Z (Qa Z (gn4 Z Z Z Z ?_)))))))
  refine Qm Z (Qm Z (Qm Z (Yv Z (Qf Z Z (Qa Z (kc1 hK Z ?_))))))
  refine Qq (Qh Z ?_)
  simp [Kp, Yo, YG, h1]
theorem Y2 {a b c : Int} {p q : List UInt8} (hp : p.length <= 1048576) (hq : q.length <= 1048576) {a' b' c' : Int} {p' q' : List UInt8} (hp' : p'.length <= 1048576) (hq' : q'.length <= 1048576) : Ok Tryd.prog 29 [.agg [.int .i64 a, .int .i64 b, .int .i64 c, .str p, .str q], .agg [.int .i64 a', .int .i64 b', .int .i64 c', .str p', .str q']] (.int .i64 (KM a b c p q a' b' c' p' q')) := by
 refine Ok.ofT Z5 Tryd.func29 Qdg (Qeg Z) ?_
 show TW _ _ tf29.body _ _
 refine Qd fun K hK => ZJ Z Z Z (ZJ Z Z Z (Qa Z (kc2 hK Z Z ?_)))
 refine QC ?_ -- 0
 refine Qd fun K hK => Zm (ds0 := [13, 12, 11, 10, 9, 8, 7, 6, 5, 4, 3, 2, 1, 0]) (cs := [_, _, _, _, _]) Z Z Z Z Z Z (Zp (ds0 := [12, 11, 10, 9, 8, 7, 6, 5, 4, 3, 2, 1, 0]) (Z2 Wa Wa) Z Z (.inr Z) Z Z (Zv Z (Qa Z ?_)))
 refine Qp (g := 13) Z (fun h1 => ?_) (fun h1 => ?_)
 ·try rw [h1]
  try simp only [qB, Qn] at h1
  refine gn3 Z Z Z (Qf Z Z (Qa Z (gn4 Z Z Z Z (Yv Z (Qf Z Z (kc3 hK Z Z Z ?_))))))
  refine QY Z (Qd fun K hK => Qa Z (kc1 hK Z ?_))
  refine Qq (Qg (QA Z ?_))
  first | (simp [KM, h1]; done) | (exact (HR Wc Wc Wc).symm) | (exact JQ Wc Wc Wc) | (exact (Xz Wc Wc Wc Wc Wc).symm) | (exact (XA Wc Wc Wc Wc Wc).symm) | (rw [hI.2.2, Z4 Wa Wa Wc]) | (rw [hI.2.2, Z3 Wa Wa Wa]; simp [Qn])
 ·try rw [h1]
  try simp only [qB, Qn] at h1
  refine Qc Z (Zm (ds0 := [9, 8, 7, 6, 5, 4, 3, 2, 1, 0]) (cs := [_, _, _, _, _]) Z Z Z Z Z Z (Qc Z (Zp (ds0 := [8, 7, 6, 5, 4, 3, 2, 1, 0]) (Z2 Wa Wa) Z Z (.inr Z) Z Z (Qc Z (Zv Z (Qf Z Z (Qa Z ?_)))))))
  refine Qp (g := 18) Z (fun h2 => ?_) (fun h2 => ?_)
  ·try rw [h2]
   try simp only [qB, Qn] at h2
   refine gn4 Z Z Z Z (Yv Z (Qf Z Z (kc3 hK Z Z Z ?_)))
   refine QY Z (Qd fun K hK => Qa Z (kc1 hK Z ?_))
   refine Qq (Qg (QA Z ?_))
   first | (simp [KM, h1, h2]; done) | (exact (HR Wc Wc Wc).symm) | (exact JQ Wc Wc Wc) | (exact (Xz Wc Wc Wc Wc Wc).symm) | (exact (XA Wc Wc Wc Wc Wc).symm) | (rw [hI.2.2, Z4 Wa Wa Wc]) | (rw [hI.2.2, Z3 Wa Wa Wa]; simp [Qn])
  ·try rw [h2]
   try simp only [qB, Qn] at h2
   refine Qc Z (Zm (ds0 := [4, 1, 0]) (cs := [_, _, _, _, _]) Z Z Z Z Z Z (Qc Z (Zp (ds0 := [1, 0]) (K9) Z Z (.inl Z) Z Z (Qc Z (Zm (ds0 := [2, 1, 0]) (cs := [_, _, _, _, _]) Z Z Z Z Z Z (Qc Z (Zp (ds0 := [1, 0]) (K9) Z Z (.inl Z) Z Z (Qc Z (MT Z Z Z (Qf Z Z (kc3 hK Z Z Z ?_)))))))))))
   refine Qw Z (fun h3 => ?_) (fun h3 => ?_)
   ·try rw [h3]
    try simp only [qB, Qn] at h3
    refine Qd fun K hK => Qa Z (kc1 hK Z ?_)
    refine Qq (Qg (QA Z ?_))
    first | (simp [KM, h1, h2, h3]; done) | (exact (HR Wc Wc Wc).symm) | (exact JQ Wc Wc Wc) | (exact (Xz Wc Wc Wc Wc Wc).symm) | (exact (XA Wc Wc Wc Wc Wc).symm) | (rw [hI.2.2, Z4 Wa Wa Wc]) | (rw [hI.2.2, Z3 Wa Wa Wa]; simp [Qn])
   ·try rw [h3]
    try simp only [qB, Qn] at h3
    refine Qt (ks2 Z Z ?_)
    refine QC ?_ -- 1
    refine Qd fun K hK => Qe Z Z (QQ (ds0 := [13, 2, 1, 0]) Z Z Z Z Z (Qe Z Z (QQ (ds0 := [13, 2, 1, 0]) Z Z Z Z Z (Zp (ds0 := [2, 1, 0]) (Zy) Z Z (.inr Z) Z Z (Qe Z Z (QQ (ds0 := [8, 2, 1, 0]) Z Z Z Z Z (Qe Z Z (QQ (ds0 := [8, 2, 1, 0]) Z Z Z Z Z (Zp (ds0 := [2, 1, 0]) (Zy) Z Z (.inr Z) Z Z (Qe Z Z ?_))))))))))
    refine QQ (ds0 := [3, 2, 1, 0]) Z Z Z Z Z (Qe Z Z (QQ (ds0 := [3, 2, 1, 0]) Z Z Z Z Z (Zp (ds0 := [2, 1, 0]) (Zy) Z Z (.inr Z) Z Z (Zl Z Z (Zp (ds0 := [0]) (GM (l := [ZG a a', ZG b b', ZG c c']) Wd) Z Z (.inr Z) Z Z (Qa Z (kc3 hK Z Z Z ?_)))))))
    refine Qd fun K hK => Qa Z (Yw Z Z (kc4 hK Z Z Z Z ?_))
    refine Qw Z (fun h4 => ?_) (fun h4 => ?_)
    ·try rw [h4]
     try simp only [qB, Qn] at h4
     refine Qd fun K hK => mv2 Z Z (kc1 hK Z ?_)
     refine Qq (Qg (QA Z ?_))
     first | (simp [KM, h1, h2, h3, h4]; done) | (exact (HR Wc Wc Wc).symm) | (exact JQ Wc Wc Wc) | (exact (Xz Wc Wc Wc Wc Wc).symm) | (exact (XA Wc Wc Wc Wc Wc).symm) | (rw [hI.2.2, Z4 Wa Wa Wc]) | (rw [hI.2.2, Z3 Wa Wa Wa]; simp [Qn])
    ·try rw [h4]
     try simp only [qB, Qn] at h4
     refine Qt (ks2 Z Z ?_)
     refine QC ?_ -- 2
     refine Qd fun K hK => Qe Z Z (Qs Z Z Z (JO Z Z (kc3 hK Z Z Z ?_)))
     refine Qw Z (fun h5 => ?_) (fun h5 => ?_)
     ·try rw [h5]
      try simp only [qB, Qn] at h5
      refine Qd fun K hK => Qa Z (kc1 hK Z ?_)
      refine Qq (Qg (QA Z ?_))
      first | (simp [KM, h1, h2, h3, h4, h5]; done) | (exact (HR Wc Wc Wc).symm) | (exact JQ Wc Wc Wc) | (exact (Xz Wc Wc Wc Wc Wc).symm) | (exact (XA Wc Wc Wc Wc Wc).symm) | (rw [hI.2.2, Z4 Wa Wa Wc]) | (rw [hI.2.2, Z3 Wa Wa Wa]; simp [Qn])
     ·try rw [h5]
      try simp only [qB, Qn] at h5
      refine Qt (ks2 Z Z ?_)
      refine QC ?_ -- 3
      refine Qd fun K hK => Qe Z Z (Qs Z Z Z (JO Z Z (kc3 hK Z Z Z ?_)))
      refine Qw Z (fun h6 => ?_) (fun h6 => ?_)
      ·try rw [h6]
       try simp only [qB, Qn] at h6
       refine Qd fun K hK => Qa Z (kc1 hK Z ?_)
       refine Qq (Qg (QA Z ?_))
       first | (simp [KM, h1, h2, h3, h4, h5, h6]; done) | (exact (HR Wc Wc Wc).symm) | (exact JQ Wc Wc Wc) | (exact (Xz Wc Wc Wc Wc Wc).symm) | (exact (XA Wc Wc Wc Wc Wc).symm) | (rw [hI.2.2, Z4 Wa Wa Wc]) | (rw [hI.2.2, Z3 Wa Wa Wa]; simp [Qn])
      ·try rw [h6]
       try simp only [qB, Qn] at h6
       refine Qt (ks2 Z Z (Qd fun K hK => Qe Z Z (QQ (ds0 := [5, 1]) Z Z Z Z Z (Zp (ds0 := [1]) (Xw Wa) Z Z (.inl Z) Z Z (Qe Z Z (QQ (ds0 := [2, 0]) Z Z Z Z Z (Zp (ds0 := [0]) (Xw Wa) Z Z (.inl Z) Z Z (mv2 Z Z (kc2 hK Z Z ?_)))))))))
       refine QC ?_ -- 4
       refine Qd fun K hK => Qa Z (kc3 hK Z Z Z ?_)
       refine Qz ?_
       refine Zh (ι := Nat) (fun i => ⟨[(6, .sl (YJ (QZ p 46))), (7, .sl (YJ (QZ p' 46))), (8, .int .i64 i)], []⟩) (fun i => i <= (QZ p 46).length /\ i <= (QZ p' 46).length /\ KM a b c p q a' b' c' p' q' = Sc ((QZ p 46).drop i) ((QZ p' 46).drop i)) (fun i => (QZ p 46).length - i) 0 ?_ ?_ ?_
       ·exact QT (l := [6, 7, 8]) (kp3 rfl rfl rfl) Qj rfl rfl rfl
       ·exact ⟨Qer _, Qer _, BG Wc Wc Wc Wc Wc Wc⟩
       intro i hI
       have sl := Gm (s := p) (c := 46)
       try dsimp only
       refine QC ?_ -- 5
       refine Qd fun K hK => mv2 Z Z (QP Z Z (Z6 Z Z (Qa Z ?_)))
       refine Qp (g := 61) Z (fun h7 => ?_) (fun h7 => ?_)
       ·try rw [h7]
        try simp only [qB, Qn] at h7
        refine Qc Z (Qa Z (Qc Z (Qa Z (Qc Z (QP Z Z (Qc Z (Z6 Z Z (Qf Z Z (kc4 hK Z Z Z Z ?_)))))))))
        refine Qw Z (fun h8 => ?_) (fun h8 => ?_)
        ·try rw [h8]
         try simp only [qB, Qn] at h8
         refine Qt (ks3 Z Z Z ?_)
         refine QC ?_ -- 6
         refine Qz (Qd fun K hK => mv2 Z Z (QN Z Z Z Wa (XC Wa) Z (QQ (ds0 := [1, 0]) Z Z Z Z Z (mv2 Z Z (QN Z Z Z Wa (XC Wa) Z (QQ (ds0 := [1, 0]) Z Z Z Z Z (Zp (ds0 := [0]) (N8 (XH Wa hp) (XH Wa hp')) Z Z (.inr Z) Z Z (Qa Z ?_))))))))
         refine kc4 hK Z Z Z Z ?_
         refine Qd fun K hK => Qa Z (Yw Z Z (kc5 hK Z Z Z Z Z ?_))
         refine Qw Z (fun h9 => ?_) (fun h9 => ?_)
         ·try rw [h9]
          try simp only [qB, Qn] at h9
          refine Qd fun K hK => mv2 Z Z (kc1 hK Z ?_)
          refine Qq (Qi (Qg (QB (Qi (Qg (QA Z ?_))))))
          first | (simp [KM, h1, h2, h3, h4, h5, h6, h7, h8, h9]; done) | (exact (HR Wc Wc Wc).symm) | (exact JQ Wc Wc Wc) | (exact (Xz Wc Wc Wc Wc Wc).symm) | (exact (XA Wc Wc Wc Wc Wc).symm) | (rw [hI.2.2, Z4 Wa Wa Wc]) | (rw [hI.2.2, Z3 Wa Wa Wa]; simp [Qn])
         ·try rw [h9]
          try simp only [qB, Qn] at h9
          refine Qt (Qk (ks3 Z Z Z (QU fun K hK => Qa Z (Zb Z Z Wb (Qa Z (hK _ ?_))))))
          refine Ql (i + 1) ?_ ?_ ?_
          ·exact Q5 (kp3 rfl rfl rfl)
          ·exact ⟨Wa, Wa, by rw [hI.2.2, Pn Wa Wa Wc]⟩
          ·first | omega | (simp only; omega) | (dsimp only; omega)
        ·try rw [h8]
         try simp only [qB, Qn] at h8
         refine Q4 (QF (Qx (QE (ks2 Z Z (Qd fun K hK => Qa Z (QP Z Z (Qa Z (QP Z Z (QK (Zy) Z Z (.inr Z) (Qa Z ?_))))))))))
         refine kc1 hK Z ?_
         refine Qq (QA Z ?_)
         first | (simp [KM, h1, h2, h3, h4, h5, h6, h7, h8]; done) | (exact (HR Wc Wc Wc).symm) | (exact JQ Wc Wc Wc) | (exact (Xz Wc Wc Wc Wc Wc).symm) | (exact (XA Wc Wc Wc Wc Wc).symm) | (rw [hI.2.2, Z4 Wa Wa Wc]) | (rw [hI.2.2, Z3 Wa Wa Wa]; simp [Qn])
       ·try rw [h7]
        try simp only [qB, Qn] at h7
        refine gn4 Z Z Z Z (Qf Z Z (kc4 hK Z Z Z Z ?_))
        refine Ze Z (Q4 (QF (Qx (QE (ks2 Z Z (Qd fun K hK => Qa Z (QP Z Z (Qa Z (QP Z Z (QK (Zy) Z Z (.inr Z) ?_))))))))))
        refine Qa Z (kc1 hK Z ?_)
        refine Qq (QA Z ?_)
        first | (simp [KM, h1, h2, h3, h4, h5, h6, h7]; done) | (exact (HR Wc Wc Wc).symm) | (exact JQ Wc Wc Wc) | (exact (Xz Wc Wc Wc Wc Wc).symm) | (exact (XA Wc Wc Wc Wc Wc).symm) | (rw [hI.2.2, Z4 Wa Wa Wc]) | (rw [hI.2.2, Z3 Wa Wa Wa]; simp [Qn])
theorem Ka {e a b c : Int} {p q : List UInt8} {f : Bool} (hp : p.length <= 1048576) (hq : q.length <= 1048576) : Ok Tryd.prog 94 [.agg [.int .i64 e, .int .i64 a, .int .i64 b, .int .i64 c, .str p, .str q, .bool f]] (.bool (Yz e a b c p q f)) := by
 refine Ok.ofT Z5 Tryd.func94 Qd7 (Qeg Z) ?_
 show TW _ _ tf94.body _ _
 refine Qd fun K hK => ZJ Z Z Z (Qa Z (kc1 hK Z ?_))
 refine QC ?_ -- 0
 refine Qd fun K hK => Qe Z Z (Qs Z Z Z (Xd Z Z (Qa Z ?_)))
 refine Qp (g := 6) Z (fun h1 => ?_) (fun h1 => ?_)
 ·try rw [h1]
  try simp only [qB] at h1
  refine gn3 Z Z Z (Qf Z Z (kc2 hK Z Z ?_))
  refine QY Z (Qd fun K hK => Qe Z Z (QH (cs := [_, _, _, _, _]) Z Z Z Z (ZO Z Z (MT Z Z Z (Qa Z ?_)))))
  refine Qp (g := 15) Z (fun h2 => ?_) (fun h2 => ?_)
  ·try rw [h2]
   try simp only [qB] at h2
   refine Qc Z (Qe Z Z (Qc Z (Qs Z Z Z (Qc Z (Zv Z (Qf Z Z (Qa Z (kc1 hK Z ?_))))))))
   refine Qq (Qg (Qh Z ?_))
   (repeat clear hK K); first | (simp_all [Yz]; done) | (simp_all [Yz]; omega)
  ·try rw [h2]
   try simp only [qB] at h2
   refine gn3 Z Z Z (Qf Z Z (Qa Z (kc1 hK Z ?_)))
   refine Qq (Qg (Qh Z ?_))
   (repeat clear hK K); first | (simp_all [Yz]; done) | (simp_all [Yz]; omega)
 ·try rw [h1]
  try simp only [qB] at h1
  refine Qc Z (Qe Z Z (Qc Z (Qs Z Z Z (Qc Z (Xd Z Z (Qf Z Z (kc2 hK Z Z ?_)))))))
  refine Qw Z (fun h3 => ?_) (fun h3 => ?_)
  ·try rw [h3]
   try simp only [qB] at h3
   refine Qd fun K hK => Qe Z Z (QH (cs := [_, _, _, _, _]) Z Z Z Z (ZO Z Z (MT Z Z Z (Qa Z ?_))))
   refine Qp (g := 15) Z (fun h4 => ?_) (fun h4 => ?_)
   ·try rw [h4]
    try simp only [qB] at h4
    refine Qc Z (Qe Z Z (Qc Z (Qs Z Z Z (Qc Z (Zv Z (Qf Z Z (Qa Z (kc1 hK Z ?_))))))))
    refine Qq (Qg (Qh Z ?_))
    (repeat clear hK K); first | (simp_all [Yz]; done) | (simp_all [Yz]; omega)
   ·try rw [h4]
    try simp only [qB] at h4
    refine gn3 Z Z Z (Qf Z Z (Qa Z (kc1 hK Z ?_)))
    refine Qq (Qg (Qh Z ?_))
    (repeat clear hK K); first | (simp_all [Yz]; done) | (simp_all [Yz]; omega)
  ·try rw [h3]
   try simp only [qB] at h3
   refine Qd fun K hK => Qe Z Z (Qs Z Z Z (Yw Z Z (kc2 hK Z Z ?_)))
   refine Qw Z (fun h5 => ?_) (fun h5 => ?_)
   ·try rw [h5]
    try simp only [qB] at h5
    refine Qd fun K hK => Qa Z (kc1 hK Z ?_)
    refine Qq (Qg (Qh Z ?_))
    (repeat clear hK K); first | (simp_all [Yz]; done) | (simp_all [Yz]; omega)
   ·try rw [h5]
    try simp only [qB] at h5
    refine Qt (ks1 Z (Qd fun K hK => Qe Z Z (QH (cs := [_, _, _, _, _]) Z Z Z Z (QK (Z2 Wa Wa) Z Z (.inr Z) (Qa Z ?_)))))
    refine Qp (g := 26) Z (fun h6 => ?_) (fun h6 => ?_)
    ·try rw [h6]
     try simp only [qB] at h6
     refine Qc Z (Qe Z Z (Qc Z (Qe Z Z (Qc Z (Qs Z Z Z (Qc Z (JO Z Z (Qf Z Z (Qa Z (kc1 hK Z ?_))))))))))
     refine Qq (Qh Z ?_)
     (repeat clear hK K); first | (simp_all [Yz]; done) | (simp_all [Yz]; omega)
    ·try rw [h6]
     try simp only [qB] at h6
     refine gn4 Z Z Z Z (Qf Z Z (Qa Z (kc1 hK Z ?_)))
     refine Qq (Qh Z ?_)
     (repeat clear hK K); first | (simp_all [Yz]; done) | (simp_all [Yz]; omega)
theorem _root_.Wk {p : Prop} (h : p := by first | (left; assumption) | (right; assumption)) : p := h
theorem HE {e a b c : Int} {p q : List UInt8} {f : Bool} (hp : p.length <= 1048576) (hq : q.length <= 1048576) {e' a' b' c' : Int} {p' q' : List UInt8} {f' : Bool} (hp' : p'.length <= 1048576) (hq' : q'.length <= 1048576) : Ok Tryd.prog 85 [.agg [.int .i64 e, .int .i64 a, .int .i64 b, .int .i64 c, .str p, .str q, .bool f], .agg [.int .i64 e', .int .i64 a', .int .i64 b', .int .i64 c', .str p', .str q', .bool f']] (.int .i64 (Z9 e a b c p q f e' a' b' c' p' q' f')) := by
 refine Ok.ofT Z5 Tryd.func85 QdZ (Qeg Z) ?_
 show TW _ _ tf85.body _ _
 refine Qd fun K hK => ZJ Z Z Z (ZJ Z Z Z (Qa Z (kc2 hK Z Z ?_)))
 refine QC ?_ -- 0
 refine Qd fun K hK => QH (cs := [_, _, _, _, _, _, _]) Z Z Z Z (QK (Ka Wa Wa) Z Z (.inr Z) (Zv Z (Qa Z ?_)))
 refine Qp (g := 9) Z (fun h1 => ?_) (fun h1 => ?_)
 ·try rw [h1]
  try simp only [qB] at h1
  refine gn3 Z Z Z (Qf Z Z (kc3 hK Z Z Z ?_))
  refine QY Z (Qd fun K hK => Qa Z (kc1 hK Z ?_))
  refine Qq (Qg (QA Z ?_))
  (repeat clear hK K); first | (simp [Z9, h1]; done) | exact (Je Wc Wc Wk).symm | (simp_all [Z9]; done)
 ·try rw [h1]
  try simp only [qB] at h1
  refine Qc Z (QH (cs := [_, _, _, _, _, _, _]) Z Z Z Z (Qc Z (QK (Ka Wa Wa) Z Z (.inr Z) (Qc Z (Zv Z (Qf Z Z (kc3 hK Z Z Z ?_)))))))
  refine Qw Z (fun h2 => ?_) (fun h2 => ?_)
  ·try rw [h2]
   try simp only [qB] at h2
   refine Qd fun K hK => Qa Z (kc1 hK Z ?_)
   refine Qq (Qg (QA Z ?_))
   (repeat clear hK K); first | (simp [Z9, h1, h2]; done) | exact (Je Wc Wc Wk).symm | (simp_all [Z9]; done)
  ·try rw [h2]
   try simp only [qB] at h2
   refine Qd fun K hK => Qe Z Z (Qs Z Z Z (Yw Z Z (Qa Z ?_)))
   refine Qp (g := 17) Z (fun h3 => ?_) (fun h3 => ?_)
   ·try rw [h3]
    try simp only [qB] at h3
    refine gn3 Z Z Z (Qf Z Z (kc3 hK Z Z Z ?_))
    refine QY Z (Qd fun K hK => Qe Z Z (Qs Z Z Z (Qe Z Z (Qs Z Z Z (QK (Zy) Z Z (.inr Z) (Qa Z (kc1 hK Z ?_)))))))
    refine Qq (Qg (QA Z ?_))
    (repeat clear hK K); first | (simp [Z9, h1, h2, h3]; done) | exact (Je Wc Wc Wk).symm | (simp_all [Z9]; done)
   ·try rw [h3]
    try simp only [qB] at h3
    refine Qc Z (Qe Z Z (Qc Z (Qs Z Z Z (Qc Z (Yw Z Z (Qf Z Z (kc3 hK Z Z Z ?_)))))))
    refine Qw Z (fun h4 => ?_) (fun h4 => ?_)
    ·try rw [h4]
     try simp only [qB] at h4
     refine Qd fun K hK => Qe Z Z (Qs Z Z Z (Qe Z Z (Qs Z Z Z (QK (Zy) Z Z (.inr Z) (Qa Z (kc1 hK Z ?_))))))
     refine Qq (Qg (QA Z ?_))
     (repeat clear hK K); first | (simp [Z9, h1, h2, h3, h4]; done) | exact (Je Wc Wc Wk).symm | (simp_all [Z9]; done)
    ·try rw [h4]
     try simp only [qB] at h4
     refine Qd fun K hK => Qe Z Z (QH (cs := [_, _, _, _, _]) Z Z Z Z (Qe Z Z (QH (cs := [_, _, _, _, _]) Z Z Z Z (QK (Y2 Wa Wa Wa Wa) Z Z (.inr Z) (Qa Z (kc3 hK Z Z Z ?_))))))
     refine Qd fun K hK => Qa Z (Yw Z Z (kc4 hK Z Z Z Z ?_))
     refine Qw Z (fun h5 => ?_) (fun h5 => ?_)
     ·try rw [h5]
      try simp only [qB] at h5
      refine Qd fun K hK => mv2 Z Z (kc1 hK Z ?_)
      refine Qq (Qg (QA Z ?_))
      (repeat clear hK K); first | (simp [Z9, h1, h2, h3, h4, h5]; done) | exact (Je Wc Wc Wk).symm | (simp_all [Z9]; done)
     ·try rw [h5]
      try simp only [qB] at h5
      refine Qd fun K hK => Qe Z Z (Qs Z Z Z (Qe Z Z (Qs Z Z Z (QaP Z Z (kc2 hK Z Z ?_)))))
      refine Qw Z (fun h6 => ?_) (fun h6 => ?_)
      ·try rw [h6]
       try simp only [qB] at h6
       refine Qd fun K hK => Qa Z (kc1 hK Z ?_)
       refine Qq (Qg (QA Z ?_))
       (repeat clear hK K); first | (simp [Z9, h1, h2, h3, h4, h5, h6]; done) | exact (Je Wc Wc Wk).symm | (simp_all [Z9]; done)
      ·try rw [h6]
       try simp only [qB] at h6
       refine Qd fun K hK => Qe Z Z (Qs Z Z Z (kc1 hK Z ?_))
       refine Qw Z (fun h7 => ?_) (fun h7 => ?_)
       ·try rw [h7]
        try simp only [qB] at h7
        refine Qd fun K hK => Qa Z (kc1 hK Z ?_)
        refine Qq (Qg (QA Z ?_))
        (repeat clear hK K); first | (simp [Z9, h1, h2, h3, h4, h5, h6, h7]; done) | exact (Je Wc Wc Wk).symm | (simp_all [Z9]; done)
       ·try rw [h7]
        try simp only [qB] at h7
        refine Qt (QG (QJ) (Qd fun K hK => Qa Z (kc1 hK Z ?_)))
        refine Qq (QA Z ?_)
        (repeat clear hK K); first | (simp [Z9, h1, h2, h3, h4, h5, h6, h7]; done) | exact (Je Wc Wc Wk).symm | (simp_all [Z9]; done)
theorem FF {e a b c : Int} {p q : List UInt8} {f : Bool} (hp : p.length <= 1048576) (hq : q.length <= 1048576) {a' b' c' : Int} {p' q' : List UInt8} (hp' : p'.length <= 1048576) (hq' : q'.length <= 1048576) : Ok Tryd.prog 92 [.agg [.int .i64 e, .int .i64 a, .int .i64 b, .int .i64 c, .str p, .str q, .bool f], .agg [.int .i64 a', .int .i64 b', .int .i64 c', .str p', .str q']] (.bool (XV e a b c p q f a' b' c' p' q')) := by
 refine Ok.ofT Z5 Tryd.func92 Qd6 (Qeg Z) ?_
 show TW _ _ tf92.body _ _
 refine Qd fun K hK => ZJ Z Z Z (ZJ Z Z Z (Qa Z (kc2 hK Z Z ?_)))
 refine QC ?_ -- 0
 refine Qd fun K hK => QH (cs := [_, _, _, _, _, _, _]) Z Z Z Z (QK (Ka Wa Wa) Z Z (.inr Z) (Zv Z (Qa Z ?_)))
 refine Qp (g := 9) Z (fun h1 => ?_) (fun h1 => ?_)
 ·try rw [h1]
  try simp only [qB] at h1
  refine gn3 Z Z Z (Qf Z Z (kc3 hK Z Z Z ?_))
  refine QY Z (Qd fun K hK => Qa Z (kc1 hK Z ?_))
  refine Qq (Qg (Qh Z ?_))
  (repeat clear hK K); first | (simp [XV, h1]; done) | (simp_all [XV]; done)
 ·try rw [h1]
  try simp only [qB] at h1
  refine Qc Z (QH (cs := [_, _, _, _, _]) Z Z Z Z (Qc Z (QK (Z2 Wa Wa) Z Z (.inr Z) (Qc Z (Zv Z (Qf Z Z (kc3 hK Z Z Z ?_)))))))
  refine Qw Z (fun h2 => ?_) (fun h2 => ?_)
  ·try rw [h2]
   try simp only [qB] at h2
   refine Qd fun K hK => Qa Z (kc1 hK Z ?_)
   refine Qq (Qg (Qh Z ?_))
   (repeat clear hK K); first | (simp [XV, h1, h2]; done) | (simp_all [XV]; done)
  ·try rw [h2]
   try simp only [qB] at h2
   refine Qd fun K hK => Qe Z Z (Qs Z Z Z (Yw Z Z (kc3 hK Z Z Z ?_)))
   refine Qw Z (fun h3 => ?_) (fun h3 => ?_)
   ·try rw [h3]
    try simp only [qB] at h3
    refine Qd fun K hK => Qe Z Z (Qs Z Z Z (Z6 Z Z (Qa Z (kc1 hK Z ?_))))
    refine Qq (Qg (Qh Z ?_))
    (repeat clear hK K); first | (simp [XV, h1, h2, h3]; done) | (simp_all [XV]; done)
   ·try rw [h3]
    try simp only [qB] at h3
    refine Qt (ks2 Z Z (Qd fun K hK => Qe Z Z (QH (cs := [_, _, _, _, _]) Z Z Z Z (QH (cs := [_, _, _, _, _]) Z Z Z Z (QK (Y2 Wa Wa Wa Wa) Z Z (.inr Z) (Qa Z (kc2 hK Z Z ?_)))))))
    refine Qd fun K hK => Qa Z (Z6 Z Z (Qa Z ?_))
    refine Qp (g := 26) Z (fun h4 => ?_) (fun h4 => ?_)
    ·try rw [h4]
     try simp only [qB] at h4
     refine gn3 Z Z Z (Qm Z (Qm Z (Qm Z (Yv Z (Qf Z Z (Qa Z (kc1 hK Z ?_)))))))
     refine Qq (Qh Z ?_)
     (repeat clear hK K); first | (simp [XV, h1, h2, h3, h4]; done) | (simp_all [XV]; done)
    ·try rw [h4]
     try simp only [qB] at h4
     refine Qc Z (Qa Z (Qc Z (Xd Z Z (Qc Z (Qa Z ?_)))))
     refine Qp (g := 29) Z (fun h5 => ?_) (fun h5 => ?_)
     ·try rw [h5]
      try simp only [qB] at h5
      refine Qc Z (Qe Z Z (Qc Z (Qs Z Z Z (Qc Z (Zv Z (Qc Z (Qf Z Z (Qf Z Z (Qa Z (kc1 hK Z ?_))))))))))
      refine Qq (Qh Z ?_)
      (repeat clear hK K); first | (simp [XV, h1, h2, h3, h4, h5]; done) | (simp_all [XV]; done)
     ·try rw [h5]
      try simp only [qB] at h5
      refine gn3 Z Z Z (Qc Z (Qf Z Z (Qf Z Z (Qa Z (kc1 hK Z ?_)))))
      refine Qq (Qh Z ?_)
      (repeat clear hK K); first | (simp [XV, h1, h2, h3, h4, h5]; done) | (simp_all [XV]; done)
theorem HG {e a b c : Int} {p q : List UInt8} {f : Bool} (hp : p.length <= 1048576) (hq : q.length <= 1048576) {e' a' b' c' : Int} {p' q' : List UInt8} {f' : Bool} (hp' : p'.length <= 1048576) (hq' : q'.length <= 1048576) : Ok Tryd.prog 84 [.agg [.int .i64 e, .int .i64 a, .int .i64 b, .int .i64 c, .str p, .str q, .bool f, .int .i64 e', .int .i64 a', .int .i64 b', .int .i64 c', .str p', .str q', .bool f']] (.bool (Kq e a b c p q f e' a' b' c' p' q' f')) := by
 refine Ok.ofT Z5 Tryd.func84 QdY (Qeg Z) ?_
 show TW _ _ tf84.body _ _
 refine Qd fun K hK => ZJ Z Z Z (Qa Z (kc1 hK Z ?_))
 refine Qd fun K hK => Qe Z Z (QH (cs := [_, _, _, _, _, _, _]) Z Z Z Z (QK (Ka Wa Wa) Z Z (.inr Z) (Qa Z ?_)))
 refine Qp (g := 6) Z (fun h1 => ?_) (fun h1 => ?_)
 ·try rw [h1]
  try simp only [qB] at h1
  refine Qc Z (Qe Z Z (Qc Z (QH (cs := [_, _, _, _, _, _, _]) Z Z Z Z (Qc Z (QK (Ka Wa Wa) Z Z (.inr Z) (Qf Z Z (Qa Z ?_)))))))
  refine Qp (g := 11) Z (fun h2 => ?_) (fun h2 => ?_)
  ·try rw [h2]
   try simp only [qB] at h2
   refine Qc Z (Qe Z Z (Qc Z (QH (cs := [_, _, _, _, _, _, _]) Z Z Z Z (Qc Z (Qe Z Z (Qc Z (QH (cs := [_, _, _, _, _, _, _]) Z Z Z Z (Qc Z (QK (HE Wa Wa Wa Wa) Z Z (.inr Z) (Qc Z (Z6 Z Z ?_)))))))))))
   refine Qf Z Z (Qa Z (kc1 hK Z ?_))
   refine Qq (Qh Z ?_)
   (repeat clear hK K); first | (simp [Kq, h1, h2]; done) | (simp_all [Kq]; done)
  ·try rw [h2]
   try simp only [qB] at h2
   refine gn4 Z Z Z Z (gn2 Z Z (Qf Z Z (Qa Z (kc1 hK Z ?_))))
   refine Qq (Qh Z ?_)
   (repeat clear hK K); first | (simp [Kq, h1, h2]; done) | (simp_all [Kq]; done)
 ·try rw [h1]
  try simp only [qB] at h1
  refine gn3 Z Z Z (Qf Z Z (Qa Z (gn4 Z Z Z Z (gn2 Z Z (Qf Z Z ?_)))))
  refine Qa Z (kc1 hK Z ?_)
  refine Qq (Qh Z ?_)
  (repeat clear hK K); first | (simp [Kq, h1]; done) | (simp_all [Kq]; done)
theorem PX {e a b c : Int} {p q : List UInt8} {f : Bool} (hp : p.length <= 1048576) (hq : q.length <= 1048576) {e' a' b' c' : Int} {p' q' : List UInt8} {f' : Bool} (hp' : p'.length <= 1048576) (hq' : q'.length <= 1048576) {x y z : Int} {r s : List UInt8} (hr : r.length <= 1048576) (hs : s.length <= 1048576) : Ok Tryd.prog 82 [.agg [.int .i64 e, .int .i64 a, .int .i64 b, .int .i64 c, .str p, .str q, .bool f, .int .i64 e', .int .i64 a', .int .i64 b', .int .i64 c', .str p', .str q', .bool f'], .agg [.int .i64 x, .int .i64 y, .int .i64 z, .str r, .str s]] (.bool (Hd e a b c p q f e' a' b' c' p' q' f' x y z r s)) := by
 refine Ok.ofT Z5 Tryd.func82 QdX (Qeg Z) ?_
 show TW _ _ tf82.body _ _
 refine Qd fun K hK => ZJ Z Z Z (ZJ Z Z Z (Qa Z (kc2 hK Z Z ?_)))
 refine Qd fun K hK => QH (cs := [_, _, _, _, _, _, _, _, _, _, _, _, _, _]) Z Z Z Z (QK (HG Wa Wa Wa Wa) Z Z (.inr Z) (Qa Z ?_))
 refine Qp (g := 7) Z (fun h1 => ?_) (fun h1 => ?_)
 ·try rw [h1]
  try simp only [qB] at h1
  refine Qc Z (QH (cs := [_, _, _, _, _]) Z Z Z Z (Qc Z (QK (Z2 Wa Wa) Z Z (.inr Z) (Qf Z Z (Qa Z ?_)))))
  refine Qp (g := 11) Z (fun h2 => ?_) (fun h2 => ?_)
  ·try rw [h2]
   try simp only [qB] at h2
   refine Qc Z (Qe Z Z (Qc Z (QH (cs := [_, _, _, _, _, _, _]) Z Z Z Z (Qc Z (QH (cs := [_, _, _, _, _]) Z Z Z Z (Qc Z (QK (FF Wa Wa Wa Wa) Z Z (.inr Z) (Qf Z Z (Qa Z ?_)))))))))
   refine Qp (g := 17) Z (fun h3 => ?_) (fun h3 => ?_)
   ·try rw [h3]
    try simp only [qB] at h3
    refine Qc Z (Qe Z Z (Qc Z (QH (cs := [_, _, _, _, _, _, _]) Z Z Z Z (Qc Z (QH (cs := [_, _, _, _, _]) Z Z Z Z (Qc Z (QK (FF Wa Wa Wa Wa) Z Z (.inr Z) (Qc Z (Zv Z (Qf Z Z (Qa Z ?_)))))))))))
    refine kc1 hK Z ?_
    refine Qq (Qh Z ?_)
    (repeat clear hK K); first | (simp [Hd, h1, h2, h3]; done) | (simp_all [Hd]; done)
   ·try rw [h3]
    try simp only [qB] at h3
    refine gn4 Z Z Z Z (Yv Z (Qf Z Z (Qa Z (kc1 hK Z ?_))))
    refine Qq (Qh Z ?_)
    (repeat clear hK K); first | (simp [Hd, h1, h2, h3]; done) | (simp_all [Hd]; done)
  ·try rw [h2]
   try simp only [qB] at h2
   refine gn4 Z Z Z Z (Qf Z Z (Qa Z (gn4 Z Z Z Z (Yv Z (Qf Z Z ?_)))))
   refine Qa Z (kc1 hK Z ?_)
   refine Qq (Qh Z ?_)
   (repeat clear hK K); first | (simp [Hd, h1, h2]; done) | (simp_all [Hd]; done)
 ·try rw [h1]
  try simp only [qB] at h1
  refine gn2 Z Z (Qf Z Z (Qa Z (gn4 Z Z Z Z (Qf Z Z (Qa Z (gn2 Z Z ?_))))))
  refine gn3 Z Z Z (Qf Z Z (Qa Z (kc1 hK Z ?_)))
  refine Qq (Qh Z ?_)
  (repeat clear hK K); first | (simp [Hd, h1]; done) | (simp_all [Hd]; done)
end Go.Proofs
namespace M3
open Go Go.Abs
def numT : List Int := [0, 1, 2, 3, 0, 1, 10, 9999]
def preT : List (List UInt8) := [[], [], [], [], [48], [49], [50], [49, 49], [97], [97, 46, 49], [97, 46, 98], [98], [48, 46, 48], [114, 99, 46, 49]]
def QcG (l : List Int) (i : Int) : Int := numT.getD (Lj l i 8).toNat 0
def Qec (l : List Int) (i : Int) : List UInt8 := preT.getD (Lj l i 14).toNat []
def cu (l : List Int) (i : Int) : Cu :=
 if Lj l (i + 5) 9 < 2 then ⟨2 * Lj l (i + 5) 9 - 1, 0, 0, 0, [], [], false⟩
 else ⟨0, QcG l i, QcG l (i + 1), QcG l (i + 2), Qec l (i + 3), [], decide (Lj l (i + 5) 2 = 1)⟩
open Go Go.Abs
end M3
namespace M3
open Go Go.Abs
end M3
