/- Part 3 of the means of the proof: a verified abstract evaluator, the prepared functions, and contracts of functions. It states nothing of the claim by itself. -/
import Derived.Test.YtblkbmcmgfpgkaaDoorB2
import Derived.KernelRfl
import Derived.Test.YtblkbmcmgfpgkaaDoorProg
set_option maxRecDepth 4000
set_option linter.unusedSimpArgs false
set_option linter.unusedVariables false
set_option linter.unusedSectionVars false
namespace Go.Abs
open Go
/-! ### Contracts over own boxes, out of the prepared body -/
def small (k : Nat) : Bool := decide (k < 500000)
def MB (rs : List Py) (d : D) (H' : QhD) : ZT -> St -> Prop
  | .exit _, _ => False
  | _, s => ((rs = [] /\ d = .tup []) \/ (∃ r, rs = [r] /\ RC small s r d) \/ (∃ r1 r2 d1 d2, rs = [r1, r2] /\ d = .tup [d1, d2] /\ d1.pure = true /\ d2.pure = true /\ RC small s r1 d1 /\ RC small s r2 d2) \/ ∃ r1 r2 cs d2, rs = [r1, r2] /\ d = .tpo cs d2 /\ d2.pure = true /\ RC small s r1 (.agg cs) /\ RC small s r2 d2) /\ ∀ k b, lk H' k = some b -> lk s.H k = some b
section
variable {P : Program} {E : Env} {g : Gh} {s : St} {a : Act} {w : World}
theorem MG {S : Nat -> Bool} {K : Kn} (hrep : ∀ d v, RepS g d v -> (∀ k ∈ d.sid, (lk s.H k).isSome = true) -> RepS { g with K := K } (d.fzS s.H S) v) {d : D} {v : Value} (h : Rep g d v) (hh : Has s d) : Rep { g with K := K } (QbO S s d) v :=
  (Rep.fz hrep h hh).canU
theorem GD {S : Nat -> Bool} (r : Rel E g s a w) {K : Kn} (hrep : ∀ d v, RepS g d v -> (∀ k ∈ d.sid, (lk s.H k).isSome = true) -> RepS { g with K := K } (d.fzS s.H S) v) {x : ResultVar} {x' : Py} (hp : JF P x = some x') {d : D} (h : RC S s x' d) :
    ∃ v, (Xo a.tmps x).run P w = .ok v w /\ Rep { g with K := K } d v := by
  cases x with
  | tmp t =>
    obtain ⟨ht9, rfl⟩ := NM hp
    obtain ⟨p, h1, rfl⟩ := h
    exact ⟨_, by simp [Xo], MG hrep (r.frT ht9 h1) (r.wfF t p h1)⟩
  | cell t ty =>
    simp only [JF] at hp
    split at hp
    case isFalse => cases hp
    rename_i ht9
    split at hp
    · rename_i b sz e1 e2
      cases hp
      obtain ⟨p, cells, h1, h2, h3⟩ := h
      obtain ⟨B, off, hv, hc, hid⟩ := FF r (r.frT ht9 h1) h2
      cases b with
      | true =>
        simp only [if_true] at h3
        obtain ⟨hl, rfl⟩ := h3
        obtain ⟨cs, q1, q2, q3, q4⟩ := TR (P := P) (hc.take sz)
        rw [List.length_take, Nat.min_eq_left hl] at q4
        refine ⟨.agg cs.toArray, ?_, MG hrep ⟨cs, rfl, q2, q3⟩ fun k hk => ?_⟩
        · simp [Xo, hv, asAddr, loadVar, ZV e1, Zr e2, q4]
        · obtain ⟨y, hy, hk⟩ := QhM.1 hk
          exact hid y (QhZ hy) k hk
      | false =>
        simp only [QhN, if_false] at h3
        obtain ⟨q, hq, rfl⟩ := h3
        cases cells with
        | nil => simp at hq
        | cons y ys =>
          simp at hq; subst hq
          obtain ⟨cs, q1, q2, q3, q4⟩ := hc
          cases cs with
          | nil => exact q2.elim
          | cons c cs =>
            have hcell := q4 0 c Wc
            simp only [Nat.add_zero] at hcell
            refine ⟨c, ?_, MG hrep (q2.1.toRep (q3 _ Wc)) (Gn q2.1 (q3 _ Wc) fun k hk => hid _ Wc k hk)⟩
            simp [Xo, hv, asAddr, loadVar, ZV e1, hcell]
    · cases hp
theorem SB {fn : Func} {x : ResultVar} (hx : fn.results.toList = [x]) {v : Value} (h : (Xo a.tmps x).run P w = .ok v w) : (results fn a.tmps).run P w = .ok v w := by
  have hres : results fn a.tmps = (fn.results.mapM (Xo a.tmps) >>= fun vs => pure (if h : vs.size = 1 then vs[0] else .tuple vs)) := by
    unfold results
    congr 1
  rw [hres, Array.mapM_eq_mapM_toList, hx]
  simp [h]
theorem NQ {fn : Func} {x y : ResultVar} (hx : fn.results.toList = [x, y]) {v u : Value} (h : (Xo a.tmps x).run P w = .ok v w) (h2 : (Xo a.tmps y).run P w = .ok u w) : (results fn a.tmps).run P w = .ok (.tuple #[v, u]) w := by
  have hres : results fn a.tmps = (fn.results.mapM (Xo a.tmps) >>= fun vs => pure (if h : vs.size = 1 then vs[0] else .tuple vs)) := by
    unfold results
    congr 1
  rw [hres, Array.mapM_eq_mapM_toList, hx]
  simp [h, h2]
theorem Ft {xs : List ResultVar} {r1 r2 : Py} (h : ZP P xs = some [r1, r2]) : ∃ x1 x2, xs = [x1, x2] /\ JF P x1 = some r1 /\ JF P x2 = some r2 := by
  cases xs with
  | nil => simp [ZP] at h
  | cons x xs =>
    simp only [ZP] at h
    split at h
    · rename_i x' r' e1 e2
      cases h
      cases xs with
      | nil => simp [ZP] at e2
      | cons y ys =>
        simp only [ZP] at e2
        split at e2
        · rename_i y' s' e3 e4
          cases e2
          have : ys = [] := by
            cases ys with
            | nil => rfl
            | cons z zs => simp only [ZP] at e4; split at e4 <;> cases e4
          subst this
          exact ⟨x, y, rfl, e1, e3⟩
        · cases e2
    · cases h
theorem FT {g : Gh} : ∀ {ds : List D} {vs : List Value}, RepA g ds vs -> vs.length = ds.length /\ ∀ (i : Nat) x, ds[i]? = some x -> ∃ v, vs[i]? = some v /\ Rep g x v
  | [], [], _ => ⟨rfl, fun i x h => by simp at h⟩
  | y :: ys, v :: vs, h => by
    obtain ⟨h1, h2⟩ := FT h.2
    refine ⟨by simp [h1], fun i x hx => ?_⟩
    cases i with
    | zero => simp at hx; subst hx; exact ⟨v, by simp, h.1⟩
    | succ i => simpa using h2 i x (by simpa using hx)
  | [], _ :: _, h => h.elim
  | _ :: _, [], h => h.elim
theorem OkH.ofE {f : Nat} {fn : Func} {af : AFn} {ds : List D} {d : D} {H H' : QhD} {fr0 : QhE} (hm : P.follows .mixedOrders = true) (hf : P.funcs[f]? = some fn) (hp : QQ P fn = some af) (hn : ds.length <= af.nt + (Fo f).length)
    (hfr : ∀ g vs, RepA g ds (vs ++ gVs f) -> ∀ t x, lk fr0 t = some x -> x ∈ ds /\ ((∃ v, vs[t]? = some v /\ Rep g x v) \/ ∃ i, t = 900000 + i /\ Rep g x (.pointer (some ⟨i, 0, none⟩))))
    (hin : ∀ k, 1000000 <= k -> (lk H k).isSome = true -> (lk H' k).isSome = true) (hcl : ∀ k b, lk H' k = some b -> 500000 <= k /\ ∀ j ∈ b.ids, (lk H' j).isSome = true)
    (h : AW P af.nt af.body (MB af.rs d H') ⟨fr0, H⟩) : OkH P f ds H d H' := by
  unfold QQ at hp
  split at hp
  · rename_i c rs hbody hrs
    split at hp
    · rename_i ac hac
      split at hp
      · rename_i hname
        cases hp
        refine ⟨⟨fn, hf, hname.1, by rw [hbody]; rfl⟩, fun g w vs hrel hvs hids => ?_⟩
        have hfr := hfr g vs hvs
        have hlen := (FT hvs).1
        rw [List.length_append, gVs, List.length_map] at hlen
        simp only at hn h
        let E : Env := ⟨fn.ntmps, w.heap.size, w, g.K, fun b => FS g H b, fun k => 1000000 <= k /\ (lk H k).isSome = true, g.β, g.σ, none, some w.heap.size⟩
        have hsz : (vs.toArray ++ Array.replicate (fn.ntmps - vs.toArray.size) Go.undef).size = fn.ntmps := by simp; omega
        have r0 : Rel E g ⟨fr0, H⟩ { tmps := vs.toArray ++ Array.replicate (fn.ntmps - vs.toArray.size) Go.undef, defers := [] } w := by
          refine ⟨⟨hsz, hname.2⟩, DfOk.nil rfl, fun t x hx => ?_, fun t x hx k hk => ?_, hrel.wfH, fun k b hb => (hrel.bx k b hb).move ⟨rfl, rfl⟩ (fun _ _ _ _ _ _ => ⟨rfl, rfl⟩) (Kn.le_refl _) fun B e hβ => ⟨rfl, fun _ h => h, fun _ => .inr ⟨k, e, by rw [hb]; rfl, hβ⟩⟩, hrel.inj, hrel.kr, ⟨Nat.le_refl _, fun b hb _ => rfl, SameFx.refl w⟩, fun b hb _ => rfl, fun k hk => ⟨hk.1, rfl, rfl, hk.2⟩⟩
          · rcases (hfr t x hx).2 with ⟨v, h1, h2⟩ | ⟨i, rfl, h2⟩
            · have : (vs.toArray ++ Array.replicate (fn.ntmps - vs.toArray.size) Go.undef).getD t (Hq t) = v := by
                have hlt := (List.getElem?_eq_some_iff.1 h1).1
                rw [Array.getD_eq_getD_getElem?, Array.getElem?_append_left (by simpa using hlt)]
                simp [h1]
              simp only [this]
              exact h2
            · have : (vs.toArray ++ Array.replicate (fn.ntmps - vs.toArray.size) Go.undef).getD (900000 + i) (Hq (900000 + i)) = .pointer (some ⟨i, 0, none⟩) := by
                have h9 := hname.2
                rw [Array.getD_eq_getD_getElem?, Array.getElem?_eq_none (by rw [hsz]; omega), Option.getD_none, Hq, if_neg Wa, Nat.add_sub_cancel_left]
              simp only [this]
              exact h2
          · exact hids x (hfr t x hx).1 k hk
        refine (callsIn_wide (n := 0)).1 (callsIn_of_wp_marks hf hbody trivial (wpIn_mono (h c E g _ w hm hac rfl (.inl ⟨rfl, _, rfl, Nat.le_refl _⟩) r0) fun e a' w' hq => ?_))
        have fin0 : ∀ s' g' a' w', MB rs d H' .normal s' -> Rel E g' s' a' w' -> ∃ v, (results fn a'.tmps).run P w' = .ok v w' /\ ∃ v_1 g'', Ending.returned v = .returned v_1 /\ Rep g'' d v_1 /\ HRel g'' H' w' /\ w.heap.size <= w'.heap.size /\ (∀ b, b < w.heap.size -> ¬ FS g H b -> w'.heap[b]? = w.heap[b]? /\ g''.K b = g.K b) /\ SameFx w w' /\
            (∀ k, 1000000 <= k -> (lk H k).isSome = true -> (lk H' k).isSome = true /\ g''.β k = g.β k /\ g''.σ k = g.σ k) /\ ∀ k B e, k < 1000000 -> (lk H' k).isSome = true -> g''.β k = some (B, e) -> w.heap.size <= B \/ ∃ k2 e2, k2 < 1000000 /\ (lk H k2).isSome = true /\ g.β k2 = some (B, e2) := by
          intro s' g' a' w' ⟨hres0, hsub⟩ r'
          obtain ⟨K2, hle, hkr2, hoth, hrep⟩ := FK r' small
          have hres1 : ∃ v, (results fn a'.tmps).run P w' = .ok v w' /\ Rep { g' with K := K2 } d v := by
           rcases hres0 with ⟨hrs0, rfl⟩ | ⟨x', hrs', hres⟩ | ⟨r1, r2, d1, d2, hrs', rfl, hp1, hp2, hres1, hres2⟩ | ⟨r1, r2, cs, d2, hrs', rfl, hp2, hres1, hres2⟩
           rotate_right
           · subst hrs'
             obtain ⟨x1, x2, hx, hpx1, hpx2⟩ := Ft hrs
             obtain ⟨v1, q1, q2⟩ := GD r' hrep hpx1 hres1
             obtain ⟨v2, q3, q4⟩ := GD r' hrep hpx2 hres2
             obtain ⟨vs, rfl, q5, q6⟩ := q2
             exact ⟨.tuple #[_, v2], NQ hx q1 q3, vs, v2, rfl, q5, q6, q4.toP hp2⟩
           rotate_right
           · subst hrs'
             obtain ⟨x1, x2, hx, hpx1, hpx2⟩ := Ft hrs
             obtain ⟨v1, q1, q2⟩ := GD r' hrep hpx1 hres1
             obtain ⟨v2, q3, q4⟩ := GD r' hrep hpx2 hres2
             refine ⟨.tuple #[v1, v2], NQ hx q1 q3, ?_⟩
             simp only [Rep, RepS, RepP]
             exact ⟨[v1, v2], rfl, by simp only [RepVs]; exact ⟨q2.toP hp1, q4.toP hp2, trivial⟩⟩
           · subst hrs0
             have hx : fn.results.toList = [] := by
               cases hx : fn.results.toList with
               | nil => rfl
               | cons y ys => rw [hx] at hrs; simp only [ZP] at hrs; split at hrs <;> cases hrs
             refine ⟨.tuple #[], ?_, ?_⟩
             · have hres : results fn a'.tmps = (fn.results.mapM (Xo a'.tmps) >>= fun vs => pure (if h : vs.size = 1 then vs[0] else .tuple vs)) := by
                 unfold results
                 congr 1
               rw [hres, Array.mapM_eq_mapM_toList, hx]
               simp
             · simp only [Rep, RepS, RepP]; exact ⟨[], rfl, by simp only [RepVs]⟩
           subst hrs'
           obtain ⟨x, hx, hpx⟩ : ∃ x, fn.results.toList = [x] /\ JF P x = some x' := by
            cases hx : fn.results.toList with
            | nil => rw [hx] at hrs; simp [ZP] at hrs
            | cons x xs =>
              rw [hx] at hrs
              simp only [ZP] at hrs
              split at hrs
              · rename_i x2 r2 e1 e2
                cases hrs
                have hxs : xs = [] := by
                  cases xs with
                  | nil => rfl
                  | cons y ys => simp only [ZP] at e2; split at e2 <;> cases e2
                subst hxs
                exact ⟨x, rfl, e1⟩
              · cases hrs
           obtain ⟨v, q1, q2⟩ := GD r' hrep hpx hres
           exact ⟨v, SB hx q1, q2⟩
          obtain ⟨v, q1, q2⟩ := hres1
          have hblk : ∀ k b B e, lk s'.H k = some b -> g'.β k = some (B, e) -> w.heap.size <= B \/ FS g H B := fun k b B e hk hβ => ((r'.bx k b hk).blk hβ).2.2
          refine ⟨v, q1, v, { g' with K := K2 }, rfl, q2, ⟨fun k b hk => (hcl k b hk).2, fun k b hk => ?_, fun k k' b b' B e e' h1 h2 h3 h4 => r'.inj k k' b b' B e e' (hsub k b h1) (hsub k' b' h2) h3 h4, hkr2⟩, r'.ext.1, fun b hb hno => ⟨r'.ext.2.1 b hb hno, ?_⟩, r'.ext.2.2, fun k h6 hk => ⟨hin k h6 hk, (r'.kp k ⟨h6, hk⟩).2.1, (r'.kp k ⟨h6, hk⟩).2.2.1⟩, fun k B e hk hk' hβ => ?_⟩
          · refine (r'.bx k b (hsub k b hk)).move ⟨rfl, rfl⟩ (fun _ _ _ _ _ _ => ⟨rfl, rfl⟩) hle fun B e hβ => ⟨rfl, fun o ho => ?_, fun _ => .inl (QhR _)⟩
            show K2 B o = none
            rw [hoth B fun k2 b2 e2 p1 p2 p3 => ?_]
            · exact ho
            · have := r'.inj k k2 b b2 B e e2 (hsub k b hk) p1 hβ p3
              subst this
              have h5 := (hcl k b hk).1
              simp only [small, decide_eq_true_eq] at p2
              omega
          · show K2 b = g.K b
            rw [hoth b fun k2 b2 e2 p1 p2 p3 => ?_]
            · exact r'.kx b hb hno
            · rcases hblk k2 b2 b e2 p1 p3 with h | h
              · omega
              · exact hno h
          · obtain ⟨b, hb⟩ := QhL.1 hk'
            rcases hblk k b B e (hsub k b hb) hβ with h | ⟨k2, e2, h1, h2⟩
            · exact .inl h
            · by_cases h6 : 1000000 <= k2
              · obtain ⟨_, p1, _, p2⟩ := r'.kp k2 ⟨h6, h1⟩
                obtain ⟨b2, hb2⟩ := QhL.1 p2
                have := r'.inj k k2 b b2 B e e2 (hsub k b hb) hb2 hβ (p1.trans h2)
                omega
              · exact .inr ⟨k2, e2, Wa, h1, h2⟩
        cases e <;> simp only [AQ] at hq
        · obtain ⟨s', g', hq, r'⟩ := hq
          exact FL (fun n h => by cases h; exact Nat.le_refl _) r' fun a2 w2 _ r2 => fin0 s' g' a2 w2 hq r2
        · obtain ⟨s', g', hq, r'⟩ := hq; exact hq.elim
        · obtain ⟨s', g', hq, r'⟩ := hq
          exact FL (fun n h => by cases h; exact Nat.le_refl _) r' fun a2 w2 _ r2 => fin0 s' g' a2 w2 hq r2
      · cases hp
    · cases hp
  · cases hp
theorem OkH.of {f : Nat} {fn : Func} {af : AFn} {ds : List D} {d : D} {H H' : QhD} (hm : P.follows .mixedOrders = true) (hf : P.funcs[f]? = some fn) (hp : QQ P fn = some af) (hn : ds.length <= af.nt)
    (hin : ∀ k, 1000000 <= k -> (lk H k).isSome = true -> (lk H' k).isSome = true) (hcl : ∀ k b, lk H' k = some b -> 500000 <= k /\ ∀ j ∈ b.ids, (lk H' j).isSome = true)
    (h : AW P af.nt af.body (MB af.rs d H') ⟨Li 0 ds, H⟩) (hg : Fo f = [] := by rfl) : OkH P f ds H d H' := OkH.ofE hm hf hp Wa (fun g vs hvs t x hx => by
  rw [gVs, hg, List.map_nil, List.append_nil] at hvs
  rw [NA, if_pos (QhR _), Nat.sub_zero] at hx
  obtain ⟨v, h1, h2⟩ := (FT hvs).2 t x hx
  exact ⟨List.mem_of_getElem? hx, .inl ⟨v, h1, h2⟩⟩) hin hcl h
theorem OkH.ofTG {f : Nat} {fn : Func} {tf : TFn} {ds : List D} {d dg : D} {H H' : QhD} (hm : P.follows .mixedOrders = true) (hf : P.funcs[f]? = some fn) (hp : QQ P fn = some tf.erase) (hn : ds.length <= tf.nt)
    (hin : ∀ k, 1000000 <= k -> (lk H k).isSome = true -> (lk H' k).isSome = true) (hcl : ∀ k b, lk H' k = some b -> 500000 <= k /\ ∀ j ∈ b.ids, (lk H' j).isSome = true)
    (h : TW P tf.nt tf.body (MB tf.rs d H') ⟨Li 0 ds ++ [(900000, dg)], H⟩) (hg : Fo f = [0] := by rfl) : OkH P f (ds ++ [dg]) H d H' := OkH.ofE (af := tf.erase) hm hf hp (by rw [hg, List.length_append]; exact Nat.add_le_add_right hn 1) (fun g vs hvs t x hx => by
  rw [gVs, hg] at hvs
  obtain ⟨h1, h2⟩ := FT hvs
  simp only [List.map_cons, List.map_nil, List.length_append, List.length_singleton, Nat.add_right_cancel_iff] at h1
  rw [JQ] at hx
  split at hx
  · rename_i y hy
    cases hx
    rw [NA, if_pos (QhR _), Nat.sub_zero] at hy
    have hlt := (List.getElem?_eq_some_iff.1 hy).1
    obtain ⟨v, h3, h4⟩ := h2 t _ (by rw [List.getElem?_append_left hlt]; exact hy)
    rw [List.getElem?_append_left Wa] at h3
    exact ⟨List.mem_append_left _ (List.mem_of_getElem? hy), .inl ⟨v, h3, h4⟩⟩
  · rw [Qx] at hx
    split at hx
    · rename_i e
      cases hx; subst e
      obtain ⟨v, h3, h4⟩ := h2 ds.length dg Wc
      rw [<- h1, List.getElem?_append_right (Nat.le_refl _)] at h3
      simp at h3; subst h3
      exact ⟨by simp, .inr ⟨0, rfl, h4⟩⟩
    · cases hx) hin hcl h
theorem OkH.ofT {f : Nat} {fn : Func} {tf : TFn} {ds : List D} {d : D} {H H' : QhD} (hm : P.follows .mixedOrders = true) (hf : P.funcs[f]? = some fn) (hp : QQ P fn = some tf.erase) (hn : ds.length <= tf.nt)
    (hin : ∀ k, 1000000 <= k -> (lk H k).isSome = true -> (lk H' k).isSome = true) (hcl : ∀ k b, lk H' k = some b -> 500000 <= k /\ ∀ j ∈ b.ids, (lk H' j).isSome = true)
    (h : TW P tf.nt tf.body (MB tf.rs d H') ⟨Li 0 ds, H⟩) (hg : Fo f = [] := by rfl) : OkH P f ds H d H' := OkH.of (af := tf.erase) hm hf hp hn hin hcl h hg
end
/-! ### More weakenings -/
def Ke (t m k : Nat) : Nat := if k = t then m else if k = m then t else k
theorem Ja (t m k : Nat) : Ke t m (Ke t m k) = k := by
  unfold Ke
  by_cases h1 : k = t
  · subst h1; by_cases h2 : m = k
    · subst h2; simp
    · simp [h2]
  · by_cases h2 : k = m
    · subst h2; simp [h1]
    · simp [h1, h2]
def SA (ρ : Nat -> Nat) (H : QhD) : QhD := H.map fun p => (ρ p.1, p.2.ren ρ)
def St.ren (ρ : Nat -> Nat) (s : St) : St := ⟨s.fr.map fun p => (p.1, p.2.ren ρ), SA ρ s.H⟩
theorem G3 {ρ : Nat -> Nat} (hρ : ∀ k, ρ (ρ k) = k) : ∀ (H : QhD) (k : Nat), lk (SA ρ H) k = (lk H (ρ k)).map (Box.ren ρ)
  | [], _ => rfl
  | (j, b) :: H, k => by
    have := G3 hρ H k
    simp only [SA, List.map_cons, Qx] at this ⊢
    rw [this]
    by_cases h : j = ρ k
    · subst h; simp [hρ]
    · rw [if_neg h, if_neg (fun e => h (by rw [<- e, hρ]))]
theorem MZ (t m : Nat) (ht : t < 1000000) (hm : m < 1000000) (s : St) : s.le (s.ren (Ke t m)) := fun E g a w r => by
  have hρ := Ja t m
  have hbig : ∀ k, 1000000 <= k -> Ke t m k = k := fun k hk => by unfold Ke; rw [if_neg Wa, if_neg Wa]
  have hpp : (g.pull (Ke t m)).pull (Ke t m) = g := by
    show (⟨g.K, fun k => g.β (Ke t m (Ke t m k)), fun k => g.σ (Ke t m (Ke t m k))⟩ : Gh) = g
    simp only [hρ]
  have hlk := G3 hρ s.H
  have hsome : ∀ k, (lk (SA (Ke t m) s.H) (Ke t m k)).isSome = (lk s.H k).isSome := fun k => by rw [hlk, hρ, QhX]
  refine ⟨g.pull (Ke t m), r.nt, r.df, fun u d h => ?_, fun u d h k hk => ?_, fun k b h j hj => ?_, fun k b h => ?_, fun k k' b b' B e e' h1 h2 h3 h4 => ?_, r.kr, r.ext, r.kx, fun k hk => ?_⟩
  · simp only [St.ren, Yd] at h
    obtain ⟨d0, h1, rfl⟩ := QhF.1 h
    rw [Rep.ren, hpp]; exact r.fr u d0 h1
  · simp only [St.ren, Yd] at h
    obtain ⟨d0, h1, rfl⟩ := QhF.1 h
    rw [ren_ids] at hk
    obtain ⟨j, hj, rfl⟩ := QhT.1 hk
    show (lk (SA _ s.H) _).isSome = true
    rw [hsome]; exact r.wfF u d0 h1 j hj
  · change lk (SA _ s.H) k = some b at h
    rw [hlk] at h
    obtain ⟨b0, h1, rfl⟩ := QhF.1 h
    rw [Box.ren_ids] at hj
    obtain ⟨i, hi, rfl⟩ := QhT.1 hj
    show (lk (SA _ s.H) _).isSome = true
    rw [hsome]; exact r.wfH _ b0 h1 i hi
  · change lk (SA _ s.H) k = some b at h
    rw [hlk] at h
    obtain ⟨b0, h1, rfl⟩ := QhF.1 h
    have := r.bx _ b0 h1
    have e : k = Ke t m (Ke t m k) := (hρ k).symm
    rw [e, BoxRel.ren, hpp]; exact this
  · change lk (SA _ s.H) k = some b at h1
    change lk (SA _ s.H) k' = some b' at h2
    rw [hlk] at h1 h2
    obtain ⟨b0, q1, rfl⟩ := QhF.1 h1
    obtain ⟨b1, q2, rfl⟩ := QhF.1 h2
    have := r.inj _ _ b0 b1 B e e' q1 q2 h3 h4
    rw [<- hρ k, this, hρ]
  · obtain ⟨h1, h2, h3, h4⟩ := r.kp k hk
    refine ⟨h1, ?_, ?_, ?_⟩
    · show g.β (Ke t m k) = _; rw [hbig k h1]; exact h2
    · show g.σ (Ke t m k) = _; rw [hbig k h1]; exact h3
    · show (lk (SA _ s.H) k).isSome = true
      have := hsome k
      rw [hbig k h1] at this
      rw [this]; exact h4
end Go.Abs
namespace Go.Abs
open Go
/-! ### Walks that end in some state of a kind: the state is picked on the way -/
def TX (P : Program) (nt : Nat) (c : TCode) (Q : ZT -> St -> Prop) (s : St) : Prop := ∃ e s', Q e s' /\ TW P nt c (fun e2 s2 => e2 = e /\ s2 = s') s
section
variable {P : Program} {nt : Nat} {Q Q' : ZT -> St -> Prop} {s : St}
theorem Y4 {c : TCode} (h : ∀ e s, Q e s -> Q' e s) (k : TW P nt c Q s) : TW P nt c Q' s := fun code E g a w hm hp hn hfl r =>
 wpIn_mono (k code E g a w hm hp hn hfl r) fun e a' w' hq => by
  cases e <;> simp only [AQ] at hq ⊢ <;> try exact hq
  all_goals
   obtain ⟨s', g', hq, r'⟩ := hq
   exact ⟨s', g', h _ _ hq, r'⟩
/-! #### A region's walk picks its state -/
theorem QbX {op : BinOp} {bt : Bool} {p q : D} {kk : D -> Prop} (h : Qc8 op bt p q kk) : ∃ d, kk d /\ ∀ k2 : D -> Prop, k2 d -> Qc8 op bt p q k2 := by
 cases p <;> cases q <;> simp only [Qc8] at h ⊢ <;> try exact h.elim
 ·obtain ⟨h1, h2⟩ := h
  cases op <;> simp only [Bz] at h2 ⊢
  case quo => exact ⟨_, h2.2, fun k2 hk => ⟨h1, h2.1, hk⟩⟩
  case rem => exact ⟨_, h2.2, fun k2 hk => ⟨h1, h2.1, hk⟩⟩
  case shl => exact ⟨_, h2.2, fun k2 hk => ⟨h1, h2.1, hk⟩⟩
  case shr => exact ⟨_, h2.2, fun k2 hk => ⟨h1, h2.1, hk⟩⟩
  all_goals exact ⟨_, h2, fun k2 hk => ⟨h1, hk⟩⟩
 ·obtain ⟨h1, h2⟩ := h
  cases op <;> simp only [QbV] at h2 ⊢ <;> try exact h2.elim
  all_goals exact ⟨_, h2, fun k2 hk => ⟨h1, hk⟩⟩
 ·cases op <;> simp only [QbY] at h ⊢ <;> try exact h.elim
  case add => exact ⟨_, h.2, fun k2 hk => ⟨h.1, hk⟩⟩
  all_goals exact ⟨_, h, fun k2 hk => hk⟩
 ·obtain ⟨h1, h2, h3, h4⟩ := h
  exact ⟨_, h4, fun k2 hk => ⟨h1, h2, h3, hk⟩⟩
theorem CU {dr : Bool} {op : AOp} {dst : Option Nat} {k : St -> Prop} (h : step P dr op dst s k) : ∃ s', k s' /\ ∀ k2 : St -> Prop, k2 s' -> step P dr op dst s k2 := by
 cases op <;> simp only [step] at h ⊢
 case mov x => obtain ⟨d, h1, h2⟩ := h; exact ⟨_, h2, fun k2 hk => ⟨d, h1, hk⟩⟩
 case pick c x y => obtain ⟨cd, h1, t, h2, d, h3, h4⟩ := h; exact ⟨_, h4, fun k2 hk => ⟨cd, h1, t, h2, d, h3, hk⟩⟩
 case alloc et cells => obtain ⟨t, h1, h2, h3⟩ := h; exact ⟨_, h3, fun k2 hk => ⟨t, h1, h2, hk⟩⟩
 case box et x => obtain ⟨t, h1, v, h2, cells, h3, h4, h5⟩ := h; exact ⟨_, h5, fun k2 hk => ⟨t, h1, v, h2, cells, h3, h4, hk⟩⟩
 case build zero parts => obtain ⟨qs, h1, ds, h2, h3⟩ := h; exact ⟨_, h3, fun k2 hk => ⟨qs, h1, ds, h2, hk⟩⟩
 case buildSlice esz et parts =>
  rcases h with ⟨t, h1, rows, h2, h3, h4⟩ | ⟨rows, h2, h3, h4⟩
  ·exact ⟨_, h4, fun k2 hk => .inl ⟨t, h1, rows, h2, h3, hk⟩⟩
  ·exact ⟨_, h4, fun k2 hk => .inr ⟨rows, h2, h3, hk⟩⟩
 case load agg sz x =>
  obtain ⟨p, h1, cells, h2, h3⟩ := h
  cases agg with
  | true => exact ⟨_, h3.2, fun k2 hk => ⟨p, h1, cells, h2, h3.1, hk⟩⟩
  | false => obtain ⟨d, h4, h5⟩ := h3; exact ⟨_, h5, fun k2 hk => ⟨p, h1, cells, h2, d, h4, hk⟩⟩
 case store sz x v =>
  obtain ⟨p, h1, h2⟩ := h
  cases p <;> simp only [Qfz] at h2 <;> try exact h2.elim
  obtain ⟨b, h3, row, h4, q, h5, cells, h6, h7, h8, h9⟩ := h2
  exact ⟨_, h9, fun k2 hk => ⟨_, h1, b, h3, row, h4, q, h5, cells, h6, h7, h8, hk⟩⟩
 case nilCheck x => obtain ⟨p, h1, h2, h3⟩ := h; exact ⟨_, h3, fun k2 hk => ⟨p, h1, h2, hk⟩⟩
 case bin op bt x y =>
  obtain ⟨p, h1, q, h2, h3⟩ := h
  obtain ⟨d, h4, h5⟩ := QbX h3
  exact ⟨_, h4, fun k2 hk => ⟨p, h1, q, h2, h5 _ hk⟩⟩
 case eqs neg ks x y => obtain ⟨p, h1, q, h2, xs, h3, ys, h4, b, h5, h6⟩ := h; exact ⟨_, h6, fun k2 hk => ⟨p, h1, q, h2, xs, h3, ys, h4, b, h5, hk⟩⟩
 case un op x =>
  obtain ⟨p, h1, h2⟩ := h
  cases op <;> cases p <;> simp only [unK] at h2 <;> try exact h2.elim
  all_goals first
   | exact ⟨_, h2, fun k2 hk => ⟨_, h1, hk⟩⟩
   | exact ⟨_, h2.2, fun k2 hk => ⟨_, h1, h2.1, hk⟩⟩
 case conv kk x => obtain ⟨p, h1, d, h2, h3⟩ := h; exact ⟨_, h3, fun k2 hk => ⟨p, h1, d, h2, hk⟩⟩
 case convS sb x =>
  obtain ⟨p, h1, h2⟩ := h
  cases sb
  ·cases p <;> simp only [LP] at h2
   ·obtain ⟨h3, l, h4, h5⟩ := h2; exact ⟨_, h5, fun k2 hk => ⟨_, h1, h3, l, h4, hk⟩⟩
   ·obtain ⟨h3, l, h4, h5⟩ := h2; exact ⟨_, h5, fun k2 hk => ⟨_, h1, h3, l, h4, hk⟩⟩
   ·obtain ⟨b, h4, h5, h6, l, h7, h8⟩ := h2; exact ⟨_, h8, fun k2 hk => ⟨_, h1, b, h4, h5, h6, l, h7, hk⟩⟩
  ·obtain ⟨l, h3, h4⟩ := h2; exact ⟨_, h4, fun k2 hk => ⟨p, h1, l, h3, hk⟩⟩
 case capF x =>
  obtain ⟨p, h1, h2⟩ := h
  cases p <;> simp only [Qdc] at h2 <;> try exact h2.elim
  exact ⟨_, h2, fun k2 hk => ⟨_, h1, hk⟩⟩
 case appz esz et bytes zero x y =>
  obtain ⟨t, h1, p, h2, h3⟩ := h
  cases p <;> simp only [Qdc] at h3 <;> try exact h3.elim
  obtain ⟨h4, q, h5, n, h6, h7, h8, h9, h10, h11⟩ := h3
  exact ⟨_, h11, fun k2 hk => ⟨t, h1, _, h2, h4, q, h5, n, h6, h7, h8, h9, h10, hk⟩⟩
 case slice esz x lo hi mx =>
  rcases h with h | ⟨h0, hlo, p, h1, h2⟩ | ⟨h0, l, hlo, p, h1, h2⟩
  rotate_left
  rotate_left
  ·cases p <;> simp only [Qc0] at h2 <;> try exact h2.elim
   obtain ⟨h3, h4, h5, h6⟩ := h2
   exact ⟨_, h6, fun k2 hk => .inr (.inr ⟨h0, l, hlo, _, h1, h3, h4, h5, hk⟩)⟩
  rotate_left
  ·cases p <;> simp only [Ba] at h2 <;> try exact h2.elim
   ·exact ⟨_, h2.2, fun k2 hk => .inr (.inl ⟨h0, hlo, _, h1, h2.1, hk⟩)⟩
   ·obtain ⟨m, h3, h4, h5, h6⟩ := h2
    exact ⟨_, h6, fun k2 hk => .inr (.inl ⟨h0, hlo, _, h1, m, h3, h4, h5, hk⟩)⟩
  obtain ⟨p, h1, rows, h2, l, h3, hh, h4, h5, h6, h7, h8, h9⟩ := h
  cases mx with
  | none => exact ⟨_, h9, fun k2 hk => .inl ⟨p, h1, rows, h2, l, h3, hh, h4, h5, h6, h7, h8, hk⟩⟩
  | some m =>
   obtain ⟨h10, h11, h12⟩ := h9
   exact ⟨_, h12, fun k2 hk => .inl ⟨p, h1, rows, h2, l, h3, hh, h4, h5, h6, h7, h8, h10, h11, hk⟩⟩
 case sliceStr x lo hi => obtain ⟨p, h1, c, h2, l, h3, hh, h4, h5, h6, h7, h8⟩ := h; exact ⟨_, h8, fun k2 hk => ⟨p, h1, c, h2, l, h3, hh, h4, h5, h6, h7, hk⟩⟩
 case fieldAddr off x =>
  obtain ⟨p, h1, h2⟩ := h
  cases p <;> simp only [Mj] at h2 <;> try exact h2.elim
  all_goals exact ⟨_, h2.2, fun k2 hk => ⟨_, h1, h2.1, hk⟩⟩
 case field agg off sz x =>
  obtain ⟨p, h1, cells, h2, h3⟩ := h
  cases agg with
  | true => exact ⟨_, h3.2, fun k2 hk => ⟨p, h1, cells, h2, h3.1, hk⟩⟩
  | false => obtain ⟨d, h4, h5⟩ := h3; exact ⟨_, h5, fun k2 hk => ⟨p, h1, cells, h2, d, h4, hk⟩⟩
 case indexAddr esz x i =>
  obtain ⟨n, h1, p, h2, h3⟩ := h
  cases n <;> try (simp only [Rf] at h3; done)
  cases p <;> simp only [Rf] at h3 <;> try exact h3.elim
  ·obtain ⟨row, h4, h5, h6, h7⟩ := h3; exact ⟨_, h7, fun k2 hk => ⟨_, h1, _, h2, row, h4, h5, h6, hk⟩⟩
  ·obtain ⟨row, h4, h5, h6, h7⟩ := h3; exact ⟨_, h7, fun k2 hk => ⟨_, h1, _, h2, row, h4, h5, h6, hk⟩⟩
  ·obtain ⟨b, h4, h5, h6, h7, h8, h9⟩ := h3; exact ⟨_, h9, fun k2 hk => ⟨_, h1, _, h2, b, h4, h5, h6, h7, h8, hk⟩⟩
 case indexStr x i =>
  obtain ⟨n, h1, p, h2, h3⟩ := h
  cases n <;> try (simp only [Ky] at h3; done)
  cases p <;> simp only [Ky] at h3 <;> try exact h3.elim
  obtain ⟨c, h4, h5, h6⟩ := h3
  exact ⟨_, h6, fun k2 hk => ⟨_, h1, _, h2, c, h4, h5, hk⟩⟩
 case extract i x => obtain ⟨p, h1, ds, h2, d, h3, h4⟩ := h; exact ⟨_, h4, fun k2 hk => ⟨p, h1, ds, h2, d, h3, hk⟩⟩
 case len x => obtain ⟨p, h1, n, h2, h3⟩ := h; exact ⟨_, h3, fun k2 hk => ⟨p, h1, n, h2, hk⟩⟩
 case lenStr x => obtain ⟨p, h1, l, h2, h3⟩ := h; exact ⟨_, h3, fun k2 hk => ⟨p, h1, l, h2, hk⟩⟩
 case min x y =>
  obtain ⟨p, h1, q, h2, h3⟩ := h
  cases p <;> try (simp only [Qee] at h3; done)
  cases q <;> simp only [Qee] at h3 <;> try exact h3.elim
  exact ⟨_, h3, fun k2 hk => ⟨_, h1, _, h2, hk⟩⟩
 case max x y =>
  obtain ⟨p, h1, q, h2, h3⟩ := h
  cases p <;> try (simp only [Qec] at h3; done)
  cases q <;> simp only [Qec] at h3 <;> try exact h3.elim
  exact ⟨_, h3, fun k2 hk => ⟨_, h1, _, h2, hk⟩⟩
 case append esz et bytes x y =>
  obtain ⟨p, h1, q, h2, h3⟩ := h
  have happ : ∀ (ys : List (List D)) (pr : Bool), QbN dr esz et bytes dst s p ys pr k -> ∃ s', k s' /\ ∀ k2 : St -> Prop, k2 s' -> QbN dr esz et bytes dst s p ys pr k2 := by
   intro ys pr h5
   cases p <;> simp only [QbN] at h5 <;> try exact h5.elim
   ·obtain ⟨t, h6, h7, h8, h9, h10, h11, h12⟩ := h5
    exact ⟨_, h12, fun k2 hk => ⟨t, h6, h7, h8, h9, h10, h11, hk⟩⟩
   ·obtain ⟨hd, hk0, b, h6, h7, h8, h9, h10, h12, h13, h14⟩ := h5
    exact ⟨_, h14, fun k2 hk => ⟨hd, hk0, b, h6, h7, h8, h9, h10, h12, h13, hk⟩⟩
  cases q <;> simp only [LP] at h3 <;> try exact h3.elim
  ·obtain ⟨s', q1, q2⟩ := happ _ _ h3.2
   exact ⟨s', q1, fun k2 hk => ⟨p, h1, _, h2, h3.1, q2 k2 hk⟩⟩
  ·obtain ⟨s', q1, q2⟩ := happ _ _ h3.2
   exact ⟨s', q1, fun k2 hk => ⟨p, h1, _, h2, h3.1, q2 k2 hk⟩⟩
  ·obtain ⟨b, h4, h5, h6, h7⟩ := h3
   obtain ⟨s', q1, q2⟩ := happ _ _ h7
   exact ⟨s', q1, fun k2 hk => ⟨p, h1, _, h2, b, h4, h5, h6, q2 k2 hk⟩⟩
 case makeSlice esz et bytes zero x y =>
  obtain ⟨p, h1, q, h2, h3⟩ := h
  cases p <;> try (simp only [Ca] at h3; done)
  cases q <;> simp only [Ca] at h3 <;> try exact h3.elim
  obtain ⟨t, h4, h5, h6, h7, h8, h9, h10⟩ := h3
  exact ⟨_, h10, fun k2 hk => ⟨_, h1, _, h2, t, h4, h5, h6, h7, h8, h9, hk⟩⟩
 case range x => obtain ⟨t, h1, p, h2, l, h3, h4, h5⟩ := h; exact ⟨_, h5, fun k2 hk => ⟨t, h1, p, h2, l, h3, h4, hk⟩⟩
 case next x =>
  obtain ⟨hd, p, h1, h2⟩ := h
  unfold Qcf at h2
  split at h2
  ·obtain ⟨l, q, h3, h4⟩ := h2
   rcases h4 with ⟨h4, h5⟩ | ⟨h4, h5⟩
   ·exact ⟨_, h5, fun k2 hk => ⟨hd, _, h1, l, q, h3, .inl ⟨h4, hk⟩⟩⟩
   ·exact ⟨_, h5, fun k2 hk => ⟨hd, _, h1, l, q, h3, .inr ⟨h4, hk⟩⟩⟩
  ·exact h2.elim
 case indexArr len esz x i =>
  obtain ⟨nd, h1, p, h2, h3⟩ := h
  cases nd <;> try (simp only [Qe6] at h3; done)
  obtain ⟨h4, h5, h6⟩ := h3
  cases p <;> simp only [Mj] at h6 <;> try exact h6.elim
  all_goals exact ⟨_, h6.2, fun k2 hk => ⟨_, h1, _, h2, h4, h5, h6.1, hk⟩⟩
 case indexAgg agg len esz x i =>
  obtain ⟨nd, h1, n, h2, p, h3, cells, h4, h5, h6, h7⟩ := h
  cases agg with
  | true => exact ⟨_, h7.2, fun k2 hk => ⟨nd, h1, n, h2, p, h3, cells, h4, h5, h6, h7.1, hk⟩⟩
  | false => obtain ⟨d, h8, h9⟩ := h7; exact ⟨_, h9, fun k2 hk => ⟨nd, h1, n, h2, p, h3, cells, h4, h5, h6, d, h8, hk⟩⟩
 case call f args => obtain ⟨ds, h1, d, h2, h3, h4⟩ := h; exact ⟨_, h4, fun k2 hk => ⟨ds, h1, d, h2, h3, hk⟩⟩
 case mkfn f xs =>
  obtain ⟨ds, h1, h2, h3 | ⟨kk, ps, q1, q2, q3, h3⟩⟩ := h
  ·exact ⟨_, h3, fun k2 hk => ⟨ds, h1, h2, .inl hk⟩⟩
  ·exact ⟨_, h3, fun k2 hk => ⟨ds, h1, h2, .inr ⟨kk, ps, q1, q2, q3, hk⟩⟩⟩
 case mkbn f xs => obtain ⟨ds, h1, h2, h3⟩ := h; exact ⟨_, h3, fun k2 hk => ⟨ds, h1, h2, hk⟩⟩
 case callV x az =>
  obtain ⟨p, h1, h2⟩ := h
  rcases h2 with h2 | ⟨rfl, h2⟩
  ·cases p <;> simp only [Qff] at h2 <;> try exact h2.elim
   obtain ⟨h3, ds, h4, d, h5, h6, h7⟩ := h2
   exact ⟨_, h7, fun k2 hk => ⟨_, h1, .inl ⟨h3, ds, h4, d, h5, h6, hk⟩⟩⟩
  ·cases p <;> simp only [Qe8] at h2 <;> try exact h2.elim
   obtain ⟨h3, d, h5, h6, h7⟩ := h2
   exact ⟨_, h7, fun k2 hk => ⟨_, h1, .inr ⟨rfl, h3, d, h5, h6, hk⟩⟩⟩
theorem JW {K : St -> Prop} : ∀ {l : List AOper} {dr : Dr} {s : St}, run P dr l K s -> ∃ s', K s' /\ ∀ k2 : St -> Prop, k2 s' -> run P dr l k2 s
 | [], _, s, h => ⟨s, h, fun _ hk => hk⟩
 | ⟨dst, op, none⟩ :: r, dr, s, h => by
  simp only [run] at h ⊢
  rcases h with ⟨h1, h2⟩ | ⟨p, q, d, ef, h1, h2, h3⟩ | ⟨f, args, HF, Hn, Hu, d, h1, h2, h3, h5⟩ | ⟨s', d, bx, h1, h2, h3, h5⟩
  ·obtain ⟨s1, h3, h4⟩ := CU h2
   obtain ⟨s2, h5, h6⟩ := JW h3
   exact ⟨s2, h5, fun k2 hk => .inl ⟨h1, h4 _ (h6 k2 hk)⟩⟩
  ·obtain ⟨s2, h6, h7⟩ := JW h3
   exact ⟨s2, h6, fun k2 hk => .inr (.inl ⟨p, q, d, ef, h1, h2, h7 k2 hk⟩)⟩
  ·obtain ⟨s2, h6, h7⟩ := JW h5
   exact ⟨s2, h6, fun k2 hk => .inr (.inr (.inl ⟨f, args, HF, Hn, Hu, d, h1, h2, h3, h7 k2 hk⟩))⟩
  ·obtain ⟨s2, h6, h7⟩ := JW h5
   exact ⟨s2, h6, fun k2 hk => .inr (.inr (.inr ⟨s', d, bx, h1, h2, h3, h7 k2 hk⟩))⟩
 | ⟨dst, op, some (t, b)⟩ :: r, dr, s, h => by
  simp only [run] at h ⊢
  obtain ⟨d, h0, h⟩ := h
  have hA : ((dr.ok r.length (JH op (pk op s)) (Jb op (wk op s)) = true /\ step P dr.dr op dst s fun s' => run P (dr.nx (Fy op dst r) (JH op (pk op s)) (Jb op (wk op s))) r K s') \/
    (∃ p q d ef, EF P dr.B op dst s p q d ef /\ dr.ok r.length (JH op p) (Jb op q) = true /\ run P (dr.nx (XS dst.toList r) (JH op p) (Jb op q)) r K (s.eff dst d ef)) \/
    (∃ f args HF Hn Hu d, dr = .fixed /\ JI s op f args /\ XR P f args s HF Hn Hu d /\ run P dr r K (St.apply { s with H := Hn ++ (Hu ++ s.H) } dst d none)) \/
    ∃ s' d bx, dr = .fixed /\ s.le s' /\ Xf P ⟨dst, op, none⟩ s' d bx /\ run P dr r K (s'.apply dst d bx)) ->
    ∃ s', K s' /\ ∀ k2 : St -> Prop, k2 s' -> ((dr.ok r.length (JH op (pk op s)) (Jb op (wk op s)) = true /\ step P dr.dr op dst s fun s' => run P (dr.nx (Fy op dst r) (JH op (pk op s)) (Jb op (wk op s))) r k2 s') \/
    (∃ p q d ef, EF P dr.B op dst s p q d ef /\ dr.ok r.length (JH op p) (Jb op q) = true /\ run P (dr.nx (XS dst.toList r) (JH op p) (Jb op q)) r k2 (s.eff dst d ef)) \/
    (∃ f args HF Hn Hu d, dr = .fixed /\ JI s op f args /\ XR P f args s HF Hn Hu d /\ run P dr r k2 (St.apply { s with H := Hn ++ (Hu ++ s.H) } dst d none)) \/
    ∃ s' d bx, dr = .fixed /\ s.le s' /\ Xf P ⟨dst, op, none⟩ s' d bx /\ run P dr r k2 (s'.apply dst d bx)) := fun h => by
   rcases h with ⟨h1, h2⟩ | ⟨p, q, d, ef, h1, h2, h3⟩ | ⟨f, args, HF, Hn, Hu, d, h1, h2, h3, h5⟩ | ⟨s', d, bx, h1, h2, h3, h5⟩
   ·obtain ⟨s1, h3, h4⟩ := CU h2
    obtain ⟨s2, h5, h6⟩ := JW h3
    exact ⟨s2, h5, fun k2 hk => .inl ⟨h1, h4 _ (h6 k2 hk)⟩⟩
   ·obtain ⟨s2, h6, h7⟩ := JW h3
    exact ⟨s2, h6, fun k2 hk => .inr (.inl ⟨p, q, d, ef, h1, h2, h7 k2 hk⟩)⟩
   ·obtain ⟨s2, h6, h7⟩ := JW h5
    exact ⟨s2, h6, fun k2 hk => .inr (.inr (.inl ⟨f, args, HF, Hn, Hu, d, h1, h2, h3, h7 k2 hk⟩))⟩
   ·obtain ⟨s2, h6, h7⟩ := JW h5
    exact ⟨s2, h6, fun k2 hk => .inr (.inr (.inr ⟨s', d, bx, h1, h2, h3, h7 k2 hk⟩))⟩
  have hB : run P dr r K (s.apply dst .undef none) -> ∃ s', K s' /\ ∀ k2 : St -> Prop, k2 s' -> run P dr r k2 (s.apply dst .undef none) := JW
  cases d <;> simp only [Mm] at h <;> try exact h.elim
  ·obtain ⟨s2, h1, h2⟩ := hB h
   exact ⟨s2, h1, fun k2 hk => ⟨_, h0, h2 k2 hk⟩⟩
  ·rename_i c
   cases c <;> cases b
   ·obtain ⟨s2, h1, h2⟩ := hA (h.1 rfl)
    exact ⟨s2, h1, fun k2 hk => ⟨_, h0, ⟨fun _ => h2 k2 hk, fun h => by cases h⟩⟩⟩
   ·obtain ⟨s2, h1, h2⟩ := hB (h.2 rfl)
    exact ⟨s2, h1, fun k2 hk => ⟨_, h0, ⟨(fun h => by cases h), fun _ => h2 k2 hk⟩⟩⟩
   ·obtain ⟨s2, h1, h2⟩ := hB (h.2 rfl)
    exact ⟨s2, h1, fun k2 hk => ⟨_, h0, ⟨(fun h => by cases h), fun _ => h2 k2 hk⟩⟩⟩
   ·obtain ⟨s2, h1, h2⟩ := hA (h.1 rfl)
    exact ⟨s2, h1, fun k2 hk => ⟨_, h0, ⟨fun _ => h2 k2 hk, fun h => by cases h⟩⟩⟩
/-! #### The rules -/
variable {l : List Nat} {b : TCode} {id i : Nat}
theorem Kf {dr : Bool} {ops : List AOper} (h : ∀ K : St -> Prop, (∀ fr H, TX P nt b Q ⟨Zc l fr, H⟩ -> K ⟨fr, H⟩) -> run P (Dr.of s.H dr) ops K s) : TX P nt (.seq (.region dr ops) l b) Q s := by
 obtain ⟨s1, ⟨e, s2, h1, h2⟩, h3⟩ := JW (h (fun st => TX P nt b Q ⟨Zc l st.fr, st.H⟩) fun fr H h => h)
 exact ⟨e, s2, h1, Qd fun K hK => h3 K (hK s1.fr s1.H h2)⟩
theorem GP {dr : Bool} {ops : List AOper} (h : ∀ K : St -> Prop, (∀ s', Q .normal s' -> K s') -> run P (Dr.of s.H dr) ops K s) : TX P nt (.region dr ops) Q s := by
 obtain ⟨s1, h1, h3⟩ := JW (h (Q .normal) fun _ h => h)
 exact ⟨.normal, s1, h1, QN fun K hK => h3 K (hK s1 ⟨rfl, rfl⟩)⟩
def Qex (P : Program) (nt : Nat) (l : List Nat) (b : TCode) (Q : ZT -> St -> Prop) : ZT -> St -> Prop
 | .normal, s => TX P nt b Q ⟨Zc l s.fr, s.H⟩
 | e, s => Q e s
theorem Bt {a : TCode} (h : TX P nt a (Qex P nt l b Q) s) : TX P nt (.seq a l b) Q s := by
 obtain ⟨e, s1, h1, h2⟩ := h
 cases e with
 | normal =>
  obtain ⟨e2, s2, h3, h4⟩ := h1
  exact ⟨e2, s2, h3, Qz (Y4 (fun _ _ ⟨p, q⟩ => by subst p q; exact h4) h2)⟩
 | exit n => exact ⟨.exit n, s1, h1, Qz (Y4 (fun _ _ ⟨p, q⟩ => by subst p q; exact ⟨rfl, rfl⟩) h2)⟩
 | ret => exact ⟨.ret, s1, h1, Qz (Y4 (fun _ _ ⟨p, q⟩ => by subst p q; exact ⟨rfl, rfl⟩) h2)⟩
theorem FZ {c : Opd} {x y : TCode} {t : Bool} (hc : s.ev c = some (.bool t)) (h1 : t = true -> TX P nt x Q s) (h2 : t = false -> TX P nt y Q s) : TX P nt (.cond c x y) Q s := by
 cases t
 ·obtain ⟨e, s1, h3, h4⟩ := h2 rfl; exact ⟨e, s1, h3, Zg hc h4⟩
 ·obtain ⟨e, s1, h3, h4⟩ := h1 rfl; exact ⟨e, s1, h3, QV hc h4⟩
theorem R0 {c : Opd} {x y : TCode} (hc : s.ev c = some (.bool true)) (h1 : TX P nt x Q s) : TX P nt (.cond c x y) Q s := FZ hc (fun _ => h1) (fun h => by cases h)
theorem LX {c : Opd} {x y : TCode} (hc : s.ev c = some (.bool false)) (h1 : TX P nt y Q s) : TX P nt (.cond c x y) Q s := FZ hc (fun h => by cases h) (fun _ => h1)
theorem LW {a : TCode} (h : TX P nt a (Jh id Q) s) : TX P nt (.block id a) Q s := by
 obtain ⟨e, s1, h1, h2⟩ := h
 cases e with
 | normal => exact ⟨.normal, s1, h1, Qw (Y4 (fun _ _ ⟨p, q⟩ => by subst p q; exact ⟨rfl, rfl⟩) h2)⟩
 | ret => exact ⟨.ret, s1, h1, Qw (Y4 (fun _ _ ⟨p, q⟩ => by subst p q; exact ⟨rfl, rfl⟩) h2)⟩
 | exit n =>
  by_cases hn : n = id
  ·subst hn
   simp only [Jh, if_true] at h1
   exact ⟨.normal, s1, h1, Qw (Y4 (fun _ _ ⟨p, q⟩ => by subst p q; simp only [Jh, if_true]; exact ⟨trivial, trivial⟩) h2)⟩
  ·simp only [Jh, if_neg hn] at h1
   exact ⟨.exit n, s1, h1, Qw (Y4 (fun _ _ ⟨p, q⟩ => by subst p q; simp only [Jh, if_neg hn]; exact ⟨trivial, trivial⟩) h2)⟩
theorem PF (h : Q (.exit id) s) : TX P nt (.exit id) Q s := ⟨_, s, h, QU ⟨rfl, rfl⟩⟩
theorem QdE (h : Q .ret s) : TX P nt .ret Q s := ⟨_, s, h, Qs ⟨rfl, rfl⟩⟩
theorem F0 (h : Q .normal s) : TX P nt .skip Q s := ⟨_, s, h, Qq ⟨rfl, rfl⟩⟩
theorem Qf0 {c : TCode} {s' : St} (h : s.le s') (hw : TX P nt c Q s') : TX P nt c Q s := let ⟨e, s1, h1, h2⟩ := hw; ⟨e, s1, h1, S2 h h2⟩
inductive Rounds (P : Program) (nt : Nat) (a : TCode) (e : ZT) (s' : St) : Nat -> St -> Prop
 | stop {s : St} : TW P nt a (fun e2 s2 => e2 = e /\ s2 = s') s -> e ≠ .normal -> Rounds P nt a e s' 0 s
 | next {s t s2 : St} {n : Nat} : TW P nt a (fun e2 s3 => e2 = .normal /\ s3 = t) s -> t.le s2 -> Rounds P nt a e s' n s2 -> Rounds P nt a e s' (n + 1) s
theorem Rounds.tw {a : TCode} {e : ZT} {s' : St} {n : Nat} (h : Rounds P nt a e s' n s) : TW P nt (.loop a) (fun e2 s2 => e2 = e /\ s2 = s') s := by
 refine Q5 (ι := Nat × St) (fun j => j.2) (fun j => Rounds P nt a e s' j.1 j.2) (fun j => j.1) (n, s) (le_refl _) h fun j hj => ?_
 obtain ⟨m, st⟩ := j
 dsimp only at hj ⊢
 cases hj with
 | stop h1 h2 =>
  refine Y4 (fun e2 s2 ⟨p, q⟩ => ?_) h1
  subst p q
  cases e2 with
  | normal => exact absurd rfl h2
  | exit n => exact ⟨rfl, rfl⟩
  | ret => exact ⟨rfl, rfl⟩
 | next h1 h2 h3 =>
  refine Y4 (fun e2 s2 ⟨p, q⟩ => ?_) h1
  subst p q
  exact ⟨(_, _), h2, h3, Nat.lt_succ_self _⟩
theorem QdD {ι : Type} {a : TCode} (st : ι -> St) (I : ι -> Prop) (μ : ι -> Nat) (i0 : ι) (h0 : s.le (st i0)) (hI : I i0) (round : ∀ i, I i -> TX P nt a (Mu st I μ i Q) (st i)) : TX P nt (.loop a) Q s := by
 refine Qf0 h0 ?_
 have key : ∀ n i, μ i = n -> I i -> ∃ e s', Q e s' /\ ∃ m, Rounds P nt a e s' m (st i) := by
  intro n
  induction n using Nat.strongRecOn with
  | _ n ih =>
   intro i hn hi
   obtain ⟨e, s1, h1, h2⟩ := round i hi
   cases e with
   | normal =>
    obtain ⟨j, hle, hj, hlt⟩ := h1
    obtain ⟨e, s', h3, m, h4⟩ := ih (μ j) (hn ▸ hlt) j rfl hj
    exact ⟨e, s', h3, m + 1, .next h2 hle h4⟩
   | exit k => exact ⟨_, _, h1, 0, .stop h2 Wc⟩
   | ret => exact ⟨_, _, h1, 0, .stop h2 Wc⟩
 obtain ⟨e, s', h1, m, h2⟩ := key _ i0 rfl hI
 exact ⟨e, s', h1, h2.tw⟩
theorem QaR {ι : Type} (st : ι -> St) (I : ι -> Prop) {a : TCode} (h : TX P nt a (D4 st I Q) s) (k : ∀ j, I j -> TX P nt b Q (st j)) : TX P nt (.seq a l b) Q s := by
 obtain ⟨e, s1, h1, h2⟩ := h
 cases e with
 | normal =>
  obtain ⟨j, hle, hI⟩ := h1
  obtain ⟨e2, s2, h3, h4⟩ := k j hI
  refine ⟨e2, s2, h3, Fh (ι := Unit) (fun _ => st j) (fun _ => True) (Y4 (fun _ _ ⟨p, q⟩ => by subst p q; exact ⟨(), hle, trivial⟩) h2) fun _ _ => h4⟩
 | exit n => exact ⟨.exit n, s1, h1, Qz (Y4 (fun _ _ ⟨p, q⟩ => by subst p q; exact ⟨rfl, rfl⟩) h2)⟩
 | ret => exact ⟨.ret, s1, h1, Qz (Y4 (fun _ _ ⟨p, q⟩ => by subst p q; exact ⟨rfl, rfl⟩) h2)⟩
theorem Yl {fr fr' : QhE} {H : QhD} (h : Zc l fr = fr') (k : TX P nt b Q ⟨fr', H⟩) : TX P nt b Q ⟨Zc l fr, H⟩ := h ▸ k
theorem Xp {fr fr' : QhE} {H : QhD} (h : Zc l fr = fr') (k : TX P nt b Q ⟨fr', H⟩) : Qex P nt l b Q .normal ⟨fr, H⟩ := by
 simp only [Qex, h]; exact k
theorem CO (h : Q (.exit id) s) : Qex P nt l b Q (.exit id) s := h
theorem TY (h : Q .ret s) : Qex P nt l b Q .ret s := h
end
section
variable {P : Program}
theorem OkH.ofX {f : Nat} {fn : Func} {tf : TFn} {ds : List D} {H : QhD} {R : D -> QhD -> Prop} (hm : P.follows .mixedOrders = true) (hf : P.funcs[f]? = some fn) (hp : QQ P fn = some tf.erase) (hn : ds.length <= tf.nt)
  (h : TX P tf.nt tf.body (fun e s => ∃ d H', R d H' /\ (∀ k, 1000000 <= k -> (lk H k).isSome = true -> (lk H' k).isSome = true) /\ (∀ k b, lk H' k = some b -> 500000 <= k /\ ∀ j ∈ b.ids, (lk H' j).isSome = true) /\ MB tf.rs d H' e s) ⟨Li 0 ds, H⟩) (hg : Fo f = [] := by rfl) : ∃ d H', R d H' /\ OkH P f ds H d H' := by
 obtain ⟨e, s, ⟨d, H', h1, h2, h3, h4⟩, h5⟩ := h
 exact ⟨d, H', h1, OkH.ofT hm hf hp hn h2 h3 (Y4 (fun _ _ ⟨p, q⟩ => by subst p q; exact h4) h5) hg⟩
end
section
variable {fr : QhE} {H H' : QhD} {t : Nat}
theorem Ys {e : ZT} {p d : D} (h : lk fr t = some p) (hd : QbO small ⟨fr, H⟩ p = d) (hH : ∀ k b, lk H' k = some b -> lk H k = some b) (he : e = .ret \/ e = .normal := by first | exact .inl rfl | exact .inr rfl) : MB [.tmp t] d H' e ⟨fr, H⟩ := by
 subst hd; rcases he with rfl | rfl <;> exact ⟨.inr (.inl ⟨_, rfl, _, h, rfl⟩), hH⟩
end
section
variable {fr : QhE} {H : QhD} {t u : Nat}
theorem Post.eq {rs : List Py} {d d' : D} {e : ZT} {s : St} (h : Post rs d e s) (hd : d = d') : Post rs d' e s := hd ▸ h
end
theorem HC {m k : Nat} {b0 b : Box} (h : lk [(m, b0)] k = some b) : k = m /\ b = b0 := by
 rw [Qx] at h
 split at h
 ·rename_i e; cases h; exact ⟨e.symm, rfl⟩
 ·cases h
theorem CV {H : QhD} {m : Nat} {b0 : Box} (h : lk H m = some b0) : ∀ k b, lk [(m, b0)] k = some b -> lk H k = some b := fun k b hk => by
 obtain ⟨rfl, rfl⟩ := HC hk; exact h
theorem J0 {s : St} {k i off : Nat} {b : Box} {row : List D} (hb : lk s.H k = some b) (hr : b.rows[i]? = some row) : s.atO (.ref k i off) = some (row.drop off) := by
 simp only [St.atO, hb, hr]
section
variable {P : Program} {dr : Dr} {r : List AOper} {K : St -> Prop} {fr : QhE} {H : QhD} {t : Nat} {bt : Bool} {x y : Opd} {ki kj : IntKind} {m n z : Int}
theorem Qe0 (hx : St.ev ⟨fr, H⟩ x = some (.int ki m)) (hy : St.ev ⟨fr, H⟩ y = some (.int ki n)) (k : run P dr r K ⟨(t, .int ki (Ht .and ki m n)) :: fr, H⟩) : run P dr (⟨some t, .bin .and bt x y, none⟩ :: r) K ⟨fr, H⟩ := QW rfl rfl ⟨_, hx, _, hy, .inr rfl, k⟩
theorem Qe2 (hx : St.ev ⟨fr, H⟩ x = some (.int ki m)) (hy : St.ev ⟨fr, H⟩ y = some (.int kj n)) (h0 : 0 <= n) (hz : ki.wrap (m * 2 ^ min n.toNat ki.bits) = z) (k : run P dr r K ⟨(t, .int ki z) :: fr, H⟩) : run P dr (⟨some t, .bin .shl bt x y, none⟩ :: r) K ⟨fr, H⟩ := by
 subst hz; exact QW rfl rfl ⟨_, hx, _, hy, .inl rfl, h0, k⟩
end
end Go.Abs
namespace Go.Abs
open Go
theorem Kv {H : QhD} {S : Nat -> Bool} {d : D} (h : ∀ k ∈ d.sid, S k = false) : d.fzS H S = d := by
 cases d <;> try rfl
 ·rename_i k n
  simp only [D.fzS]; rw [if_neg (by rw [h k Wm]; simp)]
 ·rename_i k lo c n
  simp only [D.fzS]; rw [if_neg (by rw [h k Wm]; simp)]
 ·rename_i k i o
  simp only [D.fzS]; rw [if_neg (by rw [h k Wm]; simp)]
 ·rename_i f k ps
  simp only [D.fzS]; rw [if_neg (by rw [h k Wm]; simp)]
theorem Qa0 {H : QhD} {S : Nat -> Bool} {d : D} (h : ∀ k ∈ d.ids, S k = false) : d.fz H S = d := by
 cases d
 case agg cs =>
  simp only [D.fz]
  rw [Ye fun x hx => Kv fun k hk => h k (QhM.2 ⟨x, hx, hk⟩)]
 case clo f cs =>
  simp only [D.fz]
  rw [Ye fun x hx => Kv fun k hk => h k (QhM.2 ⟨x, hx, hk⟩)]
 case tpo cs z =>
  simp only [D.fz]
  rw [Ye fun x hx => Kv fun k hk => h k (QhM.2 ⟨x, hx, hk⟩)]
 case osl k n => exact Kv (d := .osl k n) h
 case osv k lo c n => exact Kv (H := H) (d := .osv k lo c n) h
 case ref k i o => exact Kv (d := .ref k i o) h
 case clr f k ps => exact Kv (H := H) (d := .clr f k ps) h
 all_goals rfl
theorem PI {H : QhD} {S : Nat -> Bool} {b : Box} (h : b.pr = true \/ ∀ k ∈ b.ids, S k = false) : b.fz H S = b := by
 unfold Box.fz
 split
 ·rfl
 ·rename_i hp
  have h' := h.resolve_left hp
  have hids : b.ids = b.rows.flatMap fun r => r.flatMap D.sid := by unfold Box.ids; rw [if_neg hp]
  rw [hids] at h'
  have key : ∀ rows : List (List D), (∀ k ∈ rows.flatMap (fun r => r.flatMap D.sid), S k = false) -> (rows.map fun r => r.map (D.fzS H S)) = rows := by
   intro rows
   induction rows with
   | nil => intro _; rfl
   | cons r rs ih =>
    intro h'
    rw [List.map_cons, ih (fun k hk => h' k (by rw [List.flatMap_cons]; exact QhU _ hk)),
     Ye fun x hx => Kv fun k hk => h' k (by rw [List.flatMap_cons]; exact List.mem_append_left _ (QhM.2 ⟨x, hx, hk⟩))]
  have this := key b.rows h'
  rw [this]
theorem Nx {fr fr1 : QhE} {H H1 : QhD} {l lH : List Nat} (k t : Nat) {n : Nat} {b : Box} (hf : Zc l fr = fr1) (hH : HP lH H = H1) (ht : lk fr t = some (.osl k n)) (hb : lk H k = some b) (hp : b.pr = true) (hn : n = b.rows.length)
  (c1 : (fr1.all fun p => !p.2.ids.contains k) = true) (c2 : (H1.all fun p => p.1 != k && (p.2.pr || !p.2.ids.contains k)) = true) (hw : wfB H1 fr1 = true) (hbk : QbU H H1 = true) (hk : k < 1000000 := by decide) : St.le ⟨fr, H⟩ ⟨(t, .sl b.rows) :: fr1, H1⟩ := by
 intro E g a w r
 obtain ⟨g', _, r'⟩ := r.freeze k hk
 subst hf hH
 simp only [wfB, QhJ, QhP] at hw
 simp only [QhP, Bool.not_eq_true', List.contains_eq_mem, decide_eq_false_iff_not] at c1
 simp only [QhP, QhJ, Bool.or_eq_true, Bool.not_eq_true', List.contains_eq_mem, decide_eq_false_iff_not, bne_iff_ne, ne_eq] at c2
 have hS : ∀ (x : D), k ∉ x.ids -> x.fz H (· == k) = x := fun x hx => Qa0 fun j hj => by
  simp only [beq_eq_false_iff_ne, ne_eq]; rintro rfl; exact hx hj
 refine ⟨g', r'.less (fun u d h => ?_) (fun j x h => ?_) (fun u d h j hj => ?_) (fun j x h i hi => hw.2 (j, x) (ZR h) i hi) fun j hj hs => ?_⟩
 ·simp only [St.freeze, Yd]
  rw [Qx] at h
  split at h
  ·rename_i e; cases h; subst e
   rw [ht]; simp only [Option.map_some]
   congr 1
   simp only [D.fz, D.fzS, beq_self_eq_true, if_true, hb, hp, hn, and_self]
  ·have h1 := YN l fr u d h
   rw [h1, Option.map_some, hS d (c1 (u, d) (ZR h))]
 ·have h1 := J4 lH H j x h
  have h2 := c2 (j, x) (ZR h)
  simp only [St.freeze, Gu]
  rw [if_neg h2.1, Yd (Box.fz H (· == k)), h1, Option.map_some]
  congr 1
  refine PI (h2.2.imp id fun h3 i hi => ?_)
  simp only [beq_eq_false_iff_ne, ne_eq]; rintro rfl; exact h3 hi
 ·rw [Qx] at h
  split at h
  ·cases h; simp [D.ids, D.sid] at hj
  ·exact hw.1 (u, d) (ZR h) j hj
 ·have : (lk H j).isSome = true := by
   simp only [St.freeze, Gu] at hs
   rw [if_neg Wa, Yd (Box.fz H (· == k)), QhX] at hs
   exact hs
  exact F7 hbk j hj this
theorem OkH.new {P : Program} {f : Nat} {fn : Func} {tf : TFn} {ds : List D} {d : D} {b' : Box} (hm : P.follows .mixedOrders = true) (hf : P.funcs[f]? = some fn) (hp : QQ P fn = some tf.erase) (hn : ds.length <= tf.nt) (hb : b'.pr = true)
  (h : TW P tf.nt tf.body (MB tf.rs d [(500000, b')]) ⟨Li 0 ds, []⟩) (hg : Fo f = [] := by rfl) : OkH P f ds [] d [(500000, b')] := by
 refine OkH.ofT hm hf hp hn (fun k hk h1 => by cases h1) (fun k x hk => ?_) h hg
 obtain ⟨rfl, rfl⟩ := HC hk
 refine ⟨Nat.le_refl _, fun j hj => ?_⟩
 simp [Box.ids, hb] at hj
theorem QM {α : Type} {f : α -> List D} {l : List α} : Qdg (.sl (l.map f)) = some (l.length : Int) := by simp [Qdg]
theorem Js {ρ : Nat -> Nat} {d : D} (h : ∀ k ∈ d.sid, ρ k = k) : d.renS ρ = d := by
 cases d <;> try rfl
 ·rename_i k n; simp only [D.renS]; rw [h k Wm]
 ·rename_i k lo c n; simp only [D.renS]; rw [h k Wm]
 ·rename_i k i o; simp only [D.renS]; rw [h k Wm]
 ·rename_i f k ps; simp only [D.renS]; rw [h k Wm]
theorem Cz {ρ : Nat -> Nat} {d : D} (h : ∀ k ∈ d.ids, ρ k = k) : d.ren ρ = d := by
 cases d
 case agg cs =>
  simp only [D.ren]
  rw [Ye fun x hx => Js fun k hk => h k (QhM.2 ⟨x, hx, hk⟩)]
 case clo f cs =>
  simp only [D.ren]
  rw [Ye fun x hx => Js fun k hk => h k (QhM.2 ⟨x, hx, hk⟩)]
 case tpo cs z =>
  simp only [D.ren]
  rw [Ye fun x hx => Js fun k hk => h k (QhM.2 ⟨x, hx, hk⟩)]
 case osl k n => exact Js (d := .osl k n) h
 case osv k lo c n => exact Js (d := .osv k lo c n) h
 case ref k i o => exact Js (d := .ref k i o) h
 case clr f k ps => exact Js (d := .clr f k ps) h
 all_goals rfl
theorem Ma {ρ : Nat -> Nat} {b : Box} (hp : b.pr = false) (h : ∀ k ∈ b.ids, ρ k = k) : b.ren ρ = b := by
 have hids : b.ids = b.rows.flatMap fun r => r.flatMap D.sid := by unfold Box.ids; rw [if_neg (by rw [hp]; simp)]
 rw [hids] at h
 have key : ∀ rows : List (List D), (∀ k ∈ rows.flatMap (fun r => r.flatMap D.sid), ρ k = k) -> (rows.map fun r => r.map (D.renS ρ)) = rows := by
  intro rows
  induction rows with
  | nil => intro _; rfl
  | cons r rs ih =>
   intro h'
   rw [List.map_cons, ih (fun k hk => h' k (by rw [List.flatMap_cons]; exact QhU _ hk)),
    Ye fun x hx => Js fun k hk => h' k (by rw [List.flatMap_cons]; exact List.mem_append_left _ (QhM.2 ⟨x, hx, hk⟩))]
 unfold Box.ren
 rw [key b.rows h]
theorem G2 {fr fr1 : QhE} {H H1 : QhD} {l lH : List Nat} (t m u : Nat) {n : Nat} {b : Box} (hf : Zc l fr = fr1) (hH : HP lH H = H1) (hu : lk fr u = some (.osl t n)) (hb : lk H t = some b) (hpr : b.pr = true)
  (c1 : (fr1.all fun p => !p.2.ids.contains t && !p.2.ids.contains m) = true) (c2 : (H1.all fun p => p.1 != t && p.1 != m && (p.2.pr || (!p.2.ids.contains t && !p.2.ids.contains m))) = true) (hw : wfB H1 fr1 = true) (hbk : QbU H H1 = true) (ht : t < 1000000 := by decide) (hm : m < 1000000 := by decide) :
  St.le ⟨fr, H⟩ ⟨(u, .osl m n) :: fr1, (m, b) :: H1⟩ := fun E g a w r => by
 subst hf hH
 obtain ⟨g', r'⟩ := MZ t m ht hm ⟨fr, H⟩ E g a w r
 have hsw : Ke t m t = m := by unfold Ke; rw [if_pos rfl]
 have hsm : Ke t m m = t := by have := Ja t m t; rw [hsw] at this; exact this
 have hid : ∀ k, k ≠ t -> k ≠ m -> Ke t m k = k := fun k h1 h2 => by unfold Ke; rw [if_neg h1, if_neg h2]
 have hren : b.ren (Ke t m) = b := Box.ren_pure ((r.bx t b hb).2.1 hpr)
 simp only [wfB, QhJ, QhP] at hw
 simp only [QhP, QhJ, Bool.not_eq_true', List.contains_eq_mem, decide_eq_false_iff_not] at c1
 simp only [QhP, QhJ, Bool.or_eq_true, Bool.not_eq_true', List.contains_eq_mem, decide_eq_false_iff_not, bne_iff_ne, ne_eq] at c2
 have up : ∀ j, (lk (HP lH H) j).isSome = true -> (lk ((m, b) :: HP lH H) j).isSome = true := fun j hj => by
  rw [Qx]; split
  ·rfl
  ·exact hj
 refine ⟨g', r'.less (fun v d h => ?_) (fun j x h => ?_) (fun v d h j hj => ?_) (fun j x h i hi => ?_) fun j hj hs => ?_⟩
 ·simp only [St.ren, Yd]
  rw [Qx] at h
  split at h
  ·rename_i e
   cases h; subst e
   rw [hu]
   simp only [Option.map_some, D.ren, D.renS, hsw]
  ·have h2 := YN l fr v d h
   rw [h2, Option.map_some]
   congr 1
   have h3 := c1 (v, d) (ZR h)
   exact Cz fun k hk => hid k (by rintro rfl; exact h3.1 hk) (by rintro rfl; exact h3.2 hk)
 ·show lk (SA (Ke t m) H) j = some x
  rw [G3 (Ja t m)]
  rw [Qx] at h
  split at h
  ·rename_i e; cases h; subst e
   rw [hsm, hb, Option.map_some, hren]
  ·have h2 := J4 lH H j x h
   have h3 := c2 (j, x) (ZR h)
   rw [hid j h3.1.1 h3.1.2, h2, Option.map_some]
   congr 1
   cases hp : x.pr with
   | true => exact Box.ren_pure ((r.bx j x h2).2.1 hp)
   | false =>
    have h4 := h3.2.resolve_left (by rw [hp]; simp)
    exact Ma hp fun k hk => hid k (by rintro rfl; exact h4.1 hk) (by rintro rfl; exact h4.2 hk)
 ·rw [Qx] at h
  split at h
  ·cases h
   simp [D.ids, D.sid] at hj; subst hj; simp [Qx]
  ·exact up j (hw.1 (v, d) (ZR h) j hj)
 ·rw [Qx] at h
  split at h
  ·rename_i e; cases h; simp [Box.ids, hpr] at hi
  ·exact up i (hw.2 (j, x) (ZR h) i hi)
 ·have hs' : (lk (SA (Ke t m) H) j).isSome = true := hs
  rw [G3 (Ja t m), QhX, hid j Wa Wa] at hs'
  exact up j (F7 hbk j hj hs')
section
variable {P : Program} {dr : Dr} {r : List AOper} {K : St -> Prop} {fr : QhE} {H : QhD} {t : Nat}
theorem S0 {esz et bytes : Nat} {zero : List D} {x y : Opd} {ki kj : IntKind} {n : Int} (hx : St.ev ⟨fr, H⟩ x = some (.int ki n)) (hy : St.ev ⟨fr, H⟩ y = some (.int kj n)) (hn : lk H t = none) (h0 : 0 <= n) (hb : n.toNat * bytes <= 281474976710656) (hc : n.toNat <= 4611686018427387904)
  (k : run P dr r K ⟨(t, .osl t n.toNat) :: fr, (t, ⟨List.replicate n.toNat zero, esz, et, true⟩) :: H⟩) : run P dr (⟨some t, .makeSlice esz et bytes zero x y, none⟩ :: r) K ⟨fr, H⟩ := QW rfl rfl ⟨_, hx, _, hy, t, rfl, hn, rfl, h0, hb, hc, k⟩
end
end Go.Abs
namespace Go.Abs
open Go
/-! ### Walks over boxes that are lent, of which little is known -/
def Qdj (H : QhD) : Prop := ∀ k b, lk H k = some b -> ∀ j ∈ b.ids, (lk H j).isSome = true
theorem Qcj {α : Type} {k : Nat} {v : α} {l : List (Nat × α)} : lk ((k, v) :: l) k = some v := by rw [Qx, if_pos rfl]
def Qdq (b : Box) : Prop := b.ids = []
theorem Qap {b : Box} (h : b.pr = true) : b.ids = [] := by simp [Box.ids, h]
theorem QdO {P : Program} {f : Nat} {args : List Opd} {s : St} {ds ds' : List D} {HF : QhD} {k : Nat} {b b' : Box} {d : D} (ha : Zb s args = some ds) (hF : ∀ j x, lk HF j = some x -> lk s.H j = some x) (hcl : Qdj HF) (hds : ∀ x ∈ ds, ∀ j ∈ x.ids, (lk HF j).isSome = true)
  (hk : (lk HF k).isSome = true) (hb : b.pr = true) (hd : d.ids = []) (hu : ds.map Bh = ds') (hr : b.ren upN = b') (hok : OkH P f ds' (upH HF) d ((upN k, b') :: upH HF)) : XR P f args s HF [] [(k, b)] d := by
 subst hu hr
 refine ⟨ds, ha, hF, hcl, hds, fun j x hj => ?_, (fun j x hj => by cases hj), (fun j hj => by rw [hd] at hj; cases hj), .inl hok⟩
 rw [Qx] at hj
 split at hj
 ·rename_i e; cases hj; subst e; exact ⟨hk, fun i hi => by rw [Qap hb] at hi; cases hi⟩
 ·cases hj
section
variable {P : Program} {r : List AOper} {K : St -> Prop} {fr : QhE} {H : QhD} {t : Nat}
end
/-! ### The same over boxes whose names are greater than N -/
/-! ### Cells told az plain slices -/
end Go.Abs
namespace Go.Abs
open Go
end Go.Abs
namespace Go.Abs
open Go
theorem Z.{u} {α : Sort u} {a : α} : a = a := rfl
theorem qB : (∀ (p : Prop) [Decidable p], (decide p = true) = p) /\ (∀ (p : Prop) [Decidable p], (decide p = false) ↔ ¬ p) /\ (∀ a b : Bool, ((!a) = b) = (a = !b)) /\ (!true) = false /\ (!false) = true := ⟨fun _ _ => decide_eq_true_eq, fun _ _ => decide_eq_false_iff_not, fun a b => by simp, rfl, rfl⟩
theorem qA : (∀ (p : Prop) [Decidable p], (decide p = true) = p) /\ (∀ (p : Prop) [Decidable p], (decide p = false) ↔ ¬ p) /\ (∀ a b : Bool, ((!a) = b) = (a = !b)) /\ (!true) = false /\ (!false) = true /\ (∀ (α β : Type) (f : α -> β) (l : List α), (l.map f).length = l.length) := ⟨qB.1, qB.2.1, qB.2.2.1, rfl, rfl, fun _ _ _ _ => List.length_map _⟩
theorem qa {p : Prop} [Decidable p] : (decide p = true) = p := decide_eq_true_eq
theorem qb {p : Prop} [Decidable p] : (decide p = false) ↔ ¬ p := decide_eq_false_iff_not
theorem qc {a b : Bool} : ((!a) = b) = (a = !b) := by simp
theorem qd : (!true) = false := rfl
theorem qe : (!false) = true := rfl
section
variable {fr : QhE} {t0 t1 t2 t3 t4 t5 t6 t7 t8 t9 t10 t11 t12 t13 t14 t15 t16 t17 t18 t19 t20 t21 t22 t23 : Nat} {d0 d1 d2 d3 d4 d5 d6 d7 d8 d9 d10 d11 d12 d13 d14 d15 d16 d17 d18 d19 d20 d21 d22 d23 : D}
abbrev kE (fr : QhE) (t : Nat) (d : D) : Prop := lk fr t = some d
theorem kp1 (h0 : kE fr t0 d0) : Zc [t0] fr = [(t0, d0)] := Qn h0 QL
theorem kp2 (h0 : kE fr t0 d0) (h1 : kE fr t1 d1) : Zc [t0, t1] fr = [(t0, d0), (t1, d1)] := Qn h0 (kp1 h1)
theorem kp3 (h0 : kE fr t0 d0) (h1 : kE fr t1 d1) (h2 : kE fr t2 d2) : Zc [t0, t1, t2] fr = [(t0, d0), (t1, d1), (t2, d2)] := Qn h0 (kp2 h1 h2)
theorem kp4 (h0 : kE fr t0 d0) (h1 : kE fr t1 d1) (h2 : kE fr t2 d2) (h3 : kE fr t3 d3) : Zc [t0, t1, t2, t3] fr = [(t0, d0), (t1, d1), (t2, d2), (t3, d3)] := Qn h0 (kp3 h1 h2 h3)
theorem kp5 (h0 : kE fr t0 d0) (h1 : kE fr t1 d1) (h2 : kE fr t2 d2) (h3 : kE fr t3 d3) (h4 : kE fr t4 d4) : Zc [t0, t1, t2, t3, t4] fr = [(t0, d0), (t1, d1), (t2, d2), (t3, d3), (t4, d4)] := Qn h0 (kp4 h1 h2 h3 h4)
theorem kp6 (h0 : kE fr t0 d0) (h1 : kE fr t1 d1) (h2 : kE fr t2 d2) (h3 : kE fr t3 d3) (h4 : kE fr t4 d4) (h5 : kE fr t5 d5) : Zc [t0, t1, t2, t3, t4, t5] fr = [(t0, d0), (t1, d1), (t2, d2), (t3, d3), (t4, d4), (t5, d5)] := Qn h0 (kp5 h1 h2 h3 h4 h5)
theorem kp7 (h0 : kE fr t0 d0) (h1 : kE fr t1 d1) (h2 : kE fr t2 d2) (h3 : kE fr t3 d3) (h4 : kE fr t4 d4) (h5 : kE fr t5 d5) (h6 : kE fr t6 d6) : Zc [t0, t1, t2, t3, t4, t5, t6] fr = [(t0, d0), (t1, d1), (t2, d2), (t3, d3), (t4, d4), (t5, d5), (t6, d6)] := Qn h0 (kp6 h1 h2 h3 h4 h5 h6)
theorem kp8 (h0 : kE fr t0 d0) (h1 : kE fr t1 d1) (h2 : kE fr t2 d2) (h3 : kE fr t3 d3) (h4 : kE fr t4 d4) (h5 : kE fr t5 d5) (h6 : kE fr t6 d6) (h7 : kE fr t7 d7) : Zc [t0, t1, t2, t3, t4, t5, t6, t7] fr = [(t0, d0), (t1, d1), (t2, d2), (t3, d3), (t4, d4), (t5, d5), (t6, d6), (t7, d7)] := Qn h0 (kp7 h1 h2 h3 h4 h5 h6 h7)
theorem kp9 (h0 : kE fr t0 d0) (h1 : kE fr t1 d1) (h2 : kE fr t2 d2) (h3 : kE fr t3 d3) (h4 : kE fr t4 d4) (h5 : kE fr t5 d5) (h6 : kE fr t6 d6) (h7 : kE fr t7 d7) (h8 : kE fr t8 d8) : Zc [t0, t1, t2, t3, t4, t5, t6, t7, t8] fr = [(t0, d0), (t1, d1), (t2, d2), (t3, d3), (t4, d4), (t5, d5), (t6, d6), (t7, d7), (t8, d8)] := Qn h0 (kp8 h1 h2 h3 h4 h5 h6 h7 h8)
theorem HQ (h0 : kE fr t0 d0) (h1 : kE fr t1 d1) (h2 : kE fr t2 d2) (h3 : kE fr t3 d3) (h4 : kE fr t4 d4) (h5 : kE fr t5 d5) (h6 : kE fr t6 d6) (h7 : kE fr t7 d7) (h8 : kE fr t8 d8) (h9 : kE fr t9 d9) : Zc [t0, t1, t2, t3, t4, t5, t6, t7, t8, t9] fr = [(t0, d0), (t1, d1), (t2, d2), (t3, d3), (t4, d4), (t5, d5), (t6, d6), (t7, d7), (t8, d8), (t9, d9)] := Qn h0 (kp9 h1 h2 h3 h4 h5 h6 h7 h8 h9)
theorem FA (h0 : kE fr t0 d0) (h1 : kE fr t1 d1) (h2 : kE fr t2 d2) (h3 : kE fr t3 d3) (h4 : kE fr t4 d4) (h5 : kE fr t5 d5) (h6 : kE fr t6 d6) (h7 : kE fr t7 d7) (h8 : kE fr t8 d8) (h9 : kE fr t9 d9) (h10 : kE fr t10 d10) : Zc [t0, t1, t2, t3, t4, t5, t6, t7, t8, t9, t10] fr = [(t0, d0), (t1, d1), (t2, d2), (t3, d3), (t4, d4), (t5, d5), (t6, d6), (t7, d7), (t8, d8), (t9, d9), (t10, d10)] := Qn h0 (HQ h1 h2 h3 h4 h5 h6 h7 h8 h9 h10)
theorem NX (h0 : kE fr t0 d0) (h1 : kE fr t1 d1) (h2 : kE fr t2 d2) (h3 : kE fr t3 d3) (h4 : kE fr t4 d4) (h5 : kE fr t5 d5) (h6 : kE fr t6 d6) (h7 : kE fr t7 d7) (h8 : kE fr t8 d8) (h9 : kE fr t9 d9) (h10 : kE fr t10 d10) (h11 : kE fr t11 d11) : Zc [t0, t1, t2, t3, t4, t5, t6, t7, t8, t9, t10, t11] fr = [(t0, d0), (t1, d1), (t2, d2), (t3, d3), (t4, d4), (t5, d5), (t6, d6), (t7, d7), (t8, d8), (t9, d9), (t10, d10), (t11, d11)] := Qn h0 (FA h1 h2 h3 h4 h5 h6 h7 h8 h9 h10 h11)
theorem Qde (h0 : kE fr t0 d0) (h1 : kE fr t1 d1) (h2 : kE fr t2 d2) (h3 : kE fr t3 d3) (h4 : kE fr t4 d4) (h5 : kE fr t5 d5) (h6 : kE fr t6 d6) (h7 : kE fr t7 d7) (h8 : kE fr t8 d8) (h9 : kE fr t9 d9) (h10 : kE fr t10 d10) (h11 : kE fr t11 d11) (h12 : kE fr t12 d12) : Zc [t0, t1, t2, t3, t4, t5, t6, t7, t8, t9, t10, t11, t12] fr = [(t0, d0), (t1, d1), (t2, d2), (t3, d3), (t4, d4), (t5, d5), (t6, d6), (t7, d7), (t8, d8), (t9, d9), (t10, d10), (t11, d11), (t12, d12)] := Qn h0 (NX h1 h2 h3 h4 h5 h6 h7 h8 h9 h10 h11 h12)
theorem Qcg (h0 : kE fr t0 d0) (h1 : kE fr t1 d1) (h2 : kE fr t2 d2) (h3 : kE fr t3 d3) (h4 : kE fr t4 d4) (h5 : kE fr t5 d5) (h6 : kE fr t6 d6) (h7 : kE fr t7 d7) (h8 : kE fr t8 d8) (h9 : kE fr t9 d9) (h10 : kE fr t10 d10) (h11 : kE fr t11 d11) (h12 : kE fr t12 d12) (h13 : kE fr t13 d13) : Zc [t0, t1, t2, t3, t4, t5, t6, t7, t8, t9, t10, t11, t12, t13] fr = [(t0, d0), (t1, d1), (t2, d2), (t3, d3), (t4, d4), (t5, d5), (t6, d6), (t7, d7), (t8, d8), (t9, d9), (t10, d10), (t11, d11), (t12, d12), (t13, d13)] := Qn h0 (Qde h1 h2 h3 h4 h5 h6 h7 h8 h9 h10 h11 h12 h13)
theorem RR (h0 : kE fr t0 d0) (h1 : kE fr t1 d1) (h2 : kE fr t2 d2) (h3 : kE fr t3 d3) (h4 : kE fr t4 d4) (h5 : kE fr t5 d5) (h6 : kE fr t6 d6) (h7 : kE fr t7 d7) (h8 : kE fr t8 d8) (h9 : kE fr t9 d9) (h10 : kE fr t10 d10) (h11 : kE fr t11 d11) (h12 : kE fr t12 d12) (h13 : kE fr t13 d13) (h14 : kE fr t14 d14) : Zc [t0, t1, t2, t3, t4, t5, t6, t7, t8, t9, t10, t11, t12, t13, t14] fr = [(t0, d0), (t1, d1), (t2, d2), (t3, d3), (t4, d4), (t5, d5), (t6, d6), (t7, d7), (t8, d8), (t9, d9), (t10, d10), (t11, d11), (t12, d12), (t13, d13), (t14, d14)] := Qn h0 (Qcg h1 h2 h3 h4 h5 h6 h7 h8 h9 h10 h11 h12 h13 h14)
theorem Qa5 (h0 : kE fr t0 d0) (h1 : kE fr t1 d1) (h2 : kE fr t2 d2) (h3 : kE fr t3 d3) (h4 : kE fr t4 d4) (h5 : kE fr t5 d5) (h6 : kE fr t6 d6) (h7 : kE fr t7 d7) (h8 : kE fr t8 d8) (h9 : kE fr t9 d9) (h10 : kE fr t10 d10) (h11 : kE fr t11 d11) (h12 : kE fr t12 d12) (h13 : kE fr t13 d13) (h14 : kE fr t14 d14) (h15 : kE fr t15 d15) : Zc [t0, t1, t2, t3, t4, t5, t6, t7, t8, t9, t10, t11, t12, t13, t14, t15] fr = [(t0, d0), (t1, d1), (t2, d2), (t3, d3), (t4, d4), (t5, d5), (t6, d6), (t7, d7), (t8, d8), (t9, d9), (t10, d10), (t11, d11), (t12, d12), (t13, d13), (t14, d14), (t15, d15)] := Qn h0 (RR h1 h2 h3 h4 h5 h6 h7 h8 h9 h10 h11 h12 h13 h14 h15)
theorem QfM (h0 : kE fr t0 d0) (h1 : kE fr t1 d1) (h2 : kE fr t2 d2) (h3 : kE fr t3 d3) (h4 : kE fr t4 d4) (h5 : kE fr t5 d5) (h6 : kE fr t6 d6) (h7 : kE fr t7 d7) (h8 : kE fr t8 d8) (h9 : kE fr t9 d9) (h10 : kE fr t10 d10) (h11 : kE fr t11 d11) (h12 : kE fr t12 d12) (h13 : kE fr t13 d13) (h14 : kE fr t14 d14) (h15 : kE fr t15 d15) (h16 : kE fr t16 d16) : Zc [t0, t1, t2, t3, t4, t5, t6, t7, t8, t9, t10, t11, t12, t13, t14, t15, t16] fr = [(t0, d0), (t1, d1), (t2, d2), (t3, d3), (t4, d4), (t5, d5), (t6, d6), (t7, d7), (t8, d8), (t9, d9), (t10, d10), (t11, d11), (t12, d12), (t13, d13), (t14, d14), (t15, d15), (t16, d16)] := Qn h0 (Qa5 h1 h2 h3 h4 h5 h6 h7 h8 h9 h10 h11 h12 h13 h14 h15 h16)
theorem Qf5 (h0 : kE fr t0 d0) (h1 : kE fr t1 d1) (h2 : kE fr t2 d2) (h3 : kE fr t3 d3) (h4 : kE fr t4 d4) (h5 : kE fr t5 d5) (h6 : kE fr t6 d6) (h7 : kE fr t7 d7) (h8 : kE fr t8 d8) (h9 : kE fr t9 d9) (h10 : kE fr t10 d10) (h11 : kE fr t11 d11) (h12 : kE fr t12 d12) (h13 : kE fr t13 d13) (h14 : kE fr t14 d14) (h15 : kE fr t15 d15) (h16 : kE fr t16 d16) (h17 : kE fr t17 d17) : Zc [t0, t1, t2, t3, t4, t5, t6, t7, t8, t9, t10, t11, t12, t13, t14, t15, t16, t17] fr = [(t0, d0), (t1, d1), (t2, d2), (t3, d3), (t4, d4), (t5, d5), (t6, d6), (t7, d7), (t8, d8), (t9, d9), (t10, d10), (t11, d11), (t12, d12), (t13, d13), (t14, d14), (t15, d15), (t16, d16), (t17, d17)] := Qn h0 (QfM h1 h2 h3 h4 h5 h6 h7 h8 h9 h10 h11 h12 h13 h14 h15 h16 h17)
theorem Qdf (h0 : kE fr t0 d0) (h1 : kE fr t1 d1) (h2 : kE fr t2 d2) (h3 : kE fr t3 d3) (h4 : kE fr t4 d4) (h5 : kE fr t5 d5) (h6 : kE fr t6 d6) (h7 : kE fr t7 d7) (h8 : kE fr t8 d8) (h9 : kE fr t9 d9) (h10 : kE fr t10 d10) (h11 : kE fr t11 d11) (h12 : kE fr t12 d12) (h13 : kE fr t13 d13) (h14 : kE fr t14 d14) (h15 : kE fr t15 d15) (h16 : kE fr t16 d16) (h17 : kE fr t17 d17) (h18 : kE fr t18 d18) : Zc [t0, t1, t2, t3, t4, t5, t6, t7, t8, t9, t10, t11, t12, t13, t14, t15, t16, t17, t18] fr = [(t0, d0), (t1, d1), (t2, d2), (t3, d3), (t4, d4), (t5, d5), (t6, d6), (t7, d7), (t8, d8), (t9, d9), (t10, d10), (t11, d11), (t12, d12), (t13, d13), (t14, d14), (t15, d15), (t16, d16), (t17, d17), (t18, d18)] := Qn h0 (Qf5 h1 h2 h3 h4 h5 h6 h7 h8 h9 h10 h11 h12 h13 h14 h15 h16 h17 h18)
theorem QfN (h0 : kE fr t0 d0) (h1 : kE fr t1 d1) (h2 : kE fr t2 d2) (h3 : kE fr t3 d3) (h4 : kE fr t4 d4) (h5 : kE fr t5 d5) (h6 : kE fr t6 d6) (h7 : kE fr t7 d7) (h8 : kE fr t8 d8) (h9 : kE fr t9 d9) (h10 : kE fr t10 d10) (h11 : kE fr t11 d11) (h12 : kE fr t12 d12) (h13 : kE fr t13 d13) (h14 : kE fr t14 d14) (h15 : kE fr t15 d15) (h16 : kE fr t16 d16) (h17 : kE fr t17 d17) (h18 : kE fr t18 d18) (h19 : kE fr t19 d19) : Zc [t0, t1, t2, t3, t4, t5, t6, t7, t8, t9, t10, t11, t12, t13, t14, t15, t16, t17, t18, t19] fr = [(t0, d0), (t1, d1), (t2, d2), (t3, d3), (t4, d4), (t5, d5), (t6, d6), (t7, d7), (t8, d8), (t9, d9), (t10, d10), (t11, d11), (t12, d12), (t13, d13), (t14, d14), (t15, d15), (t16, d16), (t17, d17), (t18, d18), (t19, d19)] := Qn h0 (Qdf h1 h2 h3 h4 h5 h6 h7 h8 h9 h10 h11 h12 h13 h14 h15 h16 h17 h18 h19)
end
section
variable {P : Program} {nt : Nat} {Q : ZT -> St -> Prop} {l : List Nat} {b : TCode} {K : St -> Prop} {H : QhD} {fr fr' : QhE} {r : List AOper} {dr : Dr} {x y z v : Opd} {p q : D} {t u : Nat}
variable {t0 t1 t2 t3 t4 t5 t6 t7 t8 : Nat} {d0 d1 d2 d3 d4 d5 d6 d7 d8 : D}
theorem kc (hK : ∀ fr H, TW P nt b Q ⟨Zc l fr, H⟩ -> K ⟨fr, H⟩) (h : Zc l fr = fr') (k : TW P nt b Q ⟨fr', H⟩) : K ⟨fr, H⟩ := hK _ _ (Zo h k)
theorem kc1 (hK : ∀ fr H, TW P nt b Q ⟨Zc [t0] fr, H⟩ -> K ⟨fr, H⟩) (h0 : kE fr t0 d0) (k : TW P nt b Q ⟨[(t0, d0)], H⟩) : K ⟨fr, H⟩ := kc hK (kp1 h0) k
theorem ks1 (h0 : kE fr t0 d0) (k : TW P nt b Q ⟨[(t0, d0)], H⟩) : TV P nt [t0] b Q .normal ⟨fr, H⟩ := QJ (kp1 h0) k
theorem kc2 (hK : ∀ fr H, TW P nt b Q ⟨Zc [t0, t1] fr, H⟩ -> K ⟨fr, H⟩) (h0 : kE fr t0 d0) (h1 : kE fr t1 d1) (k : TW P nt b Q ⟨[(t0, d0), (t1, d1)], H⟩) : K ⟨fr, H⟩ := kc hK (kp2 h0 h1) k
theorem ks2 (h0 : kE fr t0 d0) (h1 : kE fr t1 d1) (k : TW P nt b Q ⟨[(t0, d0), (t1, d1)], H⟩) : TV P nt [t0, t1] b Q .normal ⟨fr, H⟩ := QJ (kp2 h0 h1) k
theorem kc3 (hK : ∀ fr H, TW P nt b Q ⟨Zc [t0, t1, t2] fr, H⟩ -> K ⟨fr, H⟩) (h0 : kE fr t0 d0) (h1 : kE fr t1 d1) (h2 : kE fr t2 d2) (k : TW P nt b Q ⟨[(t0, d0), (t1, d1), (t2, d2)], H⟩) : K ⟨fr, H⟩ := kc hK (kp3 h0 h1 h2) k
theorem ks3 (h0 : kE fr t0 d0) (h1 : kE fr t1 d1) (h2 : kE fr t2 d2) (k : TW P nt b Q ⟨[(t0, d0), (t1, d1), (t2, d2)], H⟩) : TV P nt [t0, t1, t2] b Q .normal ⟨fr, H⟩ := QJ (kp3 h0 h1 h2) k
theorem kc4 (hK : ∀ fr H, TW P nt b Q ⟨Zc [t0, t1, t2, t3] fr, H⟩ -> K ⟨fr, H⟩) (h0 : kE fr t0 d0) (h1 : kE fr t1 d1) (h2 : kE fr t2 d2) (h3 : kE fr t3 d3) (k : TW P nt b Q ⟨[(t0, d0), (t1, d1), (t2, d2), (t3, d3)], H⟩) : K ⟨fr, H⟩ := kc hK (kp4 h0 h1 h2 h3) k
theorem ks4 (h0 : kE fr t0 d0) (h1 : kE fr t1 d1) (h2 : kE fr t2 d2) (h3 : kE fr t3 d3) (k : TW P nt b Q ⟨[(t0, d0), (t1, d1), (t2, d2), (t3, d3)], H⟩) : TV P nt [t0, t1, t2, t3] b Q .normal ⟨fr, H⟩ := QJ (kp4 h0 h1 h2 h3) k
theorem kc5 (hK : ∀ fr H, TW P nt b Q ⟨Zc [t0, t1, t2, t3, t4] fr, H⟩ -> K ⟨fr, H⟩) (h0 : kE fr t0 d0) (h1 : kE fr t1 d1) (h2 : kE fr t2 d2) (h3 : kE fr t3 d3) (h4 : kE fr t4 d4) (k : TW P nt b Q ⟨[(t0, d0), (t1, d1), (t2, d2), (t3, d3), (t4, d4)], H⟩) : K ⟨fr, H⟩ := kc hK (kp5 h0 h1 h2 h3 h4) k
theorem ks5 (h0 : kE fr t0 d0) (h1 : kE fr t1 d1) (h2 : kE fr t2 d2) (h3 : kE fr t3 d3) (h4 : kE fr t4 d4) (k : TW P nt b Q ⟨[(t0, d0), (t1, d1), (t2, d2), (t3, d3), (t4, d4)], H⟩) : TV P nt [t0, t1, t2, t3, t4] b Q .normal ⟨fr, H⟩ := QJ (kp5 h0 h1 h2 h3 h4) k
theorem kc6 (hK : ∀ fr H, TW P nt b Q ⟨Zc [t0, t1, t2, t3, t4, t5] fr, H⟩ -> K ⟨fr, H⟩) (h0 : kE fr t0 d0) (h1 : kE fr t1 d1) (h2 : kE fr t2 d2) (h3 : kE fr t3 d3) (h4 : kE fr t4 d4) (h5 : kE fr t5 d5) (k : TW P nt b Q ⟨[(t0, d0), (t1, d1), (t2, d2), (t3, d3), (t4, d4), (t5, d5)], H⟩) : K ⟨fr, H⟩ := kc hK (kp6 h0 h1 h2 h3 h4 h5) k
theorem ks6 (h0 : kE fr t0 d0) (h1 : kE fr t1 d1) (h2 : kE fr t2 d2) (h3 : kE fr t3 d3) (h4 : kE fr t4 d4) (h5 : kE fr t5 d5) (k : TW P nt b Q ⟨[(t0, d0), (t1, d1), (t2, d2), (t3, d3), (t4, d4), (t5, d5)], H⟩) : TV P nt [t0, t1, t2, t3, t4, t5] b Q .normal ⟨fr, H⟩ := QJ (kp6 h0 h1 h2 h3 h4 h5) k
theorem kc7 (hK : ∀ fr H, TW P nt b Q ⟨Zc [t0, t1, t2, t3, t4, t5, t6] fr, H⟩ -> K ⟨fr, H⟩) (h0 : kE fr t0 d0) (h1 : kE fr t1 d1) (h2 : kE fr t2 d2) (h3 : kE fr t3 d3) (h4 : kE fr t4 d4) (h5 : kE fr t5 d5) (h6 : kE fr t6 d6) (k : TW P nt b Q ⟨[(t0, d0), (t1, d1), (t2, d2), (t3, d3), (t4, d4), (t5, d5), (t6, d6)], H⟩) : K ⟨fr, H⟩ := kc hK (kp7 h0 h1 h2 h3 h4 h5 h6) k
theorem ks7 (h0 : kE fr t0 d0) (h1 : kE fr t1 d1) (h2 : kE fr t2 d2) (h3 : kE fr t3 d3) (h4 : kE fr t4 d4) (h5 : kE fr t5 d5) (h6 : kE fr t6 d6) (k : TW P nt b Q ⟨[(t0, d0), (t1, d1), (t2, d2), (t3, d3), (t4, d4), (t5, d5), (t6, d6)], H⟩) : TV P nt [t0, t1, t2, t3, t4, t5, t6] b Q .normal ⟨fr, H⟩ := QJ (kp7 h0 h1 h2 h3 h4 h5 h6) k
theorem kc8 (hK : ∀ fr H, TW P nt b Q ⟨Zc [t0, t1, t2, t3, t4, t5, t6, t7] fr, H⟩ -> K ⟨fr, H⟩) (h0 : kE fr t0 d0) (h1 : kE fr t1 d1) (h2 : kE fr t2 d2) (h3 : kE fr t3 d3) (h4 : kE fr t4 d4) (h5 : kE fr t5 d5) (h6 : kE fr t6 d6) (h7 : kE fr t7 d7) (k : TW P nt b Q ⟨[(t0, d0), (t1, d1), (t2, d2), (t3, d3), (t4, d4), (t5, d5), (t6, d6), (t7, d7)], H⟩) : K ⟨fr, H⟩ := kc hK (kp8 h0 h1 h2 h3 h4 h5 h6 h7) k
theorem ks8 (h0 : kE fr t0 d0) (h1 : kE fr t1 d1) (h2 : kE fr t2 d2) (h3 : kE fr t3 d3) (h4 : kE fr t4 d4) (h5 : kE fr t5 d5) (h6 : kE fr t6 d6) (h7 : kE fr t7 d7) (k : TW P nt b Q ⟨[(t0, d0), (t1, d1), (t2, d2), (t3, d3), (t4, d4), (t5, d5), (t6, d6), (t7, d7)], H⟩) : TV P nt [t0, t1, t2, t3, t4, t5, t6, t7] b Q .normal ⟨fr, H⟩ := QJ (kp8 h0 h1 h2 h3 h4 h5 h6 h7) k
theorem kc9 (hK : ∀ fr H, TW P nt b Q ⟨Zc [t0, t1, t2, t3, t4, t5, t6, t7, t8] fr, H⟩ -> K ⟨fr, H⟩) (h0 : kE fr t0 d0) (h1 : kE fr t1 d1) (h2 : kE fr t2 d2) (h3 : kE fr t3 d3) (h4 : kE fr t4 d4) (h5 : kE fr t5 d5) (h6 : kE fr t6 d6) (h7 : kE fr t7 d7) (h8 : kE fr t8 d8) (k : TW P nt b Q ⟨[(t0, d0), (t1, d1), (t2, d2), (t3, d3), (t4, d4), (t5, d5), (t6, d6), (t7, d7), (t8, d8)], H⟩) : K ⟨fr, H⟩ := kc hK (kp9 h0 h1 h2 h3 h4 h5 h6 h7 h8) k
theorem ks9 (h0 : kE fr t0 d0) (h1 : kE fr t1 d1) (h2 : kE fr t2 d2) (h3 : kE fr t3 d3) (h4 : kE fr t4 d4) (h5 : kE fr t5 d5) (h6 : kE fr t6 d6) (h7 : kE fr t7 d7) (h8 : kE fr t8 d8) (k : TW P nt b Q ⟨[(t0, d0), (t1, d1), (t2, d2), (t3, d3), (t4, d4), (t5, d5), (t6, d6), (t7, d7), (t8, d8)], H⟩) : TV P nt [t0, t1, t2, t3, t4, t5, t6, t7, t8] b Q .normal ⟨fr, H⟩ := QJ (kp9 h0 h1 h2 h3 h4 h5 h6 h7 h8) k
theorem gn2 {o0 : AOp} {g0 : Nat} {b0 : Bool} {w0 : Nat} {o1 : AOp} {g1 : Nat} {b1 : Bool} {w1 : Nat} (h0 : lk (fr) g0 = some (.bool (!b0))) (h1 : lk ((w0, .undef) :: fr) g1 = some (.bool (!b1))) (k : run P dr r K ⟨(w1, .undef) :: (w0, .undef) :: fr, H⟩) : run P dr (⟨some w0, o0, some (g0, b0)⟩ :: ⟨some w1, o1, some (g1, b1)⟩ :: r) K ⟨fr, H⟩ := (Yk h0 (Yk h1 k))
theorem gn3 {o0 : AOp} {g0 : Nat} {b0 : Bool} {w0 : Nat} {o1 : AOp} {g1 : Nat} {b1 : Bool} {w1 : Nat} {o2 : AOp} {g2 : Nat} {b2 : Bool} {w2 : Nat} (h0 : lk (fr) g0 = some (.bool (!b0))) (h1 : lk ((w0, .undef) :: fr) g1 = some (.bool (!b1))) (h2 : lk ((w1, .undef) :: (w0, .undef) :: fr) g2 = some (.bool (!b2))) (k : run P dr r K ⟨(w2, .undef) :: (w1, .undef) :: (w0, .undef) :: fr, H⟩) : run P dr (⟨some w0, o0, some (g0, b0)⟩ :: ⟨some w1, o1, some (g1, b1)⟩ :: ⟨some w2, o2, some (g2, b2)⟩ :: r) K ⟨fr, H⟩ := (Yk h0 (Yk h1 (Yk h2 k)))
theorem gn4 {o0 : AOp} {g0 : Nat} {b0 : Bool} {w0 : Nat} {o1 : AOp} {g1 : Nat} {b1 : Bool} {w1 : Nat} {o2 : AOp} {g2 : Nat} {b2 : Bool} {w2 : Nat} {o3 : AOp} {g3 : Nat} {b3 : Bool} {w3 : Nat} (h0 : lk (fr) g0 = some (.bool (!b0))) (h1 : lk ((w0, .undef) :: fr) g1 = some (.bool (!b1))) (h2 : lk ((w1, .undef) :: (w0, .undef) :: fr) g2 = some (.bool (!b2))) (h3 : lk ((w2, .undef) :: (w1, .undef) :: (w0, .undef) :: fr) g3 = some (.bool (!b3))) (k : run P dr r K ⟨(w3, .undef) :: (w2, .undef) :: (w1, .undef) :: (w0, .undef) :: fr, H⟩) : run P dr (⟨some w0, o0, some (g0, b0)⟩ :: ⟨some w1, o1, some (g1, b1)⟩ :: ⟨some w2, o2, some (g2, b2)⟩ :: ⟨some w3, o3, some (g3, b3)⟩ :: r) K ⟨fr, H⟩ := (Yk h0 (Yk h1 (Yk h2 (Yk h3 k))))
theorem mv2 (hx : St.ev ⟨fr, H⟩ x = some p) (hy : St.ev ⟨(t, p) :: fr, H⟩ y = some q) (k : run P dr r K ⟨(u, q) :: (t, p) :: fr, H⟩) : run P dr (⟨some t, .mov x, none⟩ :: ⟨some u, .mov y, none⟩ :: r) K ⟨fr, H⟩ := Qb hx (Qb hy k)
end
end Go.Abs
namespace Go.Proofs
open Go Go.Abs
set_option maxRecDepth 100000
abbrev oo (t : Nat) (op : AOp) : AOper := ⟨some t,op,none⟩
abbrev om (t x : Nat) : AOper := ⟨some t,.mov (.s x),none⟩
abbrev oL (t n x : Nat) : AOper := ⟨some t,.load true n (.s x),none⟩
abbrev ol (t n x : Nat) : AOper := ⟨some t,.load false n (.s x),none⟩
abbrev oA (t n x : Nat) : AOper := ⟨some t,.fieldAddr n (.s x),none⟩
abbrev oe (t n x : Nat) : AOper := ⟨some t,.extract n (.s x),none⟩
abbrev oT (t g : Nat) (op : AOp) : AOper := ⟨some t,op,some (g,true)⟩
abbrev oF (t g : Nat) (op : AOp) : AOper := ⟨some t,op,some (g,false)⟩
abbrev jf : Opd := .c (.bool false)
abbrev je : Opd := .c (.fsl [])
abbrev jv (t : Nat) (x : Opd) : AOper := ⟨some t,.mov x,none⟩
abbrev jw (t : Nat) (x : Int) : AOper := ⟨some t,.mov (.c (.int .i64 x)),none⟩
abbrev jp (t x y : Nat) : AOper := ⟨some t,.pick (.s x) (.s y) (.c (.bool false)),none⟩
abbrev jh (t x : Nat) : AOper := ⟨some t,.nilCheck (.s x),none⟩
abbrev jA (t g n x : Nat) : AOper := ⟨some t,.fieldAddr n (.s x),some (g,true)⟩
abbrev ja (t g n x : Nat) : AOper := ⟨some t,.fieldAddr n (.s x),some (g,false)⟩
abbrev jY (t g : Nat) (o : BinOp) (x : Nat) (y : Int) : AOper := ⟨some t,.bin o false (.s x) (.c (.int .i64 y)),some (g,true)⟩
abbrev jy (t g : Nat) (o : BinOp) (x : Nat) (y : Int) : AOper := ⟨some t,.bin o false (.s x) (.c (.int .i64 y)),some (g,false)⟩
abbrev jS (n a b : Nat) : AOper := ⟨none,.store n (.s a) (.s b),none⟩
abbrev jI (n : Int) : Opd := .c (.int .i64 n)
abbrev jn (t x : Nat) : AOper := ⟨some t,.len (.s x),none⟩
abbrev jB (t : Nat) (o : BinOp) (x y : Nat) : AOper := ⟨some t,.bin o false (.s x) (.s y),none⟩
abbrev jb (t : Nat) (o : BinOp) (x : Nat) (y : Int) : AOper := ⟨some t,.bin o false (.s x) (.c (.int .i64 y)),none⟩
abbrev jx (t e x y : Nat) : AOper := ⟨some t,.indexAddr e (.s x) (.s y),none⟩
abbrev jc (t f : Nat) (l : List Opd) : AOper := ⟨some t,.call f l,none⟩
abbrev jo (t e x : Nat) : AOper := ⟨some t,.box e (.s x),none⟩
abbrev jT (t g x : Nat) : AOper := ⟨some t,.mov (.s x),some (g,true)⟩
abbrev jF (t g x : Nat) : AOper := ⟨some t,.mov (.s x),some (g,false)⟩
abbrev jL (t g n x : Nat) : AOper := ⟨some t,.load true n (.s x),some (g,true)⟩
abbrev jl (t g n x : Nat) : AOper := ⟨some t,.load false n (.s x),some (g,true)⟩
abbrev jM (t g n x : Nat) : AOper := ⟨some t,.load true n (.s x),some (g,false)⟩
abbrev jm (t g n x : Nat) : AOper := ⟨some t,.load false n (.s x),some (g,false)⟩
abbrev jC (c : Nat) (a b : TCode) : TCode := .cond (.s c) a b
abbrev jr (l : List AOper) : TCode := .region false l
abbrev jR (l : List AOper) : TCode := .region true l
abbrev jq (a : TCode) (v : List Nat) (b : TCode) : TCode := .seq a v b
abbrev jk (n : Nat) (a : TCode) : TCode := .block n (.loop a)
def tf4 : TFn := ⟨65,[.tmp 4],jq (jr [jo 2 24 0,jv 4 jf]) [1,2,900000] (jq (jq (jr [oL 13 1 2,jc 14 5 [.s 13],oo 15 (.un .not (.s 14)),om 16 15,jM 17 16 1 2,oF 18 16 (.call 8 [.s 17,jI 301]),jy 19 16 .gtr 18 300,oo 20 (.pick (.s 16) (.c (.bool true)) (.s 19))]) [1,2,20,900000] (jC 20 (jq (jr [jc 21 6 [.s 900000],om 4 21]) [4] .ret) .skip)) [1,2,900000] (jq (jr [oL 23 1 2,om 24 1,jc 25 9 [.s 23,.s 24,.s 900000],om 22 25,oe 26 0 22,oe 27 1 22,om 5 26,om 6 27]) [1,2,5,6,900000] (jq (jr [oL 29 1 2,om 30 1,jc 31 10 [.s 29,.s 30],om 28 31,oe 32 0 28,oe 33 1 28,om 7 32,om 8 33]) [2,5,6,7,8,900000] (jq (jr [oL 35 1 2,jc 36 11 [.s 35,.s 900000],om 34 36,oe 37 0 34,oe 38 1 34,om 9 37,om 10 38]) [2,5,6,7,8,9,10,900000] (jq (jr [oL 40 1 2,jc 41 12 [.s 40],om 39 41,oe 42 0 39,oe 43 1 39,om 11 42,om 12 43]) [5,6,7,8,9,10,11,12,900000] (jq (jr [jc 44 6 [.s 900000],om 45 44,jT 46 45 5,jT 47 45 7,oT 48 45 (.call 13 [.s 46,.s 47]),jp 49 45 48,om 50 49,jT 51 50 6,jT 52 50 8,oT 53 50 (.bin .eql true (.s 51) (.s 52)),jp 54 50 53,om 55 54,jT 56 55 9,jT 57 55 11,oT 58 55 (.call 14 [.s 56,.s 57]),jp 59 55 58,om 60 59,jT 61 60 10,jT 62 60 12,oT 63 60 (.bin .eql true (.s 61) (.s 62)),jp 64 60 63,om 4 64]) [4] .ret))))))⟩
def tf5 : TFn := ⟨81,[.tmp 2],jq (jr [jo 1 24 0,jv 2 jf]) [1] (jq (jq (jr [oA 6 0 1,ol 7 1 6,jn 8 7,jb 9 .gtr 8 12]) [1,9] (jC 9 (jq (jr [jv 2 jf]) [2] .ret) .skip)) [1] (jq (jq (jr [jw 3 0]) [1,3] (jk 0 (jq (jq (jr [om 10 3,oA 11 0 1,ol 12 1 11,jn 13 12,jB 14 .lss 10 13]) [1,3,14] (jC 14 .skip (.exit 0))) [1,3] (jq (.block 1 (jq (jr [oA 17 0 1,ol 18 1 17,om 19 3,jx 20 3 18 19,oL 21 3 20,oo 4 (.alloc 39 [(.str []),(.str []),(.fsl [])]),jS 3 4 21]) [1,3,4] (jq (jq (jr [oA 22 0 4,ol 23 1 22,oo 24 (.lenStr (.s 23)),oA 25 1 4,ol 26 1 25,oo 27 (.lenStr (.s 26)),jB 28 .add 24 27,jb 29 .gtr 28 100,om 30 29,ja 31 30 2 4,jm 32 30 1 31,oF 33 30 (.len (.s 32)),jy 34 30 .gtr 33 20,oo 35 (.pick (.s 30) (.c (.bool true)) (.s 34))]) [1,3,4,35] (jC 35 (jq (jr [jv 2 jf]) [2] .ret) .skip)) [1,3,4] (jq (jr [jw 5 0]) [1,3,4,5] (jk 2 (jq (jq (jr [om 36 5,oA 37 2 4,ol 38 1 37,jn 39 38,jB 40 .lss 36 39]) [1,3,4,5,40] (jC 40 .skip (.exit 2))) [1,3,4,5] (jq (.block 3 (jq (jR [oA 43 2 4,ol 44 1 43,om 45 5,jx 46 8 44 45,oA 47 6 46,ol 48 1 47,jn 49 48,jb 50 .gtr 49 26,om 51 50,ja 52 51 2 4,jm 53 51 1 52,jF 54 51 5,oF 55 51 (.indexAddr 8 (.s 53) (.s 54)),ja 56 51 7 55,jm 57 51 1 56,oF 58 51 (.len (.s 57)),jy 59 51 .gtr 58 26,oo 60 (.pick (.s 51) (.c (.bool true)) (.s 59)),om 61 60,ja 62 61 2 4,jm 63 61 1 62,jF 64 61 5,oF 65 61 (.indexAddr 8 (.s 63) (.s 64)),ja 66 61 0 65,ja 67 61 3 66,jm 68 61 1 67,oF 69 61 (.lenStr (.s 68)),ja 70 61 2 4,jm 71 61 1 70,jF 72 61 5,oF 73 61 (.indexAddr 8 (.s 71) (.s 72)),ja 74 61 0 73,ja 75 61 4 74,jm 76 61 1 75,oF 77 61 (.lenStr (.s 76)),oF 78 61 (.bin .add false (.s 69) (.s 77)),jy 79 61 .gtr 78 100,oo 80 (.pick (.s 61) (.c (.bool true)) (.s 79))]) [1,3,4,5,80] (jC 80 (jq (jr [jv 2 jf]) [2] .ret) .skip))) [1,3,4,5] (jr [om 41 5,jb 42 .add 41 1,om 5 42])))))))) [1,3] (jr [om 15 3,jb 16 .add 15 1,om 3 16]))))) [] (jq (jr [oo 2 (.mov (.c (.bool true)))]) [2] .ret)))⟩
def tf6 : TFn := ⟨73,[.tmp 0],jq (jr [jv 0 jf]) [900000] (jq (jr [jc 7 15 [],oo 1 (.alloc 48 [(.fsl []),(.fsl [])]),jS 2 1 7]) [1,900000] (jq (jr [oL 8 2 1,oo 9 (.build [(.int .i64 0),(.fsl []),(.fsl [])] [(0,1,(jI 1)),(1,2,(.s 8))]),oo 10 (.buildSlice 3 51 [.s 9]),oo 11 (.buildSlice 1 43 [.s 10]),oo 12 (.build [(.int .i64 0),(.int .i64 0),(.int .i64 0),(.str []),(.str []),(.int .i64 0),(.fsl []),(.fsl [])] [(6,1,(.s 11))]),oo 13 (.buildSlice 8 45 [.s 12]),oo 14 (.build [(.str []),(.str []),(.fsl [])] [(2,1,(.s 13))]),oo 15 (.build [(.int .i64 0),(.int .i64 0),(.int .i64 0),(.str []),(.str [])] [(0,1,(jI 1))]),oo 16 (.build [(.int .i64 0),(.int .i64 0),(.int .i64 0),(.str []),(.str []),(.int .i64 0),(.fsl []),(.fsl [])] [(0,5,(.s 15))]),oo 17 (.build [(.int .i64 0),(.int .i64 0),(.int .i64 0),(.str []),(.str [])] [(0,1,(jI 2))]),oo 18 (.build [(.int .i64 0),(.int .i64 0),(.int .i64 0),(.str []),(.str []),(.int .i64 0),(.fsl []),(.fsl [])] [(0,5,(.s 17))]),oo 19 (.buildSlice 8 45 [.s 16,.s 18]),oo 20 (.build [(.str []),(.str []),(.fsl [])] [(0,1,(.c (.str [98]))),(2,1,(.s 19))]),oo 21 (.buildSlice 3 39 [.s 14,.s 20]),oo 22 (.build [(.fsl [])] [(0,1,(.s 21))]),oo 2 (.alloc 24 [(.fsl [])]),jS 1 2 22]) [2,900000] (jq (jr [oL 24 1 2,jc 25 9 [.s 24,jI 9,.s 900000],om 23 25,oe 26 0 23,oe 27 1 23,om 3 26,om 4 27]) [2,3,4,900000] (jq (jr [oL 29 1 2,jc 30 11 [.s 29,.s 900000],om 28 30,oe 31 0 28,oe 32 1 28,om 5 31,om 6 32]) [2,3,4,5,6,900000] (jq (jr [oL 33 1 2,jc 34 7 [.s 33,jI 100,.s 900000],jb 35 .eql 34 6,om 36 35,jT 37 36 4,jp 38 36 37,om 39 38,jT 40 39 3,oT 41 39 (.len (.s 40)),jY 42 39 .eql 41 2,jp 43 39 42,om 44 43,jT 45 44 3,oT 46 44 (.indexAddr 1 (.s 45) (jI 0)),jl 47 44 1 46,oT 48 44 (.len (.s 47)),jY 49 44 .eql 48 2,jp 50 44 49,om 51 50,jT 52 51 3,oT 53 51 (.indexAddr 1 (.s 52) (jI 0)),jl 54 51 1 53,oT 55 51 (.indexAddr 1 (.s 54) (jI 1)),jl 56 51 1 55,jY 57 51 .eql 56 0,jp 58 51 57,om 59 58,jT 60 59 6,jp 61 59 60,om 62 61,jT 63 62 5,oT 64 62 (.len (.s 63)),jY 65 62 .eql 64 2,jp 66 62 65,om 67 66,jT 68 67 5,oT 69 67 (.indexAddr 1 (.s 68) (jI 1)),jl 70 67 1 69,jY 71 67 .eql 70 1,jp 72 67 71,om 0 72]) [0] .ret)))))⟩
def tf7 : TFn := ⟨40,[.tmp 4],jq (jr [jo 2 24 0,jw 4 0]) [1,2,900000] (jq (jq (jr [om 9 1,jb 10 .leq 9 0,om 11 10,jM 12 11 1 2,oF 13 11 (.call 16 [.s 12,.s 900000]),oF 14 11 (.un .not (.s 13)),oo 15 (.pick (.s 11) (.c (.bool true)) (.s 14))]) [1,2,15] (jC 15 (jq (jr [jw 4 0]) [4] .ret) .skip)) [1,2] (jq (jr [jw 5 1]) [1,2,5] (jq (jq (jr [oA 16 0 2,ol 17 1 16,jn 18 17,jw 19 0]) [1,5,17,18,19] (jk 0 (jq (jr [jB 20 .lss 19 18]) [1,5,17,18,19,20] (jq (jC 20 .skip (.exit 0)) [1,5,17,18,19] (jq (.block 1 (jq (jr [jx 21 3 17 19,oL 22 3 21,oo 7 (.alloc 39 [(.str []),(.str []),(.fsl [])]),jS 3 7 22]) [1,5,7,17,18,19] (jq (jr [oA 23 2 7,ol 24 1 23,jn 25 24,jb 26 .add 25 1,om 8 26]) [1,5,8,17,18,19] (jq (jq (jr [om 27 5,om 28 1,om 29 8,jB 30 .quo 28 29,jB 31 .gtr 27 30]) [1,5,8,17,18,19,31] (jC 31 (jq (jr [om 32 1,om 4 32]) [4] .ret) .skip)) [1,5,8,17,18,19] (jr [om 33 5,om 34 8,jB 35 .mul 33 34,om 5 35]))))) [1,5,17,18,19] (jr [jb 36 .add 19 1,om 19 36])))))) [1,5] (jq (jr [om 37 5,om 38 1,oo 39 (.min (.s 37) (.s 38)),om 4 39]) [4] .ret))))⟩
def tf8 : TFn := ⟨40,[.tmp 4],jq (jr [jo 2 24 0,jw 4 0]) [1,2] (jq (jq (jr [oL 8 1 2,jc 9 17 [.s 8],oo 10 (.un .not (.s 9)),om 11 10,jF 12 11 1,jy 13 11 .lss 12 1,oo 14 (.pick (.s 11) (.c (.bool true)) (.s 13))]) [1,2,14] (jC 14 (jq (jr [jw 4 0]) [4] .ret) .skip)) [1,2] (jq (jr [jw 5 1]) [1,2,5] (jq (jq (jr [jw 6 0]) [1,2,5,6] (jk 0 (jq (jq (jr [om 15 6,oA 16 0 2,ol 17 1 16,jn 18 17,jB 19 .lss 15 18]) [1,2,5,6,19] (jC 19 .skip (.exit 0))) [1,2,5,6] (jq (.block 1 (jq (jr [oA 22 0 2,ol 23 1 22,om 24 6,jx 25 3 23 24,oA 26 2 25,ol 27 1 26,jn 28 27,oo 29 (.bin .add false (jI 1) (.s 28)),om 7 29]) [1,2,5,6,7] (jq (jq (jr [om 30 5,om 31 1,om 32 7,jB 33 .quo 31 32,jB 34 .gtr 30 33]) [1,2,5,6,7,34] (jC 34 (jq (jr [om 35 1,om 4 35]) [4] .ret) .skip)) [1,2,5,6,7] (jr [om 36 5,om 37 7,jB 38 .mul 36 37,om 5 38])))) [1,2,5,6] (jr [om 20 6,jb 21 .add 20 1,om 6 21]))))) [5] (jq (jr [om 39 5,om 4 39]) [4] .ret))))⟩
def tf9 : TFn := ⟨17,[.tmp 4,.tmp 5],jq (jr [jo 2 24 0,jo 3 3 1,jv 4 je,jv 5 jf]) [2,3,900000] (jq (jq (jr [oL 8 1 2,jc 9 16 [.s 8,.s 900000],oo 10 (.un .not (.s 9))]) [2,3,10,900000] (jC 10 (jq (jr [jv 4 je,oo 5 (.mov (.c (.bool true)))]) [4,5] .ret) .skip)) [2,3,900000] (jq (jr [oo 6 (.alloc 29 [(.fsl [])])]) [2,3,6,900000] (jq (jr [oL 11 1 2,oo 12 (.mkfn 19 [.s 6,.s 3]),jc 13 18 [.s 11,jf,.s 12,.s 900000],jc 14 20 [.s 13,jI 0],om 7 14]) [6,7] (jq (jr [ol 15 1 6,om 16 7,om 4 15,om 5 16]) [4,5] .ret))))⟩
def tf10 : TFn := ⟨53,[.tmp 4,.tmp 5],jq (jr [jo 2 24 0,jv 4 je,jv 5 jf]) [1,2] (jq (jr [jv 6 je]) [1,2,6] (jq (jq (jr [oL 10 1 2,jc 11 17 [.s 10],oo 12 (.un .not (.s 11))]) [1,2,6,12] (jC 12 (jq (jr [jv 4 je,oo 5 (.mov (.c (.bool true)))]) [4,5] .ret) .skip)) [1,2,6] (jq (jr [oL 13 1 2,jc 14 21 [.s 13],oo 7 (.alloc 59 [(.fsl []),(.fsl []),(.fsl [])]),jS 3 7 14]) [1,2,6,7] (jq (jr [oA 15 0 2,ol 16 1 15,jn 17 16,oo 18 (.makeSlice 1 3 8 [(.int .i64 0)] (.s 17) (.s 17)),om 8 18]) [1,2,6,7,8] (jq (jq (jr [jw 9 0]) [1,2,6,7,8,9] (jk 0 (jq (jq (jr [om 19 9,om 20 8,jn 21 20,jB 22 .lss 19 21]) [1,2,6,7,8,9,22] (jC 22 .skip (.exit 0))) [1,2,6,7,8,9] (jq (.block 1 (jr [om 25 8,om 26 9,jx 27 1 25 26,⟨none,.store 1 (.s 27) (.c (.int .i64 (-1))),none⟩])) [1,2,6,7,8,9] (jr [om 23 9,jb 24 .add 23 1,om 9 24]))))) [1,2,6,7,8] (jk 2 (.block 3 (jq (jq (jr [oL 28 3 7,om 29 8,jc 30 22 [.s 28,.s 29],om 31 30,jL 32 31 1 2,jT 33 31 8,oT 34 31 (.call 23 [.s 32,.s 33]),jT 35 31 8,oT 36 31 (.call 14 [.s 34,.s 35]),jp 37 31 36]) [1,2,6,7,8,37] (jC 37 (jq (jq (jr [om 38 6,jn 39 38,om 40 1,jB 41 .geq 39 40]) [1,2,6,7,8,41] (jC 41 (jq (jr [om 42 6,om 4 42,jv 5 jf]) [4,5] .ret) .skip)) [1,2,6,7,8] (jr [om 43 6,om 44 8,oo 45 (.append 1 3 8 je (.s 44)),oo 46 (.buildSlice 1 32 [.s 45]),oo 47 (.append 1 32 24 (.s 43) (.s 46)),om 6 47])) .skip)) [1,2,6,7,8] (jq (jr [oL 48 1 2,om 49 8,jc 50 24 [.s 48,.s 49],oo 51 (.un .not (.s 50))]) [1,2,6,7,8,51] (jC 51 (jq (jr [om 52 6,om 4 52,oo 5 (.mov (.c (.bool true)))]) [4,5] .ret) .skip))))))))))⟩
def tf11 : TFn := ⟨16,[.tmp 2,.tmp 3],jq (jr [jo 1 24 0,jv 2 je,jv 3 jf]) [1,900000] (jq (jq (jr [oL 6 1 1,jc 7 16 [.s 6,.s 900000],oo 8 (.un .not (.s 7))]) [1,8,900000] (jC 8 (jq (jr [jv 2 je,jv 3 jf]) [2,3] .ret) .skip)) [1,900000] (jq (jr [oo 4 (.alloc 32 [(.fsl [])])]) [1,4,900000] (jq (jr [oL 9 1 1,oo 10 (.mkfn 25 [.s 4]),jc 11 18 [.s 9,(.c (.bool true)),.s 10,.s 900000],jc 12 20 [.s 11,jI 0],om 5 12]) [4,5] (jq (jr [ol 13 1 4,om 14 5,oo 15 (.un .not (.s 14)),om 2 13,om 3 15]) [2,3] .ret))))⟩
def tf12 : TFn := ⟨20,[.tmp 2,.tmp 3],jq (jr [jo 1 24 0,jv 2 je,jv 3 jf]) [1] (jq (jr [oL 7 1 1,jc 8 10 [.s 7,jI 1073741824],om 6 8,oe 9 0 6,oe 10 1 6,om 4 9,om 5 10]) [4] (jq (jq (jr [om 11 4,jn 12 11,jb 13 .eql 12 0]) [4,13] (jC 13 (jq (jr [jv 2 je,jv 3 jf]) [2,3] .ret) .skip)) [4] (jq (jr [om 14 4,om 15 4,jn 16 15,jb 17 .sub 16 1,jx 18 1 14 17,ol 19 1 18,om 2 19,oo 3 (.mov (.c (.bool true)))]) [2,3] .ret)))⟩
def tf13 : TFn := ⟨27,[.tmp 4],jq (jr [jv 4 jf]) [0,1] (jq (jq (jr [om 6 0,jn 7 6,om 8 1,jn 9 8,jB 10 .neq 7 9]) [0,1,10] (jC 10 (jq (jr [jv 4 jf]) [4] .ret) .skip)) [0,1] (jq (jq (jr [jw 5 0]) [0,1,5] (jk 0 (jq (jq (jr [om 11 5,om 12 0,jn 13 12,jB 14 .lss 11 13]) [0,1,5,14] (jC 14 .skip (.exit 0))) [0,1,5] (jq (.block 1 (jq (jR [om 17 0,om 18 5,jx 19 1 17 18,ol 20 1 19,om 21 1,om 22 5,jx 23 1 21 22,ol 24 1 23,jc 25 14 [.s 20,.s 24],oo 26 (.un .not (.s 25))]) [0,1,5,26] (jC 26 (jq (jr [jv 4 jf]) [4] .ret) .skip))) [0,1,5] (jr [om 15 5,jb 16 .add 15 1,om 5 16]))))) [] (jq (jr [oo 4 (.mov (.c (.bool true)))]) [4] .ret)))⟩
def tf14 : TFn := ⟨26,[.tmp 4],jq (jr [jv 4 jf]) [0,1] (jq (jq (jr [om 6 0,jn 7 6,om 8 1,jn 9 8,jB 10 .neq 7 9]) [0,1,10] (jC 10 (jq (jr [jv 4 jf]) [4] .ret) .skip)) [0,1] (jq (jq (jr [jw 5 0]) [0,1,5] (jk 0 (jq (jq (jr [om 11 5,om 12 0,jn 13 12,jB 14 .lss 11 13]) [0,1,5,14] (jC 14 .skip (.exit 0))) [0,1,5] (jq (.block 1 (jq (jR [om 17 0,om 18 5,jx 19 1 17 18,ol 20 1 19,om 21 1,om 22 5,jx 23 1 21 22,ol 24 1 23,jB 25 .neq 20 24]) [0,1,5,25] (jC 25 (jq (jr [jv 4 jf]) [4] .ret) .skip))) [0,1,5] (jr [om 15 5,jb 16 .add 15 1,om 5 16]))))) [] (jq (jr [oo 4 (.mov (.c (.bool true)))]) [4] .ret)))⟩
def tf15 : TFn := ⟨4,[.cell 0 true 2],jq (jr [oo 0 (.alloc 48 [(.fsl []),(.fsl [])])]) [0] (jq (jr [jc 1 26 [],jc 2 26 [],oo 3 (.build [(.fsl []),(.fsl [])] [(0,1,(.s 1)),(1,1,(.s 2))]),jS 2 0 3]) [0] .ret)⟩
def tf16 : TFn := ⟨128,[.tmp 2],jq (jr [jo 1 24 0,jv 2 jf]) [1,900000] (jq (jr [oA 8 0 1,ol 9 1 8,jn 10 9,om 3 10]) [1,3,900000] (jq (jq (jr [om 11 3,jb 12 .lss 11 1,om 13 12,jF 14 13 3,jy 15 13 .gtr 14 48,oo 16 (.pick (.s 13) (.c (.bool true)) (.s 15)),om 17 16,ja 18 17 0 1,jm 19 17 1 18,oF 20 17 (.indexAddr 3 (.s 19) (jI 0)),ja 21 17 0 20,jm 22 17 1 21,oF 23 17 (.bin .neq false (.s 22) (.c (.str []))),oo 24 (.pick (.s 17) (.c (.bool true)) (.s 23)),om 25 24,ja 26 25 0 1,jm 27 25 1 26,oF 28 25 (.indexAddr 3 (.s 27) (jI 0)),ja 29 25 1 28,jm 30 25 1 29,oF 31 25 (.bin .neq false (.s 30) (.c (.str []))),oo 32 (.pick (.s 25) (.c (.bool true)) (.s 31)),om 33 32,ja 34 33 0 1,jm 35 33 1 34,oF 36 33 (.indexAddr 3 (.s 35) (jI 0)),ja 37 33 2 36,jm 38 33 1 37,oF 39 33 (.len (.s 38)),jy 40 33 .neq 39 1,oo 41 (.pick (.s 33) (.c (.bool true)) (.s 40))]) [1,3,41,900000] (jC 41 (jq (jr [jv 2 jf]) [2] .ret) .skip)) [1,3,900000] (jq (jq (jr [oA 42 0 1,ol 43 1 42,jn 44 43,jw 45 0]) [1,3,43,44,45,900000] (jk 0 (jq (jr [jB 46 .lss 45 44]) [1,3,43,44,45,46,900000] (jq (jC 46 .skip (.exit 0)) [1,3,43,44,45,900000] (jq (.block 1 (jq (jr [om 47 45,jx 48 3 43 45,oL 49 3 48,oo 5 (.alloc 39 [(.str []),(.str []),(.fsl [])]),om 4 47,jS 3 5 49]) [1,3,4,5,43,44,45,900000] (jq (jq (jR [om 50 4,jb 51 .gtr 50 0,om 52 51,jA 53 52 0 5,jl 54 52 1 53,oT 55 52 (.bin .eql false (.s 54) (.c (.str []))),jp 56 52 55,om 57 56,jF 58 57 4,jy 59 57 .gtr 58 1,jF 60 57 59,jA 61 60 0 1,jl 62 60 1 61,jT 63 60 4,jY 64 60 .sub 63 1,oT 65 60 (.indexAddr 3 (.s 62) (.s 64)),jA 66 60 0 65,jl 67 60 1 66,jA 68 60 0 1,jl 69 60 1 68,jT 70 60 4,jY 71 60 .sub 70 1,oT 72 60 (.indexAddr 3 (.s 69) (.s 71)),jA 73 60 1 72,jl 74 60 1 73,oT 75 60 (.build [(.str []),(.str [])] [(0,1,(.s 67)),(1,1,(.s 74))]),jA 76 60 0 5,jl 77 60 1 76,jA 78 60 1 5,jl 79 60 1 78,oT 80 60 (.build [(.str []),(.str [])] [(0,1,(.s 77)),(1,1,(.s 79))]),oT 81 60 (.call 27 [.s 75,.s 80]),jY 82 60 .geq 81 0,oF 83 57 (.pick (.s 60) (.s 82) jf),oo 84 (.pick (.s 57) (.c (.bool true)) (.s 83)),om 85 84,ja 86 85 2 5,jm 87 85 1 86,oF 88 85 (.len (.s 87)),jy 89 85 .gtr 88 16,oo 90 (.pick (.s 85) (.c (.bool true)) (.s 89))]) [1,3,5,43,44,45,90,900000] (jC 90 (jq (jr [jv 2 jf]) [2] .ret) .skip)) [1,3,5,43,44,45,900000] (jq (jr [oA 91 2 5,ol 92 1 91,jn 93 92,jw 94 0]) [1,3,5,43,44,45,92,93,94,900000] (jk 2 (jq (jr [jB 95 .lss 94 93]) [1,3,5,43,44,45,92,93,94,95,900000] (jq (jC 95 .skip (.exit 2)) [1,3,5,43,44,45,92,93,94,900000] (jq (.block 3 (jq (jr [om 96 94,jx 97 8 92 94,oL 98 8 97,oo 7 (.alloc 45 [(.int .i64 0),(.int .i64 0),(.int .i64 0),(.str []),(.str []),(.int .i64 0),(.fsl []),(.fsl [])]),om 6 96,jS 8 7 98]) [1,3,5,6,7,43,44,45,92,93,94,900000] (jq (jR [oA 99 0 7,oL 100 5 99,jc 101 28 [.s 100],oo 102 (.un .not (.s 101)),om 103 102,jF 104 103 6,jy 105 103 .gtr 104 0,jF 106 103 105,jA 107 106 2 5,jl 108 106 1 107,jT 109 106 6,jY 110 106 .sub 109 1,oT 111 106 (.indexAddr 8 (.s 108) (.s 110)),jA 112 106 0 111,jL 113 106 5 112,jA 114 106 0 7,jL 115 106 5 114,oT 116 106 (.call 29 [.s 113,.s 115]),jY 117 106 .geq 116 0,oF 118 103 (.pick (.s 106) (.s 117) jf),oo 119 (.pick (.s 103) (.c (.bool true)) (.s 118)),om 120 119,jM 121 120 8 7,jF 122 120 3,oF 123 120 (.call 30 [.s 121,.s 122,.s 900000]),oF 124 120 (.un .not (.s 123)),oo 125 (.pick (.s 120) (.c (.bool true)) (.s 124))]) [1,3,5,43,44,45,92,93,94,125,900000] (jC 125 (jq (jr [jv 2 jf]) [2] .ret) .skip)))) [1,3,5,43,44,45,92,93,94,900000] (jr [jb 126 .add 94 1,om 94 126]))))))))) [1,3,43,44,45,900000] (jr [jb 127 .add 45 1,om 45 127])))))) [] (jq (jr [oo 2 (.mov (.c (.bool true)))]) [2] .ret))))⟩
def tf17 : TFn := ⟨25,[.tmp 2],jq (jr [jo 1 24 0,jv 2 jf]) [1] (jq (jq (jr [oA 4 0 1,ol 5 1 4,jn 6 5,jb 7 .lss 6 1,om 8 7,ja 9 8 0 1,jm 10 8 1 9,oF 11 8 (.len (.s 10)),jy 12 8 .gtr 11 48,oo 13 (.pick (.s 8) (.c (.bool true)) (.s 12))]) [1,13] (jC 13 (jq (jr [jv 2 jf]) [2] .ret) .skip)) [1] (jq (jq (jr [jw 3 0]) [1,3] (jk 0 (jq (jq (jr [om 14 3,oA 15 0 1,ol 16 1 15,jn 17 16,jB 18 .lss 14 17]) [1,3,18] (jC 18 .skip (.exit 0))) [1,3] (jq (.block 1 (jq (jr [oL 21 1 1,om 22 3,jc 23 31 [.s 21,.s 22],oo 24 (.un .not (.s 23))]) [1,3,24] (jC 24 (jq (jr [jv 2 jf]) [2] .ret) .skip))) [1,3] (jr [om 19 3,jb 20 .add 19 1,om 3 20]))))) [] (jq (jr [oo 2 (.mov (.c (.bool true)))]) [2] .ret)))⟩
def tf18 : TFn := ⟨103,[.tmp 6],jq (jr [jo 3 24 0,oo 6 (.mov (.c (.val (.pointer none))))]) [1,2,3,900000] (jq (jr [om 21 1,om 22 2,oA 23 0 3,ol 24 1 23,jn 25 24,oo 26 (.makeSlice 1 3 8 [(.int .i64 0)] (.s 25) (.s 25)),oo 27 (.build [(.fsl []),(.fsl []),(.bool false),(.val .nilFunc)] [(2,1,(.s 21)),(3,1,(.s 22)),(1,1,(.s 26))]),jo 28 73 27,om 7 28]) [3,7,900000] (jq (jq (jr [oA 29 0 3,ol 30 1 29,jn 31 30,jw 32 0]) [3,7,30,31,32,900000] (jk 0 (jq (jr [jB 33 .lss 32 31]) [3,7,30,31,32,33,900000] (jq (jC 33 .skip (.exit 0)) [3,7,30,31,32,900000] (jq (.block 1 (jq (jr [jx 34 3 30 32,oL 35 3 34,oo 9 (.alloc 39 [(.str []),(.str []),(.fsl [])]),jS 3 9 35]) [3,7,9,30,31,32,900000] (jq (jr [jv 10 je]) [3,7,9,10,30,31,32,900000] (jq (jq (jr [oA 36 2 9,ol 37 1 36,jn 38 37,jw 39 0]) [3,7,10,30,31,32,37,38,39,900000] (jk 2 (jq (jr [jB 40 .lss 39 38]) [3,7,10,30,31,32,37,38,39,40,900000] (jq (jC 40 .skip (.exit 2)) [3,7,10,30,31,32,37,38,39,900000] (jq (.block 3 (jq (jr [jx 41 8 37 39,oL 42 8 41,oo 12 (.alloc 45 [(.int .i64 0),(.int .i64 0),(.int .i64 0),(.str []),(.str []),(.int .i64 0),(.fsl []),(.fsl [])]),jS 8 12 42]) [3,7,10,12,30,31,32,37,38,39,900000] (jq (jr [oo 13 (.alloc 78 [(.fsl []),(.fsl [])])]) [3,7,10,12,13,30,31,32,37,38,39,900000] (jq (jq (jr [oA 43 6 12,ol 44 1 43,jn 45 44,jw 46 0]) [3,7,10,12,13,30,31,32,37,38,39,44,45,46,900000] (jk 4 (jq (jr [jB 47 .lss 46 45]) [3,7,10,12,13,30,31,32,37,38,39,44,45,46,47,900000] (jq (jC 47 .skip (.exit 4)) [3,7,10,12,13,30,31,32,37,38,39,44,45,46,900000] (jq (.block 5 (jq (jr [jx 48 1 44 46,ol 49 1 48,om 15 49]) [3,7,10,12,13,15,30,31,32,37,38,39,44,45,46,900000] (jq (jr [jv 16 je]) [3,7,10,12,13,15,16,30,31,32,37,38,39,44,45,46,900000] (jq (jq (jr [om 50 15,jn 51 50,jw 52 0]) [3,7,10,12,13,16,30,31,32,37,38,39,44,45,46,50,51,52,900000] (jk 6 (jq (jr [jB 53 .lss 52 51]) [3,7,10,12,13,16,30,31,32,37,38,39,44,45,46,50,51,52,53,900000] (jq (jC 53 .skip (.exit 6)) [3,7,10,12,13,16,30,31,32,37,38,39,44,45,46,50,51,52,900000] (jq (.block 7 (jq (jr [jx 54 3 50 52,oL 55 3 54,oo 18 (.alloc 51 [(.int .i64 0),(.fsl []),(.fsl [])]),jS 3 18 55]) [3,7,10,12,13,16,18,30,31,32,37,38,39,44,45,46,50,51,52,900000] (jr [om 56 16,oL 57 1 3,oL 58 3 18,jc 59 32 [.s 57,.s 58,.s 900000],oo 60 (.buildSlice 2 81 [.s 59]),oo 61 (.append 2 81 32 (.s 56) (.s 60)),om 16 61]))) [3,7,10,12,13,16,30,31,32,37,38,39,44,45,46,50,51,52,900000] (jr [jb 62 .add 52 1,om 52 62])))))) [3,7,10,12,13,16,30,31,32,37,38,39,44,45,46,900000] (jr [oA 63 0 13,ol 64 1 63,om 65 16,oo 66 (.buildSlice 1 76 [.s 65]),oo 67 (.append 1 76 24 (.s 64) (.s 66)),oA 68 0 13,jS 1 68 67]))))) [3,7,10,12,13,30,31,32,37,38,39,44,45,46,900000] (jr [jb 69 .add 46 1,om 46 69])))))) [3,7,10,12,13,30,31,32,37,38,39,900000] (jq (jq (jr [oA 70 7 12,ol 71 1 70,jn 72 71,jw 73 0]) [3,7,10,13,30,31,32,37,38,39,71,72,73,900000] (jk 8 (jq (jr [jB 74 .lss 73 72]) [3,7,10,13,30,31,32,37,38,39,71,72,73,74,900000] (jq (jC 74 .skip (.exit 8)) [3,7,10,13,30,31,32,37,38,39,71,72,73,900000] (jq (.block 9 (jq (jr [jx 75 3 71 73,oL 76 3 75,oo 20 (.alloc 51 [(.int .i64 0),(.fsl []),(.fsl [])]),jS 3 20 76]) [3,7,10,13,20,30,31,32,37,38,39,71,72,73,900000] (jR [oA 77 1 13,ol 78 1 77,oL 79 1 3,oL 80 3 20,jc 81 32 [.s 79,.s 80,.s 900000],oo 82 (.buildSlice 2 81 [.s 81]),oo 83 (.append 2 81 32 (.s 78) (.s 82)),oA 84 1 13,jS 1 84 83]))) [3,7,10,13,30,31,32,37,38,39,71,72,73,900000] (jr [jb 85 .add 73 1,om 73 85])))))) [3,7,10,13,30,31,32,37,38,39,900000] (jr [om 86 10,oL 87 2 13,oo 88 (.buildSlice 2 78 [.s 87]),oo 89 (.append 2 78 48 (.s 86) (.s 88)),om 10 89])))))) [3,7,10,30,31,32,37,38,39,900000] (jr [jb 90 .add 39 1,om 39 90])))))) [3,7,10,30,31,32,900000] (jr [om 91 7,om 92 7,jh 93 92,oA 94 0 93,ol 95 1 94,om 96 10,oo 97 (.buildSlice 1 74 [.s 96]),oo 98 (.append 1 74 24 (.s 95) (.s 97)),jh 99 91,oA 100 0 99,jS 1 100 98]))))) [3,7,30,31,32,900000] (jr [jb 101 .add 32 1,om 32 101])))))) [7] (jq (jr [om 102 7,om 6 102]) [6] .ret)))⟩
def tf19 : TFn := ⟨13,[.tmp 4],jq (jr [jv 4 jf]) [0,1,2] (jq (jq (jr [ol 5 1 1,jn 6 5,ol 7 1 2,jB 8 .geq 6 7]) [0,1,8] (jC 8 (jq (jr [jv 4 jf]) [4] .ret) .skip)) [0,1] (jq (jr [ol 9 1 1,om 10 0,oo 11 (.buildSlice 1 32 [.s 10]),oo 12 (.append 1 32 24 (.s 9) (.s 11)),jS 1 1 12]) [] (jq (jr [oo 4 (.mov (.c (.bool true)))]) [4] .ret)))⟩
def tf20 : TFn := ⟨107,[.tmp 4],jq (jr [jv 4 jf]) [0,1] (jq (jq (jr [om 7 1,om 8 0,jh 9 8,oA 10 1 9,ol 11 1 10,jn 12 11,jB 13 .eql 7 12]) [0,1,13] (jC 13 (jq (jR [om 14 0,jc 15 33 [.s 14],oo 16 (.un .not (.s 15)),om 17 16,jF 18 17 0,oF 19 17 (.nilCheck (.s 18)),ja 20 17 3 19,jm 21 17 1 20,jF 22 17 0,oF 23 17 (.nilCheck (.s 22)),ja 24 17 1 23,jm 25 17 1 24,oF 26 17 (.call 34 [.s 25]),oF 27 17 (.callV (.s 21) [.s 26]),oo 28 (.pick (.s 17) (.c (.bool true)) (.s 27)),om 4 28]) [4] .ret) .skip)) [0,1] (jq (jr [om 29 0,jh 30 29,oA 31 0 30,ol 32 1 31,om 33 1,jx 34 1 32 33,ol 35 1 34,jn 36 35,om 5 36]) [0,1,5] (jq (jq (jr [om 37 5,jb 38 .add 37 1,jw 39 0]) [0,1,5,38,39] (jk 0 (jq (jr [jB 40 .lss 39 38]) [0,1,5,38,39,40] (jq (jC 40 .skip (.exit 0)) [0,1,5,38,39] (jq (.block 1 (jq (jr [om 41 39,om 6 41]) [0,1,5,6,38,39] (jq (jr [om 42 0,jh 43 42,oA 44 1 43,ol 45 1 44,om 46 1,om 47 6,jb 48 .sub 47 1,jx 49 1 45 46,jS 1 49 48]) [0,1,5,6,38,39] (jq (jq (jr [om 50 0,jh 51 50,oA 52 2 51,ol 53 1 52]) [0,1,5,6,38,39,53] (jC 53 (jr [om 54 0,jh 55 54,oA 56 1 55,ol 57 1 56,om 58 1,om 59 5,jb 60 .sub 59 1,om 61 6,jB 62 .sub 60 61,jx 63 1 57 58,jS 1 63 62]) .skip)) [0,1,5,38,39] (jq (jq (jr [om 64 1,jb 65 .eql 64 0,om 66 65,jT 67 66 0,oT 68 66 (.nilCheck (.s 67)),jA 69 66 1 68,jl 70 66 1 69,oT 71 66 (.indexAddr 1 (.s 70) (jI 0)),jl 72 66 1 71,jY 73 66 .lss 72 0,jp 74 66 73,om 75 74,jF 76 75 0,jF 77 75 1,oF 78 75 (.call 35 [.s 76,.s 77]),oF 79 75 (.un .not (.s 78)),oo 80 (.pick (.s 75) (.c (.bool true)) (.s 79)),om 81 80,jF 82 81 1,jy 83 81 .gtr 82 0,jF 84 81 83,jT 85 84 0,oT 86 84 (.nilCheck (.s 85)),jA 87 84 1 86,jl 88 84 1 87,jT 89 84 1,oT 90 84 (.indexAddr 1 (.s 88) (.s 89)),jl 91 84 1 90,jY 92 84 .geq 91 0,oF 93 81 (.pick (.s 84) (.s 92) jf),jF 94 81 93,jT 95 94 0,jT 96 94 1,oT 97 94 (.call 36 [.s 95,.s 96]),oT 98 94 (.un .not (.s 97)),oF 99 81 (.pick (.s 94) (.s 98) jf),oo 100 (.pick (.s 81) (.c (.bool true)) (.s 99))]) [0,1,5,38,39,100] (jC 100 (.exit 1) .skip)) [0,1,5,38,39] (jq (jr [om 101 0,om 102 1,jb 103 .add 102 1,jc 104 20 [.s 101,.s 103],oo 105 (.un .not (.s 104))]) [0,1,5,38,39,105] (jC 105 (jq (jr [jv 4 jf]) [4] .ret) .skip))))))) [0,1,5,38,39] (jr [jb 106 .add 39 1,om 39 106])))))) [] (jq (jr [oo 4 (.mov (.c (.bool true)))]) [4] .ret))))⟩
def tf21 : TFn := ⟨87,[.cell 2 true 3],jq (jr [jo 1 24 0,oo 2 (.alloc 59 [(.fsl []),(.fsl []),(.fsl [])])]) [1,2] (jq (jr [oo 3 (.alloc 59 [(.fsl []),(.fsl []),(.fsl [])])]) [1,2,3] (jq (jq (jr [jw 4 0]) [1,2,3,4] (jk 0 (jq (jq (jr [om 11 4,oA 12 0 1,ol 13 1 12,jn 14 13,jB 15 .lss 11 14]) [1,2,3,4,15] (jC 15 .skip (.exit 0))) [1,2,3,4] (jq (.block 1 (jq (jr [jv 5 je]) [1,2,3,4,5] (jq (jr [jv 6 je]) [1,2,3,4,5,6] (jq (jq (jr [jw 7 0]) [1,2,3,4,5,6,7] (jk 2 (jq (jq (jr [om 18 7,oA 19 0 1,ol 20 1 19,om 21 4,jx 22 3 20 21,oA 23 2 22,ol 24 1 23,jn 25 24,jB 26 .lss 18 25]) [1,2,3,4,5,6,7,26] (jC 26 .skip (.exit 2))) [1,2,3,4,5,6,7] (jq (.block 3 (jq (jr [oA 29 0 1,ol 30 1 29,om 31 4,jx 32 3 30 31,oA 33 2 32,ol 34 1 33,om 35 7,jx 36 8 34 35,oL 37 8 36,oo 8 (.alloc 45 [(.int .i64 0),(.int .i64 0),(.int .i64 0),(.str []),(.str []),(.int .i64 0),(.fsl []),(.fsl [])]),jS 8 8 37]) [1,2,3,4,5,6,7,8] (jq (jr [jv 9 je]) [1,2,3,4,5,6,7,8,9] (jq (jq (jr [jw 10 0]) [1,2,3,4,5,6,7,8,9,10] (jk 4 (jq (jq (jr [om 38 10,oA 39 6 8,ol 40 1 39,jn 41 40,jB 42 .lss 38 41]) [1,2,3,4,5,6,7,8,9,10,42] (jC 42 .skip (.exit 4))) [1,2,3,4,5,6,7,8,9,10] (jq (.block 5 (jR [om 45 9,oL 46 1 1,oA 47 6 8,ol 48 1 47,om 49 10,jx 50 1 48 49,ol 51 1 50,jc 52 37 [.s 46,.s 51],oo 53 (.buildSlice 1 85 [.s 52]),oo 54 (.append 1 85 24 (.s 45) (.s 53)),om 9 54])) [1,2,3,4,5,6,7,8,9,10] (jr [om 43 10,jb 44 .add 43 1,om 10 44]))))) [1,2,3,4,5,6,7,8,9] (jR [om 55 5,om 56 9,oo 57 (.buildSlice 1 84 [.s 56]),oo 58 (.append 1 84 24 (.s 55) (.s 57)),om 59 6,oL 60 1 1,oA 61 7 8,ol 62 1 61,jc 63 37 [.s 60,.s 62],oo 64 (.buildSlice 1 85 [.s 63]),oo 65 (.append 1 85 24 (.s 59) (.s 64)),om 5 58,om 6 65]))))) [1,2,3,4,5,6,7] (jr [om 27 7,jb 28 .add 27 1,om 7 28]))))) [1,2,3,4,5,6] (jR [oA 66 0 3,ol 67 1 66,oL 68 1 1,om 69 4,jc 70 38 [.s 68,.s 69],oo 71 (.buildSlice 1 3 [.s 70]),oo 72 (.append 1 3 8 (.s 67) (.s 71)),oA 73 1 3,ol 74 1 73,om 75 5,oo 76 (.buildSlice 1 57 [.s 75]),oo 77 (.append 1 57 24 (.s 74) (.s 76)),oA 78 2 3,ol 79 1 78,om 80 6,oo 81 (.buildSlice 1 84 [.s 80]),oo 82 (.append 1 84 24 (.s 79) (.s 81)),oA 83 0 3,jS 1 83 72,oA 84 1 3,jS 1 84 77,oA 85 2 3,jS 1 85 82]))))) [1,2,3,4] (jr [om 16 4,jb 17 .add 16 1,om 4 17]))))) [2,3] (jq (jr [oL 86 3 3,jS 3 2 86]) [2] .ret)))⟩
def tf22 : TFn := ⟨62,[.tmp 4],jq (jr [jo 2 59 0,jv 4 jf]) [1,2] (jq (jq (jr [om 9 1,oo 10 (.indexAddr 1 (.s 9) (jI 0)),ol 11 1 10,jb 12 .lss 11 0]) [1,2,12] (jC 12 (jq (jr [jv 4 jf]) [4] .ret) .skip)) [1,2] (jq (jq (jr [jw 5 0]) [1,2,5] (jk 0 (jq (jq (jr [om 13 5,om 14 1,jn 15 14,jB 16 .lss 13 15]) [1,2,5,16] (jC 16 .skip (.exit 0))) [1,2,5] (jq (.block 1 (jq (jq (jr [om 19 1,om 20 5,jx 21 1 19 20,ol 22 1 21,jb 23 .lss 22 0]) [1,2,5,23] (jC 23 (.exit 1) .skip)) [1,2,5] (jq (jR [oA 24 1 2,ol 25 1 24,om 26 5,jx 27 1 25 26,ol 28 1 27,om 29 1,om 30 5,jx 31 1 29 30,ol 32 1 31,jx 33 1 28 32,ol 34 1 33,oA 35 2 2,ol 36 1 35,om 37 5,jx 38 1 36 37,ol 39 1 38,om 40 1,om 41 5,jx 42 1 40 41,ol 43 1 42,jx 44 1 39 43,ol 45 1 44,om 6 34,om 7 45]) [1,2,5,6,7] (jq (jq (jr [jw 8 0]) [1,2,5,6,7,8] (jk 2 (jq (jq (jr [om 46 8,om 47 6,jn 48 47,jB 49 .lss 46 48]) [1,2,5,6,7,8,49] (jC 49 .skip (.exit 2))) [1,2,5,6,7,8] (jq (.block 3 (jq (jr [om 52 1,om 53 6,om 54 8,jx 55 1 53 54,ol 56 1 55,jc 57 39 [.s 52,.s 56],oo 58 (.un .not (.s 57))]) [1,2,5,6,7,8,58] (jC 58 (jq (jr [jv 4 jf]) [4] .ret) .skip))) [1,2,5,6,7,8] (jr [om 50 8,jb 51 .add 50 1,om 8 51]))))) [1,2,5,7] (jq (jr [om 59 1,om 60 7,jc 61 39 [.s 59,.s 60]]) [1,2,5,61] (jC 61 (jq (jr [jv 4 jf]) [4] .ret) .skip)))))) [1,2,5] (jr [om 17 5,jb 18 .add 17 1,om 5 18]))))) [] (jq (jr [oo 4 (.mov (.c (.bool true)))]) [4] .ret)))⟩
def tf23 : TFn := ⟨32,[.tmp 4],jq (jr [jo 2 24 0,jv 4 je]) [1,2] (jq (jr [jv 5 je]) [1,2,5] (jq (jr [oL 9 1 2,om 10 1,jc 11 40 [.s 9,.s 10],om 6 11]) [1,5,6] (jq (jq (jr [jw 7 0]) [1,5,6,7] (jk 0 (jq (jq (jr [om 12 7,om 13 6,jn 14 13,jB 15 .lss 12 14]) [1,5,6,7,15] (jC 15 .skip (.exit 0))) [1,5,6,7] (jq (.block 1 (jq (jr [om 18 1,om 19 7,jx 20 1 18 19,ol 21 1 20,om 8 21]) [1,5,6,7,8] (jq (jq (jr [om 22 6,om 23 7,jx 24 1 22 23,ol 25 1 24,oo 26 (.un .not (.s 25))]) [1,5,6,7,8,26] (jC 26 (jr [oo 8 (.mov (.c (.int .i64 (-1))))]) .skip)) [1,5,6,7,8] (jr [om 27 5,om 28 8,oo 29 (.buildSlice 1 3 [.s 28]),oo 30 (.append 1 3 8 (.s 27) (.s 29)),om 5 30])))) [1,5,6,7] (jr [om 16 7,jb 17 .add 16 1,om 7 17]))))) [5] (jq (jr [om 31 5,om 4 31]) [4] .ret))))⟩
def tf24 : TFn := ⟨35,[.tmp 4],jq (jr [jo 2 24 0,jv 4 jf]) [1,2] (jq (jq (jr [om 6 1,jn 7 6,jb 8 .sub 7 1,om 5 8]) [1,2,5] (jk 0 (jq (jq (jr [om 9 5,jb 10 .geq 9 0]) [1,2,5,10] (jC 10 .skip (.exit 0))) [1,2,5] (jq (.block 1 (jq (jq (jR [om 13 1,om 14 5,jx 15 1 13 14,ol 16 1 15,jb 17 .add 16 1,oA 18 0 2,ol 19 1 18,om 20 5,jx 21 3 19 20,oA 22 2 21,ol 23 1 22,jn 24 23,jB 25 .lss 17 24]) [1,2,5,25] (jC 25 (jq (jr [om 26 1,om 27 5,jx 28 1 26 27,ol 29 1 28,jb 30 .add 29 1,jx 31 1 26 27,jS 1 31 30]) [] (jq (jr [oo 4 (.mov (.c (.bool true)))]) [4] .ret)) .skip)) [1,2,5] (jr [om 32 1,om 33 5,jx 34 1 32 33,⟨none,.store 1 (.s 34) (.c (.int .i64 (-1))),none⟩]))) [1,2,5] (jr [om 11 5,jb 12 .sub 11 1,om 5 12]))))) [] (jq (jr [jv 4 jf]) [4] .ret))⟩
def tf25 : TFn := ⟨5,[.tmp 3],jq (jr [jv 3 jf]) [0,1] (jq (jr [om 4 0,jS 1 1 4]) [] (jq (jr [jv 3 jf]) [3] .ret))⟩
def tf26 : TFn := ⟨5,[.tmp 0],jq (jr [jv 0 je]) [] (jq (jr [jc 1 41 [],jc 2 42 [],oo 3 (.build [(.int .i64 0),(.int .i64 0),(.int .i64 0),(.int .i64 0),(.str []),(.str []),(.bool false),(.int .i64 0),(.int .i64 0),(.int .i64 0),(.int .i64 0),(.str []),(.str []),(.bool false)] [(0,7,(.s 1)),(7,7,(.s 2))]),oo 4 (.buildSlice 14 93 [.s 3]),om 0 4]) [0] .ret)⟩
def tf27 : TFn := ⟨17,[.tmp 4],jq (jr [jo 2 67 0,jo 3 67 1,jw 4 0]) [2,3] (jq (jR [oA 5 0 2,ol 6 1 5,oA 7 0 3,ol 8 1 7,jc 9 44 [.s 6,.s 8],oA 10 1 2,ol 11 1 10,oA 12 1 3,ol 13 1 12,jc 14 44 [.s 11,.s 13],oo 15 (.buildSlice 1 3 [.s 9,.s 14]),jc 16 43 [.s 15],om 4 16]) [4] .ret)⟩
def tf28 : TFn := ⟨36,[.tmp 2],jq (jr [jo 1 41 0,jv 2 jf]) [1] (jq (jr [oA 3 0 1,ol 4 1 3,jc 5 45 [.s 4],om 6 5,jA 7 6 1 1,jl 8 6 1 7,oT 9 6 (.call 45 [.s 8]),jp 10 6 9,om 11 10,jA 12 11 2 1,jl 13 11 1 12,oT 14 11 (.call 45 [.s 13]),jp 15 11 14,om 16 15,jA 17 16 3 1,jl 18 16 1 17,oT 19 16 (.bin .eql false (.s 18) (.c (.str []))),jT 20 16 19,ja 21 20 3 1,jm 22 20 1 21,oF 23 20 (.call 46 [.s 22]),oT 24 16 (.pick (.s 20) (.c (.bool true)) (.s 23)),jp 25 16 24,om 26 25,jA 27 26 4 1,jl 28 26 1 27,oT 29 26 (.bin .eql false (.s 28) (.c (.str []))),jT 30 26 29,ja 31 30 4 1,jm 32 30 1 31,oF 33 30 (.call 47 [.s 32]),oT 34 26 (.pick (.s 30) (.c (.bool true)) (.s 33)),jp 35 26 34,om 2 35]) [2] .ret)⟩
def tf29 : TFn := ⟨86,[.tmp 4],jq (jr [jo 2 41 0,jo 3 41 1,jw 4 0]) [2,3] (jq (jq (jR [oL 10 5 2,jc 11 28 [.s 10],oo 12 (.un .not (.s 11)),om 13 12,jM 14 13 5 3,oF 15 13 (.call 28 [.s 14]),oF 16 13 (.un .not (.s 15)),oo 17 (.pick (.s 13) (.c (.bool true)) (.s 16)),om 18 17,jM 19 18 5 2,oF 20 18 (.call 48 [.s 19]),jM 21 18 5 3,oF 22 18 (.call 48 [.s 21]),oF 23 18 (.eqs false [0,0,0,2,2] (.s 20) (.s 22)),oo 24 (.pick (.s 18) (.c (.bool true)) (.s 23))]) [2,3,24] (jC 24 (jq (jr [jw 4 0]) [4] .ret) .skip)) [2,3] (jq (jq (jR [oA 25 0 2,ol 26 1 25,oA 27 0 3,ol 28 1 27,jc 29 49 [.s 26,.s 28],oA 30 1 2,ol 31 1 30,oA 32 1 3,ol 33 1 32,jc 34 49 [.s 31,.s 33],oA 35 2 2,ol 36 1 35,oA 37 2 3,ol 38 1 37,jc 39 49 [.s 36,.s 38],oo 40 (.buildSlice 1 3 [.s 29,.s 34,.s 39]),jc 41 43 [.s 40],om 5 41]) [2,3,5] (jq (jr [om 42 5,jb 43 .neq 42 0]) [2,3,5,43] (jC 43 (jq (jr [om 44 5,om 4 44]) [4] .ret) .skip))) [2,3] (jq (jq (jr [oA 45 3 2,ol 46 1 45,oo 47 (.bin .eql false (.s 46) (.c (.str [])))]) [2,3,47] (jC 47 (jq (jr [jw 4 1]) [4] .ret) .skip)) [2,3] (jq (jq (jr [oA 48 3 3,ol 49 1 48,oo 50 (.bin .eql false (.s 49) (.c (.str [])))]) [2,3,50] (jC 50 (jq (jr [oo 4 (.mov (.c (.int .i64 (-1))))]) [4] .ret) .skip)) [2,3] (jq (jR [oA 51 3 2,ol 52 1 51,jc 53 50 [.s 52,(.c (.int .u8 46))],oA 54 3 3,ol 55 1 54,jc 56 50 [.s 55,(.c (.int .u8 46))],om 6 53,om 7 56]) [6,7] (jq (jq (jr [jw 8 0]) [6,7,8] (jk 0 (jq (jq (jr [om 57 8,om 58 6,jn 59 58,jB 60 .lss 57 59,om 61 60,jT 62 61 8,jT 63 61 7,oT 64 61 (.len (.s 63)),oT 65 61 (.bin .lss false (.s 62) (.s 64)),jp 66 61 65]) [6,7,8,66] (jC 66 .skip (.exit 0))) [6,7,8] (jq (.block 1 (jq (jR [om 69 6,om 70 8,jx 71 1 69 70,ol 72 1 71,om 73 7,om 74 8,jx 75 1 73 74,ol 76 1 75,jc 77 51 [.s 72,.s 76],om 9 77]) [6,7,8,9] (jq (jr [om 78 9,jb 79 .neq 78 0]) [6,7,8,9,79] (jC 79 (jq (jr [om 80 9,om 4 80]) [4] .ret) .skip)))) [6,7,8] (jr [om 67 8,jb 68 .add 67 1,om 8 68]))))) [6,7] (jq (jr [om 81 6,jn 82 81,om 83 7,jn 84 83,jc 85 49 [.s 82,.s 84],om 4 85]) [4] .ret)))))))⟩
def tf30 : TFn := ⟨43,[.tmp 4],jq (jr [jo 2 45 0,jv 4 jf]) [1,2,900000] (jq (jq (jr [oA 7 6 2,ol 8 1 7,jn 9 8,jb 10 .gtr 9 24,om 11 10,ja 12 11 7 2,jm 13 11 1 12,oF 14 11 (.len (.s 13)),jy 15 11 .gtr 14 24,oo 16 (.pick (.s 11) (.c (.bool true)) (.s 15))]) [1,2,16,900000] (jC 16 (jq (jr [jv 4 jf]) [4] .ret) .skip)) [1,2,900000] (jq (jq (jr [oA 17 6 2,ol 18 1 17,jn 19 18,jw 20 0]) [1,2,18,19,20,900000] (jk 0 (jq (jr [jB 21 .lss 20 19]) [1,2,18,19,20,21,900000] (jq (jC 21 .skip (.exit 0)) [1,2,18,19,20,900000] (jq (.block 1 (jq (jr [jx 22 1 18 20,ol 23 1 22,om 6 23]) [1,2,6,18,19,20,900000] (jq (jr [om 24 6,jn 25 24,jb 26 .lss 25 1,om 27 26,jF 28 27 6,oF 29 27 (.len (.s 28)),jy 30 27 .gtr 29 24,oo 31 (.pick (.s 27) (.c (.bool true)) (.s 30)),om 32 31,jF 33 32 6,jF 34 32 1,oF 35 32 (.call 52 [.s 33,.s 34,.s 900000]),oF 36 32 (.un .not (.s 35)),oo 37 (.pick (.s 32) (.c (.bool true)) (.s 36))]) [1,2,18,19,20,37,900000] (jC 37 (jq (jr [jv 4 jf]) [4] .ret) .skip)))) [1,2,18,19,20,900000] (jr [jb 38 .add 20 1,om 20 38])))))) [1,2,900000] (jq (jr [oA 39 7 2,ol 40 1 39,om 41 1,jc 42 52 [.s 40,.s 41,.s 900000],om 4 42]) [4] .ret)))⟩
def tf31 : TFn := ⟨94,[.tmp 4],jq (jr [jo 2 24 0,jv 4 jf]) [1,2] (jq (jr [oA 7 0 2,ol 8 1 7,om 9 1,jx 10 3 8 9,oL 11 3 10,oo 5 (.alloc 39 [(.str []),(.str []),(.fsl [])]),jS 3 5 11]) [1,2,5] (jq (jq (jr [oA 12 2 5,ol 13 1 12,jn 14 13,jb 15 .gtr 14 16]) [1,2,5,15] (jC 15 (jq (jr [jv 4 jf]) [4] .ret) .skip)) [1,2,5] (jq (jq (jr [om 16 1,jb 17 .eql 16 0,om 18 17,jA 19 18 0 5,jl 20 18 1 19,oT 21 18 (.bin .neq false (.s 20) (.c (.str []))),jT 22 18 21,ja 23 22 1 5,jm 24 22 1 23,oF 25 22 (.bin .neq false (.s 24) (.c (.str []))),oT 26 18 (.pick (.s 22) (.c (.bool true)) (.s 25)),jT 27 18 26,ja 28 27 2 5,jm 29 27 1 28,oF 30 27 (.len (.s 29)),jy 31 27 .neq 30 1,oT 32 18 (.pick (.s 27) (.c (.bool true)) (.s 31)),jp 33 18 32]) [1,2,5,33] (jC 33 (jq (jr [jv 4 jf]) [4] .ret) .skip)) [1,2,5] (jq (jq (jR [om 34 1,jb 35 .gtr 34 0,om 36 35,jA 37 36 0 5,jl 38 36 1 37,oT 39 36 (.bin .eql false (.s 38) (.c (.str []))),jp 40 36 39,om 41 40,jF 42 41 1,jy 43 41 .gtr 42 1,jF 44 41 43,jA 45 44 0 2,jl 46 44 1 45,jT 47 44 1,jY 48 44 .sub 47 1,oT 49 44 (.indexAddr 3 (.s 46) (.s 48)),jL 50 44 3 49,jL 51 44 3 5,oT 52 44 (.call 53 [.s 50,.s 51]),oT 53 44 (.un .not (.s 52)),oF 54 41 (.pick (.s 44) (.s 53) jf),oo 55 (.pick (.s 41) (.c (.bool true)) (.s 54))]) [2,5,55] (jC 55 (jq (jr [jv 4 jf]) [4] .ret) .skip)) [2,5] (jq (jq (jr [jw 6 0]) [2,5,6] (jk 0 (jq (jq (jr [om 56 6,oA 57 2 5,ol 58 1 57,jn 59 58,jB 60 .lss 56 59]) [2,5,6,60] (jC 60 .skip (.exit 0))) [2,5,6] (jq (.block 1 (jq (jR [oA 63 2 5,ol 64 1 63,om 65 6,jx 66 8 64 65,oL 67 8 66,oA 68 0 2,ol 69 1 68,jn 70 69,jc 71 54 [.s 67,.s 70],oo 72 (.un .not (.s 71)),om 73 72,jF 74 73 6,jy 75 73 .gtr 74 0,jF 76 73 75,jA 77 76 2 5,jl 78 76 1 77,jT 79 76 6,jY 80 76 .sub 79 1,oT 81 76 (.indexAddr 8 (.s 78) (.s 80)),jA 82 76 0 81,jL 83 76 5 82,jA 84 76 2 5,jl 85 76 1 84,jT 86 76 6,oT 87 76 (.indexAddr 8 (.s 85) (.s 86)),jA 88 76 0 87,jL 89 76 5 88,oT 90 76 (.call 55 [.s 83,.s 89]),jY 91 76 .geq 90 0,oF 92 73 (.pick (.s 76) (.s 91) jf),oo 93 (.pick (.s 73) (.c (.bool true)) (.s 92))]) [2,5,6,93] (jC 93 (jq (jr [jv 4 jf]) [4] .ret) .skip))) [2,5,6] (jr [om 61 6,jb 62 .add 61 1,om 6 62]))))) [] (jq (jr [oo 4 (.mov (.c (.bool true)))]) [4] .ret))))))⟩
def tf32 : TFn := ⟨35,[.cell 4 true 2],jq (jr [jo 2 24 0,jo 3 51 1,oo 4 (.alloc 81 [(.int .i64 0),(.fsl [])])]) [2,3,4,900000] (jq (jr [oA 8 0 3,ol 9 1 8,oo 10 (.build [(.int .i64 0),(.fsl [])] [(0,1,(.s 9))]),oo 5 (.alloc 81 [(.int .i64 0),(.fsl [])]),jS 2 5 10]) [2,3,4,5,900000] (jq (jq (jr [oA 11 0 2,ol 12 1 11,oA 13 0 3,ol 14 1 13,jx 15 3 12 14,oA 16 2 15,ol 17 1 16,jn 18 17,jw 19 0]) [3,4,5,17,18,19,900000] (jk 0 (jq (jr [jB 20 .lss 19 18]) [3,4,5,17,18,19,20,900000] (jq (jC 20 .skip (.exit 0)) [3,4,5,17,18,19,900000] (jq (.block 1 (jq (jr [jx 21 8 17 19,oL 22 8 21,oo 7 (.alloc 45 [(.int .i64 0),(.int .i64 0),(.int .i64 0),(.str []),(.str []),(.int .i64 0),(.fsl []),(.fsl [])]),jS 8 7 22]) [3,4,5,7,17,18,19,900000] (jR [oA 23 1 5,ol 24 1 23,oA 25 1 3,oL 26 2 25,oA 27 0 7,oL 28 5 27,jc 29 56 [.s 26,.s 28,.s 900000],oo 30 (.buildSlice 1 4 [.s 29]),oo 31 (.append 1 4 1 (.s 24) (.s 30)),oA 32 1 5,jS 1 32 31]))) [3,4,5,17,18,19,900000] (jr [jb 33 .add 19 1,om 19 33])))))) [4,5] (jq (jr [oL 34 2 5,jS 2 4 34]) [4] .ret)))⟩
def tf33 : TFn := ⟨102,[.tmp 2],jq (jr [jv 2 jf]) [0] (jq (jr [om 13 0,jh 14 13,oA 15 1 14,ol 16 1 15,jn 17 16,oo 18 (.makeSlice 1 4 1 [(.bool false)] (.s 17) (.s 17)),om 3 18]) [0,3] (jq (jr [oo 19 (.buildSlice 1 3 [jI 0]),om 4 19]) [0,3,4] (jq (jr [om 20 3,oo 21 (.indexAddr 1 (.s 20) (jI 0)),⟨none,.store 1 (.s 21) (.c (.bool true)),none⟩]) [0,3,4] (jq (jq (jr [jw 5 0]) [0,3,4,5] (jk 0 (jq (jq (jr [om 22 5,om 23 4,jn 24 23,jB 25 .lss 22 24]) [0,3,4,5,25] (jC 25 .skip (.exit 0))) [0,3,4,5] (jq (.block 1 (jq (jr [om 28 4,om 29 5,jx 30 1 28 29,ol 31 1 30,om 6 31]) [0,3,4,5,6] (jq (jR [om 32 0,jh 33 32,oA 34 0 33,ol 35 1 34,om 36 6,jx 37 1 35 36,ol 38 1 37,om 39 0,jh 40 39,oA 41 1 40,ol 42 1 41,om 43 6,jx 44 1 42 43,ol 45 1 44,jx 46 2 38 45,oA 47 0 46,ol 48 1 47,jn 49 48,jw 50 0]) [0,3,4,5,48,49,50] (jk 2 (jq (jr [jB 51 .lss 50 49]) [0,3,4,5,48,49,50,51] (jq (jC 51 .skip (.exit 2)) [0,3,4,5,48,49,50] (jq (.block 3 (jq (jr [jx 52 1 48 50,ol 53 1 52,om 8 53]) [0,3,4,5,8,48,49,50] (jq (jr [om 54 8,jn 55 54,jw 56 0]) [0,3,4,5,48,49,50,54,55,56] (jk 4 (jq (jr [jB 57 .lss 56 55]) [0,3,4,5,48,49,50,54,55,56,57] (jq (jC 57 .skip (.exit 4)) [0,3,4,5,48,49,50,54,55,56] (jq (.block 5 (jq (jr [jx 58 2 54 56,oL 59 2 58,oo 10 (.alloc 81 [(.int .i64 0),(.fsl [])]),jS 2 10 59]) [0,3,4,5,10,48,49,50,54,55,56] (jq (jr [om 60 3,oA 61 0 10,ol 62 1 61,jx 63 1 60 62,ol 64 1 63,oo 65 (.un .not (.s 64)),om 66 65,jT 67 66 0,jL 68 66 2 10,oT 69 66 (.call 57 [.s 67,.s 68]),jp 70 66 69]) [0,3,4,5,10,48,49,50,54,55,56,70] (jC 70 (jq (jr [om 71 3,oA 72 0 10,ol 73 1 72,jx 74 1 71 73,⟨none,.store 1 (.s 74) (.c (.bool true)),none⟩]) [0,3,4,5,10,48,49,50,54,55,56] (jr [om 75 4,oA 76 0 10,ol 77 1 76,oo 78 (.buildSlice 1 3 [.s 77]),oo 79 (.append 1 3 8 (.s 75) (.s 78)),om 4 79])) .skip)))) [0,3,4,5,48,49,50,54,55,56] (jr [jb 80 .add 56 1,om 56 80])))))))) [0,3,4,5,48,49,50] (jr [jb 81 .add 50 1,om 50 81])))))))) [0,3,4,5] (jr [om 26 5,jb 27 .add 26 1,om 5 27]))))) [0,3] (jq (jq (jr [om 82 0,jh 83 82,oA 84 1 83,ol 85 1 84,jn 86 85,jw 87 0]) [3,85,86,87] (jk 6 (jq (jr [jB 88 .lss 87 86]) [3,85,86,87,88] (jq (jC 88 .skip (.exit 6)) [3,85,86,87] (jq (.block 7 (jq (jr [om 89 87,jx 90 1 85 87,ol 91 1 90,om 11 89,om 12 91]) [3,11,12,85,86,87] (jq (jr [om 92 12,jb 93 .geq 92 0,om 94 93,jT 95 94 3,jT 96 94 11,oT 97 94 (.indexAddr 1 (.s 95) (.s 96)),jl 98 94 1 97,oT 99 94 (.un .not (.s 98)),jp 100 94 99]) [3,85,86,87,100] (jC 100 (jq (jr [jv 2 jf]) [2] .ret) .skip)))) [3,85,86,87] (jr [jb 101 .add 87 1,om 87 101])))))) [] (jq (jr [oo 2 (.mov (.c (.bool true)))]) [2] .ret))))))⟩
def tf34 : TFn := ⟨8,[.tmp 2],jq (jr [jv 2 je]) [0] (jq (jq (jr [om 3 0,oo 4 (.un .plus (.s 3))]) [0,4] (jC 4 (jq (jr [jv 2 je]) [2] .ret) .skip)) [0] (jq (jr [oo 5 (.buildSlice 1 3 []),om 6 0,oo 7 (.append 1 3 8 (.s 5) (.s 6)),om 2 7]) [2] .ret))⟩
def tf35 : TFn := ⟨100,[.tmp 4],jq (jr [jv 4 jf]) [0,1] (jq (jq (jr [jw 5 0]) [0,1,5] (jk 0 (jq (jq (jr [om 15 5,om 16 1,jB 17 .leq 15 16]) [0,1,5,17] (jC 17 .skip (.exit 0))) [0,1,5] (jq (.block 1 (jq (jq (jr [om 20 0,jh 21 20,oA 22 1 21,ol 23 1 22,om 24 5,jx 25 1 23 24,ol 26 1 25,jb 27 .lss 26 0]) [0,1,5,27] (jC 27 (.exit 1) .skip)) [0,1,5] (jq (jR [om 28 0,jh 29 28,oA 30 0 29,ol 31 1 30,om 32 5,jx 33 1 31 32,ol 34 1 33,om 35 0,jh 36 35,oA 37 1 36,ol 38 1 37,om 39 5,jx 40 1 38 39,ol 41 1 40,jx 42 2 34 41,oL 43 2 42,oo 6 (.alloc 78 [(.fsl []),(.fsl [])]),jS 2 6 43]) [0,1,5,6] (jq (jq (jr [oA 44 0 6,ol 45 1 44,jn 46 45,jw 47 0]) [0,1,5,6,45,46,47] (jk 2 (jq (jr [jB 48 .lss 47 46]) [0,1,5,6,45,46,47,48] (jq (jC 48 .skip (.exit 2)) [0,1,5,6,45,46,47] (jq (.block 3 (jq (jr [jx 49 1 45 47,ol 50 1 49,om 8 50]) [0,1,5,6,8,45,46,47] (jq (jr [om 51 5,om 9 51,jv 10 jf]) [0,1,5,6,8,9,10,45,46,47] (jq (jq (jr [om 52 8,jn 53 52,jw 54 0]) [0,1,5,6,9,10,45,46,47,52,53,54] (jk 4 (jq (jr [jB 55 .lss 54 53]) [0,1,5,6,9,10,45,46,47,52,53,54,55] (jq (jC 55 .skip (.exit 4)) [0,1,5,6,9,10,45,46,47,52,53,54] (jq (.block 5 (jq (jr [jx 56 2 52 54,oL 57 2 56,oo 12 (.alloc 81 [(.int .i64 0),(.fsl [])]),jS 2 12 57]) [0,1,5,6,9,10,12,45,46,47,52,53,54] (jq (jr [om 58 9,oA 59 0 12,ol 60 1 59,oo 61 (.max (.s 58) (.s 60)),om 9 61]) [0,1,5,6,9,10,12,45,46,47,52,53,54] (jr [om 62 10,om 63 62,ja 64 63 0 12,jm 65 63 1 64,jF 66 63 1,oF 67 63 (.bin .leq false (.s 65) (.s 66)),jF 68 63 67,jT 69 68 0,jL 70 68 2 12,oT 71 68 (.call 57 [.s 69,.s 70]),oF 72 63 (.pick (.s 68) (.s 71) jf),oo 73 (.pick (.s 63) (.c (.bool true)) (.s 72)),om 10 73])))) [0,1,5,6,9,10,45,46,47,52,53,54] (jr [jb 74 .add 54 1,om 54 74])))))) [0,1,5,6,9,10,45,46,47] (jq (jr [om 75 9,om 76 1,jB 77 .leq 75 76,om 78 77,jT 79 78 10,oT 80 78 (.un .not (.s 79)),jp 81 78 80]) [0,1,5,6,45,46,47,81] (jC 81 (jq (jr [jv 4 jf]) [4] .ret) .skip)))))) [0,1,5,6,45,46,47] (jr [jb 82 .add 47 1,om 47 82])))))) [0,1,5,6] (jq (jr [oA 83 1 6,ol 84 1 83,jn 85 84,jw 86 0]) [0,1,5,84,85,86] (jk 6 (jq (jr [jB 87 .lss 86 85]) [0,1,5,84,85,86,87] (jq (jC 87 .skip (.exit 6)) [0,1,5,84,85,86] (jq (.block 7 (jq (jr [jx 88 2 84 86,oL 89 2 88,oo 14 (.alloc 81 [(.int .i64 0),(.fsl [])]),jS 2 14 89]) [0,1,5,14,84,85,86] (jq (jr [oA 90 0 14,ol 91 1 90,om 92 1,jB 93 .leq 91 92,om 94 93,jT 95 94 0,jL 96 94 2 14,oT 97 94 (.call 57 [.s 95,.s 96]),jp 98 94 97]) [0,1,5,84,85,86,98] (jC 98 (jq (jr [jv 4 jf]) [4] .ret) .skip)))) [0,1,5,84,85,86] (jr [jb 99 .add 86 1,om 86 99])))))))))) [0,1,5] (jr [om 18 5,jb 19 .add 18 1,om 5 19]))))) [] (jq (jr [oo 4 (.mov (.c (.bool true)))]) [4] .ret))⟩
def tf36 : TFn := ⟨78,[.tmp 4],jq (jr [jv 4 jf]) [0,1] (jq (jq (jr [om 13 0,jh 14 13,oA 15 0 14,ol 16 1 15,jn 17 16,jw 18 0]) [0,1,16,17,18] (jk 0 (jq (jr [jB 19 .lss 18 17]) [0,1,16,17,18,19] (jq (jC 19 .skip (.exit 0)) [0,1,16,17,18] (jq (.block 1 (jq (jr [om 20 18,jx 21 1 16 18,ol 22 1 21,om 5 20,om 6 22]) [0,1,5,6,16,17,18] (jq (jr [om 23 6,jn 24 23,jw 25 0]) [0,1,5,16,17,18,23,24,25] (jk 2 (jq (jr [jB 26 .lss 25 24]) [0,1,5,16,17,18,23,24,25,26] (jq (jC 26 .skip (.exit 2)) [0,1,5,16,17,18,23,24,25] (jq (.block 3 (jq (jr [om 27 25,jx 28 2 23 25,oL 29 2 28,oo 8 (.alloc 78 [(.fsl []),(.fsl [])]),om 7 27,jS 2 8 29]) [0,1,5,7,8,16,17,18,23,24,25] (jq (jq (jr [om 30 5,om 31 1,jB 32 .leq 30 31,om 33 32,jT 34 33 0,oT 35 33 (.nilCheck (.s 34)),jA 36 33 1 35,jl 37 33 1 36,jT 38 33 5,oT 39 33 (.indexAddr 1 (.s 37) (.s 38)),jl 40 33 1 39,jT 41 33 7,oT 42 33 (.bin .neq false (.s 40) (.s 41)),jp 43 33 42]) [0,1,5,8,16,17,18,23,24,25,43] (jC 43 (.exit 3) .skip)) [0,1,5,8,16,17,18,23,24,25] (jq (jr [oA 44 0 8,ol 45 1 44,jn 46 45,jw 47 0]) [0,1,5,16,17,18,23,24,25,45,46,47] (jk 4 (jq (jr [jB 48 .lss 47 46]) [0,1,5,16,17,18,23,24,25,45,46,47,48] (jq (jC 48 .skip (.exit 4)) [0,1,5,16,17,18,23,24,25,45,46,47] (jq (.block 5 (jq (jr [jx 49 1 45 47,ol 50 1 49,om 10 50]) [0,1,5,10,16,17,18,23,24,25,45,46,47] (jq (jr [om 51 10,jn 52 51,jw 53 0]) [0,1,5,16,17,18,23,24,25,45,46,47,51,52,53] (jk 6 (jq (jr [jB 54 .lss 53 52]) [0,1,5,16,17,18,23,24,25,45,46,47,51,52,53,54] (jq (jC 54 .skip (.exit 6)) [0,1,5,16,17,18,23,24,25,45,46,47,51,52,53] (jq (.block 7 (jq (jr [jx 55 2 51 53,oL 56 2 55,oo 12 (.alloc 81 [(.int .i64 0),(.fsl [])]),jS 2 12 56]) [0,1,5,12,16,17,18,23,24,25,45,46,47,51,52,53] (jq (jR [oA 57 0 12,ol 58 1 57,om 59 1,jB 60 .eql 58 59,om 61 60,jA 62 61 1 12,jl 63 61 1 62,jT 64 61 0,oT 65 61 (.nilCheck (.s 64)),jA 66 61 1 65,jl 67 61 1 66,jT 68 61 1,oT 69 61 (.indexAddr 1 (.s 67) (.s 68)),jl 70 61 1 69,oT 71 61 (.indexAddr 1 (.s 63) (.s 70)),jl 72 61 1 71,jp 73 61 72]) [0,1,5,16,17,18,23,24,25,45,46,47,51,52,53,73] (jC 73 (jq (jr [oo 4 (.mov (.c (.bool true)))]) [4] .ret) .skip)))) [0,1,5,16,17,18,23,24,25,45,46,47,51,52,53] (jr [jb 74 .add 53 1,om 53 74])))))))) [0,1,5,16,17,18,23,24,25,45,46,47] (jr [jb 75 .add 47 1,om 47 75]))))))))) [0,1,5,16,17,18,23,24,25] (jr [jb 76 .add 25 1,om 25 76])))))))) [0,1,16,17,18] (jr [jb 77 .add 18 1,om 18 77])))))) [] (jq (jr [jv 4 jf]) [4] .ret))⟩
def tf37 : TFn := ⟨29,[.tmp 4],jq (jr [jo 2 24 0,jv 4 je]) [1,2] (jq (jr [jv 5 je]) [1,2,5] (jq (jq (jr [jw 6 0]) [1,2,5,6] (jk 0 (jq (jq (jr [om 7 6,om 8 1,jn 9 8,jB 10 .lss 7 9]) [1,2,5,6,10] (jC 10 .skip (.exit 0))) [1,2,5,6] (jq (.block 1 (jR [om 13 5,om 14 1,om 15 6,jx 16 3 14 15,oA 17 0 16,ol 18 1 17,oL 19 1 2,om 20 1,om 21 6,jx 22 3 20 21,oL 23 3 22,jc 24 58 [.s 19,.s 23],oo 25 (.build [(.int .i64 0),(.int .i64 0)] [(0,1,(.s 18)),(1,1,(.s 24))]),oo 26 (.buildSlice 2 107 [.s 25]),oo 27 (.append 2 107 16 (.s 13) (.s 26)),om 5 27])) [1,2,5,6] (jr [om 11 6,jb 12 .add 11 1,om 6 12]))))) [5] (jq (jr [om 28 5,om 4 28]) [4] .ret)))⟩
def tf38 : TFn := ⟨25,[.tmp 4],jq (jr [jo 2 24 0,jw 4 0]) [1,2] (jq (jq (jr [om 5 1,jb 6 .lss 5 0,om 7 6,jF 8 7 1,ja 9 7 0 2,jm 10 7 1 9,oF 11 7 (.len (.s 10)),oF 12 7 (.bin .geq false (.s 8) (.s 11)),oo 13 (.pick (.s 7) (.c (.bool true)) (.s 12))]) [1,2,13] (jC 13 (jq (jr [jw 4 0]) [4] .ret) .skip)) [1,2] (jq (jr [oA 14 0 2,ol 15 1 14,om 16 1,jx 17 3 15 16,oA 18 2 17,ol 19 1 18,jn 20 19,oo 21 (.min (.s 20) (jI 16)),jb 22 .add 21 1,jc 23 59 [.s 22],jb 24 .sub 23 1,om 4 24]) [4] .ret))⟩
def tf39 : TFn := ⟨18,[.tmp 4],jq (jr [jv 4 jf]) [0,1] (jq (jq (jr [jw 5 0]) [0,1,5] (jk 0 (jq (jq (jr [om 6 5,om 7 1,jn 8 7,jB 9 .lss 6 8]) [0,1,5,9] (jC 9 .skip (.exit 0))) [0,1,5] (jq (.block 1 (jq (jr [om 12 0,om 13 1,om 14 5,jx 15 2 13 14,oL 16 2 15,jc 17 60 [.s 12,.s 16]]) [0,1,5,17] (jC 17 (jq (jr [oo 4 (.mov (.c (.bool true)))]) [4] .ret) .skip))) [0,1,5] (jr [om 10 5,jb 11 .add 10 1,om 5 11]))))) [] (jq (jr [jv 4 jf]) [4] .ret))⟩
def tf40 : TFn := ⟨84,[.tmp 4],jq (jr [jo 2 24 0,jv 4 je]) [1,2] (jq (jq (jr [oL 12 1 2,om 13 1,jc 14 61 [.s 12,.s 13],oo 15 (.un .not (.s 14))]) [1,2,15] (jC 15 (jq (jr [jv 4 je]) [4] .ret) .skip)) [1,2] (jq (jr [om 16 1,jn 17 16,oo 18 (.makeSlice 1 4 1 [(.bool false)] (.s 17) (.s 17)),om 5 18]) [1,2,5] (jq (jr [om 19 5,om 20 1,oo 21 (.indexAddr 1 (.s 20) (jI 0)),ol 22 1 21,jb 23 .geq 22 0,oo 24 (.indexAddr 1 (.s 19) (jI 0)),jS 1 24 23]) [1,2,5] (jq (jq (jr [jw 6 0]) [1,2,5,6] (jk 0 (jq (jq (jr [om 25 6,om 26 1,jn 27 26,jB 28 .lss 25 27]) [1,2,5,6,28] (jC 28 .skip (.exit 0))) [1,2,5,6] (jq (.block 1 (jq (jr [jw 7 0]) [1,2,5,6,7] (jk 2 (jq (jq (jr [om 31 7,om 32 1,jn 33 32,jB 34 .lss 31 33]) [1,2,5,6,7,34] (jC 34 .skip (.exit 2))) [1,2,5,6,7] (jq (.block 3 (jq (jq (jr [om 37 5,om 38 7,jx 39 1 37 38,ol 40 1 39,oo 41 (.un .not (.s 40))]) [1,2,5,6,7,41] (jC 41 (.exit 3) .skip)) [1,2,5,6,7] (jq (jR [oA 42 0 2,ol 43 1 42,om 44 7,jx 45 3 43 44,oA 46 2 45,ol 47 1 46,om 48 1,om 49 7,jx 50 1 48 49,ol 51 1 50,jx 52 8 47 51,oA 53 6 52,ol 54 1 53,jn 55 54,jw 56 0]) [1,2,5,6,7,54,55,56] (jk 4 (jq (jr [jB 57 .lss 56 55]) [1,2,5,6,7,54,55,56,57] (jq (jC 57 .skip (.exit 4)) [1,2,5,6,7,54,55,56] (jq (.block 5 (jq (jr [jx 58 1 54 56,ol 59 1 58,om 9 59]) [1,2,5,6,7,9,54,55,56] (jq (jr [om 60 9,jn 61 60,jw 62 0]) [1,2,5,6,7,54,55,56,60,61,62] (jk 6 (jq (jr [jB 63 .lss 62 61]) [1,2,5,6,7,54,55,56,60,61,62,63] (jq (jC 63 .skip (.exit 6)) [1,2,5,6,7,54,55,56,60,61,62] (jq (.block 7 (jq (jr [jx 64 3 60 62,oL 65 3 64,oo 11 (.alloc 51 [(.int .i64 0),(.fsl []),(.fsl [])]),jS 3 11 65]) [1,2,5,6,7,11,54,55,56,60,61,62] (jR [om 66 5,oA 67 0 11,ol 68 1 67,om 69 5,oA 70 0 11,ol 71 1 70,jx 72 1 69 71,ol 73 1 72,om 74 73,jM 75 74 1 2,jF 76 74 1,jM 77 74 3 11,oF 78 74 (.call 62 [.s 75,.s 76,.s 77]),oo 79 (.pick (.s 74) (.c (.bool true)) (.s 78)),jx 80 1 66 68,jS 1 80 79]))) [1,2,5,6,7,54,55,56,60,61,62] (jr [jb 81 .add 62 1,om 62 81])))))))) [1,2,5,6,7,54,55,56] (jr [jb 82 .add 56 1,om 56 82])))))))) [1,2,5,6,7] (jr [om 35 7,jb 36 .add 35 1,om 7 36])))))) [1,2,5,6] (jr [om 29 6,jb 30 .add 29 1,om 6 30]))))) [5] (jq (jr [om 83 5,om 4 83]) [4] .ret)))))⟩
def tf41 : TFn := ⟨2,[.cell 0 true 7],jq (jr [oo 0 (.alloc 90 [(.int .i64 0),(.int .i64 0),(.int .i64 0),(.int .i64 0),(.str []),(.str []),(.bool false)])]) [0] (jq (jr [oo 1 (.build [(.int .i64 0),(.int .i64 0),(.int .i64 0),(.int .i64 0),(.str []),(.str []),(.bool false)] [(0,1,(.c (.int .i64 (-1))))]),jS 7 0 1]) [0] .ret)⟩
def tf42 : TFn := ⟨2,[.cell 0 true 7],jq (jr [oo 0 (.alloc 90 [(.int .i64 0),(.int .i64 0),(.int .i64 0),(.int .i64 0),(.str []),(.str []),(.bool false)])]) [0] (jq (jr [oo 1 (.build [(.int .i64 0),(.int .i64 0),(.int .i64 0),(.int .i64 0),(.str []),(.str []),(.bool false)] [(0,1,(jI 1))]),jS 7 0 1]) [0] .ret)⟩
def tf43 : TFn := ⟨18,[.tmp 2],jq (jr [jw 2 0]) [0] (jq (jr [jw 3 0]) [0,3] (jq (jq (jr [om 6 0,jn 7 6,jw 8 0]) [3,6,7,8] (jk 0 (jq (jr [jB 9 .lss 8 7]) [3,6,7,8,9] (jq (jC 9 .skip (.exit 0)) [3,6,7,8] (jq (.block 1 (jq (jr [jx 10 1 6 8,ol 11 1 10,om 5 11]) [3,5,6,7,8] (jq (jr [om 12 5,om 13 3,jB 14 .neq 12 13]) [3,5,6,7,8,14] (jC 14 (jq (jr [om 15 5,om 2 15]) [2] .ret) .skip)))) [3,6,7,8] (jr [jb 16 .add 8 1,om 8 16])))))) [3] (jq (jr [om 17 3,om 2 17]) [2] .ret)))⟩
def tf44 : TFn := ⟨20,[.tmp 4],jq (jr [jw 4 0]) [0,1] (jq (jr [om 7 0,jc 8 63 [.s 7],om 5 8]) [0,1,5] (jq (jr [om 9 1,jc 10 63 [.s 9],om 6 10]) [0,1,5,6] (jq (jq (jr [om 11 5]) [0,1,6,11] (jC 11 (jq (jq (jr [om 12 6]) [12] (jC 12 (jq (jr [jw 4 0]) [4] .ret) .skip)) [] (jq (jr [oo 4 (.mov (.c (.int .i64 (-1))))]) [4] .ret)) .skip)) [0,1,6] (jq (jq (jr [om 13 6]) [0,1,13] (jC 13 (jq (jr [jw 4 1]) [4] .ret) .skip)) [0,1] (jq (jq (jr [om 14 0,om 15 1,jB 16 .lss 14 15]) [0,1,16] (jC 16 (jq (jr [oo 4 (.mov (.c (.int .i64 (-1))))]) [4] .ret) .skip)) [0,1] (jq (jq (jr [om 17 0,om 18 1,jB 19 .gtr 17 18]) [19] (jC 19 (jq (jr [jw 4 1]) [4] .ret) .skip)) [] (jq (jr [jw 4 0]) [4] .ret)))))))⟩
def tf45 : TFn := ⟨9,[.tmp 2],jq (jr [jv 2 jf]) [0] (jq (jr [om 3 0,jb 4 .geq 3 0,om 5 4,jT 6 5 0,jY 7 5 .leq 6 9999,jp 8 5 7,om 2 8]) [2] .ret)⟩
def tf46 : TFn := ⟨29,[.tmp 2],jq (jr [jv 2 jf]) [0] (jq (jq (jr [om 7 0,jc 8 47 [.s 7],oo 9 (.un .not (.s 8))]) [0,9] (jC 9 (jq (jr [jv 2 jf]) [2] .ret) .skip)) [0] (jq (jq (jr [om 10 0,jc 11 50 [.s 10,(.c (.int .u8 46))],jn 12 11,jw 13 0]) [11,12,13] (jk 0 (jq (jr [jB 14 .lss 13 12]) [11,12,13,14] (jq (jC 14 .skip (.exit 0)) [11,12,13] (jq (.block 1 (jq (jr [jx 15 1 11 13,ol 16 1 15,om 4 16]) [4,11,12,13] (jq (jr [om 18 4,jc 19 64 [.s 18],om 17 19,oe 20 0 17,oe 21 1 17,om 5 20,om 6 21]) [4,6,11,12,13] (jq (jr [om 22 4,jc 23 65 [.s 22],om 24 23,jT 25 24 6,oT 26 24 (.un .not (.s 25)),jp 27 24 26]) [11,12,13,27] (jC 27 (jq (jr [jv 2 jf]) [2] .ret) .skip))))) [11,12,13] (jr [jb 28 .add 13 1,om 13 28])))))) [] (jq (jr [oo 2 (.mov (.c (.bool true)))]) [2] .ret)))⟩
def tf47 : TFn := ⟨52,[.tmp 2],jq (jr [jv 2 jf]) [0] (.scope (jq (jr [om 9 0,jc 10 50 [.s 9,(.c (.int .u8 46))],om 3 10]) [3] (jq (jr [om 11 3,jn 12 11,jb 13 .leq 12 4,om 4 13]) [3,4] (.seq .skip [3,4] (jq (jq (jr [om 14 3,jn 15 14,jw 16 0]) [4,14,15,16] (jk 0 (jq (jr [jB 17 .lss 16 15]) [4,14,15,16,17] (jq (jC 17 .skip (.exit 0)) [4,14,15,16] (jq (.block 1 (jq (jr [jx 18 1 14 16,ol 19 1 18,om 6 19]) [4,6,14,15,16] (jq (jq (jr [om 20 6,oo 21 (.bin .eql false (.s 20) (.c (.str []))),om 22 21,jF 23 22 6,oF 24 22 (.lenStr (.s 23)),jy 25 22 .gtr 24 8,oo 26 (.pick (.s 22) (.c (.bool true)) (.s 25))]) [4,6,14,15,16,26] (jC 26 (jq (jr [jv 4 jf]) [4] (.exit 0)) .skip)) [4,6,14,15,16] (jq (jr [om 27 6,oo 28 (.range (.s 27))]) [4,14,15,16,28] (jk 2 (jq (jr [oo 29 (.next (.s 28)),oe 30 0 29]) [4,14,15,16,28,29,30] (jq (jC 30 .skip (.exit 2)) [4,14,15,16,28,29] (.block 3 (jq (jr [oe 31 2 29,om 8 31]) [4,8,14,15,16,28] (jq (jr [om 32 8,oo 33 (.bin .lss false (.s 32) (.c (.int .i32 97))),om 34 33,jF 35 34 8,oF 36 34 (.bin .gtr false (.s 35) (.c (.int .i32 122))),oo 37 (.pick (.s 34) (.c (.bool true)) (.s 36)),om 38 37,jT 39 38 8,oT 40 38 (.bin .lss false (.s 39) (.c (.int .i32 48))),jT 41 38 40,jF 42 41 8,oF 43 41 (.bin .gtr false (.s 42) (.c (.int .i32 57))),oT 44 38 (.pick (.s 41) (.c (.bool true)) (.s 43)),jp 45 38 44,om 46 45,jT 47 46 8,oT 48 46 (.bin .neq false (.s 47) (.c (.int .i32 45))),jp 49 46 48]) [4,14,15,16,28,49] (jC 49 (jq (jr [jv 4 jf]) [4] (.exit 0)) .skip))))))))))) [4,14,15,16] (jr [jb 50 .add 16 1,om 16 50])))))) [4] (jq (jr [om 51 4,om 2 51]) [2] .ret))))))⟩
def tf48 : TFn := ⟨5,[.cell 2 true 5],jq (jr [jo 1 41 0,oo 2 (.alloc 41 [(.int .i64 0),(.int .i64 0),(.int .i64 0),(.str []),(.str [])])]) [1,2] (jq (jr [oA 3 4 1,⟨none,.store 1 (.s 3) (.c (.str [])),none⟩]) [1,2] (jq (jr [oL 4 5 1,jS 5 2 4]) [2] .ret))⟩
def tf49 : TFn := ⟨20,[.tmp 4],jq (jr [jw 4 0]) [0,1] (jq (jr [om 7 0,jc 8 66 [.s 7],om 5 8]) [0,1,5] (jq (jr [om 9 1,jc 10 66 [.s 9],om 6 10]) [0,1,5,6] (jq (jq (jr [om 11 5]) [0,1,6,11] (jC 11 (jq (jq (jr [om 12 6]) [12] (jC 12 (jq (jr [jw 4 0]) [4] .ret) .skip)) [] (jq (jr [oo 4 (.mov (.c (.int .i64 (-1))))]) [4] .ret)) .skip)) [0,1,6] (jq (jq (jr [om 13 6]) [0,1,13] (jC 13 (jq (jr [jw 4 1]) [4] .ret) .skip)) [0,1] (jq (jq (jr [om 14 0,om 15 1,jB 16 .lss 14 15]) [0,1,16] (jC 16 (jq (jr [oo 4 (.mov (.c (.int .i64 (-1))))]) [4] .ret) .skip)) [0,1] (jq (jq (jr [om 17 0,om 18 1,jB 19 .gtr 17 18]) [19] (jC 19 (jq (jr [jw 4 1]) [4] .ret) .skip)) [] (jq (jr [jw 4 0]) [4] .ret)))))))⟩
def tf50 : TFn := ⟨34,[.tmp 4],jq (jr [jv 4 je]) [0,1] (jq (jr [jv 5 je]) [0,1,5] (jq (jr [jw 6 0]) [0,1,5,6] (jq (jq (jr [om 8 0,oo 9 (.lenStr (.s 8)),jw 10 0]) [0,1,5,6,9,10] (jk 0 (jq (jr [jB 11 .lss 10 9]) [0,1,5,6,9,10,11] (jq (jC 11 .skip (.exit 0)) [0,1,5,6,9,10] (jq (.block 1 (jq (jr [om 12 10,om 7 12]) [0,1,5,6,7,9,10] (jq (jr [om 13 0,om 14 7,oo 15 (.indexStr (.s 13) (.s 14)),om 16 1,jB 17 .eql 15 16]) [0,1,5,6,7,9,10,17] (jC 17 (jq (jr [om 18 5,om 19 0,om 20 6,om 21 7,oo 22 (.sliceStr (.s 19) (some (.s 20)) (some (.s 21))),oo 23 (.buildSlice 1 9 [.s 22]),oo 24 (.append 1 9 16 (.s 18) (.s 23)),om 5 24]) [0,1,5,7,9,10] (jr [om 25 7,jb 26 .add 25 1,om 6 26])) .skip)))) [0,1,5,6,9,10] (jr [jb 27 .add 10 1,om 10 27])))))) [0,5,6] (jq (jr [om 28 5,om 29 0,om 30 6,oo 31 (.sliceStr (.s 29) (some (.s 30)) none),oo 32 (.buildSlice 1 9 [.s 31]),oo 33 (.append 1 9 16 (.s 28) (.s 32)),om 4 33]) [4] .ret))))⟩
def tf51 : TFn := ⟨39,[.tmp 4],jq (jr [jw 4 0]) [0,1] (jq (jr [om 11 0,jc 12 65 [.s 11],om 13 1,jc 14 65 [.s 13],om 5 12,om 6 14]) [0,1,5,6] (jq (jq (jr [om 15 5,om 16 15,jT 17 16 6,jp 18 16 17]) [0,1,5,6,18] (jC 18 (jq (jr [om 20 0,jc 21 64 [.s 20],om 19 21,oe 22 0 19,oe 23 1 19,om 7 22,om 8 23]) [1,7] (jq (jr [om 25 1,jc 26 64 [.s 25],om 24 26,oe 27 0 24,oe 28 1 24,om 9 27,om 10 28]) [7,9] (jq (jr [om 29 7,om 30 9,jc 31 49 [.s 29,.s 30],om 4 31]) [4] .ret))) .skip)) [0,1,5,6] (jq (jq (jr [om 32 5,om 33 6,oo 34 (.bin .neq true (.s 32) (.s 33))]) [0,1,5,34] (jC 34 (jq (jq (jr [om 35 5]) [35] (jC 35 (jq (jr [oo 4 (.mov (.c (.int .i64 (-1))))]) [4] .ret) .skip)) [] (jq (jr [jw 4 1]) [4] .ret)) .skip)) [0,1] (jq (jr [om 36 0,om 37 1,jc 38 44 [.s 36,.s 37],om 4 38]) [4] .ret))))⟩
def tf52 : TFn := ⟨29,[.tmp 4],jq (jr [jv 4 jf]) [0,1,900000] (jq (jq (jr [om 7 0,jn 8 7,jw 9 0]) [1,7,8,9,900000] (jk 0 (jq (jr [jB 10 .lss 9 8]) [1,7,8,9,10,900000] (jq (jC 10 .skip (.exit 0)) [1,7,8,9,900000] (jq (.block 1 (jq (jr [jx 11 3 7 9,oL 12 3 11,oo 6 (.alloc 51 [(.int .i64 0),(.fsl []),(.fsl [])]),jS 3 6 12]) [1,6,7,8,9,900000] (jq (jr [oA 13 0 6,ol 14 1 13,jb 15 .lss 14 1,om 16 15,ja 17 16 0 6,jm 18 16 1 17,jF 19 16 1,oF 20 16 (.bin .geq false (.s 18) (.s 19)),oo 21 (.pick (.s 16) (.c (.bool true)) (.s 20)),om 22 21,ja 23 22 1 6,jM 24 22 2 23,oF 25 22 (.call 67 [.s 24,.s 900000]),oF 26 22 (.un .not (.s 25)),oo 27 (.pick (.s 22) (.c (.bool true)) (.s 26))]) [1,7,8,9,27,900000] (jC 27 (jq (jr [jv 4 jf]) [4] .ret) .skip)))) [1,7,8,9,900000] (jr [jb 28 .add 9 1,om 9 28])))))) [] (jq (jr [oo 4 (.mov (.c (.bool true)))]) [4] .ret))⟩
def tf53 : TFn := ⟨24,[.tmp 4],jq (jr [jo 2 39 0,jo 3 39 1,jv 4 jf]) [2,3] (jq (jr [oA 5 0 2,ol 6 1 5,oA 7 0 3,ol 8 1 7,jB 9 .lss 6 8,om 10 9,ja 11 10 0 2,jm 12 10 1 11,ja 13 10 0 3,jm 14 10 1 13,oF 15 10 (.bin .eql false (.s 12) (.s 14)),jF 16 10 15,jA 17 16 1 2,jl 18 16 1 17,jA 19 16 1 3,jl 20 16 1 19,oT 21 16 (.bin .lss false (.s 18) (.s 20)),oF 22 10 (.pick (.s 16) (.s 21) jf),oo 23 (.pick (.s 10) (.c (.bool true)) (.s 22)),om 4 23]) [4] .ret)⟩
def tf54 : TFn := ⟨53,[.tmp 4],jq (jr [jo 2 45 0,jv 4 jf]) [1,2] (jq (jq (jr [oA 7 0 2,oL 8 5 7,jc 9 68 [.s 8],oo 10 (.un .not (.s 9)),om 11 10,ja 12 11 6 2,jm 13 11 1 12,oF 14 11 (.len (.s 13)),jy 15 11 .gtr 14 24,oo 16 (.pick (.s 11) (.c (.bool true)) (.s 15)),om 17 16,ja 18 17 7 2,jm 19 17 1 18,oF 20 17 (.len (.s 19)),jy 21 17 .gtr 20 24,oo 22 (.pick (.s 17) (.c (.bool true)) (.s 21))]) [1,2,22] (jC 22 (jq (jr [jv 4 jf]) [4] .ret) .skip)) [1,2] (jq (jq (jr [jw 5 0]) [1,2,5] (jk 0 (jq (jq (jr [om 23 5,oA 24 6 2,ol 25 1 24,jn 26 25,jB 27 .lss 23 26]) [1,2,5,27] (jC 27 .skip (.exit 0))) [1,2,5] (jq (.block 1 (jq (jr [oA 30 6 2,ol 31 1 30,om 32 5,jx 33 1 31 32,ol 34 1 33,om 35 1,jc 36 69 [.s 34,.s 35],oo 37 (.un .not (.s 36))]) [1,2,5,37] (jC 37 (jq (jr [jv 4 jf]) [4] .ret) .skip))) [1,2,5] (jr [om 28 5,jb 29 .add 28 1,om 5 29]))))) [1,2] (jq (jq (jr [jw 6 0]) [1,2,6] (jk 2 (jq (jq (jr [om 38 6,oA 39 7 2,ol 40 1 39,jn 41 40,jB 42 .lss 38 41]) [1,2,6,42] (jC 42 .skip (.exit 2))) [1,2,6] (jq (.block 3 (jq (jr [oA 45 7 2,ol 46 1 45,om 47 6,jx 48 3 46 47,oL 49 3 48,om 50 1,jc 51 70 [.s 49,.s 50],oo 52 (.un .not (.s 51))]) [1,2,6,52] (jC 52 (jq (jr [jv 4 jf]) [4] .ret) .skip))) [1,2,6] (jr [om 43 6,jb 44 .add 43 1,om 6 44]))))) [] (jq (jr [oo 4 (.mov (.c (.bool true)))]) [4] .ret))))⟩
def tf55 : TFn := ⟨45,[.tmp 4],jq (jr [jo 2 41 0,jo 3 41 1,jw 4 0]) [2,3] (jq (jq (jr [oL 8 5 2,jc 9 68 [.s 8],oo 10 (.un .not (.s 9)),om 11 10,jM 12 11 5 3,oF 13 11 (.call 68 [.s 12]),oF 14 11 (.un .not (.s 13)),oo 15 (.pick (.s 11) (.c (.bool true)) (.s 14))]) [2,3,15] (jC 15 (jq (jr [jw 4 0]) [4] .ret) .skip)) [2,3] (jq (jq (jr [oA 16 0 2,ol 17 1 16,oA 18 0 3,ol 19 1 18,jc 20 71 [.s 17,.s 19],om 5 20]) [2,3,5] (jq (jr [om 21 5,jb 22 .neq 21 0]) [2,3,5,22] (jC 22 (jq (jr [om 23 5,om 4 23]) [4] .ret) .skip))) [2,3] (jq (jq (jr [oA 24 1 2,ol 25 1 24,oA 26 1 3,ol 27 1 26,jc 28 71 [.s 25,.s 27],om 6 28]) [2,3,6] (jq (jr [om 29 6,jb 30 .neq 29 0]) [2,3,6,30] (jC 30 (jq (jr [om 31 6,om 4 31]) [4] .ret) .skip))) [2,3] (jq (jq (jr [oA 32 2 2,ol 33 1 32,oA 34 2 3,ol 35 1 34,jc 36 71 [.s 33,.s 35],om 7 36]) [2,3,7] (jq (jr [om 37 7,jb 38 .neq 37 0]) [2,3,7,38] (jC 38 (jq (jr [om 39 7,om 4 39]) [4] .ret) .skip))) [2,3] (jq (jr [oA 40 3 2,ol 41 1 40,oA 42 3 3,ol 43 1 42,jc 44 72 [.s 41,.s 43],om 4 44]) [4] .ret)))))⟩
def tf56 : TFn := ⟨24,[.tmp 4],jq (jr [jo 2 48 0,jo 3 41 1,jv 4 jf]) [2,3,900000] (jq (jq (jr [oL 5 2 2,jc 6 67 [.s 5,.s 900000],oo 7 (.un .not (.s 6)),om 8 7,jM 9 8 5 3,oF 10 8 (.call 28 [.s 9]),oF 11 8 (.un .not (.s 10)),oo 12 (.pick (.s 8) (.c (.bool true)) (.s 11))]) [2,3,12] (jC 12 (jq (jr [jv 4 jf]) [4] .ret) .skip)) [2,3] (jq (jq (jr [oA 13 3 3,ol 14 1 13,oo 15 (.bin .eql false (.s 14) (.c (.str [])))]) [2,3,15] (jC 15 (jq (jr [oA 16 0 2,ol 17 1 16,oL 18 5 3,jc 19 73 [.s 17,.s 18],om 4 19]) [4] .ret) .skip)) [2,3] (jq (jr [oA 20 1 2,ol 21 1 20,oL 22 5 3,jc 23 73 [.s 21,.s 22],om 4 23]) [4] .ret)))⟩
def tf57 : TFn := ⟨28,[.tmp 4],jq (jr [jo 3 81 1,jv 4 jf]) [0,3] (jq (jR [om 5 0,jh 6 5,oA 7 1 6,ol 8 1 7,oA 9 0 3,ol 10 1 9,jx 11 1 8 10,ol 12 1 11,jb 13 .geq 12 0,om 14 13,jA 15 14 1 3,jl 16 14 1 15,jT 17 14 0,oT 18 14 (.nilCheck (.s 17)),jA 19 14 1 18,jl 20 14 1 19,jA 21 14 0 3,jl 22 14 1 21,oT 23 14 (.indexAddr 1 (.s 20) (.s 22)),jl 24 14 1 23,oT 25 14 (.indexAddr 1 (.s 16) (.s 24)),jl 26 14 1 25,jp 27 14 26,om 4 27]) [4] .ret)⟩
def tf58 : TFn := ⟨50,[.tmp 4],jq (jr [jo 2 24 0,jo 3 51 1,jw 4 0]) [2,3] (jq (jq (jr [oA 8 0 3,ol 9 1 8,jb 10 .lss 9 0,om 11 10,ja 12 11 0 3,jm 13 11 1 12,ja 14 11 0 2,jm 15 11 1 14,oF 16 11 (.len (.s 15)),oF 17 11 (.bin .geq false (.s 13) (.s 16)),oo 18 (.pick (.s 11) (.c (.bool true)) (.s 17))]) [2,3,18] (jC 18 (jq (jr [jw 4 0]) [4] .ret) .skip)) [2,3] (jq (jr [jw 5 0]) [2,3,5] (jq (jr [oA 19 0 2,ol 20 1 19,oA 21 0 3,ol 22 1 21,jx 23 3 20 22,oA 24 2 23,ol 25 1 24,om 6 25]) [3,5,6] (jq (jq (jr [jw 7 0]) [3,5,6,7] (jk 0 (jq (jq (jr [om 26 7,om 27 6,jn 28 27,jB 29 .lss 26 28,om 30 29,jT 31 30 7,jY 32 30 .lss 31 16,jp 33 30 32]) [3,5,6,7,33] (jC 33 .skip (.exit 0))) [3,5,6,7] (jq (.block 1 (jq (jR [oA 36 1 3,oL 37 2 36,om 38 6,om 39 7,jx 40 8 38 39,oA 41 0 40,oL 42 5 41,jc 43 74 [.s 37,.s 42]]) [3,5,6,7,43] (jC 43 (jr [om 44 5,om 45 7,jb 46 .add 45 1,jc 47 59 [.s 46],jB 48 .add 44 47,om 5 48]) .skip))) [3,5,6,7] (jr [om 34 7,jb 35 .add 34 1,om 7 35]))))) [5] (jq (jr [om 49 5,om 4 49]) [4] .ret)))))⟩
def tf59 : TFn := ⟨13,[.tmp 2],jq (jr [jw 2 0]) [0] (jq (jr [jw 3 1]) [0,3] (jq (jq (jr [jw 4 0]) [0,3,4] (jk 0 (jq (jq (jr [om 5 4,om 6 0,jB 7 .lss 5 6]) [0,3,4,7] (jC 7 .skip (.exit 0))) [0,3,4] (jq (.block 1 (jr [om 10 3,jb 11 .mul 10 2,om 3 11])) [0,3,4] (jr [om 8 4,jb 9 .add 8 1,om 4 9]))))) [3] (jq (jr [om 12 3,om 2 12]) [2] .ret)))⟩
def tf60 : TFn := ⟨24,[.tmp 4],jq (jr [jo 3 107 1,jv 4 jf]) [0,3] (jq (jR [om 5 0,oA 6 0 3,ol 7 1 6,jx 8 1 5 7,ol 9 1 8,jb 10 .geq 9 0,om 11 10,jA 12 11 1 3,jl 13 11 1 12,jT 14 11 0,jA 15 11 0 3,jl 16 11 1 15,oT 17 11 (.indexAddr 1 (.s 14) (.s 16)),jl 18 11 1 17,oT 19 11 (.conv .u64 (.s 18)),oT 20 11 (.bin .shl false (jI 2) (.s 19)),oT 21 11 (.bin .and false (.s 13) (.s 20)),jY 22 11 .neq 21 0,jp 23 11 22,om 4 23]) [4] .ret)⟩
def tf61 : TFn := ⟨42,[.tmp 4],jq (jr [jo 2 24 0,jv 4 jf]) [1,2] (jq (jq (jr [om 6 1,jn 7 6,oA 8 0 2,ol 9 1 8,jn 10 9,jB 11 .neq 7 10,om 12 11,jM 13 12 1 2,oF 14 12 (.call 17 [.s 13]),oF 15 12 (.un .not (.s 14)),oo 16 (.pick (.s 12) (.c (.bool true)) (.s 15))]) [1,2,16] (jC 16 (jq (jr [jv 4 jf]) [4] .ret) .skip)) [1,2] (jq (jq (jr [jw 5 0]) [1,2,5] (jk 0 (jq (jq (jr [om 17 5,om 18 1,jn 19 18,jB 20 .lss 17 19]) [1,2,5,20] (jC 20 .skip (.exit 0))) [1,2,5] (jq (.block 1 (jq (jR [om 23 1,om 24 5,jx 25 1 23 24,ol 26 1 25,oo 27 (.bin .lss false (.s 26) (.c (.int .i64 (-1)))),om 28 27,jF 29 28 1,jF 30 28 5,oF 31 28 (.indexAddr 1 (.s 29) (.s 30)),jm 32 28 1 31,ja 33 28 0 2,jm 34 28 1 33,jF 35 28 5,oF 36 28 (.indexAddr 3 (.s 34) (.s 35)),ja 37 28 2 36,jm 38 28 1 37,oF 39 28 (.len (.s 38)),oF 40 28 (.bin .geq false (.s 32) (.s 39)),oo 41 (.pick (.s 28) (.c (.bool true)) (.s 40))]) [1,2,5,41] (jC 41 (jq (jr [jv 4 jf]) [4] .ret) .skip))) [1,2,5] (jr [om 21 5,jb 22 .add 21 1,om 5 22]))))) [] (jq (jr [oo 4 (.mov (.c (.bool true)))]) [4] .ret)))⟩
def tf62 : TFn := ⟨33,[.tmp 6],jq (jr [jo 3 24 0,jo 5 51 2,jv 6 jf]) [1,3,5] (jq (jR [om 7 1,oA 8 0 5,ol 9 1 8,jx 10 1 7 9,ol 11 1 10,jb 12 .geq 11 0,om 13 12,jA 14 13 1 5,jL 15 13 2 14,jA 16 13 0 3,jl 17 13 1 16,jA 18 13 0 5,jl 19 13 1 18,oT 20 13 (.indexAddr 3 (.s 17) (.s 19)),jA 21 13 2 20,jl 22 13 1 21,jT 23 13 1,jA 24 13 0 5,jl 25 13 1 24,oT 26 13 (.indexAddr 1 (.s 23) (.s 25)),jl 27 13 1 26,oT 28 13 (.indexAddr 8 (.s 22) (.s 27)),jA 29 13 0 28,jL 30 13 5 29,oT 31 13 (.call 74 [.s 15,.s 30]),jp 32 13 31,om 6 32]) [6] .ret)⟩
def tf63 : TFn := ⟨6,[.tmp 2],jq (jr [jv 2 jf]) [0] (jq (jr [om 3 0,om 4 0,jB 5 .neq 3 4,om 2 5]) [2] .ret)⟩
def tf64 : TFn := ⟨45,[.tmp 2,.tmp 3],jq (jr [jw 2 0,jv 3 jf]) [0] (jq (jq (jr [om 7 0,oo 8 (.bin .eql false (.s 7) (.c (.str []))),om 9 8,jF 10 9 0,oF 11 9 (.lenStr (.s 10)),jy 12 9 .gtr 11 4,oo 13 (.pick (.s 9) (.c (.bool true)) (.s 12)),om 14 13,jF 15 14 0,oF 16 14 (.indexStr (.s 15) (jI 0)),oF 17 14 (.bin .eql false (.s 16) (.c (.int .u8 48))),jF 18 14 17,jT 19 18 0,oT 20 18 (.lenStr (.s 19)),jY 21 18 .gtr 20 1,oF 22 14 (.pick (.s 18) (.s 21) jf),oo 23 (.pick (.s 14) (.c (.bool true)) (.s 22))]) [0,23] (jC 23 (jq (jr [jw 2 0,jv 3 jf]) [2,3] .ret) .skip)) [0] (jq (jr [jw 4 0]) [0,4] (jq (jq (jr [om 24 0,oo 25 (.range (.s 24))]) [4,25] (jk 0 (jq (jr [oo 26 (.next (.s 25)),oe 27 0 26]) [4,25,26,27] (jq (jC 27 .skip (.exit 0)) [4,25,26] (.block 1 (jq (jr [oe 28 2 26,om 6 28]) [4,6,25] (.block 2 (jq (jr [om 30 6,oo 31 (.bin .geq false (.s 30) (.c (.int .i32 48))),om 32 31,jT 33 32 6,oT 34 32 (.bin .leq false (.s 33) (.c (.int .i32 57))),jp 35 32 34,om 29 35]) [4,6,25,29] (jC 29 (jr [om 36 4,oo 37 (.bin .mul false (jI 10) (.s 36)),om 38 6,oo 39 (.bin .sub false (.s 38) (.c (.int .i32 48))),oo 40 (.conv .i64 (.s 39)),jB 41 .add 37 40,om 4 41]) (jq (jr [jw 2 0,jv 3 jf]) [2,3] .ret)))))))))) [4] (jq (jr [om 42 4,om 43 4,jb 44 .leq 43 9999,om 2 42,om 3 44]) [2,3] .ret))))⟩
def tf65 : TFn := ⟨22,[.tmp 2],jq (jr [jv 2 jf]) [0] (jq (jq (jr [om 4 0,oo 5 (.lenStr (.s 4)),jw 6 0]) [0,5,6] (jk 0 (jq (jr [jB 7 .lss 6 5]) [0,5,6,7] (jq (jC 7 .skip (.exit 0)) [0,5,6] (jq (.block 1 (jq (jr [om 8 6,om 3 8]) [0,3,5,6] (jq (jr [om 9 0,om 10 3,oo 11 (.indexStr (.s 9) (.s 10)),oo 12 (.bin .lss false (.s 11) (.c (.int .u8 48))),om 13 12,jF 14 13 0,jF 15 13 3,oF 16 13 (.indexStr (.s 14) (.s 15)),oF 17 13 (.bin .gtr false (.s 16) (.c (.int .u8 57))),oo 18 (.pick (.s 13) (.c (.bool true)) (.s 17))]) [0,5,6,18] (jC 18 (jq (jr [jv 2 jf]) [2] .ret) .skip)))) [0,5,6] (jr [jb 19 .add 6 1,om 6 19])))))) [0] (jq (jr [om 20 0,oo 21 (.bin .neq false (.s 20) (.c (.str []))),om 2 21]) [2] .ret))⟩
def tf66 : TFn := ⟨6,[.tmp 2],jq (jr [jv 2 jf]) [0] (jq (jr [om 3 0,om 4 0,jB 5 .neq 3 4,om 2 5]) [2] .ret)⟩
def tf67 : TFn := ⟨31,[.tmp 2],jq (jr [jo 1 48 0,jv 2 jf]) [1,900000] (jq (jq (jr [oA 5 0 1,ol 6 1 5,jn 7 6,jw 8 0]) [1,6,7,8,900000] (jk 0 (jq (jr [jB 9 .lss 8 7]) [1,6,7,8,9,900000] (jq (jC 9 .skip (.exit 0)) [1,6,7,8,900000] (jq (.block 1 (jq (jr [jx 10 14 6 8,oL 11 14 10,oo 4 (.alloc 93 [(.int .i64 0),(.int .i64 0),(.int .i64 0),(.int .i64 0),(.str []),(.str []),(.bool false),(.int .i64 0),(.int .i64 0),(.int .i64 0),(.int .i64 0),(.str []),(.str []),(.bool false)]),jS 14 4 11]) [1,4,6,7,8,900000] (jq (jr [oA 12 0 4,oL 13 7 12,jc 14 75 [.s 13,.s 900000],oo 15 (.un .not (.s 14)),om 16 15,ja 17 16 7 4,jM 18 16 7 17,oF 19 16 (.call 75 [.s 18,.s 900000]),oF 20 16 (.un .not (.s 19)),oo 21 (.pick (.s 16) (.c (.bool true)) (.s 20))]) [1,6,7,8,21,900000] (jC 21 (jq (jr [jv 2 jf]) [2] .ret) .skip)))) [1,6,7,8,900000] (jr [jb 22 .add 8 1,om 8 22])))))) [1] (jq (jr [oA 23 0 1,ol 24 1 23,jc 25 76 [.s 24],om 26 25,jA 27 26 1 1,jl 28 26 1 27,oT 29 26 (.call 76 [.s 28]),jp 30 26 29,om 2 30]) [2] .ret))⟩
def tf68 : TFn := ⟨26,[.tmp 2],jq (jr [jo 1 41 0,jv 2 jf]) [1] (jq (jr [oA 3 0 1,ol 4 1 3,jc 5 77 [.s 4],om 6 5,jA 7 6 1 1,jl 8 6 1 7,oT 9 6 (.call 77 [.s 8]),jp 10 6 9,om 11 10,jA 12 11 2 1,jl 13 11 1 12,oT 14 11 (.call 77 [.s 13]),jp 15 11 14,om 16 15,jA 17 16 3 1,jl 18 16 1 17,oT 19 16 (.call 78 [.s 18,(.c (.bool true))]),jp 20 16 19,om 21 20,jA 22 21 4 1,jl 23 21 1 22,oT 24 21 (.call 78 [.s 23,jf]),jp 25 21 24,om 2 25]) [2] .ret)⟩
def tf69 : TFn := ⟨27,[.tmp 4],jq (jr [jv 4 jf]) [0,1] (jq (jq (jr [jw 5 0]) [0,1,5] (jk 0 (jq (jq (jr [om 6 5,om 7 0,jn 8 7,jB 9 .lss 6 8]) [0,1,5,9] (jC 9 .skip (.exit 0))) [0,1,5] (jq (.block 1 (jq (jr [om 12 0,om 13 5,jx 14 3 12 13,oL 15 3 14,om 16 1,jc 17 70 [.s 15,.s 16],oo 18 (.un .not (.s 17))]) [0,1,5,18] (jC 18 (jq (jr [jv 4 jf]) [4] .ret) .skip))) [0,1,5] (jr [om 10 5,jb 11 .add 10 1,om 5 11]))))) [0] (jq (jr [om 19 0,jn 20 19,jb 21 .gtr 20 0,om 22 21,jT 23 22 0,oT 24 22 (.len (.s 23)),jY 25 22 .leq 24 24,jp 26 22 25,om 4 26]) [4] .ret))⟩
def tf70 : TFn := ⟨19,[.tmp 4],jq (jr [jo 2 51 0,jv 4 jf]) [1,2] (jq (jr [oA 5 0 2,ol 6 1 5,jb 7 .gtr 6 0,om 8 7,jA 9 8 0 2,jl 10 8 1 9,jT 11 8 1,oT 12 8 (.bin .lss false (.s 10) (.s 11)),jp 13 8 12,om 14 13,jA 15 14 1 2,jL 16 14 2 15,oT 17 14 (.call 79 [.s 16]),jp 18 14 17,om 4 18]) [4] .ret)⟩
def tf71 : TFn := ⟨13,[.tmp 4],jq (jr [jw 4 0]) [0,1] (jq (.block 0 (jq (jr [om 6 0,om 7 1,jB 8 .lss 6 7,om 5 8]) [0,1,5] (jC 5 (jq (jr [oo 4 (.mov (.c (.int .i64 (-1))))]) [4] .ret) (jq (jr [om 10 0,om 11 1,jB 12 .gtr 10 11,om 9 12]) [9] (jC 9 (jq (jr [jw 4 1]) [4] .ret) .skip))))) [] (jq (jr [jw 4 0]) [4] .ret))⟩
def tf72 : TFn := ⟨52,[.tmp 4],jq (jr [jw 4 0]) [0,1] (jq (.block 0 (jq (jr [om 10 0,om 11 1,jB 12 .eql 10 11,om 9 12]) [0,1,9] (jC 9 (jq (jr [jw 4 0]) [4] .ret) (jq (jr [om 14 0,oo 15 (.bin .eql false (.s 14) (.c (.str []))),om 13 15]) [0,1,13] (jC 13 (jq (jr [jw 4 1]) [4] .ret) (jq (jr [om 17 1,oo 18 (.bin .eql false (.s 17) (.c (.str []))),om 16 18]) [0,1,16] (jC 16 (jq (jr [oo 4 (.mov (.c (.int .i64 (-1))))]) [4] .ret) .skip))))))) [0,1] (jq (jr [om 19 0,jc 20 80 [.s 19,(.c (.int .u8 46))],om 21 1,jc 22 80 [.s 21,(.c (.int .u8 46))],om 5 20,om 6 22]) [5,6] (jq (jq (jr [jw 7 0]) [5,6,7] (jk 1 (jq (jq (jr [om 23 7,om 24 5,jn 25 24,jB 26 .lss 23 25,om 27 26,jT 28 27 7,jT 29 27 6,oT 30 27 (.len (.s 29)),oT 31 27 (.bin .lss false (.s 28) (.s 30)),jp 32 27 31]) [5,6,7,32] (jC 32 .skip (.exit 1))) [5,6,7] (jq (.block 2 (jq (jR [om 35 5,om 36 7,jx 37 1 35 36,ol 38 1 37,om 39 6,om 40 7,jx 41 1 39 40,ol 42 1 41,jc 43 81 [.s 38,.s 42],om 8 43]) [5,6,7,8] (jq (jr [om 44 8,jb 45 .neq 44 0]) [5,6,7,8,45] (jC 45 (jq (jr [om 46 8,om 4 46]) [4] .ret) .skip)))) [5,6,7] (jr [om 33 7,jb 34 .add 33 1,om 7 34]))))) [5,6] (jq (jr [om 47 5,jn 48 47,om 49 6,jn 50 49,jc 51 71 [.s 48,.s 50],om 4 51]) [4] .ret))))⟩
def tf73 : TFn := ⟨20,[.tmp 4],jq (jr [jo 3 41 1,jv 4 jf]) [0,3] (jq (jq (jr [om 7 0,jc 8 76 [.s 7],oo 9 (.un .not (.s 8))]) [0,3,9] (jC 9 (jq (jr [jv 4 jf]) [4] .ret) .skip)) [0,3] (jq (jq (jr [om 10 0,jn 11 10,jw 12 0]) [3,10,11,12] (jk 0 (jq (jr [jB 13 .lss 12 11]) [3,10,11,12,13] (jq (jC 13 .skip (.exit 0)) [3,10,11,12] (jq (.block 1 (jq (jr [jx 14 14 10 12,oL 15 14 14,oo 6 (.alloc 93 [(.int .i64 0),(.int .i64 0),(.int .i64 0),(.int .i64 0),(.str []),(.str []),(.bool false),(.int .i64 0),(.int .i64 0),(.int .i64 0),(.int .i64 0),(.str []),(.str []),(.bool false)]),jS 14 6 15]) [3,6,10,11,12] (jq (jr [oL 16 14 6,oL 17 5 3,jc 18 82 [.s 16,.s 17]]) [3,10,11,12,18] (jC 18 (jq (jr [oo 4 (.mov (.c (.bool true)))]) [4] .ret) .skip)))) [3,10,11,12] (jr [jb 19 .add 12 1,om 12 19])))))) [] (jq (jr [jv 4 jf]) [4] .ret)))⟩
def tf74 : TFn := ⟨24,[.tmp 4],jq (jr [jo 2 48 0,jo 3 41 1,jv 4 jf]) [2,3] (jq (jq (jr [oL 5 2 2,jc 6 79 [.s 5],oo 7 (.un .not (.s 6)),om 8 7,jM 9 8 5 3,oF 10 8 (.call 68 [.s 9]),oF 11 8 (.un .not (.s 10)),oo 12 (.pick (.s 8) (.c (.bool true)) (.s 11))]) [2,3,12] (jC 12 (jq (jr [jv 4 jf]) [4] .ret) .skip)) [2,3] (jq (jq (jr [oA 13 3 3,ol 14 1 13,oo 15 (.bin .eql false (.s 14) (.c (.str [])))]) [2,3,15] (jC 15 (jq (jr [oA 16 0 2,ol 17 1 16,oL 18 5 3,jc 19 83 [.s 17,.s 18],om 4 19]) [4] .ret) .skip)) [2,3] (jq (jr [oA 20 1 2,ol 21 1 20,oL 22 5 3,jc 23 83 [.s 21,.s 22],om 4 23]) [4] .ret)))⟩
def tf75 : TFn := ⟨23,[.tmp 2],jq (jr [jo 1 90 0,jv 2 jf]) [1,900000] (jq (jr [oA 3 0 1,ol 4 1 3,jb 5 .neq 4 0,om 6 5,ja 7 6 6 1,jm 8 6 1 7,oF 9 6 (.un .not (.s 8)),jF 10 6 9,jA 11 10 1 1,jA 12 10 3 11,jl 13 10 1 12,oT 14 10 (.bin .eql false (.s 13) (.c (.str []))),oF 15 6 (.pick (.s 10) (.s 14) jf),jF 16 6 15,jA 17 16 1 1,jL 18 16 5 17,jL 19 16 5 900000,oT 20 16 (.eqs true [0,0,0,2,2] (.s 18) (.s 19)),oF 21 6 (.pick (.s 16) (.s 20) jf),oo 22 (.pick (.s 6) (.c (.bool true)) (.s 21)),om 2 22]) [2] .ret)⟩
def tf76 : TFn := ⟨32,[.tmp 2],jq (jr [jv 2 jf]) [0] (jq (jq (jr [om 5 0,jn 6 5,jw 7 0]) [0,5,6,7] (jk 0 (jq (jr [jB 8 .lss 7 6]) [0,5,6,7,8] (jq (jC 8 .skip (.exit 0)) [0,5,6,7] (jq (.block 1 (jq (jr [om 9 7,jx 10 14 5 7,oL 11 14 10,oo 4 (.alloc 93 [(.int .i64 0),(.int .i64 0),(.int .i64 0),(.int .i64 0),(.str []),(.str []),(.bool false),(.int .i64 0),(.int .i64 0),(.int .i64 0),(.int .i64 0),(.str []),(.str []),(.bool false)]),om 3 9,jS 14 4 11]) [0,3,4,5,6,7] (jq (jR [oL 12 14 4,jc 13 84 [.s 12],oo 14 (.un .not (.s 13)),om 15 14,jF 16 15 3,jy 17 15 .gtr 16 0,jF 18 15 17,jT 19 18 0,jT 20 18 3,jY 21 18 .sub 20 1,oT 22 18 (.indexAddr 14 (.s 19) (.s 21)),jA 23 18 7 22,jL 24 18 7 23,jA 25 18 0 4,jL 26 18 7 25,oT 27 18 (.call 85 [.s 24,.s 26]),jY 28 18 .geq 27 0,oF 29 15 (.pick (.s 18) (.s 28) jf),oo 30 (.pick (.s 15) (.c (.bool true)) (.s 29))]) [0,5,6,7,30] (jC 30 (jq (jr [jv 2 jf]) [2] .ret) .skip)))) [0,5,6,7] (jr [jb 31 .add 7 1,om 7 31])))))) [] (jq (jr [oo 2 (.mov (.c (.bool true)))]) [2] .ret))⟩
def tf77 : TFn := ⟨9,[.tmp 2],jq (jr [jv 2 jf]) [0] (jq (jr [om 3 0,jb 4 .geq 3 0,om 5 4,jT 6 5 0,jY 7 5 .leq 6 9999,jp 8 5 7,om 2 8]) [2] .ret)⟩
def tf78 : TFn := ⟨48,[.tmp 4],jq (jr [jv 4 jf]) [0,1] (jq (jq (jr [om 9 0,oo 10 (.bin .eql false (.s 9) (.c (.str [])))]) [0,1,10] (jC 10 (jq (jr [oo 4 (.mov (.c (.bool true)))]) [4] .ret) .skip)) [0,1] (jq (jr [om 11 0,jc 12 80 [.s 11,(.c (.int .u8 46))],om 5 12]) [1,5] (jq (jq (jr [om 13 5,jn 14 13,jb 15 .gtr 14 4]) [1,5,15] (jC 15 (jq (jr [jv 4 jf]) [4] .ret) .skip)) [1,5] (jq (jq (jr [jw 6 0]) [1,5,6] (jk 0 (jq (jq (jr [om 16 6,om 17 5,jn 18 17,jB 19 .lss 16 18]) [1,5,6,19] (jC 19 .skip (.exit 0))) [1,5,6] (jq (.block 1 (jq (jq (jr [om 22 5,om 23 6,jx 24 1 22 23,ol 25 1 24,jc 26 86 [.s 25],oo 27 (.un .not (.s 26))]) [1,5,6,27] (jC 27 (jq (jr [jv 4 jf]) [4] .ret) .skip)) [1,5,6] (jq (jr [om 29 5,om 30 6,jx 31 1 29 30,ol 32 1 31,jc 33 87 [.s 32],om 28 33,oe 34 0 28,oe 35 1 28,om 7 34,om 8 35]) [1,5,6,8] (jq (jr [om 36 1,om 37 36,jT 38 37 5,jT 39 37 6,oT 40 37 (.indexAddr 1 (.s 38) (.s 39)),jl 41 37 1 40,oT 42 37 (.call 88 [.s 41]),jp 43 37 42,om 44 43,jT 45 44 8,oT 46 44 (.un .not (.s 45)),jp 47 44 46]) [1,5,6,47] (jC 47 (jq (jr [jv 4 jf]) [4] .ret) .skip))))) [1,5,6] (jr [om 20 6,jb 21 .add 20 1,om 6 21]))))) [] (jq (jr [oo 4 (.mov (.c (.bool true)))]) [4] .ret)))))⟩
def tf79 : TFn := ⟨39,[.tmp 2],jq (jr [jo 1 48 0,jv 2 jf]) [1] (jq (jq (jr [oA 4 0 1,ol 5 1 4,jc 6 89 [.s 5],oo 7 (.un .not (.s 6)),om 8 7,ja 9 8 1 1,jm 10 8 1 9,oF 11 8 (.call 89 [.s 10]),oF 12 8 (.un .not (.s 11)),oo 13 (.pick (.s 8) (.c (.bool true)) (.s 12))]) [1,13] (jC 13 (jq (jr [jv 2 jf]) [2] .ret) .skip)) [1] (jq (jq (jr [jw 3 0]) [1,3] (jk 0 (jq (jq (jr [om 14 3,oA 15 0 1,ol 16 1 15,jn 17 16,jB 18 .lss 14 17]) [1,3,18] (jC 18 .skip (.exit 0))) [1,3] (jq (.block 1 (jq (jr [oA 21 0 1,ol 22 1 21,om 23 3,jx 24 14 22 23,oA 25 0 24,oL 26 7 25,jc 27 90 [.s 26],oo 28 (.un .not (.s 27)),om 29 28,ja 30 29 0 1,jm 31 29 1 30,jF 32 29 3,oF 33 29 (.indexAddr 14 (.s 31) (.s 32)),ja 34 29 7 33,jM 35 29 7 34,oF 36 29 (.call 90 [.s 35]),oF 37 29 (.un .not (.s 36)),oo 38 (.pick (.s 29) (.c (.bool true)) (.s 37))]) [1,3,38] (jC 38 (jq (jr [jv 2 jf]) [2] .ret) .skip))) [1,3] (jr [om 19 3,jb 20 .add 19 1,om 3 20]))))) [] (jq (jr [oo 2 (.mov (.c (.bool true)))]) [2] .ret)))⟩
def tf80 : TFn := ⟨34,[.tmp 4],jq (jr [jv 4 je]) [0,1] (jq (jr [jv 5 je]) [0,1,5] (jq (jr [jw 6 0]) [0,1,5,6] (jq (jq (jr [jw 7 0]) [0,1,5,6,7] (jk 0 (jq (jq (jr [om 8 7,om 9 0,oo 10 (.lenStr (.s 9)),jB 11 .lss 8 10]) [0,1,5,6,7,11] (jC 11 .skip (.exit 0))) [0,1,5,6,7] (jq (.block 1 (jq (jr [om 14 0,om 15 7,oo 16 (.indexStr (.s 14) (.s 15)),om 17 1,jB 18 .eql 16 17]) [0,1,5,6,7,18] (jC 18 (jq (jr [om 19 5,om 20 0,om 21 6,om 22 7,oo 23 (.sliceStr (.s 20) (some (.s 21)) (some (.s 22))),oo 24 (.buildSlice 1 9 [.s 23]),oo 25 (.append 1 9 16 (.s 19) (.s 24)),om 5 25]) [0,1,5,7] (jr [om 26 7,jb 27 .add 26 1,om 6 27])) .skip))) [0,1,5,6,7] (jr [om 12 7,jb 13 .add 12 1,om 7 13]))))) [0,5,6] (jq (jr [om 28 5,om 29 0,om 30 6,oo 31 (.sliceStr (.s 29) (some (.s 30)) none),oo 32 (.buildSlice 1 9 [.s 31]),oo 33 (.append 1 9 16 (.s 28) (.s 32)),om 4 33]) [4] .ret))))⟩
def tf81 : TFn := ⟨40,[.tmp 4],jq (jr [jw 4 0]) [0,1] (jq (jr [om 11 0,jc 12 88 [.s 11],om 13 1,jc 14 88 [.s 13],om 5 12,om 6 14]) [0,1,5,6] (jq (.block 0 (jq (jr [om 16 5,om 17 16,jT 18 17 6,jp 19 17 18,om 15 19]) [0,1,5,6,15] (jC 15 (jq (jr [om 21 0,jc 22 87 [.s 21],om 20 22,oe 23 0 20,oe 24 1 20,om 7 23,om 8 24]) [1,7] (jq (jr [om 26 1,jc 27 87 [.s 26],om 25 27,oe 28 0 25,oe 29 1 25,om 9 28,om 10 29]) [7,9] (jq (jr [om 30 7,om 31 9,jc 32 71 [.s 30,.s 31],om 4 32]) [4] .ret))) (jq (jr [om 34 5,om 33 34]) [0,1,6,33] (jC 33 (jq (jr [oo 4 (.mov (.c (.int .i64 (-1))))]) [4] .ret) (jq (jr [om 36 6,om 35 36]) [0,1,35] (jC 35 (jq (jr [jw 4 1]) [4] .ret) .skip))))))) [0,1] (jq (jr [om 37 0,om 38 1,jc 39 91 [.s 37,.s 38],om 4 39]) [4] .ret)))⟩
def tf82 : TFn := ⟨24,[.tmp 4],jq (jr [jo 2 93 0,jo 3 41 1,jv 4 jf]) [2,3] (jq (jr [oL 5 14 2,jc 6 84 [.s 5],om 7 6,jL 8 7 5 3,oT 9 7 (.call 28 [.s 8]),jp 10 7 9,om 11 10,jA 12 11 0 2,jL 13 11 7 12,jL 14 11 5 3,oT 15 11 (.call 92 [.s 13,.s 14]),jp 16 11 15,om 17 16,jA 18 17 7 2,jL 19 17 7 18,jL 20 17 5 3,oT 21 17 (.call 92 [.s 19,.s 20]),oT 22 17 (.un .not (.s 21)),jp 23 17 22,om 4 23]) [4] .ret)⟩
def tf83 : TFn := ⟨22,[.tmp 4],jq (jr [jo 3 41 1,jv 4 jf]) [0,3] (jq (jq (jr [jw 5 0]) [0,3,5] (jk 0 (jq (jq (jr [om 6 5,om 7 0,jn 8 7,jB 9 .lss 6 8,om 10 9,jT 11 10 0,oT 12 10 (.call 89 [.s 11]),jp 13 10 12]) [0,3,5,13] (jC 13 .skip (.exit 0))) [0,3,5] (jq (.block 1 (jq (jR [om 16 0,om 17 5,jx 18 14 16 17,oL 19 14 18,oL 20 5 3,jc 21 93 [.s 19,.s 20]]) [0,3,5,21] (jC 21 (jq (jr [oo 4 (.mov (.c (.bool true)))]) [4] .ret) .skip))) [0,3,5] (jr [om 14 5,jb 15 .add 14 1,om 5 15]))))) [] (jq (jr [jv 4 jf]) [4] .ret))⟩
def tf84 : TFn := ⟨19,[.tmp 2],jq (jr [jo 1 93 0,jv 2 jf]) [1] (jq (jr [oA 3 0 1,oL 4 7 3,jc 5 94 [.s 4],om 6 5,jA 7 6 7 1,jL 8 6 7 7,oT 9 6 (.call 94 [.s 8]),jp 10 6 9,om 11 10,jA 12 11 0 1,jL 13 11 7 12,jA 14 11 7 1,jL 15 11 7 14,oT 16 11 (.call 85 [.s 13,.s 15]),jY 17 11 .lss 16 0,jp 18 11 17,om 2 18]) [2] .ret)⟩
def tf85 : TFn := ⟨42,[.tmp 4],jq (jr [jo 2 90 0,jo 3 90 1,jw 4 0]) [2,3] (jq (jq (jr [oL 6 7 2,jc 7 94 [.s 6],oo 8 (.un .not (.s 7)),om 9 8,jM 10 9 7 3,oF 11 9 (.call 94 [.s 10]),oF 12 9 (.un .not (.s 11)),oo 13 (.pick (.s 9) (.c (.bool true)) (.s 12))]) [2,3,13] (jC 13 (jq (jr [jw 4 0]) [4] .ret) (jq (jr [oA 14 0 2,ol 15 1 14,jb 16 .neq 15 0,om 17 16,ja 18 17 0 3,jm 19 17 1 18,jy 20 17 .neq 19 0,oo 21 (.pick (.s 17) (.c (.bool true)) (.s 20))]) [2,3,21] (jC 21 (jq (jr [oA 22 0 2,ol 23 1 22,oA 24 0 3,ol 25 1 24,jc 26 49 [.s 23,.s 25],om 4 26]) [4] .ret) (jq (jr [oA 27 1 2,oL 28 5 27,oA 29 1 3,oL 30 5 29,jc 31 29 [.s 28,.s 30],om 5 31]) [2,3,5] (jq (jr [om 32 5,jb 33 .neq 32 0]) [2,3,5,33] (jC 33 (jq (jr [om 34 5,om 4 34]) [4] .ret) (jq (jr [oA 35 6 2,ol 36 1 35,oA 37 6 3,ol 38 1 37,oo 39 (.bin .eql true (.s 36) (.s 38))]) [3,39] (jC 39 (jq (jr [jw 4 0]) [4] .ret) (jq (jr [oA 40 6 3,ol 41 1 40]) [41] (jC 41 (jq (jr [oo 4 (.mov (.c (.int .i64 (-1))))]) [4] .ret) .skip))))))))))) [] (jq (jr [jw 4 1]) [4] .ret))⟩
def tf86 : TFn := ⟨40,[.tmp 2],jq (jr [jv 2 jf]) [0] (jq (jq (jr [om 5 0,oo 6 (.lenStr (.s 5)),jb 7 .lss 6 1,om 8 7,jF 9 8 0,oF 10 8 (.lenStr (.s 9)),jy 11 8 .gtr 10 8,oo 12 (.pick (.s 8) (.c (.bool true)) (.s 11))]) [0,12] (jC 12 (jq (jr [jv 2 jf]) [2] .ret) .skip)) [0] (jq (jq (jr [jw 3 0]) [0,3] (jk 0 (jq (jq (jr [om 13 3,om 14 0,oo 15 (.lenStr (.s 14)),jB 16 .lss 13 15]) [0,3,16] (jC 16 .skip (.exit 0))) [0,3] (jq (.block 1 (jq (jr [om 19 0,om 20 3,oo 21 (.indexStr (.s 19) (.s 20)),om 4 21]) [0,3,4] (jq (jr [om 22 4,oo 23 (.bin .lss false (.s 22) (.c (.int .u8 97))),om 24 23,jF 25 24 4,oF 26 24 (.bin .gtr false (.s 25) (.c (.int .u8 122))),oo 27 (.pick (.s 24) (.c (.bool true)) (.s 26)),om 28 27,jT 29 28 4,oT 30 28 (.bin .lss false (.s 29) (.c (.int .u8 48))),jT 31 28 30,jF 32 31 4,oF 33 31 (.bin .gtr false (.s 32) (.c (.int .u8 57))),oT 34 28 (.pick (.s 31) (.c (.bool true)) (.s 33)),jp 35 28 34,om 36 35,jT 37 36 4,oT 38 36 (.bin .neq false (.s 37) (.c (.int .u8 45))),jp 39 36 38]) [0,3,39] (jC 39 (jq (jr [jv 2 jf]) [2] .ret) .skip)))) [0,3] (jr [om 17 3,jb 18 .add 17 1,om 3 18]))))) [] (jq (jr [oo 2 (.mov (.c (.bool true)))]) [2] .ret)))⟩
def tf87 : TFn := ⟨46,[.tmp 2,.tmp 3],jq (jr [jw 2 0,jv 3 jf]) [0] (jq (jq (jr [om 6 0,oo 7 (.lenStr (.s 6)),jb 8 .lss 7 1,om 9 8,jF 10 9 0,oF 11 9 (.lenStr (.s 10)),jy 12 9 .gtr 11 9,oo 13 (.pick (.s 9) (.c (.bool true)) (.s 12)),om 14 13,jF 15 14 0,oF 16 14 (.lenStr (.s 15)),jy 17 14 .gtr 16 1,jF 18 14 17,jT 19 18 0,oT 20 18 (.indexStr (.s 19) (jI 0)),oT 21 18 (.bin .eql false (.s 20) (.c (.int .u8 48))),oF 22 14 (.pick (.s 18) (.s 21) jf),oo 23 (.pick (.s 14) (.c (.bool true)) (.s 22))]) [0,23] (jC 23 (jq (jr [jw 2 0,jv 3 jf]) [2,3] .ret) .skip)) [0] (jq (jr [jw 4 0]) [0,4] (jq (jq (jr [jw 5 0]) [0,4,5] (jk 0 (jq (jq (jr [om 24 5,om 25 0,oo 26 (.lenStr (.s 25)),jB 27 .lss 24 26]) [0,4,5,27] (jC 27 .skip (.exit 0))) [0,4,5] (jq (.block 1 (jq (jq (jr [om 30 0,om 31 5,oo 32 (.indexStr (.s 30) (.s 31)),jc 33 95 [.s 32],oo 34 (.un .not (.s 33))]) [0,4,5,34] (jC 34 (jq (jr [jw 2 0,jv 3 jf]) [2,3] .ret) .skip)) [0,4,5] (jr [om 35 4,jb 36 .mul 35 10,om 37 0,om 38 5,oo 39 (.indexStr (.s 37) (.s 38)),oo 40 (.bin .sub false (.s 39) (.c (.int .u8 48))),oo 41 (.conv .i64 (.s 40)),jB 42 .add 36 41,om 4 42]))) [0,4,5] (jr [om 28 5,jb 29 .add 28 1,om 5 29]))))) [4] (jq (jq (jr [om 43 4,jb 44 .gtr 43 9999]) [4,44] (jC 44 (jq (jr [jw 2 0,jv 3 jf]) [2,3] .ret) .skip)) [4] (jq (jr [om 45 4,om 2 45,oo 3 (.mov (.c (.bool true)))]) [2,3] .ret)))))⟩
def tf88 : TFn := ⟨23,[.tmp 2],jq (jr [jv 2 jf]) [0] (jq (jq (jr [jw 3 0]) [0,3] (jk 0 (jq (jq (jr [om 4 3,om 5 0,oo 6 (.lenStr (.s 5)),jB 7 .lss 4 6]) [0,3,7] (jC 7 .skip (.exit 0))) [0,3] (jq (.block 1 (jq (jr [om 10 0,om 11 3,oo 12 (.indexStr (.s 10) (.s 11)),oo 13 (.bin .lss false (.s 12) (.c (.int .u8 48))),om 14 13,jF 15 14 0,jF 16 14 3,oF 17 14 (.indexStr (.s 15) (.s 16)),oF 18 14 (.bin .gtr false (.s 17) (.c (.int .u8 57))),oo 19 (.pick (.s 14) (.c (.bool true)) (.s 18))]) [0,3,19] (jC 19 (jq (jr [jv 2 jf]) [2] .ret) .skip))) [0,3] (jr [om 8 3,jb 9 .add 8 1,om 3 9]))))) [0] (jq (jr [om 20 0,oo 21 (.lenStr (.s 20)),jb 22 .gtr 21 0,om 2 22]) [2] .ret))⟩
def tf89 : TFn := ⟨35,[.tmp 2],jq (jr [jv 2 jf]) [0] (jq (jq (jr [jw 3 0]) [0,3] (jk 0 (jq (jq (jr [om 4 3,om 5 0,jn 6 5,jB 7 .lss 4 6]) [0,3,7] (jC 7 .skip (.exit 0))) [0,3] (jq (.block 1 (jq (jR [om 10 0,om 11 3,jx 12 14 10 11,oL 13 14 12,jc 14 96 [.s 13],oo 15 (.un .not (.s 14)),om 16 15,jF 17 16 3,jy 18 16 .gtr 17 0,jF 19 16 18,jT 20 19 0,jT 21 19 3,jY 22 19 .sub 21 1,oT 23 19 (.indexAddr 14 (.s 20) (.s 22)),jA 24 19 7 23,jL 25 19 7 24,jT 26 19 0,jT 27 19 3,oT 28 19 (.indexAddr 14 (.s 26) (.s 27)),jA 29 19 0 28,jL 30 19 7 29,oT 31 19 (.call 97 [.s 25,.s 30]),jY 32 19 .geq 31 0,oF 33 16 (.pick (.s 19) (.s 32) jf),oo 34 (.pick (.s 16) (.c (.bool true)) (.s 33))]) [0,3,34] (jC 34 (jq (jr [jv 2 jf]) [2] .ret) .skip))) [0,3] (jr [om 8 3,jb 9 .add 8 1,om 3 9]))))) [] (jq (jr [oo 2 (.mov (.c (.bool true)))]) [2] .ret))⟩
def tf90 : TFn := ⟨23,[.tmp 2],jq (jr [jo 1 90 0,jv 2 jf]) [1] (jq (jr [oA 3 0 1,ol 4 1 3,jb 5 .neq 4 0,om 6 5,ja 7 6 6 1,jm 8 6 1 7,oF 9 6 (.un .not (.s 8)),jF 10 6 9,jA 11 10 1 1,jA 12 10 3 11,jl 13 10 1 12,oT 14 10 (.bin .eql false (.s 13) (.c (.str []))),oF 15 6 (.pick (.s 10) (.s 14) jf),jF 16 6 15,jA 17 16 1 1,jL 18 16 5 17,oT 19 16 (.call 98 [.s 18]),oT 20 16 (.un .not (.s 19)),oF 21 6 (.pick (.s 16) (.s 20) jf),oo 22 (.pick (.s 6) (.c (.bool true)) (.s 21)),om 2 22]) [2] .ret)⟩
def tf91 : TFn := ⟨13,[.tmp 4],jq (jr [jw 4 0]) [0,1] (jq (.block 0 (jq (jr [om 6 0,om 7 1,jB 8 .lss 6 7,om 5 8]) [0,1,5] (jC 5 (jq (jr [oo 4 (.mov (.c (.int .i64 (-1))))]) [4] .ret) (jq (jr [om 10 0,om 11 1,jB 12 .gtr 10 11,om 9 12]) [9] (jC 9 (jq (jr [jw 4 1]) [4] .ret) .skip))))) [] (jq (jr [jw 4 0]) [4] .ret))⟩
def tf92 : TFn := ⟨35,[.tmp 4],jq (jr [jo 2 90 0,jo 3 41 1,jv 4 jf]) [2,3] (jq (jq (jr [oL 6 7 2,jc 7 94 [.s 6],oo 8 (.un .not (.s 7)),om 9 8,jM 10 9 5 3,oF 11 9 (.call 28 [.s 10]),oF 12 9 (.un .not (.s 11)),oo 13 (.pick (.s 9) (.c (.bool true)) (.s 12))]) [2,3,13] (jC 13 (jq (jr [jv 4 jf]) [4] .ret) (jq (jr [oA 14 0 2,ol 15 1 14,jb 16 .neq 15 0]) [2,3,16] (jC 16 (jq (jr [oA 17 0 2,ol 18 1 17,jb 19 .lss 18 0,om 4 19]) [4] .ret) .skip)))) [2,3] (jq (jr [oA 20 1 2,oL 21 5 20,oL 22 5 3,jc 23 29 [.s 21,.s 22],om 5 23]) [2,5] (jq (jr [om 24 5,jb 25 .lss 24 0,om 26 25,jF 27 26 5,jy 28 26 .eql 27 0,jF 29 26 28,jA 30 29 6 2,jl 31 29 1 30,oT 32 29 (.un .not (.s 31)),oF 33 26 (.pick (.s 29) (.s 32) jf),oo 34 (.pick (.s 26) (.c (.bool true)) (.s 33)),om 4 34]) [4] .ret)))⟩
def tf93 : TFn := ⟨24,[.tmp 4],jq (jr [jo 2 93 0,jo 3 41 1,jv 4 jf]) [2,3] (jq (jr [oL 5 14 2,jc 6 96 [.s 5],om 7 6,jL 8 7 5 3,oT 9 7 (.call 68 [.s 8]),jp 10 7 9,om 11 10,jA 12 11 0 2,jL 13 11 7 12,jL 14 11 5 3,oT 15 11 (.call 99 [.s 13,.s 14]),jp 16 11 15,om 17 16,jA 18 17 7 2,jL 19 17 7 18,jL 20 17 5 3,oT 21 17 (.call 99 [.s 19,.s 20]),oT 22 17 (.un .not (.s 21)),jp 23 17 22,om 4 23]) [4] .ret)⟩
def tf94 : TFn := ⟨32,[.tmp 2],jq (jr [jo 1 90 0,jv 2 jf]) [1] (jq (jq (jr [oA 3 0 1,ol 4 1 3,oo 5 (.bin .eql false (.s 4) (.c (.int .i64 (-1)))),om 6 5,ja 7 6 0 1,jm 8 6 1 7,jy 9 6 .eql 8 1,oo 10 (.pick (.s 6) (.c (.bool true)) (.s 9))]) [1,10] (jC 10 (jq (jr [oA 11 1 1,oL 12 5 11,oo 13 (.build [(.int .i64 0),(.int .i64 0),(.int .i64 0),(.str []),(.str [])] []),oo 14 (.eqs false [0,0,0,2,2] (.s 12) (.s 13)),om 15 14,jA 16 15 6 1,jl 17 15 1 16,oT 18 15 (.un .not (.s 17)),jp 19 15 18,om 2 19]) [2] .ret) (jq (jr [oA 20 0 1,ol 21 1 20,jb 22 .neq 21 0]) [1,22] (jC 22 (jq (jr [jv 2 jf]) [2] .ret) .skip)))) [1] (jq (jr [oA 23 1 1,oL 24 5 23,jc 25 28 [.s 24],om 26 25,jA 27 26 1 1,jA 28 26 4 27,jl 29 26 1 28,oT 30 26 (.bin .eql false (.s 29) (.c (.str []))),jp 31 26 30,om 2 31]) [2] .ret))⟩
def tf95 : TFn := ⟨9,[.tmp 2],jq (jr [jv 2 jf]) [0] (jq (jr [om 3 0,oo 4 (.bin .geq false (.s 3) (.c (.int .u8 48))),om 5 4,jT 6 5 0,oT 7 5 (.bin .leq false (.s 6) (.c (.int .u8 57))),jp 8 5 7,om 2 8]) [2] .ret)⟩
def tf96 : TFn := ⟨19,[.tmp 2],jq (jr [jo 1 93 0,jv 2 jf]) [1] (jq (jr [oA 3 0 1,oL 4 7 3,jc 5 100 [.s 4],om 6 5,jA 7 6 7 1,jL 8 6 7 7,oT 9 6 (.call 100 [.s 8]),jp 10 6 9,om 11 10,jA 12 11 0 1,jL 13 11 7 12,jA 14 11 7 1,jL 15 11 7 14,oT 16 11 (.call 97 [.s 13,.s 15]),jY 17 11 .lss 16 0,jp 18 11 17,om 2 18]) [2] .ret)⟩
def tf97 : TFn := ⟨46,[.tmp 4],jq (jr [jo 2 90 0,jo 3 90 1,jw 4 0]) [2,3] (jq (jq (jr [oL 6 7 2,jc 7 100 [.s 6],oo 8 (.un .not (.s 7)),om 9 8,jM 10 9 7 3,oF 11 9 (.call 100 [.s 10]),oF 12 9 (.un .not (.s 11)),oo 13 (.pick (.s 9) (.c (.bool true)) (.s 12))]) [2,3,13] (jC 13 (jq (jr [jw 4 0]) [4] .ret) .skip)) [2,3] (jq (jq (jr [oA 14 0 2,ol 15 1 14,oA 16 0 3,ol 17 1 16,jB 18 .neq 15 17,om 19 18,ja 20 19 0 2,jm 21 19 1 20,jy 22 19 .neq 21 0,oo 23 (.pick (.s 19) (.c (.bool true)) (.s 22))]) [2,3,23] (jC 23 (jq (jr [oA 24 0 2,ol 25 1 24,oA 26 0 3,ol 27 1 26,jc 28 71 [.s 25,.s 27],om 4 28]) [4] .ret) .skip)) [2,3] (jq (jq (jr [oA 29 1 2,oL 30 5 29,oA 31 1 3,oL 32 5 31,jc 33 55 [.s 30,.s 32],om 5 33]) [2,3,5] (jq (jr [om 34 5,jb 35 .neq 34 0]) [2,3,5,35] (jC 35 (jq (jr [om 36 5,om 4 36]) [4] .ret) .skip))) [2,3] (jq (.block 0 (jq (jr [oA 38 6 2,ol 39 1 38,oA 40 6 3,ol 41 1 40,oo 42 (.bin .eql true (.s 39) (.s 41)),om 37 42]) [3,37] (jC 37 (jq (jr [jw 4 0]) [4] .ret) (jq (jr [oA 44 6 3,ol 45 1 44,om 43 45]) [43] (jC 43 (jq (jr [oo 4 (.mov (.c (.int .i64 (-1))))]) [4] .ret) .skip))))) [] (jq (jr [jw 4 1]) [4] .ret)))))⟩
def tf98 : TFn := ⟨16,[.tmp 2],jq (jr [jo 1 41 0,jv 2 jf]) [1] (jq (jr [oA 3 0 1,ol 4 1 3,jb 5 .eql 4 0,om 6 5,jA 7 6 1 1,jl 8 6 1 7,jY 9 6 .eql 8 0,jp 10 6 9,om 11 10,jA 12 11 2 1,jl 13 11 1 12,jY 14 11 .eql 13 0,jp 15 11 14,om 2 15]) [2] .ret)⟩
def tf99 : TFn := ⟨35,[.tmp 4],jq (jr [jo 2 90 0,jo 3 41 1,jv 4 jf]) [2,3] (jq (jq (jr [oL 6 7 2,jc 7 100 [.s 6],oo 8 (.un .not (.s 7)),om 9 8,jM 10 9 5 3,oF 11 9 (.call 68 [.s 10]),oF 12 9 (.un .not (.s 11)),oo 13 (.pick (.s 9) (.c (.bool true)) (.s 12))]) [2,3,13] (jC 13 (jq (jr [jv 4 jf]) [4] .ret) .skip)) [2,3] (jq (jq (jr [oA 14 0 2,ol 15 1 14,jb 16 .neq 15 0]) [2,3,16] (jC 16 (jq (jr [oA 17 0 2,ol 18 1 17,jb 19 .lss 18 0,om 4 19]) [4] .ret) .skip)) [2,3] (jq (jr [oA 20 1 2,oL 21 5 20,oL 22 5 3,jc 23 55 [.s 21,.s 22],om 5 23]) [2,5] (jq (jr [om 24 5,jb 25 .lss 24 0,om 26 25,jF 27 26 5,jy 28 26 .eql 27 0,jF 29 26 28,jA 30 29 6 2,jl 31 29 1 30,oT 32 29 (.un .not (.s 31)),oF 33 26 (.pick (.s 29) (.s 32) jf),oo 34 (.pick (.s 26) (.c (.bool true)) (.s 33)),om 4 34]) [4] .ret))))⟩
def tf100 : TFn := ⟨34,[.tmp 2],jq (jr [jo 1 90 0,jv 2 jf]) [1] (jq (jq (jr [oA 3 0 1,ol 4 1 3,jb 5 .eql 4 0]) [1,5] (jC 5 (jq (jr [oA 6 1 1,oL 7 5 6,jc 8 68 [.s 7],om 9 8,jA 10 9 1 1,jA 11 9 4 10,jl 12 9 1 11,oT 13 9 (.bin .eql false (.s 12) (.c (.str []))),jp 14 9 13,om 2 14]) [2] .ret) .skip)) [1] (jq (jr [oA 15 0 1,ol 16 1 15,oo 17 (.bin .eql false (.s 16) (.c (.int .i64 (-1)))),om 18 17,ja 19 18 0 1,jm 20 18 1 19,jy 21 18 .eql 20 1,oo 22 (.pick (.s 18) (.c (.bool true)) (.s 21)),om 23 22,jA 24 23 1 1,jL 25 23 5 24,oT 26 23 (.build [(.int .i64 0),(.int .i64 0),(.int .i64 0),(.str []),(.str [])] []),oT 27 23 (.eqs false [0,0,0,2,2] (.s 25) (.s 26)),jp 28 23 27,om 29 28,jA 30 29 6 1,jl 31 29 1 30,oT 32 29 (.un .not (.s 31)),jp 33 29 32,om 2 33]) [2] .ret))⟩
theorem tp4 : QQ Tryd.prog Tryd.f4 = some tf4.erase := by kernel_rfl
theorem tp5 : QQ Tryd.prog Tryd.f5 = some tf5.erase := by kernel_rfl
theorem tp6 : QQ Tryd.prog Tryd.f6 = some tf6.erase := by kernel_rfl
theorem tp7 : QQ Tryd.prog Tryd.f7 = some tf7.erase := by kernel_rfl
theorem tp8 : QQ Tryd.prog Tryd.f8 = some tf8.erase := by kernel_rfl
theorem tp9 : QQ Tryd.prog Tryd.f9 = some tf9.erase := by kernel_rfl
theorem QfS : QQ Tryd.prog Tryd.f10 = some tf10.erase := by kernel_rfl
theorem QfT : QQ Tryd.prog Tryd.f11 = some tf11.erase := by kernel_rfl
theorem Qge : QQ Tryd.prog Tryd.f12 = some tf12.erase := by kernel_rfl
theorem Qgf : QQ Tryd.prog Tryd.f13 = some tf13.erase := by kernel_rfl
theorem Qgg : QQ Tryd.prog Tryd.f14 = some tf14.erase := by kernel_rfl
theorem Qgh : QQ Tryd.prog Tryd.f15 = some tf15.erase := by kernel_rfl
theorem Qgi : QQ Tryd.prog Tryd.f16 = some tf16.erase := by kernel_rfl
theorem Qgj : QQ Tryd.prog Tryd.f17 = some tf17.erase := by kernel_rfl
theorem Qgk : QQ Tryd.prog Tryd.f18 = some tf18.erase := by kernel_rfl
theorem QfU : QQ Tryd.prog Tryd.f19 = some tf19.erase := by kernel_rfl
theorem QfD : QQ Tryd.prog Tryd.f20 = some tf20.erase := by kernel_rfl
theorem Qgl : QQ Tryd.prog Tryd.f21 = some tf21.erase := by kernel_rfl
theorem Qgm : QQ Tryd.prog Tryd.f22 = some tf22.erase := by kernel_rfl
theorem Qgn : QQ Tryd.prog Tryd.f23 = some tf23.erase := by kernel_rfl
theorem Qgo : QQ Tryd.prog Tryd.f24 = some tf24.erase := by kernel_rfl
theorem Qgp : QQ Tryd.prog Tryd.f25 = some tf25.erase := by kernel_rfl
theorem Qgq : QQ Tryd.prog Tryd.f26 = some tf26.erase := by kernel_rfl
theorem Qgr : QQ Tryd.prog Tryd.f27 = some tf27.erase := by kernel_rfl
theorem Qgs : QQ Tryd.prog Tryd.f28 = some tf28.erase := by kernel_rfl
theorem Qgt : QQ Tryd.prog Tryd.f29 = some tf29.erase := by kernel_rfl
theorem Qgu : QQ Tryd.prog Tryd.f30 = some tf30.erase := by kernel_rfl
theorem Qgv : QQ Tryd.prog Tryd.f31 = some tf31.erase := by kernel_rfl
theorem Qgw : QQ Tryd.prog Tryd.f32 = some tf32.erase := by kernel_rfl
theorem Qgx : QQ Tryd.prog Tryd.f33 = some tf33.erase := by kernel_rfl
theorem Qgy : QQ Tryd.prog Tryd.f34 = some tf34.erase := by kernel_rfl
theorem Qgz : QQ Tryd.prog Tryd.f35 = some tf35.erase := by kernel_rfl
theorem QgA : QQ Tryd.prog Tryd.f36 = some tf36.erase := by kernel_rfl
theorem QgB : QQ Tryd.prog Tryd.f37 = some tf37.erase := by kernel_rfl
theorem QgC : QQ Tryd.prog Tryd.f38 = some tf38.erase := by kernel_rfl
theorem QgD : QQ Tryd.prog Tryd.f39 = some tf39.erase := by kernel_rfl
theorem QgE : QQ Tryd.prog Tryd.f40 = some tf40.erase := by kernel_rfl
theorem QgF : QQ Tryd.prog Tryd.f41 = some tf41.erase := by kernel_rfl
theorem QgG : QQ Tryd.prog Tryd.f42 = some tf42.erase := by kernel_rfl
theorem QgH : QQ Tryd.prog Tryd.f43 = some tf43.erase := by kernel_rfl
theorem QgI : QQ Tryd.prog Tryd.f44 = some tf44.erase := by kernel_rfl
theorem QgJ : QQ Tryd.prog Tryd.f45 = some tf45.erase := by kernel_rfl
theorem QgK : QQ Tryd.prog Tryd.f46 = some tf46.erase := by kernel_rfl
theorem QgL : QQ Tryd.prog Tryd.f47 = some tf47.erase := by kernel_rfl
theorem QgM : QQ Tryd.prog Tryd.f48 = some tf48.erase := by kernel_rfl
theorem QgN : QQ Tryd.prog Tryd.f49 = some tf49.erase := by kernel_rfl
theorem QgO : QQ Tryd.prog Tryd.f50 = some tf50.erase := by kernel_rfl
theorem QgP : QQ Tryd.prog Tryd.f51 = some tf51.erase := by kernel_rfl
theorem QgQ : QQ Tryd.prog Tryd.f52 = some tf52.erase := by kernel_rfl
theorem QgR : QQ Tryd.prog Tryd.f53 = some tf53.erase := by kernel_rfl
theorem QgS : QQ Tryd.prog Tryd.f54 = some tf54.erase := by kernel_rfl
theorem QgT : QQ Tryd.prog Tryd.f55 = some tf55.erase := by kernel_rfl
theorem QgU : QQ Tryd.prog Tryd.f56 = some tf56.erase := by kernel_rfl
theorem QgV : QQ Tryd.prog Tryd.f57 = some tf57.erase := by kernel_rfl
theorem QgW : QQ Tryd.prog Tryd.f58 = some tf58.erase := by kernel_rfl
theorem QgX : QQ Tryd.prog Tryd.f59 = some tf59.erase := by kernel_rfl
theorem QgY : QQ Tryd.prog Tryd.f60 = some tf60.erase := by kernel_rfl
theorem QgZ : QQ Tryd.prog Tryd.f61 = some tf61.erase := by kernel_rfl
theorem Qg0 : QQ Tryd.prog Tryd.f62 = some tf62.erase := by kernel_rfl
theorem Qg1 : QQ Tryd.prog Tryd.f63 = some tf63.erase := by kernel_rfl
theorem Qg2 : QQ Tryd.prog Tryd.f64 = some tf64.erase := by kernel_rfl
theorem Qg3 : QQ Tryd.prog Tryd.f65 = some tf65.erase := by kernel_rfl
theorem Qg4 : QQ Tryd.prog Tryd.f66 = some tf66.erase := by kernel_rfl
theorem Qg5 : QQ Tryd.prog Tryd.f67 = some tf67.erase := by kernel_rfl
theorem Qg6 : QQ Tryd.prog Tryd.f68 = some tf68.erase := by kernel_rfl
theorem Qg7 : QQ Tryd.prog Tryd.f69 = some tf69.erase := by kernel_rfl
theorem Qg8 : QQ Tryd.prog Tryd.f70 = some tf70.erase := by kernel_rfl
theorem Qg9 : QQ Tryd.prog Tryd.f71 = some tf71.erase := by kernel_rfl
theorem Qha : QQ Tryd.prog Tryd.f72 = some tf72.erase := by kernel_rfl
theorem Qhb : QQ Tryd.prog Tryd.f73 = some tf73.erase := by kernel_rfl
theorem Qhc : QQ Tryd.prog Tryd.f74 = some tf74.erase := by kernel_rfl
theorem Qhd : QQ Tryd.prog Tryd.f75 = some tf75.erase := by kernel_rfl
theorem Qhe : QQ Tryd.prog Tryd.f76 = some tf76.erase := by kernel_rfl
theorem Qhf : QQ Tryd.prog Tryd.f77 = some tf77.erase := by kernel_rfl
theorem Qhg : QQ Tryd.prog Tryd.f78 = some tf78.erase := by kernel_rfl
theorem Qhh : QQ Tryd.prog Tryd.f79 = some tf79.erase := by kernel_rfl
theorem Qhi : QQ Tryd.prog Tryd.f80 = some tf80.erase := by kernel_rfl
theorem Qhj : QQ Tryd.prog Tryd.f81 = some tf81.erase := by kernel_rfl
theorem Qhk : QQ Tryd.prog Tryd.f82 = some tf82.erase := by kernel_rfl
theorem Qhl : QQ Tryd.prog Tryd.f83 = some tf83.erase := by kernel_rfl
theorem Qhm : QQ Tryd.prog Tryd.f84 = some tf84.erase := by kernel_rfl
theorem Qhn : QQ Tryd.prog Tryd.f85 = some tf85.erase := by kernel_rfl
theorem Qho : QQ Tryd.prog Tryd.f86 = some tf86.erase := by kernel_rfl
theorem Qhp : QQ Tryd.prog Tryd.f87 = some tf87.erase := by kernel_rfl
theorem Qhq : QQ Tryd.prog Tryd.f88 = some tf88.erase := by kernel_rfl
theorem Qhr : QQ Tryd.prog Tryd.f89 = some tf89.erase := by kernel_rfl
theorem Qhs : QQ Tryd.prog Tryd.f90 = some tf90.erase := by kernel_rfl
theorem Qht : QQ Tryd.prog Tryd.f91 = some tf91.erase := by kernel_rfl
theorem Qhu : QQ Tryd.prog Tryd.f92 = some tf92.erase := by kernel_rfl
theorem Qhv : QQ Tryd.prog Tryd.f93 = some tf93.erase := by kernel_rfl
theorem Qhw : QQ Tryd.prog Tryd.f94 = some tf94.erase := by kernel_rfl
theorem Qhx : QQ Tryd.prog Tryd.f95 = some tf95.erase := by kernel_rfl
theorem Qhy : QQ Tryd.prog Tryd.f96 = some tf96.erase := by kernel_rfl
theorem Qhz : QQ Tryd.prog Tryd.f97 = some tf97.erase := by kernel_rfl
theorem QhA : QQ Tryd.prog Tryd.f98 = some tf98.erase := by kernel_rfl
theorem QhB : QQ Tryd.prog Tryd.f99 = some tf99.erase := by kernel_rfl
theorem QfC : QQ Tryd.prog Tryd.f100 = some tf100.erase := by kernel_rfl
theorem ZL : Tryd.prog.follows .mixedOrders = true := by kernel_rfl
end Go.Proofs
namespace M3
open Go Go.Abs
def M0 (n : Int) : Bool := decide (0 <= n) && decide (n <= 9999)
def ZF (m n : Int) : Int := if m < n then -1 else if n < m then 1 else 0
def YK (c : UInt8) : Bool := decide (48 <= c.toNat) && decide (c.toNat <= 57)
def YA (s : List UInt8) : Bool := s.all YK && !decide (s = [])
theorem K5 {s : List UInt8} {i : Nat} (h : i < s.length) (hd : YK s[i] = false) : YA s = false := by
 have : s.all YK = false := by
  rw [Bool.eq_false_iff]
  intro ha
  rw [QhP] at ha
  rw [ha _ (QhK h)] at hd
  cases hd
 rw [YA, this]; rfl
theorem NI {s : List UInt8} {i : Nat} (hi : s.length <= i) (h : (s.take i).all YK = true) : YA s = !decide (s = []) := by
 rw [QhV hi] at h
 rw [YA, h]; rfl
def Qa9 (v n : Int) : Int := if v.tmod n < 0 then v.tmod n + n else v.tmod n
def mAt (l : List Int) (i : Int) : Int := if i < 0 \/ (l.length : Int) <= i then 0 else l.getD i.toNat 0
def D6 (l : List Int) (i n : Int) : Int := Qa9 (mAt l i) n
def Zp (l : List Int) : D := .sl (l.map fun x => [.int .i64 x])
end M3
namespace M3
open Go Go.Abs
def JG (c : Int) : List UInt8 -> List UInt8 -> List (List UInt8)
 | [], cur => [cur]
 | x :: xs, cur => if (x.toNat : Int) = c then cur :: JG c xs [] else JG c xs (cur ++ [x])
def Q6 (s : List UInt8) (c : Int) : List (List UInt8) := JG c s []
def YJ (l : List (List UInt8)) : List (List D) := l.map fun x => [.str x]
def SplitI (s : List UInt8) (c : Int) (i k : Nat) (acc : List (List UInt8)) : Prop :=
 i <= s.length /\ k <= i /\ acc.length <= i /\ Q6 s c = acc ++ JG c (s.drop i) ((s.take i).drop k)
theorem SplitI.zero {s : List UInt8} {c : Int} : SplitI s c 0 0 [] := ⟨QhR _, Nat.le_refl _, Nat.le_refl _, by simp [Q6]⟩
theorem SplitI.hit {s : List UInt8} {c : Int} {i k : Nat} {acc : List (List UInt8)} (h : SplitI s c i k acc) (hi : i < s.length) (he : ((s[i]).toNat : Int) = c) : SplitI s c (i + 1) (i + 1) (acc ++ [(s.take i).drop k]) := by
 obtain ⟨h1, h2, h3, h4⟩ := h
 refine ⟨hi, Nat.le_refl _, by simp; omega, ?_⟩
 rw [QhW hi] at h4
 simp only [JG, he, if_true] at h4
 rw [h4, List.append_assoc]
 simp
theorem SplitI.miss {s : List UInt8} {c : Int} {i k : Nat} {acc : List (List UInt8)} (h : SplitI s c i k acc) (hi : i < s.length) (he : ¬ ((s[i]).toNat : Int) = c) : SplitI s c (i + 1) k acc := by
 obtain ⟨h1, h2, h3, h4⟩ := h
 refine ⟨hi, Wa, Wa, ?_⟩
 rw [QhW hi] at h4
 simp only [JG, he, if_false] at h4
 rw [h4, List.take_succ_eq_append_getElem hi, List.drop_append_of_le_length We]
theorem SplitI.done {s : List UInt8} {c : Int} {i k : Nat} {acc : List (List UInt8)} (h : SplitI s c i k acc) (hi : s.length <= i) : Q6 s c = acc ++ [s.drop k] := by
 obtain ⟨h1, h2, h3, h4⟩ := h
 rw [h4, Qh0 hi, QhV hi]
 rfl
end M3
namespace M3
open Go Go.Abs
def YO (a b : List UInt8) : Int := if Op.bytesLess a b = true then -1 else if a = b then 0 else 1
def Xm (c : Int) : Bool := decide (48 <= c) && decide (c <= 57)
def Yb (c : UInt8) : Bool := (decide (97 <= c.toNat) && decide (c.toNat <= 122)) || (decide (48 <= c.toNat) && decide (c.toNat <= 57)) || decide (c.toNat = 45)
def NY (s : List UInt8) : Bool := decide (1 <= s.length) && decide (s.length <= 8) && s.all Yb
def val (s : List UInt8) : Nat := s.foldl (fun n c => 10 * n + (c.toNat - 48)) 0
def ZX (s : List UInt8) : Int × Bool :=
 if s.length < 1 \/ 9 < s.length \/ (1 < s.length /\ s.head? = some 48) \/ s.all YK = false \/ 9999 < val s then (0, false) else ((val s : Int), true)
def RS (a b : List UInt8) : Int :=
 if YA a = true /\ YA b = true then ZF (ZX a).1 (ZX b).1
 else if YA a = true then -1 else if YA b = true then 1 else YO a b
def Tx : List (List UInt8) -> List (List UInt8) -> Int
 | [], [] => 0
 | [], _ :: _ => -1
 | _ :: _, [] => 1
 | a :: l, b :: m => if RS a b ≠ 0 then RS a b else Tx l m
def FB (a b : List UInt8) : Int := if a = b then 0 else if a = [] then 1 else if b = [] then -1 else Tx (Q6 a 46) (Q6 b 46)
def Fc (pre : Bool) (t : List UInt8) : Bool := NY t && !(pre && YA t && !(ZX t).2)
def G5 (s : List UInt8) (pre : Bool) : Bool := decide (s = []) || (decide ((Q6 s 46).length <= 4) && (Q6 s 46).all (Fc pre))
def KE (a b c : Int) (p q : List UInt8) : Bool := M0 a && M0 b && M0 c && G5 p true && G5 q false
def G4 (a b c : Int) (p q : List UInt8) (a' b' c' : Int) (p' q' : List UInt8) : Int :=
 if KE a b c p q = false \/ KE a' b' c' p' q' = false then 0
 else if ZF a a' ≠ 0 then ZF a a' else if ZF b b' ≠ 0 then ZF b b' else if ZF c c' ≠ 0 then ZF c c' else FB p p'
theorem Jf {α : Type} {s : List α} {p : α -> Bool} {i : Nat} (h : i < s.length) (hd : p s[i] = false) : s.all p = false := by
 rw [Bool.eq_false_iff]
 intro ha
 rw [QhP] at ha
 rw [ha _ (QhK h)] at hd
 cases hd
theorem Kg {α : Type} {s : List α} {p : α -> Bool} {i : Nat} (hi : s.length <= i) (h : (s.take i).all p = true) : s.all p = true := by rwa [QhV hi] at h
theorem T2 {s : List UInt8} {i : Nat} (h : i < s.length) : val (s.take (i + 1)) = 10 * val (s.take i) + (s[i].toNat - 48) := by
 rw [List.take_succ_eq_append_getElem h]; simp only [val, List.foldl_append, List.foldl_cons, List.foldl_nil]
theorem C7 : ∀ {s : List UInt8}, s.all YK = true -> val s < 10 ^ s.length := by
 intro s
 rw [<- List.reverse_reverse s]
 generalize s.reverse = r
 induction r with
 | nil => intro _; decide
 | cons c r ih =>
  intro h
  rw [List.reverse_cons, List.all_append, QhJ] at h
  have h1 := ih h.1
  have h2 : YK c = true := by simpa using h.2
  simp only [YK, QhJ, decide_eq_true_eq] at h2
  rw [List.reverse_cons]
  simp only [val, List.foldl_append, List.foldl_cons, List.foldl_nil, List.length_append, List.length_cons, List.length_nil] at h1 ⊢
  rw [Nat.pow_succ]
  omega
theorem Rk {l m : List (List UInt8)} {i : Nat} (h1 : i < l.length) (h2 : i < m.length) (h : RS l[i] m[i] = 0) : Tx (l.drop i) (m.drop i) = Tx (l.drop (i + 1)) (m.drop (i + 1)) := by
 rw [QhW h1, QhW h2]
 simp [Tx, h]
theorem Tz {l m : List (List UInt8)} {i : Nat} (h1 : i < l.length) (h2 : i < m.length) (h : RS l[i] m[i] ≠ 0) : Tx (l.drop i) (m.drop i) = RS l[i] m[i] := by
 rw [QhW h1, QhW h2]
 simp [Tx, h]
theorem FM {l m : List (List UInt8)} {i : Nat} (hl : i <= l.length) (hm : i <= m.length) (h : l.length <= i \/ m.length <= i) : Tx (l.drop i) (m.drop i) = ZF l.length m.length := by
 rcases Qh2 i l.length with h1 | h1 <;> rcases Qh2 i m.length with h2 | h2
 ·omega
 ·rw [QhW h1, Qh0 h2]
  simp only [Tx, ZF]
  rw [if_neg Wa, if_pos Wa]
 ·rw [QhW h2, Qh0 h1]
  simp only [Tx, ZF]
  rw [if_pos Wa]
 ·rw [Qh0 h1, Qh0 h2]
  simp only [Tx, ZF]
  rw [if_neg Wa, if_neg Wa]
end M3
namespace M3
end M3
namespace M3
theorem Qd5 {s : List UInt8} (h : 0 < s.length) (e : ((s[0]).toNat : Int) = 48) : s.head? = some 48 := by
 cases s with
 | nil => simp at h
 | cons x r =>
  simp only [List.getElem_cons_zero] at e
  have : x = 48 := UInt8.toNat_inj.1 (by simpa using (by omega : x.toNat = 48))
  simp [this]
theorem MW {s : List UInt8} (h : 0 < s.length) (e : ¬ ((s[0]).toNat : Int) = 48) : s.head? ≠ some 48 := by
 cases s with
 | nil => simp at h
 | cons x r =>
  simp only [List.getElem_cons_zero] at e
  intro hh
  simp at hh
  subst hh
  exact e rfl
theorem Qbe {s : List UInt8} {i : Nat} (h : ¬ (s.length < 1 \/ 9 < s.length \/ (1 < s.length /\ s.head? = some 48))) (hi : s.length <= i) (ha : (s.take i).all YK = true) (hv : val (s.take i) <= 9999) : ZX s = ((val (s.take i) : Int), true) := by
 have h1 := Kg hi ha
 rw [QhV hi] at hv ⊢
 rw [ZX, if_neg]
 rintro (q | q | q | q | q)
 ·exact h (.inl q)
 ·exact h (.inr (.inl q))
 ·exact h (.inr (.inr q))
 ·rw [h1] at q; cases q
 ·omega
theorem Qcr {s : List UInt8} {i : Nat} (hi : s.length <= i) (hv : 9999 < val (s.take i)) : ZX s = (0, false) := by
 rw [QhV hi] at hv
 rw [ZX, if_pos (.inr (.inr (.inr (.inr hv))))]
theorem M8 {s : List UInt8} {i : Nat} (h : i < s.length) (hd : YK s[i] = false) : ZX s = (0, false) := by
 rw [ZX, if_pos (.inr (.inr (.inr (.inl (Jf h hd)))))]
theorem Ci {s : List UInt8} (h : s.length < 1 \/ 9 < s.length) : ZX s = (0, false) := by
 rw [ZX, if_pos (by rcases h with h | h; exact .inl h; exact .inr (.inl h))]
theorem TD {s : List UInt8} (h : 1 < s.length) (e : ((s[0]).toNat : Int) = 48) : ZX s = (0, false) := by
 rw [ZX, if_pos (.inr (.inr (.inl ⟨h, Qd5 Wa e⟩)))]
end M3
namespace M3
open Go Go.Abs
theorem Qy (l : List (List UInt8)) : (YJ l).length = l.length := by simp [YJ]
theorem XG {l : List (List UInt8)} {i : Nat} (h : i < l.length) : (YJ l)[((i : Nat) : Int).toNat]? = some [.str l[i]] := by simp [YJ, h]
theorem J6 {c : Int} : ∀ (s cur : List UInt8), (JG c s cur).length <= s.length + 1 /\ ∀ x ∈ JG c s cur, x.length <= s.length + cur.length
 | [], cur => by simp [JG]
 | x :: xs, cur => by
  simp only [JG]
  split
  ·obtain ⟨h1, h2⟩ := J6 (c := c) xs []
   refine ⟨by simp; omega, fun y hy => ?_⟩
   rcases QhH.1 hy with rfl | hy
   ·simp <;> omega
   ·have := h2 y hy; simp at this ⊢; omega
  ·obtain ⟨h1, h2⟩ := J6 (c := c) xs (cur ++ [x])
   refine ⟨by simp; omega, fun y hy => ?_⟩
   have := h2 y hy; simp at this ⊢; omega
theorem GK {s : List UInt8} {c : Int} : (Q6 s c).length <= s.length + 1 := (J6 s []).1
theorem XJ {s : List UInt8} {c : Int} {i : Nat} (h : i < (Q6 s c).length) (hl : s.length <= 1048576) : ((Q6 s c)[i]).length <= 1048576 := by
 have := (J6 (c := c) s []).2 _ (QhK h)
 simp only [List.length_nil, Nat.add_zero] at this
 exact QhY this hl
end M3
namespace M3
open Go Go.Abs
theorem TA {s : List UInt8} {pre : Bool} {i : Nat} (hs : s ≠ []) (h : i < (Q6 s 46).length) (hd : Fc pre (Q6 s 46)[i] = false) : G5 s pre = false := by
 rw [G5, Jf h hd]; simp [hs]
theorem D7 {s : List UInt8} {pre : Bool} {i : Nat} (h4 : (Q6 s 46).length <= 4) (hi : (Q6 s 46).length <= i) (h : ((Q6 s 46).take i).all (Fc pre) = true) : G5 s pre = true := by
 rw [G5, Kg hi h]; simp [h4]
def ZO : List Int -> Int
 | [] => 0
 | x :: r => if x ≠ 0 then x else ZO r
theorem Sf {l : List Int} {i : Nat} (h : i < l.length) (e : ¬ l[i] = 0) : ZO (l.drop i) = l[i] := by
 rw [QhW h]; simp [ZO, e]
theorem P6 {l : List Int} {i : Nat} (h : i < l.length) (e : l[i] = 0) : ZO (l.drop i) = ZO (l.drop (i + 1)) := by
 rw [QhW h]; simp [ZO, e]
end M3
namespace M3
open Go Go.Abs
structure Cu where
 e : Int
 a : Int
 b : Int
 c : Int
 p : List UInt8
 q : List UInt8
 f : Bool
def Xt (e a b c : Int) (p q : List UInt8) (f : Bool) : Bool :=
 if e = 0 then KE a b c p q && decide (q = [])
 else (decide (e = -1) || decide (e = 1)) && (decide (a = 0) && (decide (b = 0) && (decide (c = 0) && (decide (p = []) && (decide (q = []) && true))))) && !f
def JB (e a b c : Int) (p q : List UInt8) (f : Bool) (e' a' b' c' : Int) (p' q' : List UInt8) (f' : Bool) : Int :=
 if Xt e a b c p q f = false \/ Xt e' a' b' c' p' q' f' = false then 0
 else if e ≠ e' \/ e ≠ 0 then ZF e e'
 else if G4 a b c p q a' b' c' p' q' ≠ 0 then G4 a b c p q a' b' c' p' q'
 else if f = f' then 0 else if f' = true then -1 else 1
def Xz (e a b c : Int) (p q : List UInt8) (f : Bool) (a' b' c' : Int) (p' q' : List UInt8) : Bool :=
 if Xt e a b c p q f = false \/ KE a' b' c' p' q' = false then false
 else if e ≠ 0 then decide (e < 0)
 else decide (G4 a b c p q a' b' c' p' q' < 0) || (decide (G4 a b c p q a' b' c' p' q' = 0) && !f)
end M3
namespace M3
def NF (e a b c : Int) (p q : List UInt8) (f : Bool) (e' a' b' c' : Int) (p' q' : List UInt8) (f' : Bool) : Bool :=
 Xt e a b c p q f && Xt e' a' b' c' p' q' f' && decide (JB e a b c p q f e' a' b' c' p' q' f' < 0)
def KC (e a b c : Int) (p q : List UInt8) (f : Bool) (e' a' b' c' : Int) (p' q' : List UInt8) (f' : Bool) (x y z : Int) (r s : List UInt8) : Bool :=
 NF e a b c p q f e' a' b' c' p' q' f' && KE x y z r s && Xz e a b c p q f x y z r s && !Xz e' a' b' c' p' q' f' x y z r s
end M3
namespace M3
open Go Go.Abs
theorem M7 {s : List UInt8} (h : s = [] \/ 4 < s.length) : ZX s = (0, false) := by
 rcases h with rfl | h
 ·rfl
 ·unfold ZX
  split
  ·rfl
  ·rename_i hn
   exfalso
   apply hn
   by_cases h1 : s.head? = some 48
   ·exact .inr (.inr (.inl ⟨Wa, h1⟩))
   ·cases hd : s.all YK with
    | false => exact .inr (.inr (.inr (.inl rfl)))
    | true =>
     refine .inr (.inr (.inr (.inr ?_)))
     cases s with
     | nil => simp at h
     | cons x r =>
      simp only [List.all_cons, QhJ, YK, decide_eq_true_eq] at hd
      simp only [List.head?_cons, QhI] at h1
      have hx : 1 <= x.toNat - 48 := by
       have : x.toNat ≠ 48 := fun e => h1 (UInt8.toNat_inj.1 (by simpa using e))
       omega
      have key : ∀ (r : List UInt8) (n : Nat), n * 10 ^ r.length <= r.foldl (fun n c => 10 * n + (c.toNat - 48)) n := by
       intro r
       induction r with
       | nil => intro n; simp
       | cons c r ih =>
        intro n
        simp only [List.foldl_cons, List.length_cons]
        refine QhY ?_ (ih _)
        rw [Nat.pow_succ, <- Nat.mul_assoc, Nat.mul_right_comm]
        exact Nat.mul_le_mul_right _ Wa
      have h2 := key r (10 * 0 + (x.toNat - 48))
      have h3 : 10 ^ 4 <= 10 ^ r.length := Nat.pow_le_pow_right Wa (by simp at h; omega)
      have h4 : 10 ^ r.length <= (10 * 0 + (x.toNat - 48)) * 10 ^ r.length := Nat.le_mul_of_pos_left _ Wa
      show 9999 < (x :: r).foldl (fun n c => 10 * n + (c.toNat - 48)) 0
      simp only [List.foldl_cons]
      omega
theorem Qcq {s : List UInt8} {i : Nat} (h : ¬ (s = [] \/ 4 < s.length \/ (1 < s.length /\ s.head? = some 48))) (hi : s.length <= i) (ha : (s.take i).all YK = true) : ZX s = ((val (s.take i) : Int), true) := by
 have h1 := Kg hi ha
 have hv := C7 h1
 have h4 : s.length <= 4 := Nat.le_of_not_lt fun q => h (.inr (.inl q))
 have hp : 10 ^ s.length <= 10 ^ 4 := Nat.pow_le_pow_right Wa h4
 refine Qbe ?_ hi ha ?_
 ·rintro (q | q | q)
  ·exact h (.inl (List.eq_nil_of_length_eq_zero Wa))
  ·omega
  ·exact h (.inr (.inr q))
 ·rw [QhV hi]; omega
end M3
namespace M3
open Go Go.Abs
def HE (s : List UInt8) : Bool := decide ((Q6 s 46).length <= 4) && (Q6 s 46).all NY
theorem Qcl {t : List UInt8} (h0 : ¬ t = []) (h8 : t.length <= 8) (h : t.all Yb = true) : NY t = true := by
 have : 1 <= t.length := List.length_pos_iff.2 h0
 simp [NY, h, h8, this]
theorem K4 {t : List UInt8} (h : t = [] \/ 8 < t.length) : NY t = false := by
 rcases h with rfl | h
 ·rfl
 ·simp [NY]; omega
theorem FN {t : List UInt8} (h : t.all Yb = false) : NY t = false := by simp [NY, h]
theorem Xe {s : List UInt8} {i : Nat} (h : i < (Q6 s 46).length) (hd : NY (Q6 s 46)[i] = false) : HE s = false := by
 rw [HE, Jf h hd, Bool.and_false]
theorem CZ {s : List UInt8} {i : Nat} (hi : (Q6 s 46).length <= i) (h : ((Q6 s 46).take i).all NY = true) : HE s = decide ((Q6 s 46).length <= 4) := by
 rw [HE, Kg hi h, Bool.and_true]
theorem Yr (s : List UInt8) : G5 s false = (decide (s = []) || HE s) := by
 have : Fc false = NY := by funext t; simp [Fc]
 rw [G5, HE, this]
end M3
namespace M3
open Go Go.Abs
def N6 (t : List UInt8) : Bool := !(YA t && !(ZX t).2)
def Rj (s : List UInt8) : Bool := HE s && (Q6 s 46).all N6
theorem QcG {s : List UInt8} {i : Nat} (h : i < (Q6 s 46).length) (hd : N6 (Q6 s 46)[i] = false) : Rj s = false := by
 rw [Rj, Jf h hd, Bool.and_false]
theorem Qaq {s : List UInt8} {i : Nat} (h1 : HE s = true) (hi : (Q6 s 46).length <= i) (h : ((Q6 s 46).take i).all N6 = true) : Rj s = true := by
 rw [Rj, Kg hi h, h1]; rfl
theorem YF (s : List UInt8) : G5 s true = (decide (s = []) || Rj s) := by
 have : Fc true = fun t => NY t && N6 t := by funext t; simp [Fc, N6]
 rw [G5, Rj, HE, this, Bool.and_assoc]
 congr 2
 induction (Q6 s 46) with
 | nil => rfl
 | cons x xs ih => simp only [List.all_cons, ih]; cases NY x <;> cases N6 x <;> simp
theorem Mp {a b : Int} : ZF a b = 0 ↔ a = b := by unfold ZF; (repeat' split) <;> omega
theorem QdR {a b c : Int} {p q : List UInt8} {a' b' c' : Int} {p' q' : List UInt8} (h1 : KE a b c p q = true) (h2 : KE a' b' c' p' q' = true)
  (h : (decide (a = a') && (decide (b = b') && (decide (c = c') && (decide (p = p') && (decide (([] : List UInt8) = []) && true))))) = true) : G4 a b c p q a' b' c' p' q' = 0 := by
 simp only [QhJ, decide_eq_true_eq, and_true] at h
 obtain ⟨rfl, rfl, rfl, rfl⟩ := h
 have e : ∀ x, ZF x x = 0 := fun x => Mp.2 rfl
 simp [G4, h1, h2, e, FB]
theorem Qb6 {a b c : Int} {p q : List UInt8} {a' b' c' : Int} {p' q' : List UInt8} (h1 : KE a b c p q = true) (h2 : KE a' b' c' p' q' = true)
  (h : ¬ ZO [ZF a a', ZF b b', ZF c c'] = 0) : ZO [ZF a a', ZF b b', ZF c c'] = G4 a b c p q a' b' c' p' q' := by
 simp only [ZO, G4, h1, h2] at h ⊢
 simp only [Bool.true_eq_false, or_self, if_false]
 repeat' split
 all_goals first | rfl | (exfalso; simp_all)
theorem Ng {a b c : Int} {p q : List UInt8} {a' b' c' : Int} {p' q' : List UInt8} (h1 : KE a b c p q = true) (h2 : KE a' b' c' p' q' = true) (h : ZO [ZF a a', ZF b b', ZF c c'] = 0) :
  G4 a b c p q a' b' c' p' q' = FB p p' := by
 simp only [ZO] at h
 simp only [G4, h1, h2, Bool.true_eq_false, or_self, if_false]
 repeat' split
 all_goals first | rfl | (exfalso; simp_all)
theorem QaY {a b c : Int} {p : List UInt8} {a' b' c' : Int} {p' : List UInt8} (h : (decide (a = a') && (decide (b = b') && (decide (c = c') && (decide (p = p') && (decide (([] : List UInt8) = []) && true))))) = false)
  (h0 : ZO [ZF a a', ZF b b', ZF c c'] = 0) : p ≠ p' := by
 rintro rfl
 have e : ZF a a' = 0 /\ ZF b b' = 0 /\ ZF c c' = 0 := by
  simp only [ZO] at h0
  revert h0
  repeat' split
  all_goals simp_all
 simp only [Mp] at e
 simp [e] at h
theorem BK {a b c : Int} {p q : List UInt8} {a' b' c' : Int} {p' q' : List UInt8} (h1 : KE a b c p q = true) (h2 : KE a' b' c' p' q' = true)
  (h : (decide (a = a') && (decide (b = b') && (decide (c = c') && (decide (p = p') && (decide (([] : List UInt8) = []) && true))))) = false)
  (h0 : ZO [ZF a a', ZF b b', ZF c c'] = 0) (hp : p = []) : G4 a b c p q a' b' c' p' q' = 1 := by
 rw [Ng h1 h2 h0, FB, if_neg (QaY h h0), if_pos hp]
theorem BL {a b c : Int} {p q : List UInt8} {a' b' c' : Int} {p' q' : List UInt8} (h1 : KE a b c p q = true) (h2 : KE a' b' c' p' q' = true)
  (h0 : ZO [ZF a a', ZF b b', ZF c c'] = 0) (hp : ¬ p = []) (hp' : p' = []) : G4 a b c p q a' b' c' p' q' = -1 := by
 have : p ≠ p' := fun e => hp (e.trans hp')
 rw [Ng h1 h2 h0, FB, if_neg this, if_neg hp, if_pos hp']
theorem Qb7 {a b c : Int} {p q : List UInt8} {a' b' c' : Int} {p' q' : List UInt8} (h1 : KE a b c p q = true) (h2 : KE a' b' c' p' q' = true)
  (h : (decide (a = a') && (decide (b = b') && (decide (c = c') && (decide (p = p') && (decide (([] : List UInt8) = []) && true))))) = false)
  (h0 : ZO [ZF a a', ZF b b', ZF c c'] = 0) (hp : ¬ p = []) (hp' : ¬ p' = []) : G4 a b c p q a' b' c' p' q' = Tx ((Q6 p 46).drop 0) ((Q6 p' 46).drop 0) := by
 rw [Ng h1 h2 h0, FB, if_neg (QaY h h0), if_neg hp, if_neg hp']; rfl
end M3
namespace M3
open Go Go.Abs
theorem BH {e a b c : Int} {p q : List UInt8} {f : Bool} {e' a' b' c' : Int} {p' q' : List UInt8} {f' : Bool} (h1 : Xt e a b c p q f = true) (h2 : Xt e' a' b' c' p' q' f' = true) (h : ¬ e = 0 \/ ¬ e' = 0) :
  JB e a b c p q f e' a' b' c' p' q' f' = ZF e e' := by
 rw [JB, h1, h2, if_neg Wc, if_pos]
 by_cases h0 : e = 0
 ·exact .inl Wa
 ·exact .inr h0
end M3
namespace Go.Proofs
open Go Go.Abs M3
theorem Jw {n : Int} : Ok Tryd.prog 45 [.int .i64 n] (.bool (M0 n)) := by
 refine Ok.ofT ZL Tryd.func45 QgJ (QhG Z) ?_
 show TW _ _ tf45.body _ _
 refine Qd fun K hK => Qb Z (kc1 hK Z ?_)
 refine Qd fun K hK => Qb Z (Fw Z Z (Qb Z ?_))
 refine Qr (g := 5) Z (fun h1 => ?_) (fun h1 => ?_)
 ·rw [h1]
  simp only [qB] at h1
  refine Qc Z (Qb Z (Qc Z (SZ Z Z (Qh Z Z (Qb Z (kc1 hK Z ?_))))))
  refine Qs (Qg Z ?_)
  (repeat clear hK K); simp_all [M0] <;> omega
 ·rw [h1]
  simp only [qB] at h1
  refine gn2 Z Z (Qh Z Z (Qb Z (kc1 hK Z ?_)))
  refine Qs (Qg Z ?_)
  (repeat clear hK K); simp_all [M0] <;> omega
theorem YL {n : Int} : Ok Tryd.prog 77 [.int .i64 n] (.bool (M0 n)) := by
 refine Ok.ofT ZL Tryd.func77 Qhf (QhG Z) ?_
 show TW _ _ tf77.body _ _
 refine Qd fun K hK => Qb Z (kc1 hK Z ?_)
 refine Qd fun K hK => Qb Z (Fw Z Z (Qb Z ?_))
 refine Qr (g := 5) Z (fun h1 => ?_) (fun h1 => ?_)
 ·rw [h1]
  simp only [qB] at h1
  refine Qc Z (Qb Z (Qc Z (SZ Z Z (Qh Z Z (Qb Z (kc1 hK Z ?_))))))
  refine Qs (Qg Z ?_)
  (repeat clear hK K); simp_all [M0] <;> omega
 ·rw [h1]
  simp only [qB] at h1
  refine gn2 Z Z (Qh Z Z (Qb Z (kc1 hK Z ?_)))
  refine Qs (Qg Z ?_)
  (repeat clear hK K); simp_all [M0] <;> omega
theorem Kj {n : Int} : Ok Tryd.prog 66 [.int .i64 n] (.bool false) := by
 refine Ok.ofT ZL Tryd.func66 Qg4 (QhG Z) ?_
 show TW _ _ tf66.body _ _
 refine Qd fun K hK => Qb Z (kc1 hK Z ?_)
 refine Qd fun K hK => mv2 Z Z (Z7 Z Z (Qb Z (kc1 hK Z ?_)))
 refine Qs (Qg Z ?_)
 (repeat clear hK K); simp_all
theorem Zv {m n : Int} : Ok Tryd.prog 71 [.int .i64 m, .int .i64 n] (.int .i64 (ZF m n)) := by
 refine Ok.ofT ZL Tryd.func71 Qg9 (QhG Z) ?_
 show TW _ _ tf71.body _ _
 refine Qd fun K hK => Qb Z (kc2 hK Z Z ?_)
 refine Qz ?_ -- 0
 refine Qw (Qd fun K hK => mv2 Z Z (ZI Z Z (Qb Z (kc3 hK Z Z Z ?_))))
 refine Qu Z (fun h1 => ?_) (fun h1 => ?_)
 ·rw [h1]
  simp only [qB] at h1
  refine Qd fun K hK => Qb Z (kc1 hK Z ?_)
  refine Qs (Qj (Qf (QF Z ?_)))
  (repeat clear hK K); simp_all [ZF] <;> omega
 ·rw [h1]
  simp only [qB] at h1
  refine Qd fun K hK => mv2 Z Z (YZ Z Z (Qb Z (kc1 hK Z ?_)))
  refine Qu Z (fun h2 => ?_) (fun h2 => ?_)
  ·rw [h2]
   simp only [qB] at h2
   refine Qd fun K hK => Qb Z (kc1 hK Z ?_)
   refine Qs (Qj (Qf (QF Z ?_)))
   (repeat clear hK K); simp_all [ZF] <;> omega
  ·rw [h2]
   simp only [qB] at h2
   refine Qq (Ql (QJ (QL) (Qd fun K hK => Qb Z (kc1 hK Z ?_))))
   refine Qs (QF Z ?_)
   (repeat clear hK K); simp_all [ZF] <;> omega
theorem Zz {m n : Int} : Ok Tryd.prog 49 [.int .i64 m, .int .i64 n] (.int .i64 (ZF m n)) := by
 refine Ok.ofT ZL Tryd.func49 QgN (QhG Z) ?_
 show TW _ _ tf49.body _ _
 refine Qd fun K hK => Qb Z (kc2 hK Z Z ?_)
 refine Qd fun K hK => Qb Z (QK (Kj) Z Z (.inr Z) (Qb Z (kc3 hK Z Z Z ?_)))
 refine Qd fun K hK => Qb Z (QK (Kj) Z Z (.inr Z) (Qb Z (kc4 hK Z Z Z Z ?_)))
 refine Qz ?_ -- 0
 refine Qd fun K hK => Qb Z (kc4 hK Z Z Z Z ?_)
 refine Qu Z (fun h1 => ?_) (fun h1 => ?_)
 ·rw [h1]
  refine Qz ?_ -- 1
  refine Qd fun K hK => Qb Z (kc1 hK Z ?_)
  refine Qu Z (fun h2 => ?_) (fun h2 => ?_)
  ·rw [h2]
   simp only [qB] at h2
   refine Qd fun K hK => Qb Z (kc1 hK Z ?_)
   refine Qs (Qf (Qf (QF Z ?_)))
   (repeat clear hK K); simp_all [ZF] <;> omega
  ·rw [h2]
   refine Qq (QJ (QL) (Qd fun K hK => Qb Z (kc1 hK Z ?_)))
   refine Qs (Qf (QF Z ?_))
   (repeat clear hK K); simp_all [ZF] <;> omega
 ·rw [h1]
  simp only [qB] at h1
  refine Qq (ks3 Z Z Z ?_)
  refine Qz ?_ -- 2
  refine Qd fun K hK => Qb Z (kc3 hK Z Z Z ?_)
  refine Qu Z (fun h3 => ?_) (fun h3 => ?_)
  ·rw [h3]
   refine Qd fun K hK => Qb Z (kc1 hK Z ?_)
   refine Qs (Qf (QF Z ?_))
   (repeat clear hK K); simp_all [ZF] <;> omega
  ·rw [h3]
   simp only [qB] at h3
   refine Qq (ks2 Z Z ?_)
   refine Qz ?_ -- 3
   refine Qd fun K hK => mv2 Z Z (ZI Z Z (kc3 hK Z Z Z ?_))
   refine Qu Z (fun h4 => ?_) (fun h4 => ?_)
   ·rw [h4]
    simp only [qB] at h4
    refine Qd fun K hK => Qb Z (kc1 hK Z ?_)
    refine Qs (Qf (QF Z ?_))
    (repeat clear hK K); simp_all [ZF] <;> omega
   ·rw [h4]
    simp only [qB] at h4
    refine Qq (ks2 Z Z ?_)
    refine Qz ?_ -- 4
    refine Qd fun K hK => mv2 Z Z (YZ Z Z (kc1 hK Z ?_))
    refine Qu Z (fun h5 => ?_) (fun h5 => ?_)
    ·rw [h5]
     simp only [qB] at h5
     refine Qd fun K hK => Qb Z (kc1 hK Z ?_)
     refine Qs (Qf (QF Z ?_))
     (repeat clear hK K); simp_all [ZF] <;> omega
    ·rw [h5]
     simp only [qB] at h5
     refine Qq (QJ (QL) (Qd fun K hK => Qb Z (kc1 hK Z ?_)))
     refine Qs (QF Z ?_)
     (repeat clear hK K); simp_all [ZF] <;> omega
theorem _root_.Wk {p : Prop} (h : p := by simp [YK]; omega) : p := h
theorem _root_.Wb {p : Prop} (h : p := by exact Qp (by omega) (by omega)) : p := h
theorem Y6 {s : List UInt8} (hl : s.length <= 1048576) : Ok Tryd.prog 65 [.str s] (.bool (YA s)) := by
 refine Ok.ofT ZL Tryd.func65 Qg3 (QhG Z) ?_
 show TW _ _ tf65.body _ _
 refine Qd fun K hK => Qb Z (kc1 hK Z ?_)
 refine Qz ?_ -- 0
 refine Qd fun K hK => Qb Z (ZN Z (Qb Z (kc3 hK Z Z Z ?_)))
 refine Qw ?_
 refine Q5 (ι := Nat) (fun i => ⟨[(0, .str s), (5, .int .i64 s.length), (6, .int .i64 i)], []⟩) (fun i => i <= s.length /\ (s.take i).all YK = true) (fun i => s.length - i) 0 ?_ ?_ ?_
 ·exact Q3 (kp3 rfl rfl rfl)
 ·exact ⟨QhR _, rfl⟩
 intro i hI
 refine Qd fun K hK => ZI Z Z (kc4 hK Z Z Z Z ?_)
 refine Qz ?_ -- 1
 refine Qu Z (fun h1 => ?_) (fun h1 => ?_)
 ·rw [h1]
  simp only [qB] at h1
  refine Qq (ks3 Z Z Z ?_)
  refine Qz ?_ -- 2
  refine Qw (Qd fun K hK => mv2 Z Z (kc4 hK Z Z Z Z ?_))
  refine Qd fun K hK => mv2 Z Z (Z1 Z Z Wa (Kx Wa) (ZI Z Z (Qb Z ?_)))
  refine Qr (g := 13) Z (fun h2 => ?_) (fun h2 => ?_)
  ·rw [h2]
   simp only [qB] at h2
   refine gn4 Z Z Z Z (Qh Z Z (kc4 hK Z Z Z Z ?_))
   refine QV Z (Qd fun K hK => Qb Z (kc1 hK Z ?_))
   refine Qs (Qj (Qf (QC (Qj (Qf (Qg Z ?_))))))
   exact (K5 (i := i) Wa Wk).symm
  ·rw [h2]
   simp only [qB] at h2
   refine Qc Z (Qb Z (Qc Z (Qb Z (Qc Z (Z1 Z Z Wa (Kx Wa) (Qc Z (YZ Z Z (Qh Z Z (kc4 hK Z Z Z Z ?_)))))))))
   refine Qu Z (fun h3 => ?_) (fun h3 => ?_)
   ·rw [h3]
    simp only [qB] at h3
    refine Qd fun K hK => Qb Z (kc1 hK Z ?_)
    refine Qs (Qj (Qf (QC (Qj (Qf (Qg Z ?_))))))
    exact (K5 (i := i) Wa Wk).symm
   ·rw [h3]
    simp only [qB] at h3
    refine Qq (Ql (ks3 Z Z Z (QN fun K hK => Q0 Z Z Wb (Qb Z (hK _ ?_)))))
    refine Qk (i + 1) ?_ ?_ ?_
    ·exact Q3 (kp3 rfl rfl rfl)
    ·exact ⟨Wa, Q8 Wa hI.2 Wk⟩
    ·omega
 ·rw [h1]
  simp only [qB] at h1
  refine QU (QB (Qv (QA (ks1 Z (Qd fun K hK => Qb Z (La Z Z (Qb Z (kc1 hK Z ?_))))))))
  refine Qs (Qg Z ?_)
  exact (NI (i := i) Wa hI.2).symm
theorem Yw {s : List UInt8} {c : Int} (hl : s.length <= 1048576) : Ok Tryd.prog 80 [.str s, .int .u8 c] (.sl (YJ (Q6 s c))) := by
 refine Ok.ofT ZL Tryd.func80 Qhi (QhG Z) ?_
 show TW _ _ tf80.body _ _
 refine Qd fun K hK => Qb Z (kc2 hK Z Z ?_)
 refine Qd fun K hK => Qb Z (kc3 hK Z Z Z ?_)
 refine Qd fun K hK => Qb Z (kc4 hK Z Z Z Z ?_)
 refine Qz ?_ -- 0
 refine Qd fun K hK => Qb Z (kc5 hK Z Z Z Z Z ?_)
 refine Qw ?_
 refine Q5 (ι := Nat × Nat × List (List UInt8)) (fun ⟨i, k, acc⟩ => ⟨[(0, .str s), (1, .int .u8 c), (5, .osl 25 acc.length), (6, .int .i64 k), (7, .int .i64 i)], [(25, ⟨YJ acc, 1, 9, true⟩)]⟩) (fun ⟨i, k, acc⟩ => SplitI s c i k acc) (fun ⟨i, k, acc⟩ => s.length - i) (0, 0, []) ?_ ?_ ?_
 ·exact le_trans (Yy 5 25 1 9 rfl rfl) (QP (l := [0, 1, 5, 6, 7]) (lH := [25]) (kp5 rfl rfl rfl rfl rfl) (Qa rfl Qi) rfl rfl rfl)
 ·exact SplitI.zero
 intro ⟨i, k, acc⟩ hI
 have hI1 := hI.1
 have hI2 := hI.2.1
 have hI3 := hI.2.2.1
 dsimp only
 refine Qz ?_ -- 1
 refine Qd fun K hK => mv2 Z Z (ZN Z (ZI Z Z (kc6 hK Z Z Z Z Z Z ?_)))
 refine Qu Z (fun h1 => ?_) (fun h1 => ?_)
 ·rw [h1]
  simp only [qB] at h1
  refine Qq (ks5 Z Z Z Z Z ?_)
  refine Qz ?_ -- 2
  refine Qw (Qd fun K hK => mv2 Z Z (Z1 Z Z Wa (Kx Wa) (Qb Z (Y3 Z Z (kc6 hK Z Z Z Z Z Z ?_)))))
  refine Qu Z (fun h2 => ?_) (fun h2 => ?_)
  ·rw [h2]
   simp only [qB] at h2
   refine Qd fun K hK => mv2 Z Z (mv2 Z Z (KN Z Z Z Wa Wa Wa Z (Q2 Z Z (Jc Z Z (fun _ h => Ka Z Z Z h) Z (by simp [YJ]) Z Z Z We We (Qb Z (kc4 hK Z Z Z Z ?_))))))
   refine QN fun K hK => Qb Z (Q0 Z Z Wb (Qb Z (hK _ ?_)))
   refine Ql (ks5 Z Z Z Z Z (QN fun K hK => Qb Z (Q0 Z Z Wb (Qb Z (hK _ ?_)))))
   refine Qk (i + 1, i + 1, acc ++ [(s.take i).drop k]) ?_ ?_ ?_
   ·exact QP (l := [0, 1, 5, 6, 7]) (lH := [25]) (kp5 rfl rfl rfl rfl rfl) (Qa rfl Qi) (by simp [YJ, D.scrub]) (by simp [YJ, Box.scrub]) rfl
   ·exact hI.hit Wa Wd
   ·show s.length - (i + 1) < s.length - i; omega
  ·rw [h2]
   simp only [qB] at h2
   refine Qq (Ql (ks5 Z Z Z Z Z (QN fun K hK => Qb Z (Q0 Z Z Wb (Qb Z (hK _ ?_))))))
   refine Qk (i + 1, k, acc) ?_ ?_ ?_
   ·exact QP (l := [0, 1, 5, 6, 7]) (lH := [25]) (kp5 rfl rfl rfl rfl rfl) (Qa rfl Qi) (by simp [YJ, D.scrub]) (by simp [YJ, Box.scrub]) rfl
   ·exact hI.miss Wa Wd
   ·show s.length - (i + 1) < s.length - i; omega
 ·rw [h1]
  simp only [qB] at h1
  refine QU (QB (Qv (QA (ks3 Z Z Z (Qd fun K hK => mv2 Z Z (Qb Z (KN Z Z Z Wa Wa Wa Z (Q2 Z Z (Jc Z Z (fun _ h => Ka Z Z Z h) Z (by simp [YJ]) Z Z Z We We ?_)))))))))
  refine Qb Z (kc1 hK Z ?_)
  refine Qs (KF Z ?_)
  rw [hI.done Wa]; simp [JM, D.fz, D.fzS, FE, lk, D.can, D.canS, YJ]
theorem XC {s : List UInt8} {c : Int} (hl : s.length <= 1048576) : Ok Tryd.prog 50 [.str s, .int .u8 c] (.sl (YJ (Q6 s c))) := by
 refine Ok.ofT ZL Tryd.func50 QgO (QhG Z) ?_
 show TW _ _ tf50.body _ _
 refine Qd fun K hK => Qb Z (kc2 hK Z Z ?_)
 refine Qd fun K hK => Qb Z (kc3 hK Z Z Z ?_)
 refine Qd fun K hK => Qb Z (kc4 hK Z Z Z Z ?_)
 refine Qz ?_ -- 0
 refine Qd fun K hK => Qb Z (ZN Z (Qb Z (kc6 hK Z Z Z Z Z Z ?_)))
 refine Qw ?_
 refine Q5 (ι := Nat × Nat × List (List UInt8)) (fun ⟨i, k, acc⟩ => ⟨[(0, .str s), (1, .int .u8 c), (5, .osl 24 acc.length), (6, .int .i64 k), (9, .int .i64 s.length), (10, .int .i64 i)], [(24, ⟨YJ acc, 1, 9, true⟩)]⟩) (fun ⟨i, k, acc⟩ => SplitI s c i k acc) (fun ⟨i, k, acc⟩ => s.length - i) (0, 0, []) ?_ ?_ ?_
 ·exact le_trans (Yy 5 24 1 9 rfl rfl) (QP (l := [0, 1, 5, 6, 9, 10]) (lH := [24]) (kp6 rfl rfl rfl rfl rfl rfl) (Qa rfl Qi) rfl rfl rfl)
 ·exact SplitI.zero
 intro ⟨i, k, acc⟩ hI
 have hI1 := hI.1
 have hI2 := hI.2.1
 have hI3 := hI.2.2.1
 dsimp only
 refine Qd fun K hK => ZI Z Z (kc7 hK Z Z Z Z Z Z Z ?_)
 refine Qz ?_ -- 1
 refine Qu Z (fun h1 => ?_) (fun h1 => ?_)
 ·rw [h1]
  simp only [qB] at h1
  refine Qq (ks6 Z Z Z Z Z Z ?_)
  refine Qz ?_ -- 2
  refine Qw (Qd fun K hK => mv2 Z Z (kc7 hK Z Z Z Z Z Z Z ?_))
  refine Qd fun K hK => mv2 Z Z (Z1 Z Z Wa (Kx Wa) (Qb Z (Y3 Z Z (kc8 hK Z Z Z Z Z Z Z Z ?_))))
  refine Qu Z (fun h2 => ?_) (fun h2 => ?_)
  ·rw [h2]
   simp only [qB] at h2
   refine Qd fun K hK => mv2 Z Z (mv2 Z Z (KN Z Z Z Wa Wa Wa Z (Q2 Z Z (Jc Z Z (fun _ h => Ka Z Z Z h) Z (by simp [YJ]) Z Z Z We We (Qb Z (kc6 hK Z Z Z Z Z Z ?_))))))
   refine QN fun K hK => Qb Z (Q0 Z Z Wb (Qb Z (hK _ ?_)))
   refine Ql (ks6 Z Z Z Z Z Z (QN fun K hK => Q0 Z Z Wb (Qb Z (hK _ ?_))))
   refine Qk (i + 1, i + 1, acc ++ [(s.take i).drop k]) ?_ ?_ ?_
   ·exact QP (l := [0, 1, 5, 6, 9, 10]) (lH := [24]) (kp6 rfl rfl rfl rfl rfl rfl) (Qa rfl Qi) (by simp [YJ, D.scrub]) (by simp [YJ, Box.scrub]) rfl
   ·exact hI.hit Wa Wd
   ·show s.length - (i + 1) < s.length - i; omega
  ·rw [h2]
   simp only [qB] at h2
   refine Qq (Ql (ks6 Z Z Z Z Z Z (QN fun K hK => Q0 Z Z Wb (Qb Z (hK _ ?_)))))
   refine Qk (i + 1, k, acc) ?_ ?_ ?_
   ·exact QP (l := [0, 1, 5, 6, 9, 10]) (lH := [24]) (kp6 rfl rfl rfl rfl rfl rfl) (Qa rfl Qi) (by simp [YJ, D.scrub]) (by simp [YJ, Box.scrub]) rfl
   ·exact hI.miss Wa Wd
   ·show s.length - (i + 1) < s.length - i; omega
 ·rw [h1]
  simp only [qB] at h1
  refine QU (QB (Qv (QA (ks3 Z Z Z (Qd fun K hK => mv2 Z Z (Qb Z (KN Z Z Z Wa Wa Wa Z (Q2 Z Z (Jc Z Z (fun _ h => Ka Z Z Z h) Z (by simp [YJ]) Z Z Z We We ?_)))))))))
  refine Qb Z (kc1 hK Z ?_)
  refine Qs (KF Z ?_)
  rw [hI.done Wa]; simp [JM, D.fz, D.fzS, FE, lk, D.can, D.canS, YJ]
open Go Go.Abs M3
theorem Ji {s : List UInt8} : Ok Tryd.prog 63 [.str s] (.bool false) := by
 refine Ok.ofT ZL Tryd.func63 Qg1 (QhG Z) ?_
 show TW _ _ tf63.body _ _
 refine Qd fun K hK => Qb Z (kc1 hK Z ?_)
 refine Qd fun K hK => mv2 Z Z (La Z Z (Qb Z (kc1 hK Z ?_)))
 refine Qs (Qg Z ?_)
 simp
theorem Z0 {a b : List UInt8} : Ok Tryd.prog 44 [.str a, .str b] (.int .i64 (YO a b)) := by
 refine Ok.ofT ZL Tryd.func44 QgI (QhG Z) ?_
 show TW _ _ tf44.body _ _
 refine Qd fun K hK => Qb Z (kc2 hK Z Z ?_)
 refine Qd fun K hK => Qb Z (QK (Ji) Z Z (.inr Z) (Qb Z (kc3 hK Z Z Z ?_)))
 refine Qd fun K hK => Qb Z (QK (Ji) Z Z (.inr Z) (Qb Z (kc4 hK Z Z Z Z ?_)))
 refine Qz ?_ -- 0
 refine Qd fun K hK => Qb Z (kc4 hK Z Z Z Z ?_)
 refine Qu Z (fun h1 => ?_) (fun h1 => ?_)
 ·rw [h1]
  refine Qz ?_ -- 1
  refine Qd fun K hK => Qb Z (kc1 hK Z ?_)
  refine Qu Z (fun h2 => ?_) (fun h2 => ?_)
  ·rw [h2]
   simp only [qB] at h2
   refine Qd fun K hK => Qb Z (kc1 hK Z ?_)
   refine Qs (Qf (Qf (QF Z ?_)))
   (repeat clear hK K); simp_all [YO]
  ·rw [h2]
   refine Qq (QJ (QL) (Qd fun K hK => Qb Z (kc1 hK Z ?_)))
   refine Qs (Qf (QF Z ?_))
   (repeat clear hK K); simp_all [YO]
 ·rw [h1]
  simp only [qB] at h1
  refine Qq (ks3 Z Z Z ?_)
  refine Qz ?_ -- 2
  refine Qd fun K hK => Qb Z (kc3 hK Z Z Z ?_)
  refine Qu Z (fun h3 => ?_) (fun h3 => ?_)
  ·rw [h3]
   refine Qd fun K hK => Qb Z (kc1 hK Z ?_)
   refine Qs (Qf (QF Z ?_))
   (repeat clear hK K); simp_all [YO]
  ·rw [h3]
   simp only [qB] at h3
   refine Qq (ks2 Z Z ?_)
   refine Qz ?_ -- 3
   refine Qd fun K hK => mv2 Z Z (Br Z Z (kc3 hK Z Z Z ?_))
   refine Qu Z (fun h4 => ?_) (fun h4 => ?_)
   ·rw [h4]
    refine Qd fun K hK => Qb Z (kc1 hK Z ?_)
    refine Qs (Qf (QF Z ?_))
    (repeat clear hK K); simp_all [YO]
   ·rw [h4]
    refine Qq (ks2 Z Z ?_)
    refine Qz ?_ -- 4
    refine Qd fun K hK => mv2 Z Z (Qdu Z Z (kc1 hK Z ?_))
    refine Qu Z (fun h5 => ?_) (fun h5 => ?_)
    ·rw [h5]
     simp only [qB] at h5
     refine Qd fun K hK => Qb Z (kc1 hK Z ?_)
     refine Qs (Qf (QF Z ?_))
     (repeat clear hK K); simp_all [YO]
    ·rw [h5]
     simp only [qB] at h5
     refine Qq (QJ (QL) (Qd fun K hK => Qb Z (kc1 hK Z ?_)))
     refine Qs (QF Z ?_)
     (repeat clear hK K); simp_all [YO]
theorem Hl {a b : List UInt8} : Ok Tryd.prog 91 [.str a, .str b] (.int .i64 (YO a b)) := by
 refine Ok.ofT ZL Tryd.func91 Qht (QhG Z) ?_
 show TW _ _ tf91.body _ _
 refine Qd fun K hK => Qb Z (kc2 hK Z Z ?_)
 refine Qz ?_ -- 0
 refine Qw (Qd fun K hK => mv2 Z Z (Br Z Z (Qb Z (kc3 hK Z Z Z ?_))))
 refine Qu Z (fun h1 => ?_) (fun h1 => ?_)
 ·rw [h1]
  refine Qd fun K hK => Qb Z (kc1 hK Z ?_)
  refine Qs (Qj (Qf (QF Z ?_)))
  (repeat clear hK K); simp_all [YO]
 ·rw [h1]
  refine Qd fun K hK => mv2 Z Z (Qdu Z Z (Qb Z (kc1 hK Z ?_)))
  refine Qu Z (fun h2 => ?_) (fun h2 => ?_)
  ·rw [h2]
   simp only [qB] at h2
   refine Qd fun K hK => Qb Z (kc1 hK Z ?_)
   refine Qs (Qj (Qf (QF Z ?_)))
   (repeat clear hK K); simp_all [YO]
  ·rw [h2]
   simp only [qB] at h2
   refine Qq (Ql (QJ (QL) (Qd fun K hK => Qb Z (kc1 hK Z ?_))))
   refine Qs (QF Z ?_)
   (repeat clear hK K); simp_all [YO]
theorem Hg {c : Int} : Ok Tryd.prog 95 [.int .u8 c] (.bool (Xm c)) := by
 refine Ok.ofT ZL Tryd.func95 Qhx (QhG Z) ?_
 show TW _ _ tf95.body _ _
 refine Qd fun K hK => Qb Z (kc1 hK Z ?_)
 refine Qd fun K hK => Qb Z (Fw Z Z (Qb Z ?_))
 refine Qr (g := 5) Z (fun h1 => ?_) (fun h1 => ?_)
 ·rw [h1]
  simp only [qB] at h1
  refine Qc Z (Qb Z (Qc Z (SZ Z Z (Qh Z Z (Qb Z (kc1 hK Z ?_))))))
  refine Qs (Qg Z ?_)
  (repeat clear hK K); simp_all [Xm] <;> omega
 ·rw [h1]
  simp only [qB] at h1
  refine gn2 Z Z (Qh Z Z (Qb Z (kc1 hK Z ?_)))
  refine Qs (Qg Z ?_)
  (repeat clear hK K); simp_all [Xm] <;> omega
theorem Yi {s : List UInt8} (hl : s.length <= 1048576) : Ok Tryd.prog 88 [.str s] (.bool (YA s)) := by
 refine Ok.ofT ZL Tryd.func88 Qhq (QhG Z) ?_
 show TW _ _ tf88.body _ _
 refine Qd fun K hK => Qb Z (kc1 hK Z ?_)
 refine Qz ?_ -- 0
 refine Qd fun K hK => Qb Z (kc2 hK Z Z ?_)
 refine Qw ?_
 refine Q5 (ι := Nat) (fun i => ⟨[(0, .str s), (3, .int .i64 i)], []⟩) (fun i => i <= s.length /\ (s.take i).all YK = true) (fun i => s.length - i) 0 ?_ ?_ ?_
 ·exact Q3 (kp2 rfl rfl)
 ·exact ⟨QhR _, rfl⟩
 intro i hI
 refine Qz ?_ -- 1
 refine Qd fun K hK => mv2 Z Z (ZN Z (ZI Z Z (kc3 hK Z Z Z ?_)))
 refine Qu Z (fun h1 => ?_) (fun h1 => ?_)
 ·rw [h1]
  simp only [qB] at h1
  refine Qq (ks2 Z Z ?_)
  refine Qz ?_ -- 2
  refine Qw (Qd fun K hK => mv2 Z Z (Z1 Z Z Wa (Kx Wa) (ZI Z Z (Qb Z ?_))))
  refine Qr (g := 14) Z (fun h2 => ?_) (fun h2 => ?_)
  ·rw [h2]
   simp only [qB] at h2
   refine gn4 Z Z Z Z (Qh Z Z (kc3 hK Z Z Z ?_))
   refine QV Z (Qd fun K hK => Qb Z (kc1 hK Z ?_))
   refine Qs (Qj (Qf (QC (Qj (Qf (Qg Z ?_))))))
   exact (K5 (i := i) Wa Wk).symm
  ·rw [h2]
   simp only [qB] at h2
   refine Qc Z (Qb Z (Qc Z (Qb Z (Qc Z (Z1 Z Z Wa (Kx Wa) (Qc Z (YZ Z Z (Qh Z Z (kc3 hK Z Z Z ?_)))))))))
   refine Qu Z (fun h3 => ?_) (fun h3 => ?_)
   ·rw [h3]
    simp only [qB] at h3
    refine Qd fun K hK => Qb Z (kc1 hK Z ?_)
    refine Qs (Qj (Qf (QC (Qj (Qf (Qg Z ?_))))))
    exact (K5 (i := i) Wa Wk).symm
   ·rw [h3]
    simp only [qB] at h3
    refine Qq (Ql (ks2 Z Z (QN fun K hK => Qb Z (Q0 Z Z Wb (Qb Z (hK _ ?_))))))
    refine Qk (i + 1) ?_ ?_ ?_
    ·exact Q3 (kp2 rfl rfl)
    ·exact ⟨Wa, Q8 Wa hI.2 Wk⟩
    ·omega
 ·rw [h1]
  simp only [qB] at h1
  refine QU (QB (Qv (QA (ks1 Z (Qd fun K hK => Qb Z (ZN Z (YZ Z Z (Qb Z (kc1 hK Z ?_)))))))))
  refine Qs (Qg Z ?_)
  rw [NI (i := i) Wa hI.2]; cases s <;> simp
theorem _root_.Wg {p : Prop} (h : p := by simp [Yb]; omega) : p := h
theorem H9 {s : List UInt8} (hl : s.length <= 1048576) : Ok Tryd.prog 86 [.str s] (.bool (NY s)) := by
 refine Ok.ofT ZL Tryd.func86 Qho (QhG Z) ?_
 show TW _ _ tf86.body _ _
 refine Qd fun K hK => Qb Z (kc1 hK Z ?_)
 refine Qz ?_ -- 0
 refine Qd fun K hK => Qb Z (ZN Z (ZI Z Z (Qb Z ?_)))
 refine Qr (g := 8) Z (fun h1 => ?_) (fun h1 => ?_)
 ·rw [h1]
  simp only [qB] at h1
  refine gn3 Z Z Z (Qh Z Z (kc2 hK Z Z ?_))
  refine QV Z (Qd fun K hK => Qb Z (kc1 hK Z ?_))
  refine Qs (Qf (Qg Z ?_))
  (simp [NY]; omega)
 ·rw [h1]
  simp only [qB] at h1
  refine Qc Z (Qb Z (Qc Z (ZN Z (Qc Z (YZ Z Z (Qh Z Z (kc2 hK Z Z ?_)))))))
  refine Qu Z (fun h2 => ?_) (fun h2 => ?_)
  ·rw [h2]
   simp only [qB] at h2
   refine Qd fun K hK => Qb Z (kc1 hK Z ?_)
   refine Qs (Qf (Qg Z ?_))
   (simp [NY]; omega)
  ·rw [h2]
   simp only [qB] at h2
   refine Qq (ks1 Z ?_)
   refine Qz ?_ -- 1
   refine Qd fun K hK => Qb Z (kc2 hK Z Z ?_)
   refine Qw ?_
   refine Q5 (ι := Nat) (fun i => ⟨[(0, .str s), (3, .int .i64 i)], []⟩) (fun i => i <= s.length /\ (s.take i).all Yb = true) (fun i => s.length - i) 0 ?_ ?_ ?_
   ·exact Q3 (kp2 rfl rfl)
   ·exact ⟨QhR _, rfl⟩
   intro i hI
   refine Qz ?_ -- 2
   refine Qd fun K hK => mv2 Z Z (ZN Z (ZI Z Z (kc3 hK Z Z Z ?_)))
   refine Qu Z (fun h3 => ?_) (fun h3 => ?_)
   ·rw [h3]
    simp only [qB] at h3
    refine Qq (ks2 Z Z ?_)
    refine Qz ?_ -- 3
    refine Qw (Qd fun K hK => mv2 Z Z (Z1 Z Z Wa (Kx Wa) (Qb Z (kc3 hK Z Z Z ?_))))
    refine Qd fun K hK => Qb Z (ZI Z Z (Qb Z ?_))
    refine Qr (g := 24) Z (fun h4 => ?_) (fun h4 => ?_)
    ·rw [h4]
     simp only [qB] at h4
     refine gn2 Z Z (Qh Z Z (Qb Z (Qc Z (Qb Z (Qc Z (ZI Z Z (Qc Z (Qb Z ?_))))))))
     refine Qr (g := 31) Z (fun h5 => ?_) (fun h5 => ?_)
     ·rw [h5]
      simp only [qB] at h5
      refine gn2 Z Z (Qc Z (Qh Z Z (Qh Z Z (Qb Z (Qc Z (Qb Z (Qc Z (Z7 Z Z (Qh Z Z (kc3 hK Z Z Z ?_))))))))))
      refine Qu Z (fun h6 => ?_) (fun h6 => ?_)
      ·rw [h6]
       simp only [qB] at h6
       refine Qd fun K hK => Qb Z (kc1 hK Z ?_)
       refine Qs (Qj (Qf (QC (Qj (Qf (Qg Z ?_))))))
       (have hz := Jf (p := Yb) (s := s) (i := i) Wa Wg; simp [NY, hz]; done)
      ·rw [h6]
       simp only [qB] at h6
       refine Qq (Ql (ks2 Z Z (QN fun K hK => Qb Z (Q0 Z Z Wb (Qb Z (hK _ ?_))))))
       refine Qk (i + 1) ?_ ?_ ?_
       ·exact Q3 (kp2 rfl rfl)
       ·exact ⟨Wa, Q8 Wa hI.2 Wg⟩
       ·omega
     ·rw [h5]
      simp only [qB] at h5
      refine Qc Z (Qb Z (Qc Z (YZ Z Z (Qc Z (Qh Z Z (Qh Z Z (Qb Z ?_)))))))
      refine Qr (g := 36) Z (fun h7 => ?_) (fun h7 => ?_)
      ·rw [h7]
       simp only [qB] at h7
       refine Qc Z (Qb Z (Qc Z (Z7 Z Z (Qh Z Z (kc3 hK Z Z Z ?_)))))
       refine Qu Z (fun h8 => ?_) (fun h8 => ?_)
       ·rw [h8]
        simp only [qB] at h8
        refine Qd fun K hK => Qb Z (kc1 hK Z ?_)
        refine Qs (Qj (Qf (QC (Qj (Qf (Qg Z ?_))))))
        (have hz := Jf (p := Yb) (s := s) (i := i) Wa Wg; simp [NY, hz]; done)
       ·rw [h8]
        simp only [qB] at h8
        refine Qq (Ql (ks2 Z Z (QN fun K hK => Qb Z (Q0 Z Z Wb (Qb Z (hK _ ?_))))))
        refine Qk (i + 1) ?_ ?_ ?_
        ·exact Q3 (kp2 rfl rfl)
        ·exact ⟨Wa, Q8 Wa hI.2 Wg⟩
        ·omega
      ·rw [h7]
       simp only [qB] at h7
       refine gn2 Z Z (Qh Z Z (kc3 hK Z Z Z ?_))
       refine Zg Z (Qq (Ql (ks2 Z Z (QN fun K hK => Qb Z (Q0 Z Z Wb (Qb Z (hK _ ?_)))))))
       refine Qk (i + 1) ?_ ?_ ?_
       ·exact Q3 (kp2 rfl rfl)
       ·exact ⟨Wa, Q8 Wa hI.2 Wg⟩
       ·omega
    ·rw [h4]
     simp only [qB] at h4
     refine Qc Z (Qb Z (Qc Z (YZ Z Z (Qh Z Z (Qb Z ?_)))))
     refine Qr (g := 28) Z (fun h9 => ?_) (fun h9 => ?_)
     ·rw [h9]
      simp only [qB] at h9
      refine Qc Z (Qb Z (Qc Z (ZI Z Z (Qc Z (Qb Z ?_)))))
      refine Qr (g := 31) Z (fun h10 => ?_) (fun h10 => ?_)
      ·rw [h10]
       simp only [qB] at h10
       refine gn2 Z Z (Qc Z (Qh Z Z (Qh Z Z (Qb Z (Qc Z (Qb Z (Qc Z (Z7 Z Z (Qh Z Z (kc3 hK Z Z Z ?_))))))))))
       refine Qu Z (fun h11 => ?_) (fun h11 => ?_)
       ·rw [h11]
        simp only [qB] at h11
        refine Qd fun K hK => Qb Z (kc1 hK Z ?_)
        refine Qs (Qj (Qf (QC (Qj (Qf (Qg Z ?_))))))
        (have hz := Kg (p := Yb) (s := s) (i := i) Wa hI.2; simp [NY, hz]; omega)
       ·rw [h11]
        simp only [qB] at h11
        refine Qq (Ql (ks2 Z Z (QN fun K hK => Qb Z (Q0 Z Z Wb (Qb Z (hK _ ?_))))))
        refine Qk (i + 1) ?_ ?_ ?_
        ·exact Q3 (kp2 rfl rfl)
        ·exact ⟨Wa, Q8 Wa hI.2 Wg⟩
        ·omega
      ·rw [h10]
       simp only [qB] at h10
       refine Qc Z (Qb Z (Qc Z (YZ Z Z (Qc Z (Qh Z Z (Qh Z Z (Qb Z ?_)))))))
       refine Qr (g := 36) Z (fun h12 => ?_) (fun h12 => ?_)
       ·rw [h12]
        simp only [qB] at h12
        refine Qc Z (Qb Z (Qc Z (Z7 Z Z (Qh Z Z (kc3 hK Z Z Z ?_)))))
        refine Qu Z (fun h13 => ?_) (fun h13 => ?_)
        ·rw [h13]
         simp only [qB] at h13
         refine Qd fun K hK => Qb Z (kc1 hK Z ?_)
         refine Qs (Qj (Qf (QC (Qj (Qf (Qg Z ?_))))))
         (have hz := Jf (p := Yb) (s := s) (i := i) Wa Wg; simp [NY, hz]; done)
        ·rw [h13]
         simp only [qB] at h13
         refine Qq (Ql (ks2 Z Z (QN fun K hK => Qb Z (Q0 Z Z Wb (Qb Z (hK _ ?_))))))
         refine Qk (i + 1) ?_ ?_ ?_
         ·exact Q3 (kp2 rfl rfl)
         ·exact ⟨Wa, Q8 Wa hI.2 Wg⟩
         ·omega
       ·rw [h12]
        simp only [qB] at h12
        refine gn2 Z Z (Qh Z Z (kc3 hK Z Z Z ?_))
        refine Zg Z (Qq (Ql (ks2 Z Z (QN fun K hK => Qb Z (Q0 Z Z Wb (Qb Z (hK _ ?_)))))))
        refine Qk (i + 1) ?_ ?_ ?_
        ·exact Q3 (kp2 rfl rfl)
        ·exact ⟨Wa, Q8 Wa hI.2 Wg⟩
        ·omega
     ·rw [h9]
      simp only [qB] at h9
      refine gn3 Z Z Z (Qo Z (Qo Z (Yk Z (Qh Z Z (Qb Z (gn2 Z Z (Qh Z Z (kc3 hK Z Z Z ?_))))))))
      refine Zg Z (Qq (Ql (ks2 Z Z (QN fun K hK => Qb Z (Q0 Z Z Wb (Qb Z (hK _ ?_)))))))
      refine Qk (i + 1) ?_ ?_ ?_
      ·exact Q3 (kp2 rfl rfl)
      ·exact ⟨Wa, Q8 Wa hI.2 Wg⟩
      ·omega
   ·rw [h3]
    simp only [qB] at h3
    refine QU (QB (Qv (QA (QJ (QL) (Qd fun K hK => Qb Z (kc1 hK Z ?_))))))
    refine Qs (Qg Z ?_)
    (have hz := Kg (p := Yb) (s := s) (i := i) Wa hI.2; simp [NY, hz]; omega)
theorem Hx {a b c : Int} {p q : List UInt8} : Ok Tryd.prog 48 [.agg [.int .i64 a, .int .i64 b, .int .i64 c, .str p, .str q]] (.agg [.int .i64 a, .int .i64 b, .int .i64 c, .str p, .str []]) := by
 refine Ok.ofT ZL Tryd.func48 QgM (QhG Z) ?_
 show TW _ _ tf48.body _ _
 refine Qd fun K hK => Zs Z Z Z (Zu Z (kc2 hK Z Z ?_))
 refine Qd fun K hK => Qe Z Z (Zf Z Z Z Z Z Z Z Z (kc2 hK Z Z ?_))
 refine Qd fun K hK => QD (cs := [_, _, _, _, _]) Z Z Z Z (Zf Z Z Z Z Z Z Z Z (kc1 hK Z ?_))
 refine Qs (JS (cs := [_, _, _, _, _]) Z Z Z Z ?_)
 exact rfl
theorem Yo {s : List UInt8} (hl : s.length <= 1048576) : Ok Tryd.prog 87 [.str s] (.tup [.int .i64 (ZX s).1, .bool (ZX s).2]) := by
 refine Ok.ofT ZL Tryd.func87 Qhp (QhG Z) ?_
 show TW _ _ tf87.body _ _
 refine Qd fun K hK => mv2 Z Z (kc1 hK Z ?_)
 refine Fh (ι := Unit) (fun _u => ⟨[(0, .str s)], []⟩) (fun _u => ¬ (s.length < 1 \/ 9 < s.length \/ (1 < s.length /\ s.head? = some 48))) ?_ ?_
 ·skip
  refine Qd fun K hK => Qb Z (ZN Z (ZI Z Z (Qb Z ?_)))
  refine Qr (g := 9) Z (fun h1 => ?_) (fun h1 => ?_)
  ·rw [h1]
   simp only [qB, Xm, QhJ, QhS] at h1
   refine gn3 Z Z Z (Qh Z Z (Qb Z (gn4 Z Z Z Z (Qo Z (Qo Z (Qo Z ?_))))))
   refine Yk Z (Qh Z Z (kc2 hK Z Z ?_))
   refine QV Z (Qd fun K hK => mv2 Z Z (kc2 hK Z Z ?_))
   refine Qs (ZJ (Zt Z Z ?_))
   (rw [Ci (s := s) Wa]; exact ⟨rfl, rfl⟩)
  ·rw [h1]
   simp only [qB, Xm, QhJ, QhS] at h1
   refine Qc Z (Qb Z (Qc Z (ZN Z (Qc Z (YZ Z Z (Qh Z Z (Qb Z ?_)))))))
   refine Qr (g := 14) Z (fun h2 => ?_) (fun h2 => ?_)
   ·rw [h2]
    simp only [qB, Xm, QhJ, QhS] at h2
    refine gn4 Z Z Z Z (Qo Z (Qo Z (Qo Z (Yk Z (Qh Z Z (kc2 hK Z Z ?_))))))
    refine QV Z (Qd fun K hK => mv2 Z Z (kc2 hK Z Z ?_))
    refine Qs (ZJ (Zt Z Z ?_))
    (rw [Ci (s := s) Wa]; exact ⟨rfl, rfl⟩)
   ·rw [h2]
    simp only [qB, Xm, QhJ, QhS] at h2
    refine Qc Z (Qb Z (Qc Z (ZN Z (Qc Z (YZ Z Z (Qc Z (Qb Z ?_)))))))
    refine Qr (g := 18) Z (fun h3 => ?_) (fun h3 => ?_)
    ·rw [h3]
     simp only [qB, Xm, QhJ, QhS] at h3
     refine Qc Z (Qb Z (Qc Z (Z1 Z Z Wa (Kx (i := 0) Wa) (Qc Z (Y3 Z Z (Qc Z (Qh Z Z (Qh Z Z (kc2 hK Z Z ?_)))))))))
     refine Qu Z (fun h4 => ?_) (fun h4 => ?_)
     ·rw [h4]
      simp only [qB, Xm, QhJ, QhS] at h4
      refine Qd fun K hK => mv2 Z Z (kc2 hK Z Z ?_)
      refine Qs (ZJ (Zt Z Z ?_))
      (rw [TD (s := s) Wa Wd]; exact ⟨rfl, rfl⟩)
     ·rw [h4]
      simp only [qB, Xm, QhJ, QhS] at h4
      refine Qq ?_
      refine Q9 () ?_ ?_
      ·exact Q3 (kp1 rfl)
      ·rintro (q | q | q) <;> first | omega | exact MW (s := s) Wa Wd q.2
    ·rw [h3]
     simp only [qB, Xm, QhJ, QhS] at h3
     refine gn3 Z Z Z (Qc Z (Qh Z Z (Qh Z Z (kc2 hK Z Z ?_))))
     refine Zg Z (Qq ?_)
     refine Q9 () ?_ ?_
     ·exact Q3 (kp1 rfl)
     ·rintro (q | q | q) <;> first | omega | exact MW (s := s) Wa Wd q.2
 intro _u hJ
 refine Qd fun K hK => Qb Z (kc2 hK Z Z ?_)
 refine Qz ?_ -- 1
 refine Qd fun K hK => Qb Z (kc3 hK Z Z Z ?_)
 refine Qw ?_
 refine Q5 (ι := Nat) (fun i => ⟨[(0, .str s), (4, .int .i64 (val (s.take i))), (5, .int .i64 i)], []⟩) (fun i => i <= s.length /\ (s.take i).all YK = true /\ s.length <= 9) (fun i => s.length - i) 0 ?_ ?_ ?_
 ·exact Q3 (kp3 rfl rfl rfl)
 ·exact ⟨QhR _, rfl, Wa⟩
 intro i hI
 have hv := C7 (s := s.take i) hI.2.1
 have hp : 10 ^ (s.take i).length <= 10 ^ 9 := Nat.pow_le_pow_right Wa We
 refine Qz ?_ -- 2
 refine Qd fun K hK => mv2 Z Z (ZN Z (ZI Z Z (kc4 hK Z Z Z Z ?_)))
 refine Qu Z (fun h5 => ?_) (fun h5 => ?_)
 ·rw [h5]
  simp only [qB, Xm, QhJ, QhS] at h5
  refine Qq (ks3 Z Z Z ?_)
  refine Qz ?_ -- 3
  refine Qw ?_
  refine Qz ?_ -- 4
  refine Qd fun K hK => mv2 Z Z (Z1 Z Z Wa (Kx Wa) (QK (Hg) Z Z (.inr Z) (Zm Z (kc4 hK Z Z Z Z ?_))))
  refine Qu Z (fun h6 => ?_) (fun h6 => ?_)
  ·rw [h6]
   simp only [qB, Xm, QhJ, QhS] at h6
   refine Qd fun K hK => mv2 Z Z (kc2 hK Z Z ?_)
   refine Qs (Qf (Qj (Qf (QC (Qj (Qf (Zt Z Z ?_)))))))
   (rw [M8 (s := s) (i := i) Wa Wk]; exact ⟨rfl, rfl⟩)
  ·rw [h6]
   simp only [qB, Xm, QhJ, QhS] at h6
   refine Qq (ks3 Z Z Z (QN fun K hK => Qb Z (T9 Z Z Wb (mv2 Z Z (Z1 Z Z Wa (Kx Wa) (JK Z Z (by exact Qc2 Wa Wa) (SY Z Wb (Q0 Z Z Wb (Qb Z ?_)))))))))
   refine hK _ ?_
   refine Ql (ks3 Z Z Z (QN fun K hK => Qb Z (Q0 Z Z Wb (Qb Z (hK _ ?_)))))
   refine Qk (i + 1) ?_ ?_ ?_
   ·exact QP (l := [0, 4, 5]) (kp3 rfl rfl rfl) Qi (by rw [T2 Wa]; simp; omega) rfl rfl
   ·exact ⟨Wa, Q8 Wa hI.2.1 Wk, hI.2.2⟩
   ·omega
 ·rw [h5]
  simp only [qB, Xm, QhJ, QhS] at h5
  refine QU (QB (Qv (QA (ks1 Z ?_))))
  refine Qz ?_ -- 5
  refine Qd fun K hK => Qb Z (YZ Z Z (kc2 hK Z Z ?_))
  refine Qu Z (fun h7 => ?_) (fun h7 => ?_)
  ·rw [h7]
   simp only [qB, Xm, QhJ, QhS] at h7
   refine Qd fun K hK => mv2 Z Z (kc2 hK Z Z ?_)
   refine Qs (Qf (Zt Z Z ?_))
   (rw [Qcr (s := s) (i := i) Wa Wa]; exact ⟨rfl, rfl⟩)
  ·rw [h7]
   simp only [qB, Xm, QhJ, QhS] at h7
   refine Qq (ks1 Z (Qd fun K hK => mv2 Z Z (Qb Z (kc2 hK Z Z ?_))))
   refine Qs (Zt Z Z ?_)
   (rw [Qbe (s := s) (i := i) hJ Wa hI.2.1 Wa]; exact ⟨rfl, rfl⟩)
open Go Go.Abs M3
theorem H8 {a b : List UInt8} (ha : a.length <= 1048576) (hb : b.length <= 1048576) : Ok Tryd.prog 81 [.str a, .str b] (.int .i64 (RS a b)) := by
 refine Ok.ofT ZL Tryd.func81 Qhj (QhG Z) ?_
 show TW _ _ tf81.body _ _
 refine Qd fun K hK => Qb Z (kc2 hK Z Z ?_)
 refine Qd fun K hK => Qb Z (QK (Yi Wa) Z Z (.inr Z) (Qb Z (QK (Yi Wa) Z Z (.inr Z) (mv2 Z Z (kc4 hK Z Z Z Z ?_)))))
 refine Qz ?_ -- 0
 refine Qw (Qd fun K hK => mv2 Z Z ?_)
 refine Qr (g := 17) Z (fun h1 => ?_) (fun h1 => ?_)
 ·rw [h1]
  refine Qc Z (Qb Z (Qh Z Z (Qb Z (kc5 hK Z Z Z Z Z ?_))))
  refine Qu Z (fun h2 => ?_) (fun h2 => ?_)
  ·rw [h2]
   refine Qd fun K hK => Qb Z (QK (Yo Wa) Z Z (.inr Z) (Qb Z (Q4 Z Z (Q4 Z Z (mv2 Z Z (kc2 hK Z Z ?_))))))
   refine Qd fun K hK => Qb Z (QK (Yo Wa) Z Z (.inr Z) (Qb Z (Q4 Z Z (Q4 Z Z (mv2 Z Z (kc2 hK Z Z ?_))))))
   refine Qd fun K hK => mv2 Z Z (QK (Zv) Z Z (.inr Z) (Qb Z (kc1 hK Z ?_)))
   refine Qs (Qj (Qf (QF Z ?_)))
   simp [RS, h1, h2]
  ·rw [h2]
   refine Qd fun K hK => mv2 Z Z (kc4 hK Z Z Z Z ?_)
   refine QV Z (Qd fun K hK => Qb Z (kc1 hK Z ?_))
   refine Qs (Qj (Qf (QF Z ?_)))
   simp [RS, h1, h2]
 ·rw [h1]
  refine Yk Z (Qh Z Z (Qb Z (kc5 hK Z Z Z Z Z ?_)))
  refine Zg Z (Qd fun K hK => mv2 Z Z (kc4 hK Z Z Z Z ?_))
  refine Zg Z (Qd fun K hK => mv2 Z Z (kc3 hK Z Z Z ?_))
  refine Qu Z (fun h3 => ?_) (fun h3 => ?_)
  ·rw [h3]
   refine Qd fun K hK => Qb Z (kc1 hK Z ?_)
   refine Qs (Qj (Qf (QF Z ?_)))
   simp [RS, h1, h3]
  ·rw [h3]
   refine Qq (Ql (ks2 Z Z (Qd fun K hK => mv2 Z Z (QK (Hl) Z Z (.inr Z) (Qb Z (kc1 hK Z ?_))))))
   refine Qs (QF Z ?_)
   simp [RS, h1, h3]
theorem HM {a b : List UInt8} (ha : a.length <= 1048576) (hb : b.length <= 1048576) : Ok Tryd.prog 72 [.str a, .str b] (.int .i64 (FB a b)) := by
 refine Ok.ofT ZL Tryd.func72 Qha (QhG Z) ?_
 show TW _ _ tf72.body _ _
 refine Qd fun K hK => Qb Z (kc2 hK Z Z ?_)
 refine Qz ?_ -- 0
 refine Qw (Qd fun K hK => mv2 Z Z (JJ Z Z (Qb Z (kc3 hK Z Z Z ?_))))
 refine Qu Z (fun h1 => ?_) (fun h1 => ?_)
 ·rw [h1]
  simp only [qB, Qy] at h1
  refine Qd fun K hK => Qb Z (kc1 hK Z ?_)
  refine Qs (Qj (Qf (QF Z ?_)))
  (repeat clear hK K); (simp_all [FB]; done)
 ·rw [h1]
  simp only [qB, Qy] at h1
  refine Qd fun K hK => Qb Z (JJ Z Z (Qb Z (kc3 hK Z Z Z ?_)))
  refine Qu Z (fun h2 => ?_) (fun h2 => ?_)
  ·rw [h2]
   simp only [qB, Qy] at h2
   refine Qd fun K hK => Qb Z (kc1 hK Z ?_)
   refine Qs (Qj (Qf (QF Z ?_)))
   (repeat clear hK K); (simp_all [FB]; done)
  ·rw [h2]
   simp only [qB, Qy] at h2
   refine Qd fun K hK => Qb Z (JJ Z Z (Qb Z (kc3 hK Z Z Z ?_)))
   refine Qu Z (fun h3 => ?_) (fun h3 => ?_)
   ·rw [h3]
    simp only [qB, Qy] at h3
    refine Qd fun K hK => Qb Z (kc1 hK Z ?_)
    refine Qs (Qj (Qf (QF Z ?_)))
    (repeat clear hK K); (simp_all [FB]; done)
   ·rw [h3]
    simp only [qB, Qy] at h3
    refine Qq (Ql (ks2 Z Z (Qd fun K hK => Qb Z (QK (Yw Wa) Z Z (.inl Z) (Qb Z (QK (Yw Wa) Z Z (.inl Z) (mv2 Z Z (kc2 hK Z Z ?_))))))))
    refine Qz ?_ -- 1
    refine Qd fun K hK => Qb Z (kc3 hK Z Z Z ?_)
    refine Qw ?_
    refine Q5 (ι := Nat) (fun i => ⟨[(5, .sl (YJ (Q6 a 46))), (6, .sl (YJ (Q6 b 46))), (7, .int .i64 i)], []⟩) (fun i => i <= (Q6 a 46).length /\ i <= (Q6 b 46).length /\ FB a b = Tx ((Q6 a 46).drop i) ((Q6 b 46).drop i)) (fun i => (Q6 a 46).length - i) 0 ?_ ?_ ?_
    ·exact Q3 (kp3 rfl rfl rfl)
    ·exact ⟨QhR _, QhR _, by simp_all [FB]⟩
    intro i hI
    have sl := GK (s := a) (c := 46)
    refine Qz ?_ -- 2
    refine Qd fun K hK => mv2 Z Z (QY Z Z (ZI Z Z (Qb Z ?_)))
    refine Qr (g := 27) Z (fun h4 => ?_) (fun h4 => ?_)
    ·rw [h4]
     simp only [qB, Qy] at h4
     refine Qc Z (Qb Z (Qc Z (Qb Z (Qc Z (QY Z Z (Qc Z (ZI Z Z (Qh Z Z (kc4 hK Z Z Z Z ?_)))))))))
     refine Qu Z (fun h5 => ?_) (fun h5 => ?_)
     ·rw [h5]
      simp only [qB, Qy] at h5
      refine Qq (ks3 Z Z Z ?_)
      refine Qz ?_ -- 3
      refine Qw (Qd fun K hK => mv2 Z Z (QE Z Z Z Wa (XG Wa) Z (QH (ds0 := [1, 0]) Z Z Z Z Z (mv2 Z Z (QE Z Z Z Wa (XG Wa) Z (QH (ds0 := [1, 0]) Z Z Z Z Z (Zk (ds0 := [0]) (H8 (XJ Wa ha) (XJ Wa hb)) Z Z (.inr Z) Z Z (Qb Z ?_))))))))
      refine kc4 hK Z Z Z Z ?_
      refine Qd fun K hK => Qb Z (Z7 Z Z (kc5 hK Z Z Z Z Z ?_))
      refine Qu Z (fun h6 => ?_) (fun h6 => ?_)
      ·rw [h6]
       simp only [qB, Qy] at h6
       refine Qd fun K hK => mv2 Z Z (kc1 hK Z ?_)
       refine Qs (Qj (Qf (QC (Qj (Qf (QF Z ?_))))))
       rw [hI.2.2, Tz Wa Wa Wd]
      ·rw [h6]
       simp only [qB, Qy] at h6
       refine Qq (Ql (ks3 Z Z Z (QN fun K hK => Qb Z (Q0 Z Z Wb (Qb Z (hK _ ?_))))))
       refine Qk (i + 1) ?_ ?_ ?_
       ·exact Q3 (kp3 rfl rfl rfl)
       ·exact ⟨Wa, Wa, by rw [hI.2.2, Rk Wa Wa Wd]⟩
       ·omega
     ·rw [h5]
      simp only [qB, Qy] at h5
      refine QU (QB (Qv (QA (ks2 Z Z (Qd fun K hK => Qb Z (QY Z Z (Qb Z (QY Z Z (QK (Zv) Z Z (.inr Z) (Qb Z ?_))))))))))
      refine kc1 hK Z ?_
      refine Qs (QF Z ?_)
      (rw [hI.2.2, FM Wa Wa Wa]; simp [Qy])
    ·rw [h4]
     simp only [qB, Qy] at h4
     refine gn4 Z Z Z Z (Qh Z Z (kc4 hK Z Z Z Z ?_))
     refine Zg Z (QU (QB (Qv (QA (ks2 Z Z (Qd fun K hK => Qb Z (QY Z Z (Qb Z (QY Z Z (QK (Zv) Z Z (.inr Z) ?_))))))))))
     refine Qb Z (kc1 hK Z ?_)
     refine Qs (QF Z ?_)
     (rw [hI.2.2, FM Wa Wa Wa]; simp [Qy])
theorem XP {s : List UInt8} {pre : Bool} (hl : s.length <= 1048576) : Ok Tryd.prog 78 [.str s, .bool pre] (.bool (G5 s pre)) := by
 refine Ok.ofT ZL Tryd.func78 Qhg (QhG Z) ?_
 show TW _ _ tf78.body _ _
 refine Qd fun K hK => Qb Z (kc2 hK Z Z ?_)
 refine Qz ?_ -- 0
 refine Qd fun K hK => Qb Z (JJ Z Z (kc3 hK Z Z Z ?_))
 refine Qu Z (fun h1 => ?_) (fun h1 => ?_)
 ·rw [h1]
  simp only [qB, Qy] at h1
  refine Qd fun K hK => Qb Z (kc1 hK Z ?_)
  refine Qs (Qf (Qg Z ?_))
  (repeat clear hK K); (simp_all [G5]; done)
 ·rw [h1]
  simp only [qB, Qy] at h1
  refine Qq (ks2 Z Z (Qd fun K hK => Qb Z (QK (Yw Wa) Z Z (.inl Z) (Qb Z (kc2 hK Z Z ?_)))))
  refine Qz ?_ -- 1
  refine Qd fun K hK => Qb Z (QY Z Z (YZ Z Z (kc3 hK Z Z Z ?_)))
  refine Qu Z (fun h2 => ?_) (fun h2 => ?_)
  ·rw [h2]
   simp only [qB, Qy] at h2
   refine Qd fun K hK => Qb Z (kc1 hK Z ?_)
   refine Qs (Qf (Qg Z ?_))
   (simp [G5, h1, h2]; omega)
  ·rw [h2]
   simp only [qB, Qy] at h2
   refine Qq (ks2 Z Z ?_)
   refine Qz ?_ -- 2
   refine Qd fun K hK => Qb Z (kc3 hK Z Z Z ?_)
   refine Qw ?_
   refine Q5 (ι := Nat) (fun i => ⟨[(1, .bool pre), (5, .sl (YJ (Q6 s 46))), (6, .int .i64 i)], []⟩) (fun i => i <= (Q6 s 46).length /\ ((Q6 s 46).take i).all (Fc pre) = true) (fun i => (Q6 s 46).length - i) 0 ?_ ?_ ?_
   ·exact Q3 (kp3 rfl rfl rfl)
   ·exact ⟨QhR _, rfl⟩
   intro i hI
   refine Qz ?_ -- 3
   refine Qd fun K hK => mv2 Z Z (QY Z Z (ZI Z Z (kc4 hK Z Z Z Z ?_)))
   refine Qu Z (fun h3 => ?_) (fun h3 => ?_)
   ·rw [h3]
    simp only [qB, Qy] at h3
    refine Qq (ks3 Z Z Z ?_)
    refine Qz ?_ -- 4
    refine Qw ?_
    refine Qz ?_ -- 5
    refine Qd fun K hK => mv2 Z Z (QE Z Z Z Wa (XG Wa) Z (Qt Z Z Z (QK (H9 (XJ Wa hl)) Z Z (.inr Z) (Zm Z (kc4 hK Z Z Z Z ?_)))))
    refine Qu Z (fun h4 => ?_) (fun h4 => ?_)
    ·rw [h4]
     simp only [qB, Qy] at h4
     refine Qd fun K hK => Qb Z (kc1 hK Z ?_)
     refine Qs (Qf (Qj (Qf (QC (Qj (Qf (Qg Z ?_)))))))
     exact (TA (i := i) Wd Wa (by simp [Fc, h1, h2, h3, h4])).symm
    ·rw [h4]
     simp only [qB, Qy] at h4
     refine Qq (ks3 Z Z Z (Qd fun K hK => mv2 Z Z (QE Z Z Z Wa (XG Wa) Z (Qt Z Z Z (QK (Yo (XJ Wa hl)) Z Z (.inr Z) (Qb Z (Q4 Z Z (Q4 Z Z (Qb Z ?_)))))))))
     refine Qb Z (kc4 hK Z Z Z Z ?_)
     refine Qd fun K hK => mv2 Z Z ?_
     refine Qr (g := 37) Z (fun h5 => ?_) (fun h5 => ?_)
     ·rw [h5]
      refine Qc Z (Qb Z (Qc Z (Qb Z (Qc Z (QE Z Z Z Wa (XG Wa) Z (Qc Z (Qt Z Z Z (Qc Z (QK (Yi (XJ Wa hl)) Z Z (.inr Z) (Qh Z Z (Qb Z ?_)))))))))))
      refine Qr (g := 44) Z (fun h6 => ?_) (fun h6 => ?_)
      ·rw [h6]
       refine Qc Z (Qb Z (Qc Z (Zm Z (Qh Z Z (kc4 hK Z Z Z Z ?_)))))
       refine Qu Z (fun h7 => ?_) (fun h7 => ?_)
       ·rw [h7]
        simp only [qB, Qy] at h7
        refine Qd fun K hK => Qb Z (kc1 hK Z ?_)
        refine Qs (Qj (Qf (QC (Qj (Qf (Qg Z ?_))))))
        exact (TA (i := i) Wd Wa (by simp [Fc, h1, h2, h3, h4, h5, h6, h7])).symm
       ·rw [h7]
        simp only [qB, Qy] at h7
        refine Qq (Ql (ks3 Z Z Z (QN fun K hK => Qb Z (Q0 Z Z Wb (Qb Z (hK _ ?_))))))
        refine Qk (i + 1) ?_ ?_ ?_
        ·exact QP (l := [1, 5, 6]) (kp3 rfl rfl rfl) Qi (by simp [h1, h2, h3, h4, h5, h6, h7]) rfl rfl
        ·exact ⟨Wa, Q8 Wa hI.2 (by simp [Fc, h1, h2, h3, h4, h5, h6, h7])⟩
        ·omega
      ·rw [h6]
       refine gn2 Z Z (Qh Z Z (kc4 hK Z Z Z Z ?_))
       refine Zg Z (Qq (Ql (ks3 Z Z Z (QN fun K hK => Qb Z (Q0 Z Z Wb (Qb Z (hK _ ?_)))))))
       refine Qk (i + 1) ?_ ?_ ?_
       ·exact QP (l := [1, 5, 6]) (kp3 rfl rfl rfl) Qi (by simp [h1, h2, h3, h4, h5, h6]) rfl rfl
       ·exact ⟨Wa, Q8 Wa hI.2 (by simp [Fc, h1, h2, h3, h4, h5, h6])⟩
       ·omega
     ·rw [h5]
      refine gn4 Z Z Z Z (Yk Z (Qh Z Z (Qb Z (gn2 Z Z (Qh Z Z (kc4 hK Z Z Z Z ?_))))))
      refine Zg Z (Qq (Ql (ks3 Z Z Z (QN fun K hK => Qb Z (Q0 Z Z Wb (Qb Z (hK _ ?_)))))))
      refine Qk (i + 1) ?_ ?_ ?_
      ·exact QP (l := [1, 5, 6]) (kp3 rfl rfl rfl) Qi (by simp [h1, h2, h3, h4, h5]) rfl rfl
      ·exact ⟨Wa, Q8 Wa hI.2 (by simp [Fc, h1, h2, h3, h4, h5])⟩
      ·omega
   ·rw [h3]
    simp only [qB, Qy] at h3
    refine QU (QB (Qv (QA (QJ (QL) (Qd fun K hK => Qb Z (kc1 hK Z ?_))))))
    refine Qs (Qg Z ?_)
    exact (D7 (i := i) Wa Wa hI.2).symm
theorem ZA {a b c : Int} {p q : List UInt8} (hp : p.length <= 1048576) (hq : q.length <= 1048576) : Ok Tryd.prog 68 [.agg [.int .i64 a, .int .i64 b, .int .i64 c, .str p, .str q]] (.bool (KE a b c p q)) := by
 refine Ok.ofT ZL Tryd.func68 Qg6 (QhG Z) ?_
 show TW _ _ tf68.body _ _
 refine Qd fun K hK => Zs Z Z Z (Qb Z (kc1 hK Z ?_))
 refine Qd fun K hK => Qe Z Z (Qt Z Z Z (QK (YL) Z Z (.inr Z) (Qb Z ?_)))
 refine Qr (g := 6) Z (fun h1 => ?_) (fun h1 => ?_)
 ·rw [h1]
  refine Qc Z (Qe Z Z (Qc Z (Qt Z Z Z (Qc Z (QK (YL) Z Z (.inr Z) (Qh Z Z (Qb Z ?_)))))))
  refine Qr (g := 11) Z (fun h2 => ?_) (fun h2 => ?_)
  ·rw [h2]
   refine Qc Z (Qe Z Z (Qc Z (Qt Z Z Z (Qc Z (QK (YL) Z Z (.inr Z) (Qh Z Z (Qb Z ?_)))))))
   refine Qr (g := 16) Z (fun h3 => ?_) (fun h3 => ?_)
   ·rw [h3]
    refine Qc Z (Qe Z Z (Qc Z (Qt Z Z Z (Qc Z (QK (XP Wa) Z Z (.inr Z) (Qh Z Z (Qb Z ?_)))))))
    refine Qr (g := 21) Z (fun h4 => ?_) (fun h4 => ?_)
    ·rw [h4]
     refine Qc Z (Qe Z Z (Qc Z (Qt Z Z Z (Qc Z (QK (XP Wa) Z Z (.inr Z) (Qh Z Z (Qb Z (kc1 hK Z ?_))))))))
     refine Qs (Qg Z ?_)
     simp [KE, h1, h2, h3, h4]
    ·rw [h4]
     refine gn3 Z Z Z (Qh Z Z (Qb Z (kc1 hK Z ?_)))
     refine Qs (Qg Z ?_)
     simp [KE, h1, h2, h3, h4]
   ·rw [h3]
    refine gn3 Z Z Z (Qh Z Z (Qb Z (gn3 Z Z Z (Qh Z Z (Qb Z (kc1 hK Z ?_))))))
    refine Qs (Qg Z ?_)
    simp [KE, h1, h2, h3]
  ·rw [h2]
   refine gn3 Z Z Z (Qh Z Z (Qb Z (gn3 Z Z Z (Qh Z Z (Qb Z (gn2 Z Z ?_))))))
   refine Yk Z (Qh Z Z (Qb Z (kc1 hK Z ?_)))
   refine Qs (Qg Z ?_)
   simp [KE, h1, h2]
 ·rw [h1]
  refine gn3 Z Z Z (Qh Z Z (Qb Z (gn3 Z Z Z (Qh Z Z (Qb Z (gn2 Z Z ?_))))))
  refine Yk Z (Qh Z Z (Qb Z (gn3 Z Z Z (Qh Z Z (Qb Z (kc1 hK Z ?_))))))
  refine Qs (Qg Z ?_)
  simp [KE, h1]
theorem Fi {l : List Int} (hl : l.length <= 1048576) : Ok Tryd.prog 43 [Zp l] (.int .i64 (ZO l)) := by
 refine Ok.ofT ZL Tryd.func43 QgH (QhG Z) ?_
 show TW _ _ tf43.body _ _
 refine Qd fun K hK => Qb Z (kc1 hK Z ?_)
 refine Qd fun K hK => Qb Z (kc2 hK Z Z ?_)
 refine Qz ?_ -- 0
 refine Qd fun K hK => Qb Z (QY Z Z (Qb Z (kc4 hK Z Z Z Z ?_)))
 refine Qw ?_
 refine Q5 (ι := Nat) (fun i => ⟨[(3, .int .i64 0), (6, Zp l), (7, .int .i64 l.length), (8, .int .i64 i)], []⟩) (fun i => i <= l.length /\ ZO l = ZO (l.drop i)) (fun i => l.length - i) 0 ?_ ?_ ?_
 ·exact QP (l := [3, 6, 7, 8]) (kp4 rfl rfl rfl rfl) Qi (by simp [Zp]) rfl rfl
 ·exact ⟨QhR _, rfl⟩
 intro i hI
 refine Qd fun K hK => ZI Z Z (kc5 hK Z Z Z Z Z ?_)
 refine Qz ?_ -- 1
 refine Qu Z (fun h1 => ?_) (fun h1 => ?_)
 ·rw [h1]
  simp only [qB] at h1
  refine Qq (ks4 Z Z Z Z ?_)
  refine Qz ?_ -- 2
  refine Qw (Qd fun K hK => QE Z Z Z Wa (QR Wa) Z (Qt Z Z Z (Qb Z (kc5 hK Z Z Z Z Z ?_))))
  refine Qd fun K hK => mv2 Z Z (Z7 Z Z (kc6 hK Z Z Z Z Z Z ?_))
  refine Qu Z (fun h2 => ?_) (fun h2 => ?_)
  ·rw [h2]
   simp only [qB] at h2
   refine Qd fun K hK => mv2 Z Z (kc1 hK Z ?_)
   refine Qs (Qj (Qf (QC (Qj (Qf (QF Z ?_))))))
   rw [hI.2, Sf Wa Wd]
  ·rw [h2]
   simp only [qB] at h2
   refine Qq (Ql (ks4 Z Z Z Z (QN fun K hK => Q0 Z Z Wb (Qb Z (hK _ ?_)))))
   refine Qk (i + 1) ?_ ?_ ?_
   ·exact Q3 (kp4 rfl rfl rfl rfl)
   ·exact ⟨Wa, by rw [hI.2, P6 Wa Wd]⟩
   ·omega
 ·rw [h1]
  simp only [qB] at h1
  refine QU (QB (Qv (QA (ks1 Z (Qd fun K hK => mv2 Z Z (kc1 hK Z ?_))))))
  refine Qs (QF Z ?_)
  (rw [hI.2, Qh0 Wa]; rfl)
open Go Go.Abs M3
theorem Yh {a b c : Int} {p q : List UInt8} (hp : p.length <= 1048576) (hq : q.length <= 1048576) {a' b' c' : Int} {p' q' : List UInt8} (hp' : p'.length <= 1048576) (hq' : q'.length <= 1048576) : Ok Tryd.prog 55 [.agg [.int .i64 a, .int .i64 b, .int .i64 c, .str p, .str q], .agg [.int .i64 a', .int .i64 b', .int .i64 c', .str p', .str q']] (.int .i64 (G4 a b c p q a' b' c' p' q')) := by
 refine Ok.ofT ZL Tryd.func55 QgT (QhG Z) ?_
 show TW _ _ tf55.body _ _
 refine Qd fun K hK => Zs Z Z Z (Zs Z Z Z (Qb Z (kc2 hK Z Z ?_)))
 refine Qz ?_ -- 0
 refine Qd fun K hK => QD (cs := [_, _, _, _, _]) Z Z Z Z (QK (ZA Wa Wa) Z Z (.inr Z) (Zm Z (Qb Z ?_)))
 refine Qr (g := 11) Z (fun h1 => ?_) (fun h1 => ?_)
 ·rw [h1]
  simp only [qB] at h1
  refine gn3 Z Z Z (Qh Z Z (kc3 hK Z Z Z ?_))
  refine QV Z (Qd fun K hK => Qb Z (kc1 hK Z ?_))
  refine Qs (Qf (QF Z ?_))
  simp [G4, h1]
 ·rw [h1]
  simp only [qB] at h1
  refine Qc Z (QD (cs := [_, _, _, _, _]) Z Z Z Z (Qc Z (QK (ZA Wa Wa) Z Z (.inr Z) (Qc Z (Zm Z (Qh Z Z (kc3 hK Z Z Z ?_)))))))
  refine Qu Z (fun h2 => ?_) (fun h2 => ?_)
  ·rw [h2]
   simp only [qB] at h2
   refine Qd fun K hK => Qb Z (kc1 hK Z ?_)
   refine Qs (Qf (QF Z ?_))
   simp [G4, h1, h2]
  ·rw [h2]
   simp only [qB] at h2
   refine Qq (ks2 Z Z ?_)
   refine Qz ?_ -- 1
   refine Qd fun K hK => Qe Z Z (Qt Z Z Z (Qe Z Z (Qt Z Z Z (QK (Zv) Z Z (.inr Z) (Qb Z (kc3 hK Z Z Z ?_))))))
   refine Qd fun K hK => Qb Z (Z7 Z Z (kc4 hK Z Z Z Z ?_))
   refine Qu Z (fun h3 => ?_) (fun h3 => ?_)
   ·rw [h3]
    simp only [qB] at h3
    refine Qd fun K hK => mv2 Z Z (kc1 hK Z ?_)
    refine Qs (Qf (QF Z ?_))
    simp [G4, h1, h2, h3]
   ·rw [h3]
    simp only [qB] at h3
    refine Qq (ks2 Z Z ?_)
    refine Qz ?_ -- 2
    refine Qd fun K hK => Qe Z Z (Qt Z Z Z (Qe Z Z (Qt Z Z Z (QK (Zv) Z Z (.inr Z) (Qb Z (kc3 hK Z Z Z ?_))))))
    refine Qd fun K hK => Qb Z (Z7 Z Z (kc4 hK Z Z Z Z ?_))
    refine Qu Z (fun h4 => ?_) (fun h4 => ?_)
    ·rw [h4]
     simp only [qB] at h4
     refine Qd fun K hK => mv2 Z Z (kc1 hK Z ?_)
     refine Qs (Qf (QF Z ?_))
     simp [G4, h1, h2, h3, h4]
    ·rw [h4]
     simp only [qB] at h4
     refine Qq (ks2 Z Z ?_)
     refine Qz ?_ -- 3
     refine Qd fun K hK => Qe Z Z (Qt Z Z Z (Qe Z Z (Qt Z Z Z (QK (Zv) Z Z (.inr Z) (Qb Z (kc3 hK Z Z Z ?_))))))
     refine Qd fun K hK => Qb Z (Z7 Z Z (kc4 hK Z Z Z Z ?_))
     refine Qu Z (fun h5 => ?_) (fun h5 => ?_)
     ·rw [h5]
      simp only [qB] at h5
      refine Qd fun K hK => mv2 Z Z (kc1 hK Z ?_)
      refine Qs (Qf (QF Z ?_))
      simp [G4, h1, h2, h3, h4, h5]
     ·rw [h5]
      simp only [qB] at h5
      refine Qq (ks2 Z Z (Qd fun K hK => Qe Z Z (Qt Z Z Z (Qe Z Z (Qt Z Z Z (QK (HM Wa Wa) Z Z (.inr Z) (Qb Z (kc1 hK Z ?_))))))))
      refine Qs (QF Z ?_)
      simp [G4, h1, h2, h3, h4, h5]
theorem ZU {e a b c : Int} {p q : List UInt8} {f : Bool} (hp : p.length <= 1048576) (hq : q.length <= 1048576) : Ok Tryd.prog 100 [.agg [.int .i64 e, .int .i64 a, .int .i64 b, .int .i64 c, .str p, .str q, .bool f]] (.bool (Xt e a b c p q f)) := by
 refine Ok.ofT ZL Tryd.func100 QfC (QhG Z) ?_
 show TW _ _ tf100.body _ _
 refine Qd fun K hK => Zs Z Z Z (Qb Z (kc1 hK Z ?_))
 refine Qz ?_ -- 0
 refine Qd fun K hK => Qe Z Z (Qt Z Z Z (Y3 Z Z (kc2 hK Z Z ?_)))
 refine Qu Z (fun h1 => ?_) (fun h1 => ?_)
 ·rw [h1]
  simp only [qB] at h1
  refine Qd fun K hK => Qe Z Z (QD (cs := [_, _, _, _, _]) Z Z Z Z (QK (ZA Wa Wa) Z Z (.inr Z) (Qb Z ?_)))
  refine Qr (g := 9) Z (fun h2 => ?_) (fun h2 => ?_)
  ·rw [h2]
   refine Qc Z (Qe Z Z (Qc Z (Qe Z Z (Qc Z (Qt Z Z Z (Qc Z (JJ Z Z (Qh Z Z (Qb Z (kc1 hK Z ?_))))))))))
   refine Qs (Qf (Qg Z ?_))
   (repeat clear hK K); simp_all [Xt]
  ·rw [h2]
   refine gn4 Z Z Z Z (Qh Z Z (Qb Z (kc1 hK Z ?_)))
   refine Qs (Qf (Qg Z ?_))
   (repeat clear hK K); simp_all [Xt]
 ·rw [h1]
  simp only [qB] at h1
  refine Qq (ks1 Z (Qd fun K hK => Qe Z Z (Qt Z Z Z (Y3 Z Z (Qb Z ?_)))))
  refine Qr (g := 18) Z (fun h3 => ?_) (fun h3 => ?_)
  ·rw [h3]
   simp only [qB] at h3
   refine gn3 Z Z Z (Qh Z Z (Qb Z (Qc Z (Qe Z Z (Qc Z (QD (cs := [_, _, _, _, _]) Z Z Z Z (Qc Z (ZM Z Z (Qc Z ?_)))))))))
   refine PD Z Z Z (Qh Z Z (Qb Z ?_))
   refine Qr (g := 29) Z (fun h4 => ?_) (fun h4 => ?_)
   ·rw [h4]
    simp only [qB] at h4
    refine Qc Z (Qe Z Z (Qc Z (Qt Z Z Z (Qc Z (Zm Z (Qh Z Z (Qb Z (kc1 hK Z ?_))))))))
    refine Qs (Qg Z ?_)
    (repeat clear hK K); simp_all [Xt]
   ·rw [h4]
    simp only [qB] at h4
    refine gn3 Z Z Z (Qh Z Z (Qb Z (kc1 hK Z ?_)))
    refine Qs (Qg Z ?_)
    (repeat clear hK K); simp_all [Xt]
  ·rw [h3]
   simp only [qB] at h3
   refine Qc Z (Qe Z Z (Qc Z (Qt Z Z Z (Qc Z (Y3 Z Z (Qh Z Z (Qb Z ?_)))))))
   refine Qr (g := 23) Z (fun h5 => ?_) (fun h5 => ?_)
   ·rw [h5]
    simp only [qB] at h5
    refine Qc Z (Qe Z Z (Qc Z (QD (cs := [_, _, _, _, _]) Z Z Z Z (Qc Z (ZM Z Z (Qc Z (PD Z Z Z (Qh Z Z (Qb Z ?_)))))))))
    refine Qr (g := 29) Z (fun h6 => ?_) (fun h6 => ?_)
    ·rw [h6]
     simp only [qB] at h6
     refine Qc Z (Qe Z Z (Qc Z (Qt Z Z Z (Qc Z (Zm Z (Qh Z Z (Qb Z (kc1 hK Z ?_))))))))
     refine Qs (Qg Z ?_)
     (repeat clear hK K); simp_all [Xt]
    ·rw [h6]
     simp only [qB] at h6
     refine gn3 Z Z Z (Qh Z Z (Qb Z (kc1 hK Z ?_)))
     refine Qs (Qg Z ?_)
     (repeat clear hK K); simp_all [Xt]
   ·rw [h5]
    simp only [qB] at h5
    refine gn4 Z Z Z Z (Qh Z Z (Qb Z (gn3 Z Z Z (Qh Z Z (Qb Z (kc1 hK Z ?_))))))
    refine Qs (Qg Z ?_)
    (repeat clear hK K); simp_all [Xt]
theorem Y1 {e a b c : Int} {p q : List UInt8} {f : Bool} (hp : p.length <= 1048576) (hq : q.length <= 1048576) {e' a' b' c' : Int} {p' q' : List UInt8} {f' : Bool} (hp' : p'.length <= 1048576) (hq' : q'.length <= 1048576) : Ok Tryd.prog 97 [.agg [.int .i64 e, .int .i64 a, .int .i64 b, .int .i64 c, .str p, .str q, .bool f], .agg [.int .i64 e', .int .i64 a', .int .i64 b', .int .i64 c', .str p', .str q', .bool f']] (.int .i64 (JB e a b c p q f e' a' b' c' p' q' f')) := by
 refine Ok.ofT ZL Tryd.func97 Qhz (QhG Z) ?_
 show TW _ _ tf97.body _ _
 refine Qd fun K hK => Zs Z Z Z (Zs Z Z Z (Qb Z (kc2 hK Z Z ?_)))
 refine Qz ?_ -- 0
 refine Qd fun K hK => QD (cs := [_, _, _, _, _, _, _]) Z Z Z Z (QK (ZU Wa Wa) Z Z (.inr Z) (Zm Z (Qb Z ?_)))
 refine Qr (g := 9) Z (fun h1 => ?_) (fun h1 => ?_)
 ·rw [h1]
  simp only [qB] at h1
  refine gn3 Z Z Z (Qh Z Z (kc3 hK Z Z Z ?_))
  refine QV Z (Qd fun K hK => Qb Z (kc1 hK Z ?_))
  refine Qs (Qf (QF Z ?_))
  (simp [JB, h1]; done)
 ·rw [h1]
  simp only [qB] at h1
  refine Qc Z (QD (cs := [_, _, _, _, _, _, _]) Z Z Z Z (Qc Z (QK (ZU Wa Wa) Z Z (.inr Z) (Qc Z (Zm Z (Qh Z Z (kc3 hK Z Z Z ?_)))))))
  refine Qu Z (fun h2 => ?_) (fun h2 => ?_)
  ·rw [h2]
   simp only [qB] at h2
   refine Qd fun K hK => Qb Z (kc1 hK Z ?_)
   refine Qs (Qf (QF Z ?_))
   (simp [JB, h1, h2]; done)
  ·rw [h2]
   simp only [qB] at h2
   refine Qq (ks2 Z Z ?_)
   refine Qz ?_ -- 1
   refine Qd fun K hK => Qe Z Z (Qt Z Z Z (Qe Z Z (Qt Z Z Z (Z7 Z Z (Qb Z ?_)))))
   refine Qr (g := 19) Z (fun h3 => ?_) (fun h3 => ?_)
   ·rw [h3]
    simp only [qB] at h3
    refine gn3 Z Z Z (Qh Z Z (kc3 hK Z Z Z ?_))
    refine QV Z (Qd fun K hK => Qe Z Z (Qt Z Z Z (Qe Z Z (Qt Z Z Z (QK (Zv) Z Z (.inr Z) (Qb Z (kc1 hK Z ?_)))))))
    refine Qs (Qf (QF Z ?_))
    (simp [JB, h1, h2, h3]; done)
   ·rw [h3]
    simp only [qB] at h3
    refine Qc Z (Qe Z Z (Qc Z (Qt Z Z Z (Qc Z (Z7 Z Z (Qh Z Z (kc3 hK Z Z Z ?_)))))))
    refine Qu Z (fun h4 => ?_) (fun h4 => ?_)
    ·rw [h4]
     simp only [qB] at h4
     refine Qd fun K hK => Qe Z Z (Qt Z Z Z (Qe Z Z (Qt Z Z Z (QK (Zv) Z Z (.inr Z) (Qb Z (kc1 hK Z ?_))))))
     refine Qs (Qf (QF Z ?_))
     (repeat clear hK K); (simp_all [JB]; done)
    ·rw [h4]
     simp only [qB] at h4
     refine Qq (ks2 Z Z ?_)
     refine Qz ?_ -- 2
     refine Qd fun K hK => Qe Z Z (QD (cs := [_, _, _, _, _]) Z Z Z Z (Qe Z Z (QD (cs := [_, _, _, _, _]) Z Z Z Z (QK (Yh Wa Wa Wa Wa) Z Z (.inr Z) (Qb Z (kc3 hK Z Z Z ?_))))))
     refine Qd fun K hK => Qb Z (Z7 Z Z (kc4 hK Z Z Z Z ?_))
     refine Qu Z (fun h5 => ?_) (fun h5 => ?_)
     ·rw [h5]
      simp only [qB] at h5
      refine Qd fun K hK => mv2 Z Z (kc1 hK Z ?_)
      refine Qs (Qf (QF Z ?_))
      (repeat clear hK K); (simp_all [JB]; done)
     ·rw [h5]
      simp only [qB] at h5
      refine Qq (ks2 Z Z ?_)
      refine Qz ?_ -- 3
      refine Qw (Qd fun K hK => Qe Z Z (Qt Z Z Z (Qe Z Z (Qt Z Z Z (Bp Z Z (Qb Z (kc2 hK Z Z ?_)))))))
      refine Qu Z (fun h6 => ?_) (fun h6 => ?_)
      ·rw [h6]
       simp only [qB] at h6
       refine Qd fun K hK => Qb Z (kc1 hK Z ?_)
       refine Qs (Qj (Qf (QF Z ?_)))
       (repeat clear hK K); (simp_all [JB]; done)
      ·rw [h6]
       simp only [qB] at h6
       refine Qd fun K hK => Qe Z Z (Qt Z Z Z (Qb Z (kc1 hK Z ?_)))
       refine Qu Z (fun h7 => ?_) (fun h7 => ?_)
       ·rw [h7]
        refine Qd fun K hK => Qb Z (kc1 hK Z ?_)
        refine Qs (Qj (Qf (QF Z ?_)))
        (repeat clear hK K); (simp_all [JB]; done)
       ·rw [h7]
        refine Qq (Ql (QJ (QL) (Qd fun K hK => Qb Z (kc1 hK Z ?_))))
        refine Qs (QF Z ?_)
        (repeat clear hK K); (simp_all [JB]; done)
theorem Xw {e a b c : Int} {p q : List UInt8} {f : Bool} (hp : p.length <= 1048576) (hq : q.length <= 1048576) {a' b' c' : Int} {p' q' : List UInt8} (hp' : p'.length <= 1048576) (hq' : q'.length <= 1048576) : Ok Tryd.prog 99 [.agg [.int .i64 e, .int .i64 a, .int .i64 b, .int .i64 c, .str p, .str q, .bool f], .agg [.int .i64 a', .int .i64 b', .int .i64 c', .str p', .str q']] (.bool (Xz e a b c p q f a' b' c' p' q')) := by
 refine Ok.ofT ZL Tryd.func99 QhB (QhG Z) ?_
 show TW _ _ tf99.body _ _
 refine Qd fun K hK => Zs Z Z Z (Zs Z Z Z (Qb Z (kc2 hK Z Z ?_)))
 refine Qz ?_ -- 0
 refine Qd fun K hK => QD (cs := [_, _, _, _, _, _, _]) Z Z Z Z (QK (ZU Wa Wa) Z Z (.inr Z) (Zm Z (Qb Z ?_)))
 refine Qr (g := 9) Z (fun h1 => ?_) (fun h1 => ?_)
 ·rw [h1]
  simp only [qB] at h1
  refine gn3 Z Z Z (Qh Z Z (kc3 hK Z Z Z ?_))
  refine QV Z (Qd fun K hK => Qb Z (kc1 hK Z ?_))
  refine Qs (Qf (Qg Z ?_))
  (simp [Xz, h1]; done)
 ·rw [h1]
  simp only [qB] at h1
  refine Qc Z (QD (cs := [_, _, _, _, _]) Z Z Z Z (Qc Z (QK (ZA Wa Wa) Z Z (.inr Z) (Qc Z (Zm Z (Qh Z Z (kc3 hK Z Z Z ?_)))))))
  refine Qu Z (fun h2 => ?_) (fun h2 => ?_)
  ·rw [h2]
   simp only [qB] at h2
   refine Qd fun K hK => Qb Z (kc1 hK Z ?_)
   refine Qs (Qf (Qg Z ?_))
   (simp [Xz, h1, h2]; done)
  ·rw [h2]
   simp only [qB] at h2
   refine Qq (ks2 Z Z ?_)
   refine Qz ?_ -- 1
   refine Qd fun K hK => Qe Z Z (Qt Z Z Z (Z7 Z Z (kc3 hK Z Z Z ?_)))
   refine Qu Z (fun h3 => ?_) (fun h3 => ?_)
   ·rw [h3]
    simp only [qB] at h3
    refine Qd fun K hK => Qe Z Z (Qt Z Z Z (ZI Z Z (Qb Z (kc1 hK Z ?_))))
    refine Qs (Qf (Qg Z ?_))
    (simp [Xz, h1, h2, h3]; done)
   ·rw [h3]
    simp only [qB] at h3
    refine Qq (ks2 Z Z (Qd fun K hK => Qe Z Z (QD (cs := [_, _, _, _, _]) Z Z Z Z (QD (cs := [_, _, _, _, _]) Z Z Z Z (QK (Yh Wa Wa Wa Wa) Z Z (.inr Z) (Qb Z (kc2 hK Z Z ?_)))))))
    refine Qd fun K hK => Qb Z (ZI Z Z (Qb Z ?_))
    refine Qr (g := 26) Z (fun h4 => ?_) (fun h4 => ?_)
    ·rw [h4]
     simp only [qB] at h4
     refine gn3 Z Z Z (Qo Z (Qo Z (Qo Z (Yk Z (Qh Z Z (Qb Z (kc1 hK Z ?_)))))))
     refine Qs (Qg Z ?_)
     (repeat clear hK K); (simp_all [Xz]; done)
    ·rw [h4]
     simp only [qB] at h4
     refine Qc Z (Qb Z (Qc Z (Y3 Z Z (Qc Z (Qb Z ?_)))))
     refine Qr (g := 29) Z (fun h5 => ?_) (fun h5 => ?_)
     ·rw [h5]
      simp only [qB] at h5
      refine Qc Z (Qe Z Z (Qc Z (Qt Z Z Z (Qc Z (Zm Z (Qc Z (Qh Z Z (Qh Z Z (Qb Z (kc1 hK Z ?_))))))))))
      refine Qs (Qg Z ?_)
      (repeat clear hK K); (simp_all [Xz]; done)
     ·rw [h5]
      simp only [qB] at h5
      refine gn3 Z Z Z (Qc Z (Qh Z Z (Qh Z Z (Qb Z (kc1 hK Z ?_)))))
      refine Qs (Qg Z ?_)
      (simp [Xz, h1, h2, h3, h4, h5]; done)
theorem Y2 {e a b c : Int} {p q : List UInt8} {f : Bool} (hp : p.length <= 1048576) (hq : q.length <= 1048576) {e' a' b' c' : Int} {p' q' : List UInt8} {f' : Bool} (hp' : p'.length <= 1048576) (hq' : q'.length <= 1048576) : Ok Tryd.prog 96 [.agg [.int .i64 e, .int .i64 a, .int .i64 b, .int .i64 c, .str p, .str q, .bool f, .int .i64 e', .int .i64 a', .int .i64 b', .int .i64 c', .str p', .str q', .bool f']] (.bool (NF e a b c p q f e' a' b' c' p' q' f')) := by
 refine Ok.ofT ZL Tryd.func96 Qhy (QhG Z) ?_
 show TW _ _ tf96.body _ _
 refine Qd fun K hK => Zs Z Z Z (Qb Z (kc1 hK Z ?_))
 refine Qd fun K hK => Qe Z Z (QD (cs := [_, _, _, _, _, _, _]) Z Z Z Z (QK (ZU Wa Wa) Z Z (.inr Z) (Qb Z ?_)))
 refine Qr (g := 6) Z (fun h1 => ?_) (fun h1 => ?_)
 ·rw [h1]
  refine Qc Z (Qe Z Z (Qc Z (QD (cs := [_, _, _, _, _, _, _]) Z Z Z Z (Qc Z (QK (ZU Wa Wa) Z Z (.inr Z) (Qh Z Z (Qb Z ?_)))))))
  refine Qr (g := 11) Z (fun h2 => ?_) (fun h2 => ?_)
  ·rw [h2]
   refine Qc Z (Qe Z Z (Qc Z (QD (cs := [_, _, _, _, _, _, _]) Z Z Z Z (Qc Z (Qe Z Z (Qc Z (QD (cs := [_, _, _, _, _, _, _]) Z Z Z Z (Qc Z (QK (Y1 Wa Wa Wa Wa) Z Z (.inr Z) (Qc Z (ZI Z Z ?_)))))))))))
   refine Qh Z Z (Qb Z (kc1 hK Z ?_))
   refine Qs (Qg Z ?_)
   (simp [NF, h1, h2]; done)
  ·rw [h2]
   refine gn4 Z Z Z Z (gn2 Z Z (Qh Z Z (Qb Z (kc1 hK Z ?_))))
   refine Qs (Qg Z ?_)
   (simp [NF, h1, h2]; done)
 ·rw [h1]
  refine gn3 Z Z Z (Qh Z Z (Qb Z (gn4 Z Z Z Z (gn2 Z Z (Qh Z Z ?_)))))
  refine Qb Z (kc1 hK Z ?_)
  refine Qs (Qg Z ?_)
  (simp [NF, h1]; done)
theorem Ho {e a b c : Int} {p q : List UInt8} {f : Bool} (hp : p.length <= 1048576) (hq : q.length <= 1048576) {e' a' b' c' : Int} {p' q' : List UInt8} {f' : Bool} (hp' : p'.length <= 1048576) (hq' : q'.length <= 1048576) {x y z : Int} {r s : List UInt8} (hr : r.length <= 1048576) (hs : s.length <= 1048576) : Ok Tryd.prog 93 [.agg [.int .i64 e, .int .i64 a, .int .i64 b, .int .i64 c, .str p, .str q, .bool f, .int .i64 e', .int .i64 a', .int .i64 b', .int .i64 c', .str p', .str q', .bool f'], .agg [.int .i64 x, .int .i64 y, .int .i64 z, .str r, .str s]] (.bool (KC e a b c p q f e' a' b' c' p' q' f' x y z r s)) := by
 refine Ok.ofT ZL Tryd.func93 Qhv (QhG Z) ?_
 show TW _ _ tf93.body _ _
 refine Qd fun K hK => Zs Z Z Z (Zs Z Z Z (Qb Z (kc2 hK Z Z ?_)))
 refine Qd fun K hK => QD (cs := [_, _, _, _, _, _, _, _, _, _, _, _, _, _]) Z Z Z Z (QK (Y2 Wa Wa Wa Wa) Z Z (.inr Z) (Qb Z ?_))
 refine Qr (g := 7) Z (fun h1 => ?_) (fun h1 => ?_)
 ·rw [h1]
  refine Qc Z (QD (cs := [_, _, _, _, _]) Z Z Z Z (Qc Z (QK (ZA Wa Wa) Z Z (.inr Z) (Qh Z Z (Qb Z ?_)))))
  refine Qr (g := 11) Z (fun h2 => ?_) (fun h2 => ?_)
  ·rw [h2]
   refine Qc Z (Qe Z Z (Qc Z (QD (cs := [_, _, _, _, _, _, _]) Z Z Z Z (Qc Z (QD (cs := [_, _, _, _, _]) Z Z Z Z (Qc Z (QK (Xw Wa Wa Wa Wa) Z Z (.inr Z) (Qh Z Z (Qb Z ?_)))))))))
   refine Qr (g := 17) Z (fun h3 => ?_) (fun h3 => ?_)
   ·rw [h3]
    refine Qc Z (Qe Z Z (Qc Z (QD (cs := [_, _, _, _, _, _, _]) Z Z Z Z (Qc Z (QD (cs := [_, _, _, _, _]) Z Z Z Z (Qc Z (QK (Xw Wa Wa Wa Wa) Z Z (.inr Z) (Qc Z (Zm Z (Qh Z Z (Qb Z ?_)))))))))))
    refine kc1 hK Z ?_
    refine Qs (Qg Z ?_)
    (simp [KC, h1, h2, h3]; done)
   ·rw [h3]
    refine gn4 Z Z Z Z (Yk Z (Qh Z Z (Qb Z (kc1 hK Z ?_))))
    refine Qs (Qg Z ?_)
    (simp [KC, h1, h2, h3]; done)
  ·rw [h2]
   refine gn4 Z Z Z Z (Qh Z Z (Qb Z (gn4 Z Z Z Z (Yk Z (Qh Z Z ?_)))))
   refine Qb Z (kc1 hK Z ?_)
   refine Qs (Qg Z ?_)
   (simp [KC, h1, h2]; done)
 ·rw [h1]
  refine gn2 Z Z (Qh Z Z (Qb Z (gn4 Z Z Z Z (Qh Z Z (Qb Z (gn2 Z Z ?_))))))
  refine gn3 Z Z Z (Qh Z Z (Qb Z (kc1 hK Z ?_)))
  refine Qs (Qg Z ?_)
  (simp [KC, h1]; done)
open Go Go.Abs M3
theorem _root_.Wh {p : Prop} (h : p := by first | (left; assumption) | (right; omega)) : p := h
theorem Jv {s : List UInt8} (hl : s.length <= 1048576) : Ok Tryd.prog 64 [.str s] (.tup [.int .i64 (ZX s).1, .bool (ZX s).2]) := by
 refine Ok.ofT ZL Tryd.func64 Qg2 (QhG Z) ?_
 show TW _ _ tf64.body _ _
 refine Qd fun K hK => mv2 Z Z (kc1 hK Z ?_)
 refine Fh (ι := Unit) (fun _u => ⟨[(0, .str s)], []⟩) (fun _u => ¬ (s = [] \/ 4 < s.length \/ (1 < s.length /\ s.head? = some 48))) ?_ ?_
 ·skip
  refine Qd fun K hK => Qb Z (JJ Z Z (Qb Z ?_))
  refine Qr (g := 9) Z (fun h1 => ?_) (fun h1 => ?_)
  ·rw [h1]
   simp only [qB, QhJ, QhS, decide_eq_true_eq] at h1
   refine gn3 Z Z Z (Qh Z Z (Qb Z (gn4 Z Z Z Z (Qo Z (Qo Z (Qo Z ?_))))))
   refine Yk Z (Qh Z Z (kc2 hK Z Z ?_))
   refine QV Z (Qd fun K hK => mv2 Z Z (kc2 hK Z Z ?_))
   refine Qs (ZJ (Zt Z Z ?_))
   (rw [M7 (s := s) Wh]; exact ⟨rfl, rfl⟩)
  ·rw [h1]
   simp only [qB, QhJ, QhS, decide_eq_true_eq] at h1
   refine Qc Z (Qb Z (Qc Z (ZN Z (Qc Z (YZ Z Z (Qh Z Z (Qb Z ?_)))))))
   refine Qr (g := 14) Z (fun h2 => ?_) (fun h2 => ?_)
   ·rw [h2]
    simp only [qB, QhJ, QhS, decide_eq_true_eq] at h2
    refine gn4 Z Z Z Z (Qo Z (Qo Z (Qo Z (Yk Z (Qh Z Z (kc2 hK Z Z ?_))))))
    refine QV Z (Qd fun K hK => mv2 Z Z (kc2 hK Z Z ?_))
    refine Qs (ZJ (Zt Z Z ?_))
    (rw [M7 (s := s) Wh]; exact ⟨rfl, rfl⟩)
   ·rw [h2]
    simp only [qB, QhJ, QhS, decide_eq_true_eq] at h2
    refine Qc Z (Qb Z (Qc Z (Z1 Z Z Wa (Kx (i := 0) (List.length_pos_iff.2 Wd)) (Qc Z (Y3 Z Z (Qc Z (Qb Z ?_)))))))
    refine Qr (g := 18) Z (fun h3 => ?_) (fun h3 => ?_)
    ·rw [h3]
     simp only [qB, QhJ, QhS, decide_eq_true_eq] at h3
     refine Qc Z (Qb Z (Qc Z (ZN Z (Qc Z (YZ Z Z (Qc Z (Qh Z Z (Qh Z Z (kc2 hK Z Z ?_)))))))))
     refine Qu Z (fun h4 => ?_) (fun h4 => ?_)
     ·rw [h4]
      simp only [qB, QhJ, QhS, decide_eq_true_eq] at h4
      refine Qd fun K hK => mv2 Z Z (kc2 hK Z Z ?_)
      refine Qs (ZJ (Zt Z Z ?_))
      (rw [TD (s := s) Wa Wd]; exact ⟨rfl, rfl⟩)
     ·rw [h4]
      simp only [qB, QhJ, QhS, decide_eq_true_eq] at h4
      refine Qq ?_
      refine Q9 () ?_ ?_
      ·exact Q3 (kp1 rfl)
      ·rintro (q | q | q) <;> first | (simp_all; done) | omega | exact MW (s := s) Wa Wd q.2
    ·rw [h3]
     simp only [qB, QhJ, QhS, decide_eq_true_eq] at h3
     refine gn3 Z Z Z (Qc Z (Qh Z Z (Qh Z Z (kc2 hK Z Z ?_))))
     refine Zg Z (Qq ?_)
     refine Q9 () ?_ ?_
     ·exact Q3 (kp1 rfl)
     ·rintro (q | q | q) <;> first | (simp_all; done) | omega | exact MW (s := s) Wa Wd q.2
 intro _u hJ
 refine Qd fun K hK => Qb Z (kc2 hK Z Z ?_)
 refine Qz ?_ -- 1
 refine Qd fun K hK => Qb Z (LU Z Z (kc2 hK Z Z ?_))
 refine Qw ?_
 refine Q5 (ι := Nat) (fun i => ⟨[(4, .int .i64 (val (s.take i))), (25, .ref 25 0 0)], [(25, ⟨[], 0, Zq s i, false⟩)]⟩) (fun i => i <= s.length /\ (s.take i).all YK = true /\ s.length <= 4 /\ 0 < s.length) (fun i => s.length - i) 0 ?_ ?_ ?_
 ·exact QP (l := [4, 25]) (lH := [25]) (kp2 rfl rfl) (Qa rfl Qi) (by simp [val]) rfl rfl
 ·exact ⟨QhR _, rfl, Nat.le_of_not_lt fun h => hJ (.inr (.inl h)), List.length_pos_iff.2 fun h => hJ (.inl h)⟩
 intro i hI
 have hv := C7 (s := s.take i) hI.2.1
 have hp : 10 ^ (s.take i).length <= 10 ^ 4 := Nat.pow_le_pow_right Wa We
 have hI1 := hI.1
 have hI3 := hI.2.2.1
 refine Qd fun K hK => ?_
 rcases Qh2 (i) (s).length with h5 | h5
 ·rcases Qh2 (((s)[i]).toNat) 128 with h6 | h6
  ·refine S1 Z Z h5 (PX h5 h6) (Q4 Z Z (kc4 hK Z Z Z Z ?_))
   refine Qz ?_ -- 2
   refine QV Z (Qq (ks3 Z Z Z (Qw (Qd fun K hK => Q4 Z Z (Qb Z (kc3 hK Z Z Z ?_))))))
   refine Qw (Qd fun K hK => Qb Z (Fw Z Z (Qb Z ?_)))
   refine Qr (g := 32) Z (fun h7 => ?_) (fun h7 => ?_)
   ·rw [h7]
    simp only [qB, QhJ, QhS, decide_eq_true_eq] at h7
    refine Qc Z (Qb Z (Qc Z (SZ Z Z (Qh Z Z (Qb Z (kc4 hK Z Z Z Z ?_))))))
    refine Qu Z (fun h8 => ?_) (fun h8 => ?_)
    ·rw [h8]
     simp only [qB, QhJ, QhS, decide_eq_true_eq] at h8
     refine QN fun K hK => Qb Z (T9 Z Z Wb (Qb Z (JK Z Z (by exact T4 Wa Wa) (SY Z Wb (Q0 Z Z Wb (Qb Z (hK _ ?_)))))))
     refine Ql (Ql ?_)
     refine Qk (i + 1) ?_ ?_ ?_
     ·exact QP (l := [4, 25]) (lH := [25]) (kp2 rfl rfl) (Qa rfl Qi) (by rw [T2 Wa]; simp; omega) rfl rfl
     ·exact ⟨Wa, Q8 Wa hI.2.1 Wk, hI.2.2⟩
     ·omega
    ·rw [h8]
     simp only [qB, QhJ, QhS, decide_eq_true_eq] at h8
     refine Qd fun K hK => mv2 Z Z (kc2 hK Z Z ?_)
     refine Qs (Qj (Qj (QC (Qj (Qf (Zt Z Z ?_))))))
     (rw [M8 (s := s) (i := i) Wa Wk]; exact ⟨rfl, rfl⟩)
   ·rw [h7]
    simp only [qB, QhJ, QhS, decide_eq_true_eq] at h7
    refine gn2 Z Z (Qh Z Z (Qb Z (kc4 hK Z Z Z Z ?_)))
    refine Zg Z (Qd fun K hK => mv2 Z Z (kc2 hK Z Z ?_))
    refine Qs (Qj (Qj (QC (Qj (Qf (Zt Z Z ?_))))))
    (rw [M8 (s := s) (i := i) Wa Wk]; exact ⟨rfl, rfl⟩)
  ·obtain ⟨cwh6, nwh6, hch6, hdh6⟩ := Tf h5 h6
   refine S1 Z Z h5 hdh6 (Q4 Z Z (kc4 hK Z Z Z Z ?_))
   refine Qz ?_ -- 2
   refine QV Z (Qq (ks3 Z Z Z (Qw (Qd fun K hK => Q4 Z Z (Qb Z (kc3 hK Z Z Z ?_))))))
   refine Qw (Qd fun K hK => Qb Z (Fw Z Z (Qb Z ?_)))
   refine Qr (g := 32) Z (fun h9 => ?_) (fun h9 => ?_)
   ·rw [h9]
    simp only [qB, QhJ, QhS, decide_eq_true_eq] at h9
    refine Qc Z (Qb Z (Qc Z (SZ Z Z (Qh Z Z (Qb Z (kc4 hK Z Z Z Z ?_))))))
    refine Qu Z (fun h10 => ?_) (fun h10 => ?_)
    ·rw [h10]
     simp only [qB, QhJ, QhS, decide_eq_true_eq] at h10
     refine QN fun K hK => Qb Z (T9 Z Z Wb (Qb Z (JK Z Z (by exact T4 Wa Wa) (SY Z Wb (Q0 Z Z Wb (Qb Z (hK _ ?_)))))))
     refine Ql (Ql ?_)
     refine Qk (i + 1) ?_ ?_ ?_
     ·(exfalso; omega)
     ·exact ⟨Wa, Q8 Wa hI.2.1 Wk, hI.2.2⟩
     ·omega
    ·rw [h10]
     simp only [qB, QhJ, QhS, decide_eq_true_eq] at h10
     refine Qd fun K hK => mv2 Z Z (kc2 hK Z Z ?_)
     refine Qs (Qj (Qj (QC (Qj (Qf (Zt Z Z ?_))))))
     (rw [M8 (s := s) (i := i) Wa Wk]; exact ⟨rfl, rfl⟩)
   ·rw [h9]
    simp only [qB, QhJ, QhS, decide_eq_true_eq] at h9
    refine gn2 Z Z (Qh Z Z (Qb Z (kc4 hK Z Z Z Z ?_)))
    refine Zg Z (Qd fun K hK => mv2 Z Z (kc2 hK Z Z ?_))
    refine Qs (Qj (Qj (QC (Qj (Qf (Zt Z Z ?_))))))
    (rw [M7 (s := s) Wh]; exact ⟨rfl, rfl⟩)
 ·refine PE Z Z Wa (Q4 Z Z (kc4 hK Z Z Z Z ?_))
  refine Qz ?_ -- 2
  refine Zg Z (QU (QB (Qv (QA (ks1 Z (Qd fun K hK => mv2 Z Z (SZ Z Z (mv2 Z Z ?_))))))))
  refine kc2 hK Z Z ?_
  refine Qs (Zt Z Z ?_)
  (rw [Qcq (s := s) (i := i) hJ Wa hI.2.1]; exact ⟨rfl, by simp [JM, D.fz, D.fzS, D.can, D.canS]; omega⟩)
theorem _root_.Wf {p : Prop} (h : p := by decide) : p := h
theorem Jx {s : List UInt8} (hl : s.length <= 1048576) : Ok Tryd.prog 47 [.str s] (.bool (HE s)) := by
 refine Ok.ofT ZL Tryd.func47 QgL (QhG Z) ?_
 show TW _ _ tf47.body _ _
 refine Qd fun K hK => Qb Z (kc1 hK Z ?_)
 refine QbF (Qd fun K hK => Qb Z (QK (XC Wa) Z Z (.inl Z) (Qb Z (kc1 hK Z ?_))))
 refine Qd fun K hK => Qb Z (QY Z Z (SZ Z Z (Qb Z (kc2 hK Z Z ?_))))
 refine Qz ?_ -- 0
 refine Qq (ks2 Z Z ?_)
 refine Qz ?_ -- 1
 refine Qd fun K hK => Qb Z (QY Z Z (Qb Z (kc4 hK Z Z Z Z ?_)))
 refine Qw ?_
 refine Q5 (ι := Nat) (fun i => ⟨[(4, .bool (decide ((Q6 s 46).length <= 4))), (14, .sl (YJ (Q6 s 46))), (15, .int .i64 (Q6 s 46).length), (16, .int .i64 i)], []⟩) (fun i => i <= (Q6 s 46).length /\ ((Q6 s 46).take i).all NY = true) (fun i => (Q6 s 46).length - i) 0 ?_ ?_ ?_
 ·exact QP (l := [4, 14, 15, 16]) (kp4 rfl rfl rfl rfl) Qi (by simp [Qy]; omega) rfl rfl
 ·exact ⟨QhR _, rfl⟩
 intro i hI
 have sl := GK (s := s) (c := 46)
 refine Qd fun K hK => ZI Z Z (kc5 hK Z Z Z Z Z ?_)
 refine Qz ?_ -- 2
 refine Qu Z (fun h1 => ?_) (fun h1 => ?_)
 ·rw [h1]
  simp only [qB, Qy] at h1
  refine Qq (ks4 Z Z Z Z ?_)
  refine Qz ?_ -- 3
  refine Qw (Qd fun K hK => QE Z Z Z Wa (XG Wa) Z (Qt Z Z Z (Qb Z (kc5 hK Z Z Z Z Z ?_))))
  refine Qz ?_ -- 4
  refine Qd fun K hK => Qb Z (JJ Z Z (Qb Z ?_))
  refine Qr (g := 22) Z (fun h2 => ?_) (fun h2 => ?_)
  ·rw [h2]
   simp only [qB, Qy] at h2
   refine gn3 Z Z Z (Qh Z Z (kc6 hK Z Z Z Z Z Z ?_))
   refine QV Z (Qd fun K hK => Qb Z (kc1 hK Z ?_))
   refine QU (QB (Zd Wf (QB (Qv (QA (ks1 Z (Qd fun K hK => mv2 Z Z (kc1 hK Z ?_))))))))
   refine Qs (Qg Z ?_)
   exact (Xe (i := i) Wa (K4 Wh)).symm
  ·rw [h2]
   simp only [qB, Qy] at h2
   refine Qc Z (Qb Z (Qc Z (ZN Z (Qc Z (YZ Z Z (Qh Z Z (kc6 hK Z Z Z Z Z Z ?_)))))))
   refine Qu Z (fun h3 => ?_) (fun h3 => ?_)
   ·rw [h3]
    simp only [qB, Qy] at h3
    refine Qd fun K hK => Qb Z (kc1 hK Z ?_)
    refine QU (QB (Zd Wf (QB (Qv (QA (ks1 Z (Qd fun K hK => mv2 Z Z (kc1 hK Z ?_))))))))
    refine Qs (Qg Z ?_)
    exact (Xe (i := i) Wa (K4 Wh)).symm
   ·rw [h3]
    simp only [qB, Qy] at h3
    refine Qq (ks5 Z Z Z Z Z (Qd fun K hK => Qb Z (LU Z Z (kc5 hK Z Z Z Z Z ?_))))
    refine Qw ?_
    have hlt : i < (Q6 s 46).length := Wa
    refine Q5 (ι := Nat) (fun j => ⟨[(4, .bool (decide ((Q6 s 46).length <= 4))), (14, .sl (YJ (Q6 s 46))), (15, .int .i64 (Q6 s 46).length), (16, .int .i64 i), (28, .ref 28 0 0)], [(28, ⟨[], 0, Zq ((Q6 s 46)[i]'hlt) j, false⟩)]⟩) (fun j => j <= ((Q6 s 46)[i]'hlt).length /\ (((Q6 s 46)[i]'hlt).take j).all Yb = true) (fun j => ((Q6 s 46)[i]'hlt).length - j) 0 ?_ ?_ ?_
    ·exact QP (l := [4, 14, 15, 16, 28]) (lH := [28]) (kp5 rfl rfl rfl rfl rfl) (Qa rfl Qi) rfl rfl rfl
    ·exact ⟨QhR _, rfl⟩
    intro j hJ
    have hJ1 := hJ.1
    refine Qd fun K hK => ?_
    rcases Qh2 (j) (((Q6 s 46)[i]'hlt)).length with h4 | h4
    ·rcases Qh2 (((((Q6 s 46)[i]'hlt))[j]).toNat) 128 with h5 | h5
     ·refine S1 Z Z h4 (PX h4 h5) (Q4 Z Z (kc7 hK Z Z Z Z Z Z Z ?_))
      refine Qz ?_ -- 5
      refine QV Z (Qq (ks6 Z Z Z Z Z Z (Qw (Qd fun K hK => Q4 Z Z (Qb Z (kc6 hK Z Z Z Z Z Z ?_))))))
      refine Qd fun K hK => Qb Z (ZI Z Z (Qb Z ?_))
      refine Qr (g := 34) Z (fun h6 => ?_) (fun h6 => ?_)
      ·rw [h6]
       simp only [qB, Qy] at h6
       refine gn2 Z Z (Qh Z Z (Qb Z (Qc Z (Qb Z (Qc Z (ZI Z Z (Qc Z (Qb Z ?_))))))))
       refine Qr (g := 41) Z (fun h7 => ?_) (fun h7 => ?_)
       ·rw [h7]
        simp only [qB, Qy] at h7
        refine gn2 Z Z (Qc Z (Qh Z Z (Qh Z Z (Qb Z (Qc Z (Qb Z (Qc Z (Z7 Z Z (Qh Z Z (kc6 hK Z Z Z Z Z Z ?_))))))))))
        refine Qu Z (fun h8 => ?_) (fun h8 => ?_)
        ·rw [h8]
         simp only [qB, Qy] at h8
         refine Qd fun K hK => Qb Z (kc1 hK Z ?_)
         refine QU (Zd Wf (Qv (Zd Wf (Zd Wf (QB (Qv (QA (ks1 Z (Qd fun K hK => mv2 Z Z ?_)))))))))
         refine kc1 hK Z ?_
         refine Qs (Qg Z ?_)
         exact (Xe (i := i) Wa (FN (Jf (i := j) Wa Wg))).symm
        ·rw [h8]
         simp only [qB, Qy] at h8
         refine Qq (Ql ?_)
         refine Qk (j + 1) ?_ ?_ ?_
         ·exact QP (l := [4, 14, 15, 16, 28]) (lH := [28]) (kp5 rfl rfl rfl rfl rfl) (Qa rfl Qi) rfl rfl rfl
         ·exact ⟨Wa, Q8 Wa hJ.2 Wg⟩
         ·omega
       ·rw [h7]
        simp only [qB, Qy] at h7
        refine Qc Z (Qb Z (Qc Z (YZ Z Z (Qc Z (Qh Z Z (Qh Z Z (Qb Z ?_)))))))
        refine Qr (g := 46) Z (fun h9 => ?_) (fun h9 => ?_)
        ·rw [h9]
         simp only [qB, Qy] at h9
         refine Qc Z (Qb Z (Qc Z (Z7 Z Z (Qh Z Z (kc6 hK Z Z Z Z Z Z ?_)))))
         refine Qu Z (fun h10 => ?_) (fun h10 => ?_)
         ·rw [h10]
          simp only [qB, Qy] at h10
          refine Qd fun K hK => Qb Z (kc1 hK Z ?_)
          refine QU (Zd Wf (Qv (Zd Wf (Zd Wf (QB (Qv (QA (ks1 Z (Qd fun K hK => mv2 Z Z ?_)))))))))
          refine kc1 hK Z ?_
          refine Qs (Qg Z ?_)
          exact (Xe (i := i) Wa (FN (Jf (i := j) Wa Wg))).symm
         ·rw [h10]
          simp only [qB, Qy] at h10
          refine Qq (Ql ?_)
          refine Qk (j + 1) ?_ ?_ ?_
          ·exact QP (l := [4, 14, 15, 16, 28]) (lH := [28]) (kp5 rfl rfl rfl rfl rfl) (Qa rfl Qi) rfl rfl rfl
          ·exact ⟨Wa, Q8 Wa hJ.2 Wg⟩
          ·omega
        ·rw [h9]
         simp only [qB, Qy] at h9
         refine gn2 Z Z (Qh Z Z (kc6 hK Z Z Z Z Z Z ?_))
         refine Zg Z (Qq (Ql ?_))
         refine Qk (j + 1) ?_ ?_ ?_
         ·exact QP (l := [4, 14, 15, 16, 28]) (lH := [28]) (kp5 rfl rfl rfl rfl rfl) (Qa rfl Qi) rfl rfl rfl
         ·exact ⟨Wa, Q8 Wa hJ.2 Wg⟩
         ·omega
      ·rw [h6]
       simp only [qB, Qy] at h6
       refine Qc Z (Qb Z (Qc Z (YZ Z Z (Qh Z Z (Qb Z ?_)))))
       refine Qr (g := 38) Z (fun h11 => ?_) (fun h11 => ?_)
       ·rw [h11]
        simp only [qB, Qy] at h11
        refine Qc Z (Qb Z (Qc Z (ZI Z Z (Qc Z (Qb Z ?_)))))
        refine Qr (g := 41) Z (fun h12 => ?_) (fun h12 => ?_)
        ·rw [h12]
         simp only [qB, Qy] at h12
         refine gn2 Z Z (Qc Z (Qh Z Z (Qh Z Z (Qb Z (Qc Z (Qb Z (Qc Z (Z7 Z Z (Qh Z Z (kc6 hK Z Z Z Z Z Z ?_))))))))))
         refine Qu Z (fun h13 => ?_) (fun h13 => ?_)
         ·rw [h13]
          simp only [qB, Qy] at h13
          refine Qd fun K hK => Qb Z (kc1 hK Z ?_)
          refine QU (Zd Wf (Qv (Zd Wf (Zd Wf (QB (Qv (QA (ks1 Z (Qd fun K hK => mv2 Z Z ?_)))))))))
          refine kc1 hK Z ?_
          refine Qs (Qg Z ?_)
          exact (Xe (i := i) Wa (K4 Wh)).symm
         ·rw [h13]
          simp only [qB, Qy] at h13
          refine Qq (Ql ?_)
          refine Qk (j + 1) ?_ ?_ ?_
          ·exact QP (l := [4, 14, 15, 16, 28]) (lH := [28]) (kp5 rfl rfl rfl rfl rfl) (Qa rfl Qi) rfl rfl rfl
          ·exact ⟨Wa, Q8 Wa hJ.2 Wg⟩
          ·omega
        ·rw [h12]
         simp only [qB, Qy] at h12
         refine Qc Z (Qb Z (Qc Z (YZ Z Z (Qc Z (Qh Z Z (Qh Z Z (Qb Z ?_)))))))
         refine Qr (g := 46) Z (fun h14 => ?_) (fun h14 => ?_)
         ·rw [h14]
          simp only [qB, Qy] at h14
          refine Qc Z (Qb Z (Qc Z (Z7 Z Z (Qh Z Z (kc6 hK Z Z Z Z Z Z ?_)))))
          refine Qu Z (fun h15 => ?_) (fun h15 => ?_)
          ·rw [h15]
           simp only [qB, Qy] at h15
           refine Qd fun K hK => Qb Z (kc1 hK Z ?_)
           refine QU (Zd Wf (Qv (Zd Wf (Zd Wf (QB (Qv (QA (ks1 Z (Qd fun K hK => mv2 Z Z ?_)))))))))
           refine kc1 hK Z ?_
           refine Qs (Qg Z ?_)
           exact (Xe (i := i) Wa (FN (Jf (i := j) Wa Wg))).symm
          ·rw [h15]
           simp only [qB, Qy] at h15
           refine Qq (Ql ?_)
           refine Qk (j + 1) ?_ ?_ ?_
           ·exact QP (l := [4, 14, 15, 16, 28]) (lH := [28]) (kp5 rfl rfl rfl rfl rfl) (Qa rfl Qi) rfl rfl rfl
           ·exact ⟨Wa, Q8 Wa hJ.2 Wg⟩
           ·omega
         ·rw [h14]
          simp only [qB, Qy] at h14
          refine gn2 Z Z (Qh Z Z (kc6 hK Z Z Z Z Z Z ?_))
          refine Zg Z (Qq (Ql ?_))
          refine Qk (j + 1) ?_ ?_ ?_
          ·exact QP (l := [4, 14, 15, 16, 28]) (lH := [28]) (kp5 rfl rfl rfl rfl rfl) (Qa rfl Qi) rfl rfl rfl
          ·exact ⟨Wa, Q8 Wa hJ.2 Wg⟩
          ·omega
       ·rw [h11]
        simp only [qB, Qy] at h11
        refine gn3 Z Z Z (Qo Z (Qo Z (Yk Z (Qh Z Z (Qb Z (gn2 Z Z (Qh Z Z (kc6 hK Z Z Z Z Z Z ?_))))))))
        refine Zg Z (Qq (Ql ?_))
        refine Qk (j + 1) ?_ ?_ ?_
        ·exact QP (l := [4, 14, 15, 16, 28]) (lH := [28]) (kp5 rfl rfl rfl rfl rfl) (Qa rfl Qi) rfl rfl rfl
        ·exact ⟨Wa, Q8 Wa hJ.2 Wg⟩
        ·omega
     ·obtain ⟨cwh5, nwh5, hch5, hdh5⟩ := Tf h4 h5
      refine S1 Z Z h4 hdh5 (Q4 Z Z (kc7 hK Z Z Z Z Z Z Z ?_))
      refine Qz ?_ -- 5
      refine QV Z (Qq (ks6 Z Z Z Z Z Z (Qw (Qd fun K hK => Q4 Z Z (Qb Z (kc6 hK Z Z Z Z Z Z ?_))))))
      refine Qd fun K hK => Qb Z (ZI Z Z (Qb Z ?_))
      refine Qr (g := 34) Z (fun h16 => ?_) (fun h16 => ?_)
      ·rw [h16]
       simp only [qB, Qy] at h16
       refine gn2 Z Z (Qh Z Z (Qb Z (Qc Z (Qb Z (Qc Z (ZI Z Z (Qc Z (Qb Z ?_))))))))
       refine Qr (g := 41) Z (fun h17 => ?_) (fun h17 => ?_)
       ·rw [h17]
        simp only [qB, Qy] at h17
        refine gn2 Z Z (Qc Z (Qh Z Z (Qh Z Z (Qb Z (Qc Z (Qb Z (Qc Z (Z7 Z Z (Qh Z Z (kc6 hK Z Z Z Z Z Z ?_))))))))))
        refine Qu Z (fun h18 => ?_) (fun h18 => ?_)
        ·rw [h18]
         simp only [qB, Qy] at h18
         refine Qd fun K hK => Qb Z (kc1 hK Z ?_)
         refine QU (Zd Wf (Qv (Zd Wf (Zd Wf (QB (Qv (QA (ks1 Z (Qd fun K hK => mv2 Z Z ?_)))))))))
         refine kc1 hK Z ?_
         refine Qs (Qg Z ?_)
         exact (Xe (i := i) Wa (K4 Wh)).symm
        ·rw [h18]
         simp only [qB, Qy] at h18
         refine Qq (Ql ?_)
         refine Qk (j + 1) ?_ ?_ ?_
         ·(exfalso; omega)
         ·exact ⟨Wa, Q8 Wa hJ.2 Wg⟩
         ·omega
       ·rw [h17]
        simp only [qB, Qy] at h17
        refine Qc Z (Qb Z (Qc Z (YZ Z Z (Qc Z (Qh Z Z (Qh Z Z (Qb Z ?_)))))))
        refine Qr (g := 46) Z (fun h19 => ?_) (fun h19 => ?_)
        ·rw [h19]
         simp only [qB, Qy] at h19
         refine Qc Z (Qb Z (Qc Z (Z7 Z Z (Qh Z Z (kc6 hK Z Z Z Z Z Z ?_)))))
         refine Qu Z (fun h20 => ?_) (fun h20 => ?_)
         ·rw [h20]
          simp only [qB, Qy] at h20
          refine Qd fun K hK => Qb Z (kc1 hK Z ?_)
          refine QU (Zd Wf (Qv (Zd Wf (Zd Wf (QB (Qv (QA (ks1 Z (Qd fun K hK => mv2 Z Z ?_)))))))))
          refine kc1 hK Z ?_
          refine Qs (Qg Z ?_)
          exact (Xe (i := i) Wa (K4 Wh)).symm
         ·rw [h20]
          simp only [qB, Qy] at h20
          refine Qq (Ql ?_)
          refine Qk (j + 1) ?_ ?_ ?_
          ·(exfalso; omega)
          ·exact ⟨Wa, Q8 Wa hJ.2 Wg⟩
          ·omega
        ·rw [h19]
         simp only [qB, Qy] at h19
         refine gn2 Z Z (Qh Z Z (kc6 hK Z Z Z Z Z Z ?_))
         refine Zg Z (Qq (Ql ?_))
         refine Qk (j + 1) ?_ ?_ ?_
         ·(exfalso; omega)
         ·exact ⟨Wa, Q8 Wa hJ.2 Wg⟩
         ·omega
      ·rw [h16]
       simp only [qB, Qy] at h16
       refine Qc Z (Qb Z (Qc Z (YZ Z Z (Qh Z Z (Qb Z ?_)))))
       refine Qr (g := 38) Z (fun h21 => ?_) (fun h21 => ?_)
       ·rw [h21]
        simp only [qB, Qy] at h21
        refine Qc Z (Qb Z (Qc Z (ZI Z Z (Qc Z (Qb Z ?_)))))
        refine Qr (g := 41) Z (fun h22 => ?_) (fun h22 => ?_)
        ·rw [h22]
         simp only [qB, Qy] at h22
         refine gn2 Z Z (Qc Z (Qh Z Z (Qh Z Z (Qb Z (Qc Z (Qb Z (Qc Z (Z7 Z Z (Qh Z Z (kc6 hK Z Z Z Z Z Z ?_))))))))))
         refine Qu Z (fun h23 => ?_) (fun h23 => ?_)
         ·rw [h23]
          simp only [qB, Qy] at h23
          refine Qd fun K hK => Qb Z (kc1 hK Z ?_)
          refine QU (Zd Wf (Qv (Zd Wf (Zd Wf (QB (Qv (QA (ks1 Z (Qd fun K hK => mv2 Z Z ?_)))))))))
          refine kc1 hK Z ?_
          refine Qs (Qg Z ?_)
          exact (Xe (i := i) Wa (K4 Wh)).symm
         ·rw [h23]
          simp only [qB, Qy] at h23
          refine Qq (Ql ?_)
          refine Qk (j + 1) ?_ ?_ ?_
          ·(exfalso; omega)
          ·exact ⟨Wa, Q8 Wa hJ.2 Wg⟩
          ·omega
        ·rw [h22]
         simp only [qB, Qy] at h22
         refine Qc Z (Qb Z (Qc Z (YZ Z Z (Qc Z (Qh Z Z (Qh Z Z (Qb Z ?_)))))))
         refine Qr (g := 46) Z (fun h24 => ?_) (fun h24 => ?_)
         ·rw [h24]
          simp only [qB, Qy] at h24
          refine Qc Z (Qb Z (Qc Z (Z7 Z Z (Qh Z Z (kc6 hK Z Z Z Z Z Z ?_)))))
          refine Qu Z (fun h25 => ?_) (fun h25 => ?_)
          ·rw [h25]
           simp only [qB, Qy] at h25
           refine Qd fun K hK => Qb Z (kc1 hK Z ?_)
           refine QU (Zd Wf (Qv (Zd Wf (Zd Wf (QB (Qv (QA (ks1 Z (Qd fun K hK => mv2 Z Z ?_)))))))))
           refine kc1 hK Z ?_
           refine Qs (Qg Z ?_)
           exact (Xe (i := i) Wa (FN (Jf (i := j) Wa Wg))).symm
          ·rw [h25]
           simp only [qB, Qy] at h25
           refine Qq (Ql ?_)
           refine Qk (j + 1) ?_ ?_ ?_
           ·(exfalso; omega)
           ·exact ⟨Wa, Q8 Wa hJ.2 Wg⟩
           ·omega
         ·rw [h24]
          simp only [qB, Qy] at h24
          refine gn2 Z Z (Qh Z Z (kc6 hK Z Z Z Z Z Z ?_))
          refine Zg Z (Qq (Ql ?_))
          refine Qk (j + 1) ?_ ?_ ?_
          ·(exfalso; omega)
          ·exact ⟨Wa, Q8 Wa hJ.2 Wg⟩
          ·omega
       ·rw [h21]
        simp only [qB, Qy] at h21
        refine gn3 Z Z Z (Qo Z (Qo Z (Yk Z (Qh Z Z (Qb Z (gn2 Z Z (Qh Z Z (kc6 hK Z Z Z Z Z Z ?_))))))))
        refine Zg Z (Qq (Ql ?_))
        refine Qk (j + 1) ?_ ?_ ?_
        ·(exfalso; omega)
        ·exact ⟨Wa, Q8 Wa hJ.2 Wg⟩
        ·omega
    ·refine PE Z Z Wa (Q4 Z Z (kc7 hK Z Z Z Z Z Z Z ?_))
     refine Qz ?_ -- 5
     refine Zg Z (QU (QB (Qv (QA (Ql (ks4 Z Z Z Z (QN fun K hK => Q0 Z Z Wb (Qb Z (hK _ ?_)))))))))
     refine Qk (i + 1) ?_ ?_ ?_
     ·exact QP (l := [4, 14, 15, 16]) (kp4 rfl rfl rfl rfl) Qi rfl rfl rfl
     ·exact ⟨Wa, Q8 Wa hI.2 (Qcl Wd Wa (Kg Wa hJ.2))⟩
     ·omega
 ·rw [h1]
  simp only [qB, Qy] at h1
  refine QU (QB (Qv (QA (ks1 Z (Qd fun K hK => mv2 Z Z (kc1 hK Z ?_))))))
  refine Qs (Qg Z ?_)
  exact (CZ Wa hI.2).symm
end Go.Proofs
