/- Part 2 of the means of the proof: a verified abstract evaluator, the prepared functions, and contracts of functions. It states nothing of the claim by itself. -/
import Derived.Test.YtblkbmcmgfpgkaaDoorB1
import Derived.OrdersIn
import Derived.RangeFuncWrites
import Derived.RangeFuncCalls
import Derived.RangeFuncLeaves
import Derived.TacticsIn
import Derived.Scope
set_option maxRecDepth 4000
set_option linter.unusedSimpArgs false
set_option linter.unusedVariables false
set_option linter.unusedSectionVars false
namespace Go.Abs
open Go
/-! ### Names of boxes renamed -/
def D.renS (ρ : Nat -> Nat) : D -> D
 | .osl k n => .osl (ρ k) n
 | .osv k lo c n => .osv (ρ k) lo c n
 | .ref k i o => .ref (ρ k) i o
 | .clr f k ps => .clr f (ρ k) ps
 | d => d
def D.ren (ρ : Nat -> Nat) : D -> D
 | .agg cs => .agg (cs.map (D.renS ρ))
 | .clo f cs => .clo f (cs.map (D.renS ρ))
 | .tpo cs x => .tpo (cs.map (D.renS ρ)) x
 | d => d.renS ρ
def Box.ren (ρ : Nat -> Nat) (b : Box) : Box := { b with rows := b.rows.map fun r => r.map (D.renS ρ) }
def Gh.pull (g : Gh) (ρ : Nat -> Nat) : Gh := ⟨g.K, fun k => g.β (ρ k), fun k => g.σ (ρ k)⟩
section
variable {g : Gh} {ρ : Nat -> Nat}
theorem RepS.ren {d : D} {v : Value} : RepS g (d.renS ρ) v ↔ RepS (g.pull ρ) d v := by cases d <;> exact Iff.rfl
theorem KJ {d : D} : (d.renS ρ).isCell = d.isCell := by cases d <;> rfl
theorem Pd {d : D} : (d.renS ρ).sid = d.sid.map ρ := by cases d <;> rfl
theorem RepL.ren : ∀ {ds : List D} {vs : List Value}, RepL g (ds.map (D.renS ρ)) vs ↔ RepL (g.pull ρ) ds vs
 | [], [] => Iff.rfl
 | d :: ds, v :: vs => by simp only [List.map_cons, RepL]; rw [RepS.ren, RepL.ren]
 | [], _ :: _ => Iff.rfl
 | _ :: _, [] => Iff.rfl
theorem Rep.ren {d : D} {v : Value} : Rep g (d.ren ρ) v ↔ Rep (g.pull ρ) d v := by
 cases d
 case agg cs =>
  simp only [D.ren, Rep]
  constructor
  ·rintro ⟨vs, h1, h2, h3⟩; exact ⟨vs, h1, RepL.ren.1 h2, fun d hd => by have := h3 _ (List.mem_map_of_mem hd); rwa [KJ] at this⟩
  ·rintro ⟨vs, h1, h2, h3⟩
   refine ⟨vs, h1, RepL.ren.2 h2, fun d hd => ?_⟩
   obtain ⟨y, hy, rfl⟩ := QhT.1 hd
   rw [KJ]; exact h3 y hy
 case tpo cs x =>
  simp only [D.ren, Rep]
  constructor
  ·rintro ⟨vs, u, h1, h2, h3, h4⟩; exact ⟨vs, u, h1, RepL.ren.1 h2, fun d hd => by have := h3 _ (List.mem_map_of_mem hd); rwa [KJ] at this, h4⟩
  ·rintro ⟨vs, u, h1, h2, h3, h4⟩
   refine ⟨vs, u, h1, RepL.ren.2 h2, fun d hd => ?_, h4⟩
   obtain ⟨y, hy, rfl⟩ := QhT.1 hd
   rw [KJ]; exact h3 y hy
 case clo f cs =>
  simp only [D.ren, Rep]
  exact ⟨fun ⟨vs, h1, h2⟩ => ⟨vs, h1, RepL.ren.1 h2⟩, fun ⟨vs, h1, h2⟩ => ⟨vs, h1, RepL.ren.2 h2⟩⟩
 all_goals exact Iff.rfl
theorem XW : ∀ {cs : List D}, (cs.map (D.renS ρ)).flatMap D.sid = (cs.flatMap D.sid).map ρ
 | [] => rfl
 | c :: cs => by rw [List.map_cons, List.flatMap_cons, List.flatMap_cons, List.map_append, Pd, XW]
theorem ren_ids {d : D} : (d.ren ρ).ids = d.ids.map ρ := by
 cases d
 case agg cs => exact XW
 case clo f cs => exact XW
 case tpo cs x => exact XW
 all_goals rfl
theorem CellsC.ren {c : Array Value} : ∀ {off : Nat} {ds : List D}, CellsC g c off (ds.map (D.renS ρ)) ↔ CellsC (g.pull ρ) c off ds
 | _, [] => by simp only [List.map_nil, CellsC]
 | off, d :: ds => by
  simp only [List.map_cons, CellsC]
  rw [CellsC.ren, KJ]
  constructor
  ·rintro ⟨⟨h1, x, h2, h3⟩, h4⟩; exact ⟨⟨h1, x, h2, RepS.ren.1 h3⟩, h4⟩
  ·rintro ⟨⟨h1, x, h2, h3⟩, h4⟩; exact ⟨⟨h1, x, h2, RepS.ren.2 h3⟩, h4⟩
theorem RowsC.ren {c : Array Value} : ∀ {off : Nat} {rs : List (List D)}, RowsC g c off (rs.map fun r => r.map (D.renS ρ)) ↔ RowsC (g.pull ρ) c off rs
 | _, [] => by simp only [List.map_nil, RowsC]
 | off, r :: rs => by
  simp only [List.map_cons, RowsC, List.length_map]
  rw [CellsC.ren, RowsC.ren]
theorem Box.ren_ids {b : Box} : (b.ren ρ).ids = b.ids.map ρ := by
 unfold Box.ids Box.ren
 simp only
 split
 ·rfl
 ·induction b.rows with
  | nil => rfl
  | cons r rs ih => rw [List.map_cons, List.flatMap_cons, List.flatMap_cons, List.map_append, XW, ih]
theorem Box.ren_gone {b : Box} : b.ren ρ = ZQ ↔ b = ZQ := by
 obtain ⟨rows, esz, et, pr⟩ := b
 simp [Box.ren, ZQ]
theorem BoxRel.ren {E : Env} {w : World} {k : Nat} {b : Box} : BoxRel E g w (ρ k) (b.ren ρ) ↔ BoxRel E (g.pull ρ) w k b := by
 have hnil : (b.ren ρ).rows = [] ↔ b.rows = [] := by simp [Box.ren]
 have hit : MA E g w (ρ k) (b.ren ρ) ↔ MA E (g.pull ρ) w k b := by
  unfold MA
  rw [hnil]
  exact Iff.rfl
 have hlen : (∀ r ∈ (b.ren ρ).rows, r.length = (b.ren ρ).esz) ↔ ∀ r ∈ b.rows, r.length = b.esz := by
  simp [Box.ren]
 have hsid : ((b.ren ρ).pr = true -> ∀ r ∈ (b.ren ρ).rows, ∀ d ∈ r, d.sid = []) ↔ (b.pr = true -> ∀ r ∈ b.rows, ∀ d ∈ r, d.sid = []) := by
  constructor
  ·intro h hp r hr d hd
   have := h hp (r.map (D.renS ρ)) (List.mem_map_of_mem hr) (d.renS ρ) (List.mem_map_of_mem hd)
   rw [Pd] at this
   simpa using this
  ·intro h hp r hr d hd
   obtain ⟨r', hr', rfl⟩ := QhT.1 hr
   obtain ⟨d', hd', rfl⟩ := QhT.1 hd
   rw [Pd, h hp r' hr' d' hd']; rfl
 unfold BoxRel
 rw [hlen, hsid, hnil, hit, Box.ren_gone]
 refine and_congr_right fun _ => and_congr_right fun _ => or_congr Iff.rfl (and_congr (or_congr (not_congr hnil) Iff.rfl) ?_)
 constructor
 ·rintro ⟨B, c, h1, h2, h3, h4, h5⟩; exact ⟨B, c, h1, h2, h3, RowsC.ren.1 h4, h5⟩
 ·rintro ⟨B, c, h1, h2, h3, h4, h5⟩; exact ⟨B, c, h1, h2, h3, RowsC.ren.2 h4, h5⟩
end
theorem BoxRel.move {E E' : Env} {g g' : Gh} {w w' : World} {k : Nat} {b : Box} (h : BoxRel E g w k b) (hβ : g'.β k = g.β k /\ g'.σ k = g.σ k) (hs : ∀ r ∈ b.rows, ∀ d ∈ r, ∀ j ∈ d.sid, g'.β j = g.β j /\ g'.σ j = g.σ j) (hK : g.K.le g'.K)
  (hB : ∀ B e, g.β k = some (B, e) -> w'.heap[B]? = w.heap[B]? /\ (∀ o, g.K B o = none -> g'.K B o = none) /\ (E.B0 <= B \/ E.fo B -> E'.B0 <= B \/ E'.fo B)) : BoxRel E' g' w' k b := by
 obtain ⟨h1, h2, h3⟩ := h
 refine ⟨h1, h2, h3.imp (fun ⟨x, y⟩ => ⟨x, y.imp (fun y => ⟨hβ.1.trans y.1, by rw [hβ.2]; exact y.2⟩) fun ⟨i1, i2, i3, sv, p, B, i4, i5, i6, i7, i8⟩ => by
  obtain ⟨q1, q2, q3⟩ := hB B 0 i5
  exact ⟨i1, i2, i3, sv, p, B, i4, hβ.1.trans i5, q1.trans i6, fun o => q2 o (i7 o), q3 i8.1, by rw [hβ.2]; exact i8.2⟩⟩) ?_⟩
 ·rintro ⟨h4, B, c, h5, h6, h7, h8, h9, h10⟩
  obtain ⟨q1, q2, q3⟩ := hB B _ h5
  exact ⟨h4, B, c, hβ.1.trans h5, q1.trans h6, (by rw [hβ.2]; exact h7), (by rw [hβ.2]; exact RowsC.congr hK h8 hs), fun o => q2 o (h9 o), q3 h10⟩
theorem BoxRel.blk {E : Env} {g : Gh} {w : World} {k : Nat} {b : Box} {B e : Nat} (h : BoxRel E g w k b) (hβ : g.β k = some (B, e)) : B < w.heap.size /\ (∀ o, g.K B o = none) /\ (E.B0 <= B \/ E.fo B) := by
 obtain ⟨_, _, h3⟩ := h
 rcases h3 with ⟨_, ⟨h3, _⟩ | ⟨_, _, _, _, _, B', _, i5, i6, i7, i8⟩⟩ | ⟨_, B', c, h5, h6, _, _, h9, h10⟩
 ·rw [h3] at hβ; cases hβ
 ·rw [hβ] at i5; cases i5; exact ⟨(Array.getElem?_eq_some_iff.1 i6).1, i7, i8.1⟩
 ·rw [hβ] at h5; cases h5; exact ⟨(Array.getElem?_eq_some_iff.1 h6).1, h9, h10⟩
theorem BoxRel.nodf {E : Env} {g : Gh} {w : World} {k : Nat} {b : Box} {B e : Nat} (h : BoxRel E g w k b) (hβ : g.β k = some (B, e)) : ¬ XT w B := fun hd => by
 obtain ⟨_, _, h3⟩ := h
 unfold XT at hd
 rcases h3 with ⟨_, ⟨h3, _⟩ | ⟨_, _, _, _, _, B', _, i5, i6, i7, i8⟩⟩ | ⟨_, B', c, h5, h6, _⟩
 ·rw [h3] at hβ; cases hβ
 ·rw [hβ] at i5; cases i5; rw [hd] at i6; cases i6
 ·rw [hβ] at h5; cases h5; rw [hd] at h6; cases h6
/-! ### Contracts of functions that are handed own boxes -/
def E0 (w : World) : Env := ⟨0, 0, w, fun _ _ => none, fun _ => False, fun _ => False, fun _ => none, fun _ => (0, 0), none, none⟩
structure HRel (g : Gh) (H : QhD) (w : World) : Prop where
 wfH : ∀ k b, lk H k = some b -> ∀ j ∈ b.ids, (lk H j).isSome = true
 bx : ∀ k b, lk H k = some b -> BoxRel (E0 w) g w k b
 inj : ∀ k k' b b' B e e', lk H k = some b -> lk H k' = some b' -> g.β k = some (B, e) -> g.β k' = some (B, e') -> k = k'
 kr : KRel g.K w
def RepA (g : Gh) : List D -> List Value -> Prop
 | [], [] => True
 | d :: ds, v :: vs => Rep g d v /\ RepA g ds vs
 | _, _ => False
def FS (g : Gh) (H : QhD) (b : Nat) : Prop := ∃ k e, (lk H k).isSome = true /\ g.β k = some (b, e)
def LQ (P : Program) (f : Nat) : Prop := ∃ fn, P.funcs[f]? = some fn /\ (fn.name == "runtime.NumGoroutine") = false /\ fn.body.isNone = false
def OkH (P : Program) (f : Nat) (ds : List D) (H : QhD) (d : D) (H' : QhD) : Prop :=
 LQ P f /\ ∀ (g : Gh) (w : World) (vs : List Value), HRel g H w -> RepA g ds (vs ++ gVs f) -> (∀ x ∈ ds, ∀ k ∈ x.ids, (lk H k).isSome = true) -> Calls P f vs.toArray w fun e w' =>
  ∃ v g', e = .returned v /\ Rep g' d v /\ HRel g' H' w' /\ w.heap.size <= w'.heap.size /\ (∀ b, b < w.heap.size -> ¬ FS g H b -> w'.heap[b]? = w.heap[b]? /\ g'.K b = g.K b) /\ SameFx w w' /\
   (∀ k, 1000000 <= k -> (lk H k).isSome = true -> (lk H' k).isSome = true /\ g'.β k = g.β k /\ g'.σ k = g.σ k) /\
   ∀ k B e, k < 1000000 -> (lk H' k).isSome = true -> g'.β k = some (B, e) -> w.heap.size <= B \/ ∃ k2 e2, k2 < 1000000 /\ (lk H k2).isSome = true /\ g.β k2 = some (B, e2)
def upN (k : Nat) : Nat := k + 1000000
def upH (H : QhD) : QhD := H.map fun p => (upN p.1, p.2.ren upN)
theorem HD : ∀ (H : QhD) (k : Nat), lk (upH H) (upN k) = (lk H k).map (Box.ren upN)
 | [], _ => rfl
 | (j, b) :: H, k => by
  simp only [upH, List.map_cons, Qx]
  have := HD H k
  simp only [upH] at this
  rw [this]
  by_cases h : j = k
  ·subst h; simp
  ·rw [if_neg h, if_neg (by unfold upN; omega)]
theorem KB : ∀ (H : QhD) {k : Nat}, k < 1000000 -> lk (upH H) k = none
 | [], _, _ => rfl
 | (j, b) :: H, k, hk => by
  simp only [upH, List.map_cons, Qx]
  rw [if_neg (by unfold upN; omega)]
  exact KB H hk
theorem Y9 {H : QhD} {k : Nat} {b : Box} (h : lk (upH H) k = some b) : ∃ j b0, k = upN j /\ lk H j = some b0 /\ b = b0.ren upN := by
 by_cases hk : k < 1000000
 ·rw [KB H hk] at h; cases h
 ·have e : k = upN (k - 1000000) := by unfold upN; omega
  rw [e, HD] at h
  obtain ⟨b0, h1, h2⟩ := QhF.1 h
  exact ⟨_, b0, e, h1, h2.symm⟩
theorem JQ {α : Type} : ∀ (A B : List (Nat × α)) (k : Nat), lk (A ++ B) k = match lk A k with | some v => some v | none => lk B k
 | [], _, _ => rfl
 | (j, v) :: A, B, k => by
  simp only [List.cons_append, Qx]
  split
  ·rfl
  ·exact JQ A B k
theorem Jn {α : Type} {A B : List (Nat × α)} {k : Nat} (h : lk A k = none) : lk (A ++ B) k = lk B k := by rw [JQ, h]
theorem XH {α : Type} {A B : List (Nat × α)} {k : Nat} {v : α} (h : lk A k = some v) : lk (A ++ B) k = some v := by rw [JQ, h]
theorem QcZ {a b : Nat} (h : upN a = upN b) : a = b := by unfold upN at h; omega
end Go.Abs
namespace Go.Abs
open Go
def Ok (P : Program) (f : Nat) (ds : List D) (d : D) : Prop :=
 LQ P f /\ ∀ (K : Kn) (w : World) (vs : List Value), KRel K w -> RepVs K ds (vs ++ gVs f) -> Calls P f vs.toArray w fun e w' =>
  ∃ v K', e = .returned v /\ RepP K' d v /\ KRel K' w' /\ w.heap.size <= w'.heap.size /\ (∀ b, b < w.heap.size -> w'.heap[b]? = w.heap[b]?) /\ (∀ b, b < w.heap.size -> K' b = K b) /\ SameFx w w'
def D.canS : D -> D
 | .fsl rows => .sl rows
 | d => d
def D.can : D -> D
 | .agg cs => .agg (cs.map D.canS)
 | d => d.canS
def D.flat1 : D -> Bool
 | .int _ _ | .bool _ | .str _ => true
 | _ => false
def D.flat : D -> Bool
 | .tup ds => ds.all D.flat1
 | d => d.flat1
def FE : Nat -> Bool := fun _ => true
def JM (s : St) (d : D) : D := (d.fz s.H FE).can
def Bh (d : D) : D := (d.ren upN).can
def OkU (P : Program) (f : Nat) (ds : List D) (H : QhD) (d : D) (H' : QhD) : Prop := OkH P f (ds.map Bh) H d H' \/ OkH P f (ds.map (D.ren upN)) H d H'
def XR (P : Program) (f : Nat) (args : List Opd) (s : St) (HF Hn Hu : QhD) (d : D) : Prop :=
 ∃ ds, Zb s args = some ds /\ (∀ k b, lk HF k = some b -> lk s.H k = some b) /\ (∀ k b, lk HF k = some b -> ∀ j ∈ b.ids, (lk HF j).isSome = true) /\ (∀ x ∈ ds, ∀ j ∈ x.ids, (lk HF j).isSome = true) /\
  (∀ k b, lk Hu k = some b -> (lk HF k).isSome = true /\ ∀ j ∈ b.ids, (lk HF j).isSome = true) /\
  (∀ k b, lk Hn k = some b -> k < 1000000 /\ lk s.H k = none /\ ∀ j ∈ b.ids, (lk Hn j).isSome = true) /\ (∀ k ∈ d.ids, (lk Hn k).isSome = true) /\
  OkU P f ds (upH HF) d (Hn ++ upH (Hu ++ HF))
def QfK (k : Nat) (d : D) : D := (d.ren fun j => if j = k then 500000 else upN j).can
def BE (P : Program) (f : Nat) (args : List Opd) (s : St) (HF : QhD) (k t : Nat) (b b' : Box) (n' : Nat) : Prop :=
 ∃ ds, Zb s args = some ds /\ lk s.H k = some b /\ b.pr = true /\ k < 1000000 /\ lk s.H t = none /\ t < 1000000 /\ (∀ j x, lk HF j = some x -> j ≠ k /\ lk s.H j = some x) /\ (∀ j x, lk HF j = some x -> ∀ i ∈ x.ids, (lk HF i).isSome = true) /\
  (∀ x ∈ ds, ∀ j ∈ x.ids, j = k \/ (lk HF j).isSome = true) /\ (∃ x ∈ ds, k ∈ x.ids) /\ b'.pr = true /\ OkH P f (ds.map (QfK k)) ((500000, b) :: upH HF) (.osl 500000 n') ((500000, b') :: upH HF)
def St.eff (s : St) (dst : Option Nat) (d : D) (ef : QhD) : St :=
 ⟨match dst with | some t => (t, d) :: s.fr | none => s.fr, ef ++ s.H⟩
def EF (P : Program) (B : Nat -> Prop) (op : AOp) (dst : Option Nat) (s : St) (p q : List Nat) (d : D) (ef : QhD) : Prop :=
 match op with
 | .call f args => (∃ HF k b, XR P f args s HF [] [(k, b)] d /\ (∀ j ∈ HF.map Prod.fst, B j) /\ p = HF.map Prod.fst /\ q = [k] /\ ef = [(k, b)]) \/
   (∃ HF k t b b' n', dst = some t /\ BE P f args s HF k t b b' n' /\ (∀ j ∈ HF.map Prod.fst, B j) /\ p = k :: HF.map Prod.fst /\ q = [k] /\ d = .osl t n' /\ ef = [(t, b'), (k, ZQ)]) \/
   ∃ HF t b n, dst = some t /\ XR P f args s HF [(t, b)] [] (.osl t n) /\ lk s.H t = none /\ (∀ j ∈ HF.map Prod.fst, B j) /\ p = HF.map Prod.fst /\ q = [] /\ d = .osl t n /\ ef = [(t, b)]
 | .append esz et bytes x y => ∃ t k n b e ys pr, dst = some t /\ s.ev x = some (.osl k n) /\ k < 1000000 /\ lk s.H t = none /\ t < 1000000 /\ lk s.H k = some b /\ n = b.rows.length /\ b.esz = esz /\ b.et = et /\ s.ev y = some e /\ k ∉ e.ids /\ s.src esz e ys pr /\
   (n + ys.length) * bytes <= 140737488355328 /\ n + ys.length <= 4611686018427387904 /\ p = k :: e.ids /\ q = [k] /\ d = .osl t (n + ys.length) /\ ef = [(t, ⟨b.rows ++ ys, esz, et, b.pr && pr⟩), (k, ZQ)]
 | _ => False
def JI (s : St) (op : AOp) (f : Nat) (args : List Opd) : Prop :=
 op = .call f args \/ (∃ x az caps, op = .callV x az /\ (s.ev x = some (.clo f caps) \/ ∃ k ps, s.ev x = some (.clr f k ps) /\ caps = .ref k 0 0 :: ps) /\ caps.all D.capOk = true /\ args = az ++ caps.map .c) \/
  ∃ x rs, op = .callV x [] /\ s.ev x = some (.bnd f rs) /\ rs.all D.pure = true /\ args = rs.map .c
def BD (P : Program) (f : Nat) (args : List Opd) (s : St) (d : D) : Prop :=
 ∃ ds, Zb s args = some ds /\ Ok P f (ds.map (JM s)) d /\ (ds.all D.pure = true \/ d.flat = true)
def St.apply (s : St) (dst : Option Nat) (d : D) (bx : Option Box) : St :=
 match dst with
 | some t => (s.withBox dst bx).put t d
 | none => s
def gw (s : St) : Option (Nat × Bool) -> Option Bool
 | none => some true
 | some (t, b) => match lk s.fr t with
  | some (.bool c) => some (c == b)
  | some .undef => some false
  | _ => none
def Xf (P : Program) (o : AOper) (s : St) (d : D) (bx : Option Box) : Prop :=
 match o.op with
 | .call f args => bx = none /\ BD P f args s d
 | .callV x az => bx = none /\ ((∃ f caps, s.ev x = some (.clo f caps) /\ caps.all D.capOk = true /\ BD P f (az ++ caps.map .c) s d) \/ (az = [] /\ ∃ f rs, s.ev x = some (.bnd f rs) /\ rs.all D.pure = true /\ BD P f (rs.map .c) s d))
 | op => SN op o.dst s d bx
def St.le (s s' : St) : Prop := ∀ E g a w, Rel E g s a w -> ∃ g', Rel E g' s' a w
def L5 (P : Program) (o : AOper) (K : St -> Prop) (s : St) : Prop :=
 match gw s o.guard with
 | none => False
 | some false => K (s.apply o.dst .undef none)
 | some true => (∃ d bx, Xf P o s d bx /\ K (s.apply o.dst d bx)) \/ (∃ s' d, RL o.op s s' d /\ K (s'.apply o.dst d none)) \/ (∃ p q d ef, EF P (fun _ => True) o.op o.dst s p q d ef /\ K (s.eff o.dst d ef)) \/
   (∃ f args HF Hn Hu d, JI s o.op f args /\ XR P f args s HF Hn Hu d /\ K (St.apply { s with H := Hn ++ (Hu ++ s.H) } o.dst d none)) \/
   ∃ s' d bx, s.le s' /\ Xf P o s' d bx /\ K (s'.apply o.dst d bx)
def GS (P : Program) : List AOper -> (St -> Prop) -> St -> Prop
 | [], K, s => K s
 | o :: r, K, s => L5 P o (GS P r K) s
def ZE (ops : Array Oper) : Option (Nat × Bool) -> Option (Option (Nat × Bool))
 | none => some none
 | some (j, b) => match (ops[j]?).bind (·.dst) with
  | some t => some (some (t, b))
  | none => none
def Zw (P : Program) (nt : Nat) (ops : Array Oper) (o : Oper) : Option AOper :=
 match ZY P o.op, ZE ops o.guard, o.dst with
 | some ao, some gd, none => some ⟨none, ao, gd⟩
 | some ao, some gd, some t => if t < nt /\ t < 900000 then some ⟨some t, ao, gd⟩ else none
 | _, _, _ => none
def QO (P : Program) (nt : Nat) (ops : Array Oper) : List Oper -> Option (List AOper)
 | [] => some []
 | o :: r => match Zw P nt ops o, QO P nt ops r with
  | some o', some r' => some (o' :: r')
  | _, _ => none
section
variable {P : Program} {E : Env} {g : Gh} {s : St} {a : Act} {w : World}
theorem QT {nt : Nat} {ops : Array Oper} {o : Oper} {o' : AOper} (h : Zw P nt ops o = some o') :
  ZY P o.op = some o'.op /\ ZE ops o.guard = some o'.guard /\ o'.dst = o.dst /\ ∀ t, o.dst = some t -> t < nt := by
 unfold Zw at h
 split at h
 ·rename_i ao gd e1 e2 e3
  cases h; exact ⟨e1, e2, e3.symm, fun t ht => by rw [e3] at ht; cases ht⟩
 ·rename_i ao gd t e1 e2 e3
  split at h
  ·rename_i hlt
   cases h; exact ⟨e1, e2, e3.symm, fun t' ht => by rw [e3] at ht; cases ht; exact hlt.1⟩
  ·cases h
 ·cases h
theorem Gx {nt : Nat} {ops : Array Oper} {o : Oper} {o' : AOper} (h : Zw P nt ops o = some o') {t : Nat} (ht : o.dst = some t) : t < 900000 := by
 unfold Zw at h
 split at h
 ·rename_i ao gd e1 e2 e3; rw [e3] at ht; cases ht
 ·rename_i ao gd t e1 e2 e3
  split at h
  ·rename_i hlt
   rw [e3] at ht; cases ht; exact hlt.2
  ·cases h
 ·cases h
theorem Rel.apply {dst : Option Nat} {d : D} {bx : Option Box} {v : Value} (r : Rel E g (s.withBox dst bx) a w) (hv : Rep g d v) (hd : Has (s.withBox dst bx) d) (ht : ∀ t, dst = some t -> t < E.nt) :
  Rel E g (s.apply dst d bx) (a.put dst v) w := by
 cases dst with
 | none => exact r
 | some t => exact r.put (ht t rfl) hv hd
theorem Mh {s : St} : ∀ {xs ys : List Opd} {ds : List D}, Zb s (xs ++ ys) = some ds -> ∃ d1 d2, ds = d1 ++ d2 /\ Zb s xs = some d1 /\ Zb s ys = some d2
 | [], ys, ds, h => ⟨[], ds, rfl, rfl, h⟩
 | x :: xs, ys, ds, h => by
  simp only [List.cons_append, Zb] at h
  split at h
  ·rename_i d ds' e1 e2
   cases h
   obtain ⟨d1, d2, rfl, h1, h2⟩ := Mh e2
   exact ⟨d :: d1, d2, rfl, by simp only [Zb, e1, h1], h2⟩
  ·cases h
theorem J3 {s : St} : ∀ (ds : List D), Zb s (ds.map .c) = some ds
 | [] => rfl
 | d :: ds => by simp only [List.map_cons, Zb, St.ev, J3 ds]
theorem RepA.app {g : Gh} : ∀ {d1 : List D} {v1 : List Value} {d2 : List D} {v2 : List Value}, RepA g d1 v1 -> RepA g d2 v2 -> RepA g (d1 ++ d2) (v1 ++ v2)
 | [], [], _, _, _, h => h
 | _ :: _, _ :: _, _, _, h, h' => ⟨h.1, RepA.app h.2 h'⟩
 | [], _ :: _, _, _, h, _ => h.elim
 | _ :: _, [], _, _, h, _ => h.elim
theorem RepL.toA {g : Gh} : ∀ {ds : List D} {vs : List Value}, RepL g ds vs -> RepA g ds vs
 | [], [], _ => trivial
 | _ :: _, _ :: _, h => ⟨h.1.toRepP, RepL.toA h.2⟩
 | [], _ :: _, h => h.elim
 | _ :: _, [], h => h.elim
theorem QbQ (r : Rel E g s a w) : ∀ {xs : List Operand} {xs' : List Opd} {ds : List D}, ZD xs = some xs' -> Zb s xs' = some ds -> RepA g ds (xs.map a.eval) /\ ∀ d ∈ ds, Has s d
 | [], xs', ds, h1, h2 => by
  simp only [ZD, QhI] at h1; subst h1
  simp only [Zb, QhI] at h2; subst h2
  exact ⟨trivial, by simp⟩
 | x :: xs, xs', ds, h1, h2 => by
  simp only [ZD] at h1
  split at h1
  ·rename_i x' r' e1 e2
   cases h1
   simp only [Zb] at h2
   split at h2
   ·rename_i d ds' f1 f2
    cases h2
    obtain ⟨q1, q2⟩ := QbQ r e2 f2
    obtain ⟨g1, g2⟩ := Zi r e1 f1
    refine ⟨⟨g1, q1⟩, fun y hy => ?_⟩
    cases hy with
    | head => exact g2
    | tail _ hm => exact q2 y hm
   ·cases h2
  ·cases h1
theorem Tb {K : Kn} {d : D} {v : Value} (h : RepP K d v) : RepP K d.canS v := by
 cases d <;> simp only [D.canS] <;> try exact h
 simp only [RepP] at h ⊢
 obtain ⟨a0, q1, q2⟩ := h
 exact ⟨a0, _, q1, Nat.le_refl _, q2⟩
theorem Di {K : Kn} {d : D} {v : Value} (h : RepP K d v) : RepP K d.can v := by
 cases d <;> simp only [D.can] <;> try exact Tb h
 case agg cs =>
  simp only [RepP] at h ⊢
  obtain ⟨vs, q1, q2⟩ := h
  refine ⟨vs, q1, ?_⟩
  have : ∀ {cs : List D} {vs : List Value}, RepCs K cs vs -> RepCs K (cs.map D.canS) vs := by
   intro cs
   induction cs with
   | nil => intro vs h; exact h
   | cons c cs ih =>
    intro vs h
    cases vs with
    | nil => simp only [RepCs] at h
    | cons v vs =>
     simp only [List.map_cons, RepCs] at h ⊢
     refine ⟨⟨?_, Tb h.1.2⟩, ih h.2⟩
     have := h.1.1
     cases c <;> first | exact this | rfl
  exact this q2
theorem TJ {K : Kn} (hrep : ∀ d v, RepS g d v -> (∀ k ∈ d.sid, (lk s.H k).isSome = true) -> RepS { g with K := K } (d.fzS s.H FE) v) : ∀ {ds : List D} {vs : List Value},
  RepA g ds vs -> (∀ d ∈ ds, Has s d) -> (∀ d ∈ ds, (d.fz s.H FE).pure = true) -> RepVs K (ds.map (JM s)) vs
 | [], [], _, _, _ => by simp only [List.map_nil, RepVs]
 | d :: ds, v :: vs, h, h2, h3 => by
  have hp := (Rep.fz hrep h.1 (h2 d Wc)).toP (h3 d Wc)
  simp only [List.map_cons, RepVs]
  exact ⟨Di hp, TJ hrep h.2 (fun x hx => h2 x (by simp [hx])) fun x hx => h3 x (by simp [hx])⟩
 | [], _ :: _, h, _, _ => h.elim
 | _ :: _, [], h, _, _ => h.elim
theorem XX {H : QhD} {d : D} : (d.fzS H FE).own = false := by
 cases d <;> simp only [D.fzS, FE, if_true] <;> try rfl
 all_goals (repeat' split) <;> rfl
theorem Nr {H : QhD} {d : D} : (d.fz H FE).pure = true := by
 cases d
 case agg cs => simp only [D.fz, D.pure, QhP]; intro x hx; obtain ⟨y, _, rfl⟩ := QhT.1 hx; simp [XX]
 case clo f cs => simp only [D.fz, D.pure, QhP]; intro x hx; obtain ⟨y, _, rfl⟩ := QhT.1 hx; simp [XX]
 case tpo cs z => simp only [D.fz, D.pure, QhP]; intro x hx; obtain ⟨y, _, rfl⟩ := QhT.1 hx; simp [XX]
 case osl k n =>
  have := XX (H := H) (d := .osl k n)
  simp only [D.fz]
  revert this
  simp only [D.fzS, FE, if_true]
  (repeat' split) <;> intro _ <;> rfl
 case clr f k ps => rfl
 case ref k i j =>
  have := XX (H := H) (d := .ref k i j)
  simp only [D.fz]
  revert this
  simp only [D.fzS, FE, if_true]
  (repeat' split) <;> intro _ <;> rfl
 all_goals rfl
theorem Ye {f : D -> D} : ∀ {cs : List D}, (∀ x ∈ cs, f x = x) -> cs.map f = cs
 | [], _ => rfl
 | c :: cs, h => by rw [List.map_cons, h c Wc, Ye fun x hx => h x (by simp [hx])]
theorem G0 {H : QhD} {S : Nat -> Bool} {d : D} (h : d.pure = true) : d.fz H S = d := by
 have one : ∀ {d : D}, d.own = false -> d.fzS H S = d := by
  intro d h
  cases d <;> first | rfl | (simp [D.own] at h)
 cases d
 case agg cs =>
  simp only [D.pure, QhP] at h
  simp only [D.fz]
  rw [Ye fun x hx => one (by simpa using h x hx)]
 case clo f cs =>
  simp only [D.pure, QhP] at h
  simp only [D.fz]
  rw [Ye fun x hx => one (by simpa using h x hx)]
 case tpo cs z =>
  simp only [D.pure, QhP] at h
  simp only [D.fz]
  rw [Ye fun x hx => one (by simpa using h x hx)]
 all_goals first | rfl | (simp [D.pure, D.own] at h)
end
end Go.Abs
namespace Go.Abs
open Go
section
variable {P : Program} {E : Env} {g : Gh} {s : St} {a : Act} {w : World}
theorem RepA.ofP {g : Gh} : ∀ {ds : List D} {vs : List Value}, RepVs g.K ds vs -> RepA g ds vs
  | [], [], _ => trivial
  | d :: ds, v :: vs, h => by simp only [RepVs] at h; exact ⟨Rep.of h.1, RepA.ofP h.2⟩
  | [], _ :: _, h => by simp only [RepVs] at h
  | _ :: _, [], h => by simp only [RepVs] at h
theorem RepVs.ids {K : Kn} : ∀ {ds : List D} {vs : List Value}, RepVs K ds vs -> ∀ d ∈ ds, d.ids = []
  | [], [], _, d, hd => by cases hd
  | d :: ds, v :: vs, h, x, hx => by
    simp only [RepVs] at h
    rcases QhH.1 hx with rfl | hx
    · exact Xa h.1
    · exact RepVs.ids h.2 x hx
  | [], _ :: _, h, _, _ => by simp only [RepVs] at h
  | _ :: _, [], h, _, _ => by simp only [RepVs] at h
theorem KQ {o : Oper} {ao : AOp} {f : Nat} {args : List Opd} {ds : List D} (r : Rel E g s a w) (hp : ZY P o.op = some ao) (hc : JI s ao f args) (hds : Zb s args = some ds) (he : LQ P f) :
    ∃ vs : List Value, RepA g ds (vs ++ gVs f) /\ (∀ d ∈ ds, Has s d) /\ (execOp a.eval o).run P w = .ok (.enter f vs.toArray) w := by
  obtain ⟨fn, hfn, hnm, hbd⟩ := he
  have hnm' : ¬ fn.name = "runtime.NumGoroutine" := by simpa using hnm
  have hbd' : ¬ fn.body = none := fun h => by rw [h] at hbd; cases hbd
  have hao : (∃ az, ao = .call f az) \/ ∃ x az, ao = .callV x az := by
    rcases hc with h | ⟨x, az, _, h, _⟩ | ⟨x, _, h, _⟩
    · exact .inl ⟨_, h⟩
    · exact .inr ⟨_, _, h⟩
    · exact .inr ⟨_, _, h⟩
  cases ho : o.op <;> rw [ho] at hp <;> simp only [ZY, reduceCtorEq] at hp
  case call c =>
    have e1 : (c.args.map a.eval) = (c.args.toList.map a.eval).toArray := by apply Array.ext'; simp
    unfold YR at hp
    split at hp
    · unfold X6 at hp
      (repeat' split at hp) <;> first | (cases hp; done) | (cases hp; rcases hao with ⟨_, h⟩ | ⟨_, _, h⟩ <;> cases h)
    · (repeat' split at hp) <;> first | (cases hp; done) | (cases hp; rcases hao with ⟨_, h⟩ | ⟨_, _, h⟩ <;> cases h)
    · (repeat' split at hp) <;> first | (cases hp; done) | (cases hp; rcases hao with ⟨_, h⟩ | ⟨_, _, h⟩ <;> cases h)
    · unfold Z3 YQ at hp
      (repeat' split at hp) <;> first | (cases hp; done) | (cases hp; rcases hao with ⟨_, h⟩ | ⟨_, _, h⟩ <;> cases h)
    · unfold X5 at hp
      (repeat' split at hp) <;> first | (cases hp; done) | (cases hp; rcases hao with ⟨_, h⟩ | ⟨_, _, h⟩ <;> cases h)
    · rename_i f' xs hcal
      obtain ⟨args'', h1, h2⟩ := QhF.1 hp
      subst h2
      rcases hc with h | ⟨x, az, caps, h, _⟩ | ⟨x, _, h, _⟩
      · cases h
        obtain ⟨q1, q2⟩ := QbQ r h1 hds
        refine ⟨c.args.toList.map a.eval, by simpa [gVs, Function.comp_def, Act.eval] using q1, q2, ?_⟩
        have hev : a.eval (.func f) = .func (.func f) #[] #[] := rfl
        simp [execOp, ho, resolve, hcal, hev, Deferred.ofValue, invoke, callFunc, hfn, hnm', hbd', e1]
      · cases h
      · cases h
    · rename_i xs t hcal
      split at hp
      case isFalse => cases hp
      rename_i ht9
      obtain ⟨args'', h1, h2⟩ := QhF.1 hp
      subst h2
      rcases hc with h | ⟨x, az, caps, h, hx, hcap, rfl⟩ | ⟨x, rs, h, hx, hcap, rfl⟩
      · cases h
      · cases h
        obtain ⟨d1, d2, rfl, h3, h4⟩ := Mh hds
        rw [J3] at h4; cases h4
        obtain ⟨q1, q2⟩ := QbQ r h1 h3
        obtain ⟨⟨cs, hv, hl⟩, hid⟩ : Rep g (.clo f caps) (a.eval (.tmp t)) /\ Has s (.clo f caps) := by
          rcases hx with hx | ⟨k, ps, hx, rfl⟩
          · exact Zi (x := .tmp t) r (if_pos ht9) hx
          · obtain ⟨q1, q2⟩ := Zi (x := .tmp t) r (if_pos ht9) hx
            refine ⟨Qen q1, fun j hj => ?_⟩
            simp only [D.ids, List.flatMap_cons, QhQ] at hj
            rcases hj with hj | hj
            · exact q2 j hj
            · obtain ⟨B, esz, o, cs, _, _, h2⟩ := q1
              rw [FQ h2] at hj; cases hj
        refine ⟨c.args.toList.map a.eval ++ cs, by rw [List.append_assoc]; exact q1.app hl.toA, fun d hd => ?_, ?_⟩
        · rcases QhQ.1 hd with hd | hd
          · exact q2 d hd
          · intro k hk
            exact hid k (QhM.2 ⟨d, hd, Dk (QhP.1 hcap d hd) k hk⟩)
        · simp [execOp, ho, resolve, hcal, hv, Deferred.ofValue, invoke, callFunc, hfn, hnm', hbd', e1]
      · cases h
        rw [J3] at hds; cases hds
        have hxs : c.args = #[] := by
          cases hl : c.args.toList with
          | nil => apply Array.ext'; simpa using hl
          | cons y ys =>
            rw [hl] at h1
            simp only [ZD] at h1
            split at h1 <;> cases h1
        obtain ⟨hR, hid⟩ := Zi (x := .tmp t) r (if_pos ht9) hx
        simp only [Rep, RepS, RepP] at hR
        obtain ⟨cs, hv, hl⟩ := hR
        refine ⟨cs, RepA.ofP hl, fun d hd k hk => ?_, ?_⟩
        · rw [RepVs.ids hl d hd] at hk; cases hk
        · simp [execOp, ho, resolve, hcal, hv, Deferred.ofValue, invoke, callFunc, hfn, hnm', hbd', hxs]
    · cases hp
  all_goals
    first
      | (cases hp; rcases hao with ⟨_, h⟩ | ⟨_, _, h⟩ <;> cases h; done)
      | (obtain ⟨_, _, h⟩ := QhF.1 hp; subst h; rcases hao with ⟨_, h⟩ | ⟨_, _, h⟩ <;> cases h; done)
      | (simp only [X4, Yu, ZB, Yt, Zy, YS, ZH, YB, KH] at hp
         (repeat' split at hp) <;> first | (cases hp; done) | (cases hp; rcases hao with ⟨_, h⟩ | ⟨_, _, h⟩ <;> cases h; done) | (obtain ⟨_, _, h⟩ := QhF.1 hp; subst h; rcases hao with ⟨_, h⟩ | ⟨_, _, h⟩ <;> cases h; done))
      | ((repeat' split at hp) <;> first | (cases hp; done) | (cases hp; rcases hao with ⟨_, h⟩ | ⟨_, _, h⟩ <;> cases h; done) | (obtain ⟨_, _, h⟩ := QhF.1 hp; subst h; rcases hao with ⟨_, h⟩ | ⟨_, _, h⟩ <;> cases h; done))
theorem Rep.canU {g : Gh} {d : D} {v : Value} (h : Rep g d v) : Rep g d.can v := by
  have canS : ∀ {d : D} {v : Value}, RepS g d v -> RepS g d.canS v := by
    intro d v h
    cases d <;> simp only [D.canS] <;> try exact h
    simp only [RepS, RepP] at h ⊢
    obtain ⟨a0, q1, q2⟩ := h
    exact ⟨a0, _, q1, Nat.le_refl _, q2⟩
  cases d
  case agg cs =>
    obtain ⟨vs, q1, q2, q3⟩ := h
    refine ⟨vs, q1, ?_, fun d hd => ?_⟩
    · have : ∀ {cs : List D} {vs : List Value}, RepL g cs vs -> RepL g (cs.map D.canS) vs := by
        intro cs
        induction cs with
        | nil => intro vs h; exact h
        | cons c cs ih =>
          intro vs h
          cases vs with
          | nil => exact h.elim
          | cons v vs => exact ⟨canS h.1, ih h.2⟩
      exact this q2
    · obtain ⟨y, hy, rfl⟩ := QhT.1 hd
      have := q3 y hy
      cases y <;> first | exact this | rfl
  case fsl rows => exact canS (d := .fsl rows) h
  all_goals exact h
theorem R5 {d : D} : d.can.ids = d.ids := by
  have one : ∀ d : D, d.canS.sid = d.sid := fun d => by cases d <;> rfl
  cases d
  case agg cs =>
    simp only [D.can, D.ids]
    induction cs with
    | nil => rfl
    | cons c cs ih => rw [List.map_cons, List.flatMap_cons, List.flatMap_cons, one, ih]
  all_goals rfl
theorem KP {gu : Gh} {ρ : Nat -> Nat} (hgu : gu.pull ρ = g) : ∀ {ds : List D} {vs : List Value}, RepA g ds vs -> RepA gu (ds.map fun d => (d.ren ρ).can) vs
  | [], [], _ => trivial
  | d :: ds, v :: vs, h => ⟨(Rep.ren.2 (by rw [hgu]; exact h.1)).canU, KP hgu h.2⟩
  | [], _ :: _, h => h.elim
  | _ :: _, [], h => h.elim
theorem Nb {gu : Gh} {ρ : Nat -> Nat} (hgu : gu.pull ρ = g) : ∀ {ds : List D} {vs : List Value}, RepA g ds vs -> RepA gu (ds.map fun d => d.ren ρ) vs
  | [], [], _ => trivial
  | d :: ds, v :: vs, h => ⟨Rep.ren.2 (by rw [hgu]; exact h.1), Nb hgu h.2⟩
  | [], _ :: _, h => h.elim
  | _ :: _, [], h => h.elim
theorem HO {o : Oper} {ao : AOp} {f : Nat} {args : List Opd} {d : D} {HF Hn Hu : QhD} {K' : Act -> World -> Prop} {Q : Exit -> Act -> World -> Prop} (r : Rel E g s a w) (hp : ZY P o.op = some ao) (hcal : JI s ao f args) (hc : XR P f args s HF Hn Hu d)
    (ht : ∀ t, o.dst = some t -> t < E.nt) (hK : ∀ g' a' w', Rel E g' (St.apply { s with H := Hn ++ (Hu ++ s.H) } o.dst d none) a' w' -> K' a' w') : o.wp P a w K' Q := by
  obtain ⟨ds, hds, c1, c2, c3, c4, c5, c6, hokU⟩ := hc
  obtain ⟨vs, hxs, _, hrun⟩ := KQ r hp hcal hds (hokU.elim And.left And.left)
  unfold Oper.wp
  rw [hrun, Oper.upon_enter]
  let gu : Gh := ⟨g.K, fun k => g.β (k - 1000000), fun k => g.σ (k - 1000000)⟩
  have hgu : gu.pull upN = g := by
    have h1 : ∀ k, upN k - 1000000 = k := fun k => by unfold upN; omega
    show (⟨g.K, fun k => g.β (upN k - 1000000), fun k => g.σ (upN k - 1000000)⟩ : Gh) = g
    simp only [h1]
  have guβ : ∀ k, gu.β (upN k) = g.β k := fun k => congrFun (congrArg Gh.β hgu) k
  have guσ : ∀ k, gu.σ (upN k) = g.σ k := fun k => congrFun (congrArg Gh.σ hgu) k
  have inH : ∀ k, (lk HF k).isSome = true -> (lk s.H k).isSome = true := fun k hk => by
    obtain ⟨b, hb⟩ := QhL.1 hk
    rw [c1 k b hb]; rfl
  have hrel : HRel gu (upH HF) w := by
    refine ⟨fun k b hk j hj => ?_, fun k b hk => ?_, fun k k' b b' B e e' h1 h2 h3 h4 => ?_, r.kr⟩
    · obtain ⟨i, b0, rfl, h1, rfl⟩ := Y9 hk
      rw [Box.ren_ids] at hj
      obtain ⟨j0, hj0, rfl⟩ := QhT.1 hj
      rw [HD, QhX]; exact c2 i b0 h1 j0 hj0
    · obtain ⟨i, b0, rfl, h1, rfl⟩ := Y9 hk
      refine BoxRel.ren.2 ?_
      rw [hgu]
      exact (r.bx i b0 (c1 i b0 h1)).move ⟨rfl, rfl⟩ (fun _ _ _ _ _ _ => ⟨rfl, rfl⟩) (Kn.le_refl _) fun B e _ => ⟨rfl, fun _ h => h, fun _ => .inl (QhR _)⟩
    · obtain ⟨i, b0, rfl, q1, rfl⟩ := Y9 h1
      obtain ⟨i', b0', rfl, q2, rfl⟩ := Y9 h2
      rw [guβ] at h3 h4
      rw [r.inj i i' b0 b0' B e e' (c1 _ _ q1) (c1 _ _ q2) h3 h4]
  have hcall : Calls P f vs.toArray w fun e w' => ∃ v g', e = .returned v /\ Rep g' d v /\ HRel g' (Hn ++ upH (Hu ++ HF)) w' /\ w.heap.size <= w'.heap.size /\ (∀ b, b < w.heap.size -> ¬ FS gu (upH HF) b -> w'.heap[b]? = w.heap[b]? /\ g'.K b = gu.K b) /\ SameFx w w' /\
      (∀ k, 1000000 <= k -> (lk (upH HF) k).isSome = true -> (lk (Hn ++ upH (Hu ++ HF)) k).isSome = true /\ g'.β k = gu.β k /\ g'.σ k = gu.σ k) /\
      ∀ k B e, k < 1000000 -> (lk (Hn ++ upH (Hu ++ HF)) k).isSome = true -> g'.β k = some (B, e) -> w.heap.size <= B \/ ∃ k2 e2, k2 < 1000000 /\ (lk (upH HF) k2).isSome = true /\ gu.β k2 = some (B, e2) := by
    rcases hokU with ⟨_, hok⟩ | ⟨_, hok⟩
    · refine hok gu w vs hrel (KP hgu hxs) ?_
      intro x hx k hk
      obtain ⟨x0, hx0, rfl⟩ := QhT.1 hx
      unfold Bh at hk
      rw [R5, ren_ids] at hk
      obtain ⟨k0, hk0, rfl⟩ := QhT.1 hk
      rw [HD, QhX]; exact c3 x0 hx0 k0 hk0
    · refine hok gu w vs hrel (Nb hgu hxs) ?_
      intro x hx k hk
      obtain ⟨x0, hx0, rfl⟩ := QhT.1 hx
      rw [ren_ids] at hk
      obtain ⟨k0, hk0, rfl⟩ := QhT.1 hk
      rw [HD, QhX]; exact c3 x0 hx0 k0 hk0
  refine hcall.mono fun e w' ⟨v, g', he, hv, hr', hsz, hfr, hfx, hkeep, hnew⟩ => ?_
  subst he
  -- what is the callee's own is the caller's own
  have own_of : ∀ b, FS gu (upH HF) b -> ∃ k b0 e, lk HF k = some b0 /\ lk s.H k = some b0 /\ g.β k = some (b, e) := fun b ⟨k, e, h1, h2⟩ => by
    obtain ⟨b1, hb1⟩ := QhL.1 h1
    obtain ⟨i, b0, rfl, q1, _⟩ := Y9 hb1
    rw [guβ] at h2
    exact ⟨i, b0, e, q1, c1 i b0 q1, h2⟩
  have hKle : g.K.le g'.K := fun b q x hx => by
    have hb := r.kr.lt hx
    have hno : ¬ FS gu (upH HF) b := fun h => by
      obtain ⟨k, b0, e, _, h2, h3⟩ := own_of b h
      have := ((r.bx k b0 h2).blk h3).2.1 q
      rw [this] at hx; cases hx
    have := (hfr b hb hno).2
    rw [this]; exact hx
  have kU : ∀ k, (lk HF k).isSome = true -> g'.β (upN k) = g.β k /\ g'.σ (upN k) = g.σ k := fun k hk => by
    have := hkeep (upN k) (by unfold upN; omega) (by rw [HD, QhX]; exact hk)
    rw [this.2.1, this.2.2]
    exact ⟨guβ k, guσ k⟩
  let g2 : Gh := ⟨g'.K, fun k => if (lk Hn k).isSome = true then g'.β k else g.β k, fun k => if (lk Hn k).isSome = true then g'.σ k else g.σ k⟩
  have g2n : ∀ k, (lk Hn k).isSome = true -> g2.β k = g'.β k /\ g2.σ k = g'.σ k := fun k hk => ⟨if_pos hk, if_pos hk⟩
  have freshN : ∀ k, (lk Hn k).isSome = true -> k < 1000000 /\ lk s.H k = none := fun k hk => by
    obtain ⟨b, hb⟩ := QhL.1 hk
    exact ⟨(c5 k b hb).1, (c5 k b hb).2.1⟩
  have notN : ∀ k, (lk s.H k).isSome = true -> lk Hn k = none := fun k hk => by
    cases h : lk Hn k with
    | none => rfl
    | some b => rw [(c5 k b h).2.1] at hk; cases hk
  have g2o : ∀ k, (lk s.H k).isSome = true -> g2.β k = g.β k /\ g2.σ k = g.σ k := fun k hk => by
    have := notN k hk
    exact ⟨if_neg (by rw [this]; simp), if_neg (by rw [this]; simp)⟩
  have lkr : ∀ k, lk Hn k = none -> lk (Hn ++ (Hu ++ s.H)) k = lk (Hu ++ s.H) k := fun k hk => Jn hk
  have uIn : ∀ k b, lk Hu k = some b -> (lk s.H k).isSome = true := fun k b h => inH k (c4 k b h).1
  have sIn : ∀ k, (lk s.H k).isSome = true -> (lk (Hn ++ (Hu ++ s.H)) k).isSome = true := fun k hk => by
    rw [lkr k (notN k hk)]
    cases h : lk Hu k with
    | some b => rw [XH h]; rfl
    | none => rw [Jn h]; exact hk
  have nIn : ∀ k, (lk Hn k).isSome = true -> (lk (Hn ++ (Hu ++ s.H)) k).isSome = true := fun k hk => by
    obtain ⟨b, hb⟩ := QhL.1 hk
    rw [XH hb]; rfl
  have cases3 : ∀ k b, lk (Hn ++ (Hu ++ s.H)) k = some b -> lk Hn k = some b \/ (lk Hn k = none /\ (lk s.H k).isSome = true /\ ((lk HF k).isSome = true /\ lk (Hu ++ HF) k = some b \/ lk HF k = none /\ lk s.H k = some b)) := fun k b h => by
    cases hn : lk Hn k with
    | some b' => rw [XH hn] at h; exact .inl h
    | none =>
      rw [lkr k hn] at h
      refine .inr ⟨rfl, ?_⟩
      cases hu : lk Hu k with
      | some b' =>
        rw [XH hu] at h; cases h
        exact ⟨uIn k _ hu, .inl ⟨(c4 k _ hu).1, XH hu⟩⟩
      | none =>
        rw [Jn hu] at h
        refine ⟨by rw [h]; rfl, ?_⟩
        cases hf : lk HF k with
        | some b' =>
          have := c1 k b' hf
          have e : b = b' := by
            have h' : lk s.H k = some b := h
            rw [this] at h'; cases h'; rfl
          subst e
          exact .inl ⟨rfl, by rw [Jn hu]; exact hf⟩
        | none => exact .inr ⟨rfl, h⟩
  have lkR : ∀ k b, lk (Hu ++ HF) k = some b -> lk (Hn ++ upH (Hu ++ HF)) (upN k) = some (b.ren upN) := fun k b h => by
    have hn : lk Hn (upN k) = none := by
      cases hh : lk Hn (upN k) with
      | none => rfl
      | some b' => exact absurd (c5 _ b' hh).1 (by unfold upN; omega)
    rw [Jn hn, HD, h]; rfl
  have lkN : ∀ k b, lk Hn k = some b -> lk (Hn ++ upH (Hu ++ HF)) k = some b := fun k b h => XH h
  have blkN : ∀ k B e, (lk Hn k).isSome = true -> g'.β k = some (B, e) -> w.heap.size <= B := fun k B e hk hβ => by
    obtain ⟨b, hb⟩ := QhL.1 hk
    refine (hnew k B e (freshN k hk).1 (by rw [lkN k b hb]; rfl) hβ).resolve_right ?_
    rintro ⟨k2, e2, h1, h2, _⟩
    rw [KB HF h1] at h2; cases h2
  have blkO : ∀ k B e, (lk s.H k).isSome = true -> g.β k = some (B, e) -> B < w.heap.size /\ (∀ o, g.K B o = none) /\ (E.B0 <= B \/ E.fo B) := fun k B e hk hβ => by
    obtain ⟨b, hb⟩ := QhL.1 hk
    exact (r.bx k b hb).blk hβ
  have r2 : Rel E g2 { s with H := Hn ++ (Hu ++ s.H) } a w' := by
    refine ⟨r.nt, r.df.of rfl (fun D hD => ((hfr D (Array.getElem?_eq_some_iff.1 hD).1 (fun ho => by
      obtain ⟨k, b0, e, _, h2, h3⟩ := own_of D ho
      exact (r.bx k b0 h2).nodf h3 hD)).1).trans hD), fun t x h => (r.fr t x h).congr hKle fun k hk => g2o k (r.wfF t x h k hk), fun t x h k hk => sIn k (r.wfF t x h k hk), fun k b h j hj => ?_, fun k b h => ?_, fun k k' b b' B e e' h1 h2 h3 h4 => ?_, hr'.kr,
      ⟨QhY r.ext.1 hsz, fun b hb hf => ?_, r.ext.2.2.trans hfx⟩, fun b hb hf => ?_, fun k hk => ?_⟩
    · rcases cases3 k b h with h | ⟨_, _, ⟨_, h⟩ | ⟨_, h⟩⟩
      · exact nIn j ((c5 k b h).2.2 j hj)
      · cases hu : lk Hu k with
        | some b' =>
          rw [XH hu] at h; cases h; exact sIn j (inH j ((c4 k _ hu).2 j hj))
        | none =>
          rw [Jn hu] at h; exact sIn j (inH j (c2 k b h j hj))
      · exact sIn j (r.wfH k b h j hj)
    · rcases cases3 k b h with h | ⟨hn, hs, ⟨hf, h⟩ | ⟨hf, h⟩⟩
      · have hk : (lk Hn k).isSome = true := by rw [h]; rfl
        have hb := hr'.bx k b (lkN k b h)
        refine hb.move (g2n k hk) (fun row hrow x hx j hj => ?_) (Kn.le_refl _) fun B e hβ => ⟨rfl, fun _ h => h, fun _ => .inl (QhY r.ext.1 (blkN k B e hk hβ))⟩
        cases hp : b.pr with
        | true => rw [hb.2.1 hp row hrow x hx] at hj; cases hj
        | false => exact g2n j ((c5 k b h).2.2 j (by simp only [Box.ids, hp]; exact QhM.2 ⟨row, hrow, QhM.2 ⟨x, hx, hj⟩⟩))
      · have hb := BoxRel.ren.1 (hr'.bx (upN k) _ (lkR k b h))
        refine hb.move ⟨(g2o k hs).1.trans (kU k hf).1.symm, (g2o k hs).2.trans (kU k hf).2.symm⟩ (fun row hrow x hx j hj => ?_) (Kn.le_refl _) fun B e hβ => ⟨rfl, fun _ h => h, fun _ => ?_⟩
        · have hj' : (lk HF j).isSome = true := by
            cases hp : b.pr with
            | true => rw [hb.2.1 hp row hrow x hx] at hj; cases hj
            | false =>
              have hin : j ∈ b.ids := by simp only [Box.ids, hp]; exact QhM.2 ⟨row, hrow, QhM.2 ⟨x, hx, hj⟩⟩
              cases hu : lk Hu k with
              | some b' => rw [XH hu] at h; cases h; exact (c4 k _ hu).2 j hin
              | none => rw [Jn hu] at h; exact c2 k b h j hin
          exact ⟨(g2o j (inH j hj')).1.trans (kU j hj').1.symm, (g2o j (inH j hj')).2.trans (kU j hj').2.symm⟩
        · exact (blkO k B e hs ((kU k hf).1 ▸ hβ)).2.2
      · refine (r.bx k b h).move (g2o k hs) (fun row hrow x hx j hj => g2o j (r.wfB k b h row hrow x hx j hj)) hKle fun B e hβ => ?_
        obtain ⟨q1, q2, q3⟩ := (r.bx k b h).blk hβ
        have hno : ¬ FS gu (upH HF) B := fun ho => by
          obtain ⟨k', b0, e', p1, p2, p3⟩ := own_of B ho
          have := r.inj k k' b b0 B e e' h p2 hβ p3
          subst this; rw [hf] at p1; cases p1
        obtain ⟨m1, m2⟩ := hfr B q1 hno
        exact ⟨m1, fun o ho => by show g'.K B o = none; rw [m2]; exact ho, fun h => h⟩
    · have hh : ∀ k b, lk (Hn ++ (Hu ++ s.H)) k = some b -> (lk Hn k).isSome = true \/ (lk Hn k = none /\ (lk s.H k).isSome = true) := fun k b h => by
        rcases cases3 k b h with h | ⟨h1, h2, _⟩
        · exact .inl (by rw [h]; rfl)
        · exact .inr ⟨h1, h2⟩
      rcases hh k b h1 with p | ⟨p, q⟩ <;> rcases hh k' b' h2 with p' | ⟨p', q'⟩
      · obtain ⟨x, hx⟩ := QhL.1 p
        obtain ⟨x', hx'⟩ := QhL.1 p'
        exact hr'.inj k k' x x' B e e' (lkN k x hx) (lkN k' x' hx') ((g2n k p).1 ▸ h3) ((g2n k' p').1 ▸ h4)
      · exact absurd (blkO k' B e' q' ((g2o k' q').1 ▸ h4)).1 (Nat.not_lt.2 (blkN k B e p ((g2n k p).1 ▸ h3)))
      · exact absurd (blkO k B e q ((g2o k q).1 ▸ h3)).1 (Nat.not_lt.2 (blkN k' B e' p' ((g2n k' p').1 ▸ h4)))
      · obtain ⟨x, hx⟩ := QhL.1 q
        obtain ⟨x', hx'⟩ := QhL.1 q'
        exact r.inj k k' x x' B e e' hx hx' ((g2o k q).1 ▸ h3) ((g2o k' q').1 ▸ h4)
    · have hno : ¬ FS gu (upH HF) b := fun ho => by
        obtain ⟨k', b0, e', _, p2, p3⟩ := own_of b ho
        rcases ((r.bx k' b0 p2).blk p3).2.2 with h | h
        · omega
        · exact hf h
      exact (hfr b (Nat.lt_of_lt_of_le hb r.ext.1) hno).1.trans (r.ext.2.1 b hb hf)
    · have hno : ¬ FS gu (upH HF) b := fun ho => by
        obtain ⟨k', b0, e', _, p2, p3⟩ := own_of b ho
        rcases ((r.bx k' b0 p2).blk p3).2.2 with h | h
        · omega
        · exact hf h
      exact (hfr b (Nat.lt_of_lt_of_le hb r.ext.1) hno).2.trans (r.kx b hb hf)
    · obtain ⟨h1, h2, h3, h4⟩ := r.kp k hk
      exact ⟨h1, (g2o k h4).1.trans h2, (g2o k h4).2.trans h3, sIn k h4⟩
  have r3 : Rel E g2 (St.withBox { s with H := Hn ++ (Hu ++ s.H) } o.dst none) a w' := by cases o.dst <;> exact r2
  refine hK g2 _ w' (r3.apply (hv.congr (Kn.le_refl _) fun k hk => g2n k (c6 k hk)) ?_ ht)
  intro k hk
  have : (St.withBox { s with H := Hn ++ (Hu ++ s.H) } o.dst none).H = Hn ++ (Hu ++ s.H) := by cases o.dst <;> rfl
  rw [this]
  exact nIn k (c6 k hk)
theorem Box.ren_pure {ρ : Nat -> Nat} {b : Box} (h : ∀ r ∈ b.rows, ∀ d ∈ r, d.sid = []) : b.ren ρ = b := by
  have one : ∀ d : D, d.sid = [] -> d.renS ρ = d := fun d hd => by cases d <;> first | rfl | (simp [D.sid] at hd)
  have : b.rows.map (fun r => r.map (D.renS ρ)) = b.rows := by
    have : ∀ rs : List (List D), (∀ r ∈ rs, ∀ d ∈ r, d.sid = []) -> rs.map (fun r => r.map (D.renS ρ)) = rs := by
      intro rs
      induction rs with
      | nil => intro _; rfl
      | cons r rs ih =>
        intro h
        rw [List.map_cons, ih fun r hr => h r (by simp [hr])]
        congr 1
        have h0 := h r Wc
        clear h ih
        induction r with
        | nil => rfl
        | cons d ds ih => rw [List.map_cons, one d (h0 d Wc), ih fun d hd => h0 d (by simp [hd])]
    exact this b.rows h
  unfold Box.ren
  rw [this]
theorem BoxRel.moveP {E E' : Env} {g g' : Gh} {w : World} {k k' : Nat} {b : Box} (hp : b.pr = true) (h : BoxRel E g w k b) (hβ : g'.β k' = g.β k /\ g'.σ k' = g.σ k) (hK : g'.K = g.K) (hB : ∀ B e, g.β k = some (B, e) -> E'.B0 <= B \/ E'.fo B) : BoxRel E' g' w k' b := by
  obtain ⟨h1, h2, h3⟩ := h
  refine ⟨h1, h2, h3.imp (fun ⟨x, y⟩ => ⟨x, y.imp (fun y => ⟨hβ.1.trans y.1, by rw [hβ.2]; exact y.2⟩) fun ⟨i1, i2, i3, sv, p, B, i4, i5, i6, i7, i8⟩ => ⟨i1, i2, i3, sv, p, B, i4, hβ.1.trans i5, i6, (by rw [hK]; exact i7), hB B 0 i5, by rw [hβ.2]; exact i8.2⟩⟩) ?_⟩
  rintro ⟨h4, B, c, h5, h6, h7, h8, h9, h10⟩
  exact ⟨h4, B, c, hβ.1.trans h5, h6, (by rw [hβ.2]; exact h7), (by rw [hβ.2]; exact RowsC.congr (by rw [hK]; exact Kn.le_refl _) h8 (fun r hr d hd j hj => by rw [h2 hp r hr d hd] at hj; cases hj)), (by rw [hK]; exact h9), hB B _ h5⟩
theorem R4 {o : Oper} {ao : AOp} {f : Nat} {args : List Opd} {HF : QhD} {k t n' : Nat} {b b' : Box} {K' : Act -> World -> Prop} {Q : Exit -> Act -> World -> Prop} (r : Rel E g s a w) (hp : ZY P o.op = some ao) (hcal : JI s ao f args) (hc : BE P f args s HF k t b b' n')
    (ht : ∀ t, o.dst = some t -> t < E.nt) (hK : ∀ g' a' w', Rel E g' (St.apply { s with H := (t, b') :: (k, ZQ) :: s.H } o.dst (.osl t n') none) a' w' -> K' a' w') : o.wp P a w K' Q := by
  obtain ⟨ds, hds, m1, m2, m3, m4, m5, c1, c2, c3, _, m6, hen, hok⟩ := hc
  obtain ⟨vs, hxs, _, hrun⟩ := KQ r hp hcal hds hen
  unfold Oper.wp
  rw [hrun, Oper.upon_enter]
  obtain ⟨gu, guK, hB0, hS0⟩ : ∃ gu : Gh, gu.K = g.K /\ (∀ j, gu.β j = if j = 500000 then g.β k else g.β (j - 1000000)) /\ ∀ j, gu.σ j = if j = 500000 then g.σ k else g.σ (j - 1000000) :=
    ⟨⟨g.K, fun j => if j = 500000 then g.β k else g.β (j - 1000000), fun j => if j = 500000 then g.σ k else g.σ (j - 1000000)⟩, rfl, fun _ => rfl, fun _ => rfl⟩
  have hup : ∀ j, gu.β (upN j) = g.β j /\ gu.σ (upN j) = g.σ j := fun j => by
    have h1 : upN j ≠ 500000 := by unfold upN; omega
    have h2 : upN j - 1000000 = j := by unfold upN; omega
    rw [hB0, hS0, if_neg h1, if_neg h1, h2]; exact ⟨rfl, rfl⟩
  have guβ : ∀ j, gu.β (upN j) = g.β j := fun j => (hup j).1
  have guk : gu.β 500000 = g.β k /\ gu.σ 500000 = g.σ k := by rw [hB0, hS0, if_pos rfl, if_pos rfl]; exact ⟨rfl, rfl⟩
  have pullEq : ∀ ρ : Nat -> Nat, (∀ j, gu.β (ρ j) = g.β j /\ gu.σ (ρ j) = g.σ j) -> gu.pull ρ = g := fun ρ h => by
    have h1 : (fun j => gu.β (ρ j)) = g.β := funext fun j => (h j).1
    have h2 : (fun j => gu.σ (ρ j)) = g.σ := funext fun j => (h j).2
    unfold Gh.pull
    rw [h1, h2, guK]
  have hguU : gu.pull upN = g := pullEq upN hup
  have hguR : gu.pull (fun j => if j = k then 500000 else upN j) = g := pullEq _ fun j => by
    by_cases h : j = k
    · subst h; simp only [if_true]; exact guk
    · simp only [if_neg h]; exact hup j
  have hC : ∀ j x, lk ((500000, b) :: upH HF) j = some x -> (j = 500000 /\ x = b) \/ ∃ i b0, j = upN i /\ lk HF i = some b0 /\ x = b0.ren upN := fun j x h => by
    rw [Qx] at h
    split at h
    · rename_i e; cases h; exact .inl ⟨e.symm, rfl⟩
    · exact .inr (Y9 h)
  have upC : ∀ (x : Box) i, lk ((500000, x) :: upH HF) (upN i) = (lk HF i).map (Box.ren upN) := fun x i => by
    rw [Qx, if_neg (by unfold upN; omega), HD]
  have hrel : HRel gu ((500000, b) :: upH HF) w := by
    refine ⟨fun j x hj i hi => ?_, fun j x hj => ?_, fun j j' x x' B e e' h1 h2 h3 h4 => ?_, by rw [guK]; exact r.kr⟩
    · rcases hC j x hj with ⟨rfl, rfl⟩ | ⟨i0, b0, rfl, h1, rfl⟩
      · simp [Box.ids, m2] at hi
      · rw [Box.ren_ids] at hi
        obtain ⟨j0, hj0, rfl⟩ := QhT.1 hi
        rw [upC, QhX]; exact c2 i0 b0 h1 j0 hj0
    · rcases hC j x hj with ⟨rfl, rfl⟩ | ⟨i0, b0, rfl, h1, rfl⟩
      · exact (r.bx k x m1).moveP m2 guk guK fun B e _ => .inl (QhR _)
      · refine BoxRel.ren.2 ?_
        rw [hguU]
        exact (r.bx i0 b0 (c1 i0 b0 h1).2).move ⟨rfl, rfl⟩ (fun _ _ _ _ _ _ => ⟨rfl, rfl⟩) (Kn.le_refl _) fun B e _ => ⟨rfl, fun _ h => h, fun _ => .inl (QhR _)⟩
    · rcases hC j x h1 with ⟨rfl, rfl⟩ | ⟨i0, b0, rfl, q1, rfl⟩ <;> rcases hC j' x' h2 with ⟨rfl, rfl⟩ | ⟨i1, b1, rfl, q2, rfl⟩
      · rfl
      · rw [guk.1] at h3; rw [guβ] at h4
        exact absurd (r.inj k i1 _ b1 B e e' m1 (c1 i1 b1 q2).2 h3 h4).symm (c1 i1 b1 q2).1
      · rw [guβ] at h3; rw [guk.1] at h4
        exact absurd (r.inj i0 k b0 _ B e e' (c1 i0 b0 q1).2 m1 h3 h4) (c1 i0 b0 q1).1
      · rw [guβ] at h3 h4
        rw [r.inj i0 i1 b0 b1 B e e' (c1 _ _ q1).2 (c1 _ _ q2).2 h3 h4]
  refine (hok gu w vs hrel (KP hguR hxs) ?_).mono fun e w' ⟨v, g', he, hv, hr', hsz, hfr, hfx, hkeep, hnew⟩ => ?_
  · intro x hx j hj
    obtain ⟨x0, hx0, rfl⟩ := QhT.1 hx
    unfold QfK at hj
    rw [R5, ren_ids] at hj
    obtain ⟨j0, hj0, rfl⟩ := QhT.1 hj
    rcases c3 x0 hx0 j0 hj0 with rfl | h
    · simp [Qx]
    · have : j0 ≠ k := fun e => by
        subst e
        obtain ⟨b0, hb0⟩ := QhL.1 h
        exact (c1 j0 b0 hb0).1 rfl
      simp only [if_neg this]
      rw [upC, QhX]; exact h
  subst he
  rw [guK] at hfr
  have inH : ∀ j, (lk HF j).isSome = true -> (lk s.H j).isSome = true /\ j ≠ k := fun j hj => by
    obtain ⟨b0, hb0⟩ := QhL.1 hj
    exact ⟨by rw [(c1 j b0 hb0).2]; rfl, (c1 j b0 hb0).1⟩
  obtain ⟨g1, q1, q2, q3, q4, q5, r1⟩ := r.give m1 m3 m4
  have nt : ∀ j, (lk s.H j).isSome = true -> j ≠ t := fun j hj e => by subst e; rw [m4] at hj; cases hj
  have htk : t ≠ k := fun e => by subst e; rw [m4] at m1; cases m1
  -- what is the callee's own is the caller's own
  have own_of : ∀ B, FS gu ((500000, b) :: upH HF) B -> (∃ e, g.β k = some (B, e)) \/ ∃ j b0 e, lk HF j = some b0 /\ lk s.H j = some b0 /\ g.β j = some (B, e) := fun B ⟨j, e, h1, h2⟩ => by
    obtain ⟨b1, hb1⟩ := QhL.1 h1
    rcases hC j b1 hb1 with ⟨rfl, _⟩ | ⟨i, b0, rfl, p1, _⟩
    · exact .inl ⟨e, guk.1 ▸ h2⟩
    · rw [guβ] at h2
      exact .inr ⟨i, b0, e, p1, (c1 i b0 p1).2, h2⟩
  have own_blk : ∀ B, FS gu ((500000, b) :: upH HF) B -> (∀ o, g.K B o = none) /\ (E.B0 <= B \/ E.fo B) := fun B hB => by
    rcases own_of B hB with ⟨e, h⟩ | ⟨j, b0, e, _, h1, h2⟩
    · exact ((r.bx k b m1).blk h).2
    · exact ((r.bx j b0 h1).blk h2).2
  have hKle : g.K.le g'.K := fun B q x hx => by
    have hb := r.kr.lt hx
    have hno : ¬ FS gu ((500000, b) :: upH HF) B := fun h => by
      rw [(own_blk B h).1 q] at hx; cases hx
    rw [(hfr B hb hno).2]; exact hx
  have kU : ∀ j, (lk HF j).isSome = true -> g'.β (upN j) = g.β j /\ g'.σ (upN j) = g.σ j := fun j hj => by
    have := hkeep (upN j) (by unfold upN; omega) (by rw [upC, QhX]; exact hj)
    rw [this.2.1, this.2.2]
    exact hup j
  let g2 : Gh := ⟨g'.K, fun j => if j = t then g'.β 500000 else g1.β j, fun j => if j = t then g'.σ 500000 else g1.σ j⟩
  have g2t : g2.β t = g'.β 500000 /\ g2.σ t = g'.σ 500000 := ⟨if_pos rfl, if_pos rfl⟩
  have g2o : ∀ j, j ≠ t -> g2.β j = g1.β j /\ g2.σ j = g1.σ j := fun j hj => ⟨if_neg hj, if_neg hj⟩
  have hgone : g2.gone k := ⟨(g2o k (Ne.symm htk)).1.trans q2.1, (g2o k (Ne.symm htk)).2.trans q2.2⟩
  have g2s : ∀ j, (lk s.H j).isSome = true -> j ≠ k -> g2.β j = g.β j /\ g2.σ j = g.σ j := fun j hj hk => ⟨(g2o j (nt j hj)).1.trans (q5 j hk (nt j hj)).1, (g2o j (nt j hj)).2.trans (q5 j hk (nt j hj)).2⟩
  have hsome : ∀ j, (lk s.H j).isSome = true -> (lk ((t, b') :: (k, ZQ) :: s.H) j).isSome = true := fun j hj => by
    rw [Qx, Qx]; split
    · rfl
    · split
      · rfl
      · exact hj
  have key : ∀ j x, lk ((t, b') :: (k, ZQ) :: s.H) j = some x -> (j = t /\ x = b') \/ (j = k /\ x = ZQ) \/ (j ≠ t /\ j ≠ k /\ lk s.H j = some x) := fun j x h => by
    rw [Qx] at h
    split at h
    · rename_i e; cases h; exact .inl ⟨e.symm, rfl⟩
    · rename_i e
      rw [Qx] at h
      split at h
      · rename_i e2; cases h; exact .inr (.inl ⟨e2.symm, rfl⟩)
      · rename_i e2; exact .inr (.inr ⟨Ne.symm e, Ne.symm e2, h⟩)
  have blkT : ∀ B e, g'.β 500000 = some (B, e) -> w.heap.size <= B \/ ∃ e2, g.β k = some (B, e2) := fun B e hβ => by
    rcases hnew 500000 B e Wa (by rw [Qx, if_pos rfl]; rfl) hβ with h | ⟨k2, e2, h1, h2, h3⟩
    · exact .inl h
    · obtain ⟨b2, hb2⟩ := QhL.1 h2
      rcases hC k2 b2 hb2 with ⟨rfl, _⟩ | ⟨i, _, rfl, _⟩
      · exact .inr ⟨e2, guk.1 ▸ h3⟩
      · unfold upN at h1; omega
  have r2 : Rel E g2 { s with H := (t, b') :: (k, ZQ) :: s.H } a w' := by
    refine ⟨r.nt, r.df.of rfl (fun D hD => ((hfr D (Array.getElem?_eq_some_iff.1 hD).1 (fun ho => by
      rcases own_of D ho with ⟨e, h⟩ | ⟨j, b0, e, _, h2, h3⟩
      · exact (r.bx k b m1).nodf h hD
      · exact (r.bx j b0 h2).nodf h3 hD)).1).trans hD), fun u x h => ?_, fun u x h j hj => hsome j (r.wfF u x h j hj), fun j x h i hi => ?_, fun j x h => ?_, fun j j' x x' B e e' h1 h2 h3 h4 => ?_, hr'.kr,
      ⟨QhY r.ext.1 hsz, fun B hb hf => ?_, r.ext.2.2.trans hfx⟩, fun B hb hf => ?_, fun j hj => ?_⟩
    · refine (r1.fr u x h).congr (by rw [q1]; exact hKle) fun j hj => g2o j ?_
      exact nt j (r.wfF u x h j hj)
    · rcases key j x h with ⟨_, rfl⟩ | ⟨_, rfl⟩ | ⟨_, _, h⟩
      · simp [Box.ids, m6] at hi
      · cases hi
      · exact hsome i (r.wfH j x h i hi)
    · rcases key j x h with ⟨rfl, rfl⟩ | ⟨rfl, rfl⟩ | ⟨h1, h2, h⟩
      · refine (hr'.bx 500000 x (by rw [Qx, if_pos rfl])).moveP m6 g2t rfl fun B e hβ => ?_
        rcases blkT B e hβ with h | ⟨e2, h⟩
        · exact .inl (QhY r.ext.1 h)
        · exact ((r.bx k b m1).blk h).2.2
      · exact ⟨by simp [ZQ], by simp [ZQ], .inl ⟨rfl, .inl ⟨hgone.1, by simp [hgone.2]⟩⟩⟩
      · have hs : (lk s.H j).isSome = true := by rw [h]; rfl
        cases hf : lk HF j with
        | some x' =>
          have e : x = x' := by
            have := (c1 j x' hf).2
            rw [h] at this; cases this; rfl
          subst e
          have hjF : (lk HF j).isSome = true := by rw [hf]; rfl
          have hb := BoxRel.ren.1 (hr'.bx (upN j) (x.ren upN) (by rw [upC, hf]; rfl))
          refine hb.move ⟨(g2s j hs h2).1.trans (kU j hjF).1.symm, (g2s j hs h2).2.trans (kU j hjF).2.symm⟩ (fun row hrow y hy i hi => ?_) (Kn.le_refl _) fun B e hβ => ⟨rfl, fun _ h => h, fun _ => ?_⟩
          · have hi' : (lk HF i).isSome = true := by
              cases hp : x.pr with
              | true => rw [hb.2.1 hp row hrow y hy] at hi; cases hi
              | false => exact c2 j x hf i (by simp only [Box.ids, hp]; exact QhM.2 ⟨row, hrow, QhM.2 ⟨y, hy, hi⟩⟩)
            obtain ⟨p1, p2⟩ := inH i hi'
            exact ⟨(g2s i p1 p2).1.trans (kU i hi').1.symm, (g2s i p1 p2).2.trans (kU i hi').2.symm⟩
          · have : g.β j = some (B, e) := (kU j hjF).1 ▸ hβ
            exact ((r.bx j x h).blk this).2.2
        | none =>
          have hb1 := r1.bx j x (by rw [Qx, if_neg (Ne.symm h1), Qx, if_neg (Ne.symm h2)]; exact h)
          refine hb1.move (g2o j h1) (fun row hrow y hy i hi => g2o i (nt i (r.wfB j x h row hrow y hy i hi))) (by rw [q1]; exact hKle) fun B e hβ => ?_
          have hβ' : g.β j = some (B, e) := (q5 j h2 h1).1 ▸ hβ
          obtain ⟨p1, p2, p3⟩ := (r.bx j x h).blk hβ'
          have hno : ¬ FS gu ((500000, b) :: upH HF) B := fun ho => by
            rcases own_of B ho with ⟨e2, h3⟩ | ⟨j', b0, e2, h3, h4, h5⟩
            · exact h2 (r.inj j k x b B e e2 h m1 hβ' h3)
            · have := r.inj j j' x b0 B e e2 h h4 hβ' h5
              subst this; rw [hf] at h3; cases h3
          obtain ⟨m1', m2'⟩ := hfr B p1 hno
          exact ⟨m1', fun o ho => by show g'.K B o = none; rw [m2', <- q1]; exact ho, fun h => h⟩
    · have hh : ∀ j x B e, lk ((t, b') :: (k, ZQ) :: s.H) j = some x -> g2.β j = some (B, e) -> (j = t /\ g'.β 500000 = some (B, e)) \/ (j ≠ t /\ j ≠ k /\ lk s.H j = some x /\ g.β j = some (B, e)) := fun j x B e h hβ => by
        rcases key j x h with ⟨rfl, _⟩ | ⟨rfl, _⟩ | ⟨p1, p2, h⟩
        · exact .inl ⟨rfl, g2t.1 ▸ hβ⟩
        · exact (hgone.no hβ).elim
        · exact .inr ⟨p1, p2, h, (g2s j (by rw [h]; rfl) p2).1 ▸ hβ⟩
      have cross : ∀ j x B e e', j ≠ k -> lk s.H j = some x -> g.β j = some (B, e) -> g'.β 500000 = some (B, e') -> False := fun j x B e e' p2 h hβ hβ' => by
        rcases blkT B e' hβ' with h3 | ⟨e2, h3⟩
        · exact absurd ((r.bx j x h).blk hβ).1 (Nat.not_lt.2 h3)
        · exact p2 (r.inj j k x b B e e2 h m1 hβ h3)
      rcases hh j x B e h1 h3 with ⟨p, q⟩ | ⟨_, p, q, p2⟩ <;> rcases hh j' x' B e' h2 h4 with ⟨p', q'⟩ | ⟨_, p', q', p2'⟩
      · rw [p, p']
      · exact (cross j' x' B e' e p' q' p2' q).elim
      · exact (cross j x B e e' p q p2 q').elim
      · exact r.inj j j' x x' B e e' q q' p2 p2'
    · have hno : ¬ FS gu ((500000, b) :: upH HF) B := fun ho => by
        rcases (own_blk B ho).2 with h | h
        · omega
        · exact hf h
      exact (hfr B (Nat.lt_of_lt_of_le hb r.ext.1) hno).1.trans (r.ext.2.1 B hb hf)
    · have hno : ¬ FS gu ((500000, b) :: upH HF) B := fun ho => by
        rcases (own_blk B ho).2 with h | h
        · omega
        · exact hf h
      exact (hfr B (Nat.lt_of_lt_of_le hb r.ext.1) hno).2.trans (r.kx B hb hf)
    · obtain ⟨h1, h2, h3, h4⟩ := r.kp j hj
      have hjk : j ≠ k := Wa
      exact ⟨h1, (g2s j h4 hjk).1.trans h2, (g2s j h4 hjk).2.trans h3, hsome j h4⟩
  have r3 : Rel E g2 (St.withBox { s with H := (t, b') :: (k, ZQ) :: s.H } o.dst none) a w' := by cases o.dst <;> exact r2
  refine hK g2 _ w' (r3.apply ?_ ?_ ht)
  · obtain ⟨a0, cap, h1, h2, h3⟩ := hv
    refine ⟨a0, cap, h1, h2, ?_⟩
    unfold Gh.gone at h3 ⊢
    rw [g2t.1, g2t.2]; exact h3
  · intro j hj
    have : (St.withBox { s with H := (t, b') :: (k, ZQ) :: s.H } o.dst none).H = (t, b') :: (k, ZQ) :: s.H := by cases o.dst <;> rfl
    rw [this]
    simp [D.ids, D.sid] at hj; subst hj; simp [Qx]
end
end Go.Abs
namespace Go.Abs
open Go
section
variable {P : Program} {E : Env} {g : Gh} {s : St} {a : Act} {w : World}
theorem BX {K K' : Kn} {d : D} {v : Value} (h : d.flat = true) (hr : RepP K d v) : RepP K' d v := by
  have one : ∀ {d : D} {v : Value}, d.flat1 = true -> RepP K d v -> RepP K' d v := by
    intro d v h hr
    cases d <;> simp only [D.flat1, QhN] at h <;> simp only [RepP] at hr ⊢ <;> exact hr
  cases d <;> try exact one h hr
  case tup ds =>
    simp only [RepP] at hr ⊢
    obtain ⟨vs, h1, h2⟩ := hr
    refine ⟨vs, h1, ?_⟩
    simp only [D.flat, QhP] at h
    clear h1
    induction ds generalizing vs with
    | nil => cases vs with
      | nil => simp only [RepVs]
      | cons => simp only [RepVs] at h2
    | cons d ds ih =>
      cases vs with
      | nil => simp only [RepVs] at h2
      | cons v vs =>
        simp only [RepVs] at h2 ⊢
        exact ⟨one (h d Wc) h2.1, ih vs h2.2 (fun x hx => h x (by simp [hx]))⟩
theorem GW {o : Oper} {ao : AOp} {f : Nat} {args : List Opd} {d : D} {K' : Act -> World -> Prop} {Q : Exit -> Act -> World -> Prop} (r : Rel E g s a w) (hp : ZY P o.op = some ao) (hcal : JI s ao f args) (hc : BD P f args s d) (ht : ∀ t, o.dst = some t -> t < E.nt)
    (hK : ∀ g' a' w', Rel E g' (s.apply o.dst d none) a' w' -> K' a' w') : o.wp P a w K' Q := by
  obtain ⟨ds, hds, ⟨⟨fn, hfn, hnm, hbd⟩, hok⟩, hflat⟩ := hc
  obtain ⟨vs, hvs, hhas, hrun⟩ := KQ r hp hcal hds ⟨fn, hfn, hnm, hbd⟩
  unfold Oper.wp
  rw [hrun, Oper.upon_enter]
  by_cases hpure : ds.all D.pure = true
  · -- the arguments hold nothing of one's own
    have hargs : RepVs g.K (ds.map (JM s)) (vs ++ gVs f) := by
      have : ∀ {ds : List D} {vs : List Value}, RepA g ds vs -> (∀ d ∈ ds, d.pure = true) -> RepVs g.K (ds.map (JM s)) vs := by
        intro ds
        induction ds with
        | nil => intro vs h _; cases vs with
          | nil => simp only [List.map_nil, RepVs]
          | cons => exact h.elim
        | cons d ds ih => intro vs h h3; cases vs with
          | nil => exact h.elim
          | cons v vs =>
            simp only [List.map_cons, RepVs]
            refine ⟨?_, ih h.2 fun x hx => h3 x (by simp [hx])⟩
            unfold JM
            rw [G0 (h3 d Wc)]
            exact Di (h.1.toP (h3 d Wc))
      exact this hvs (by simpa using hpure)
    refine (hok g.K w vs r.kr hargs).mono fun e w' ⟨v, K2, he, hv, hkr, hsz, hh, hk, hfx⟩ => ?_
    subst he
    have r' : Rel E { g with K := K2 } s a w' := r.move hk (fun _ _ => ⟨rfl, rfl⟩) hkr hh hsz hfx
    have r'' : Rel E { g with K := K2 } (s.withBox o.dst none) a w' := by cases o.dst <;> exact r'
    refine hK { g with K := K2 } _ w' (r''.apply (Rep.of hv) ?_ ht)
    intro k hk; rw [Xa hv] at hk; cases hk
  · have hfl := hflat.resolve_left hpure
    obtain ⟨K2, hle, hkr2, hoth, hrep⟩ := FK r FE
    have hargs := TJ hrep hvs hhas (fun d _ => Nr)
    refine (hok K2 w vs hkr2 hargs).mono fun e w' ⟨v, K3, he, hv, hkr, hsz, hh, hk, hfx⟩ => ?_
    subst he
    have r' : Rel E g s a w' := r.move (fun _ _ => rfl) (fun _ _ => ⟨rfl, rfl⟩) (fun b q x hx => by
      obtain ⟨c, e, f, h1, h2⟩ := r.kr b q x hx
      exact ⟨c, e, f, (hh b (r.kr.lt hx)).trans h1, h2⟩) hh hsz hfx
    have r'' : Rel E g (s.withBox o.dst none) a w' := by cases o.dst <;> exact r'
    refine hK g _ w' (r''.apply (Rep.of (BX hfl hv)) ?_ ht)
    intro k hk; rw [Xa hv] at hk; cases hk
theorem Xb {ops : Array Oper} {o : Oper} {gd : Option (Nat × Bool)} (r : Rel E g s a w) (hp : ZE ops o.guard = some gd) (hdst : ∀ (j : Nat) (o' : Oper), ops[j]? = some o' -> ∀ t, o'.dst = some t -> t < E.nt) :
    ∀ b, gw s gd = some b -> Region.wanted o (yielded ops a.tmps) = b := by
  intro b hb
  unfold Region.wanted
  cases hg : o.guard with
  | none =>
    rw [hg] at hp; simp only [ZE, QhI] at hp; subst hp
    simp only [gw, QhI] at hb; exact hb
  | some jb =>
    obtain ⟨j, want⟩ := jb
    rw [hg] at hp
    simp only [ZE] at hp
    split at hp
    · rename_i t hj
      cases hp
      simp only [gw] at hb
      have htl : t < a.tmps.size := by
        obtain ⟨o', h1, h2⟩ := Option.bind_eq_some_iff.1 hj
        rw [r.nt.1]; exact hdst j o' h1 t h2
      have hy : ∀ v, a.tmps.getD t (Hq t) = v -> yielded ops a.tmps j = match (some v : Option Value) with | some (.bool b) => some b | _ => none := by
        intro v hv
        unfold yielded
        rw [hj]
        simp only [Option.bind_some]
        have : a.tmps[t]? = some v := by
          rw [Array.getD_eq_getD_getElem?] at hv
          rw [Array.getElem?_eq_getElem htl] at hv ⊢
          simpa using hv
        rw [this]
        cases v <;> rfl
      split at hb
      · rename_i c hc
        have := r.fr t _ hc
        simp only [Rep, RepS, RepP] at this
        have hyy := hy _ this
        simp only at hyy
        simp only [hyy]
        cases hb
        cases c <;> cases want <;> rfl
      · rename_i hc
        have := r.fr t _ hc
        simp only [Rep, RepS, RepP] at this
        have hyy := hy _ this
        simp only [Go.undef] at hyy
        simp only [hyy]
        cases hb; rfl
      · cases hb
    · cases hp
theorem Rel.skip {dst : Option Nat} (r : Rel E g s a w) (ht : ∀ t, dst = some t -> t < E.nt) : Rel E g (s.apply dst .undef none) (a.put dst Go.undef) w := by
  cases dst with
  | none => exact r
  | some t => exact r.put (ht t rfl) (by simp only [Rep, RepS, RepP]) (Has.of_nil rfl)
theorem HY {o : Oper} {o' : AOper} {d : D} {bx : Option Box} {K' : Act -> World -> Prop} {Q : Exit -> Act -> World -> Prop} (r : Rel E g s a w) (hp : ZY P o.op = some o'.op) (hd : o'.dst = o.dst) (hy : Xf P o' s d bx) (ht : ∀ t, o.dst = some t -> t < E.nt)
    (hK : ∀ g' a' w', Rel E g' (s.apply o.dst d bx) a' w' -> K' a' w') : o.wp P a w K' Q := by
  unfold Xf at hy
  split at hy
  · rename_i f args hop
    obtain ⟨rfl, hc⟩ := hy
    rw [hop] at hp
    exact GW r hp (.inl rfl) hc ht hK
  · rename_i x az hop
    rw [hop] at hp
    rcases hy with ⟨rfl, ⟨f, caps, hx, hcap, hc⟩ | ⟨rfl, f, rs, hx, hcap, hc⟩⟩
    · exact GW r hp (.inr (.inl ⟨x, az, caps, rfl, .inl hx, hcap, rfl⟩)) hc ht hK
    · exact GW r hp (.inr (.inr ⟨x, rs, rfl, hx, hcap, rfl⟩)) hc ht hK
  · rw [hd] at hy
    obtain ⟨v, w', g', h1, h2, h3, h4⟩ := Lj r hp hy
    unfold Oper.wp
    rw [h1, Oper.upon_value]
    exact hK g' _ w' (h2.apply h3 h4 ht)
theorem Tk {o : Oper} {op : AOp} {B : Nat -> Prop} {p q : List Nat} {d : D} {ef : QhD} {K' : Act -> World -> Prop} {Q : Exit -> Act -> World -> Prop} (r : Rel E g s a w) (hp : ZY P o.op = some op) (h : EF P B op o.dst s p q d ef) (ht : ∀ t, o.dst = some t -> t < E.nt)
    (hK : ∀ g' a' w', Rel E g' (s.eff o.dst d ef) a' w' -> K' a' w') : o.wp P a w K' Q := by
  cases op <;> simp only [EF] at h
  case call f args =>
    rcases h with ⟨HF, k, b, hc, _, _, _, rfl⟩ | ⟨HF, k, t, b, b', n', hd, hc, _, _, _, rfl, rfl⟩ | ⟨HF, t, b, n, hd, hc, _, _, _, _, rfl, rfl⟩
    · refine HO r hp (.inl rfl) hc ht fun g' a' w' r' => hK g' a' w' ?_
      have e : St.apply { s with H := [] ++ ([(k, b)] ++ s.H) } o.dst d none = s.eff o.dst d [(k, b)] := by cases o.dst <;> rfl
      rw [<- e]; exact r'
    · refine R4 r hp (.inl rfl) hc ht fun g' a' w' r' => hK g' a' w' ?_
      have e : St.apply { s with H := (t, b') :: (k, ZQ) :: s.H } o.dst (.osl t n') none = s.eff o.dst (.osl t n') [(t, b'), (k, ZQ)] := by cases o.dst <;> rfl
      rw [<- e]; exact r'
    · refine HO r hp (.inl rfl) hc ht fun g' a' w' r' => hK g' a' w' ?_
      have e : St.apply { s with H := [(t, b)] ++ ([] ++ s.H) } o.dst (.osl t n) none = s.eff o.dst (.osl t n) [(t, b)] := by cases o.dst <;> rfl
      rw [<- e]; exact r'
  case append esz et bytes x' y' =>
    obtain ⟨t, k, n, b, e, ys, pr, h0, h1, h2, h3, h4, h5, h6, h7, h8, h9, h10, h11, h12, h13, _, _, rfl, rfl⟩ := h
    have hg : Fg P E a w o { s with H := (t, ⟨b.rows ++ ys, esz, et, b.pr && pr⟩) :: (k, ZQ) :: s.H } (.osl t (n + ys.length)) := by
      cases ho : o.op <;> rw [ho] at hp <;> simp only [ZY, reduceCtorEq] at hp
      case call c =>
        unfold YR at hp
        split at hp
        · unfold X6 at hp; (repeat' split at hp) <;> cases hp
        · (repeat' split at hp) <;> cases hp
        · (repeat' split at hp) <;> cases hp
        · rename_i x y hc hargs
          unfold Z3 at hp
          split at hp
          · rename_i x'' y'' t u e1 e2 e3
            split at hp
            · rename_i htu
              subst htu
              split at hp
              · rename_i e hu
                split at hp
                · rename_i i z hi hz
                  split at hp
                  · rename_i hzl
                    cases hp
                    have hat : c.argTypes = #[t, t] := by apply Array.ext'; simpa using e3
                    exact P8 r (by rw [ho, <- hat, <- KR hc hargs]) rfl e1 e2 hu hi rfl rfl hz hzl.1 hzl.2 h1 h2 h3 h4 h5 h6 h7 h8 h9 h10 h11 h12 h13
                  · cases hp
                · cases hp
              · cases hp
            · unfold YQ at hp; (repeat' split at hp) <;> cases hp
          · cases hp
        · unfold X5 at hp; (repeat' split at hp) <;> cases hp
        · obtain ⟨args', _, h⟩ := QhF.1 hp; cases h
        · split at hp
          · obtain ⟨args', _, h⟩ := QhF.1 hp; cases h
          · cases hp
        · cases hp
      all_goals
        first
          | (obtain ⟨_, _, h⟩ := QhF.1 hp; cases h; done)
          | (simp only [X4, Yu, ZB, Yt, Zy, YS, ZH, YB, KH] at hp
             (repeat' split at hp) <;> first | (cases hp; done) | (obtain ⟨_, _, h⟩ := QhF.1 hp; cases h; done))
          | ((repeat' split at hp) <;> first | (cases hp; done) | (obtain ⟨_, _, h⟩ := QhF.1 hp; cases h; done))
    obtain ⟨nx, w', g', q1, q2, q3, q4⟩ := hg
    unfold Oper.wp
    rw [q1]
    have q2' : Rel E g' (St.withBox { s with H := (t, ⟨b.rows ++ ys, esz, et, b.pr && pr⟩) :: (k, ZQ) :: s.H } o.dst none) a w' := by cases o.dst <;> exact q2
    have q3' : Has (St.withBox { s with H := (t, ⟨b.rows ++ ys, esz, et, b.pr && pr⟩) :: (k, ZQ) :: s.H } o.dst none) (.osl t (n + ys.length)) := by cases o.dst <;> exact q3
    have e : ∀ d, St.apply { s with H := (t, ⟨b.rows ++ ys, esz, et, b.pr && pr⟩) :: (k, ZQ) :: s.H } o.dst d none = s.eff o.dst d [(t, ⟨b.rows ++ ys, esz, et, b.pr && pr⟩), (k, ZQ)] := fun d => by cases o.dst <;> rfl
    rcases q4 with ⟨_, h⟩ | ⟨u, rfl, q5⟩
    · cases h
    · rw [Oper.upon_value]
      exact hK g' _ w' (e _ ▸ q2'.apply q5 q3' ht)
theorem M9 {nt : Nat} {ops : Array Oper} {o : Oper} {o' : AOper} {K : St -> Prop} {K' : Act -> World -> Prop} {Q : Exit -> Act -> World -> Prop} (hnt : E.nt = nt) (r : Rel E g s a w) (hp : Zw P nt ops o = some o') (hdst : ∀ (j : Nat) (o' : Oper), ops[j]? = some o' -> ∀ t, o'.dst = some t -> t < E.nt)
    (h : L5 P o' K s) (hK : ∀ s' g' a' w', Rel E g' s' a' w' -> K s' -> K' a' w') :
    if Region.wanted o (yielded ops a.tmps) = true then o.wp P a w K' Q else K' (a.put o.dst Go.undef) w := by
  obtain ⟨h1, h2, h3, h4⟩ := QT hp
  have ht : ∀ t, o.dst = some t -> t < E.nt := fun t ht => by rw [hnt]; exact h4 t ht
  unfold L5 at h
  split at h
  · exact h.elim
  · rename_i hg
    rw [Xb r h2 hdst false hg]
    simp only [QhN, if_false]
    rw [h3] at h
    exact hK _ g _ w (r.skip ht) h
  · rename_i hg
    rw [Xb r h2 hdst true hg]
    simp only [if_true]
    rcases h with ⟨d, bx, hy, hk⟩ | ⟨s', d, hx, hk⟩ | ⟨p, q, d, ef, he, hk⟩ | ⟨f, args, HF, Hn, Hu, d, hop, hc, hk⟩ | ⟨s', d, bx, hle, hy, hk⟩
    · refine HY r h1 h3 hy ht fun g' a' w' r' => ?_
      rw [h3] at hk
      exact hK _ g' a' w' r' hk
    · obtain ⟨n, w', g', q1, q2, q3, q4⟩ := Nm r h1 hx
      unfold Oper.wp
      rw [q1]
      rw [h3] at hk
      have q2' : Rel E g' (s'.withBox o.dst none) a w' := by cases o.dst <;> exact q2
      have q3' : Has (s'.withBox o.dst none) d := by cases o.dst <;> exact q3
      rcases q4 with ⟨rfl, rfl⟩ | ⟨u, rfl, q5⟩
      · rw [Oper.upon_skip]
        exact hK _ g' _ w' (q2.skip ht) hk
      · rw [Oper.upon_value]
        exact hK _ g' _ w' (q2'.apply q5 q3' ht) hk
    · rw [h3] at he hk
      exact Tk r h1 he ht fun g' a' w' r' => hK _ g' a' w' r' hk
    · rw [h3] at hk
      exact HO r h1 hop hc ht fun g' a' w' r' => hK _ g' a' w' r' hk
    · obtain ⟨g1, r1⟩ := hle E g a w r
      refine HY r1 h1 h3 hy ht fun g' a' w' r' => ?_
      rw [h3] at hk
      exact hK _ g' a' w' r' hk
theorem Rw {nt : Nat} {ops : Array Oper} {K : St -> Prop} {Q : Exit -> Act -> World -> Prop} (hnt : E.nt = nt) (hdst : ∀ (j : Nat) (o' : Oper), ops[j]? = some o' -> ∀ t, o'.dst = some t -> t < E.nt) : ∀ (l : List Oper) (k : Nat) (l' : List AOper) (s : St) (g : Gh) (a : Act) (w : World), (∀ j, l[j]? = ops[k + j]?) ->
    QO P nt ops l = some l' -> Rel E g s a w -> GS P l' K s -> (∀ s' g' a' w', Rel E g' s' a' w' -> K s' -> Q .normal a' w') -> wpOps P ops Q (List.range' k l.length) a w
  | [], k, l', s, g, a, w, _, hp, r, h, hK => by
    simp only [QO, QhI] at hp; subst hp
    exact hK s g a w r h
  | o :: l, k, l', s, g, a, w, hl, hp, r, h, hK => by
    simp only [QO] at hp
    split at hp
    · rename_i o' r' e1 e2
      cases hp
      have h0 : ops[k]? = some o := by simpa using (hl 0).symm
      rw [List.length_cons, List.range'_succ, wpOps_cons]
      unfold wpOp
      rw [h0]
      simp only
      have := M9 (Q := Q) hnt r e1 hdst h (K' := wpOps P ops Q (List.range' (k + 1) l.length)) fun s' g' a' w' r2 h2 =>
        Rw hnt hdst l (k + 1) r' s' g' a' w' (fun j => by have := hl (j + 1); simpa [Nat.add_assoc, Nat.add_comm 1 j] using this) e2 r2 h2 hK
      split
      · rename_i hw; rw [if_pos hw] at this; exact .inl this
      · rename_i hw; rw [if_neg hw] at this; exact this
    · cases hp
end
end Go.Abs
namespace Go.Abs
open Go
def AOp.opds : AOp -> List Opd
  | .mov x => [x]
  | .pick c a b => [c, a, b]
  | .alloc _ _ => []
  | .box _ x => [x]
  | .build _ ps => ps.map fun p => p.2.2
  | .buildSlice _ _ ps => ps
  | .load _ _ x => [x]
  | .store _ x v => [x, v]
  | .nilCheck x => [x]
  | .bin _ _ x y => [x, y]
  | .eqs _ _ x y => [x, y]
  | .un _ x => [x]
  | .conv _ x => [x]
  | .convS _ x => [x]
  | .slice _ x lo hi mx => [x] ++ lo.toList ++ hi.toList ++ mx.toList
  | .sliceStr x lo hi => [x] ++ lo.toList ++ hi.toList
  | .fieldAddr _ x => [x]
  | .field _ _ _ x => [x]
  | .indexAddr _ x i => [x, i]
  | .indexStr x i => [x, i]
  | .extract _ x => [x]
  | .len x => [x]
  | .lenStr x => [x]
  | .min x y => [x, y]
  | .max x y => [x, y]
  | .append _ _ _ x y => [x, y]
  | .makeSlice _ _ _ _ x y => [x, y]
  | .capF x => [x]
  | .appz _ _ _ _ x y => [x, y]
  | .call _ args => args
  | .mkfn _ xs => xs
  | .mkbn _ xs => xs
  | .callV x args => x :: args
  | .stop => []
  | .range x => [x]
  | .next x => [x]
  | .indexArr _ _ x i => [x, i]
  | .indexAgg _ _ _ x i => [x, i]
def AOp.isSt : AOp -> Bool
  | .store .. => true
  | _ => false
def AOp.isIx : AOp -> Bool
  | .indexAddr .. => true
  | _ => false
def JH (op : AOp) (p : List Nat) : List Nat := if op.isIx = true then p.map fun k => 2 * k + 1 else p.map fun k => 2 * k
def Jb (op : AOp) (q : List Nat) : List Nat := if op.isSt = true then q.map fun k => 2 * k else (q.map fun k => 2 * k) ++ q.map fun k => 2 * k + 1
theorem FV {op : AOp} : JH op [] = [] := by unfold JH; split <;> rfl
theorem FW {op : AOp} : Jb op [] = [] := by unfold Jb; split <;> rfl
theorem RO {oj oi : AOp} {p q : List Nat} (h : ∀ t ∈ JH oj p, t ∉ Jb oi q) : (oj.isIx = true /\ oi.isSt = true) \/ ∀ k ∈ p, k ∉ q := by
  unfold JH Jb at h
  cases h1 : oj.isIx <;> cases h2 : oi.isSt <;> simp only [h1, h2, QhN, if_false, if_true] at h
  · exact .inr fun k hk hq => h (2 * k) (QhT.2 ⟨k, hk, rfl⟩) (List.mem_append_left _ (QhT.2 ⟨k, hq, rfl⟩))
  · exact .inr fun k hk hq => h (2 * k) (QhT.2 ⟨k, hk, rfl⟩) (QhT.2 ⟨k, hq, rfl⟩)
  · exact .inr fun k hk hq => h (2 * k + 1) (QhT.2 ⟨k, hk, rfl⟩) (QhU _ (QhT.2 ⟨k, hq, rfl⟩))
  · exact .inl ⟨rfl, rfl⟩
theorem LJ {oj oi : AOp} {p q : List Nat} (h : ∀ t ∈ Jb oj p, t ∉ Jb oi q) : ∀ k ∈ p, k ∉ q := fun k hk hq => by
  refine h (2 * k) ?_ ?_ <;> unfold Jb <;> split <;> first
    | exact QhT.2 ⟨k, hk, rfl⟩
    | exact QhT.2 ⟨k, hq, rfl⟩
    | exact List.mem_append_left _ (QhT.2 ⟨k, hk, rfl⟩)
    | exact List.mem_append_left _ (QhT.2 ⟨k, hq, rfl⟩)
theorem KG : ∀ {xs : List Operand} {xs' : List Opd}, ZD xs = some xs' -> ∀ x ∈ xs', ∃ y ∈ xs, QG y = some x
  | [], xs', h, x, hx => by simp [ZD] at h; subst h; cases hx
  | y :: ys, xs', h, x, hx => by
    simp only [ZD] at h
    split at h
    · rename_i x' r' e1 e2
      cases h
      cases hx with
      | head => exact ⟨y, by simp, e1⟩
      | tail _ hm => obtain ⟨z, h1, h2⟩ := KG e2 x hm; exact ⟨z, by simp [h1], h2⟩
    · cases h
theorem Gy {pl : Nat -> Option (Nat × Nat)} : ∀ {xs : List (Nat × Operand)} {xs' : List (Nat × Nat × Opd)}, YV pl xs = some xs' -> ∀ x ∈ xs'.map (fun p => p.2.2), ∃ y ∈ xs.map (·.2), QG y = some x
  | [], xs', h, x, hx => by simp [YV] at h; subst h; cases hx
  | (i, y) :: ys, xs', h, x, hx => by
    simp only [YV] at h
    split at h
    · rename_i off size x' r' e1 e2 e3
      cases h
      simp only [List.map_cons] at hx
      cases hx with
      | head => exact ⟨y, by simp, e2⟩
      | tail _ hm => obtain ⟨z, h1, h2⟩ := Gy e3 x hm; exact ⟨z, by rw [List.map_cons]; exact List.mem_cons_of_mem _ h1, h2⟩
    · cases h
theorem Fu : ∀ {k : Nat} {xs : List (Nat × Operand)} {xs' : List Opd}, Yv k xs = some xs' -> ∀ x ∈ xs', ∃ y ∈ xs.map (·.2), QG y = some x
  | k, [], xs', h, x, hx => by simp [Yv] at h; subst h; cases hx
  | k, (i, y) :: ys, xs', h, x, hx => by
    simp only [Yv] at h
    split at h
    · split at h
      · rename_i x' r' e1 e2
        cases h
        cases hx with
        | head => exact ⟨y, by simp, e1⟩
        | tail _ hm => obtain ⟨z, h1, h2⟩ := Fu e2 x hm; exact ⟨z, by rw [List.map_cons]; exact List.mem_cons_of_mem _ h1, h2⟩
      · cases h
    · cases h
theorem HX {x : Option Operand} {x' : Option Opd} (h : ZC x = some x') : ∀ z ∈ x'.toList, ∃ y ∈ x.toArray, QG y = some z := by
  intro z hz
  cases x with
  | none => simp only [ZC, QhI] at h; subst h; cases hz
  | some y =>
    simp only [ZC, QhF] at h
    obtain ⟨y', h1, rfl⟩ := h
    simp at hz; subst hz
    exact ⟨y, by simp, h1⟩
theorem G9 {P : Program} {op : Op} {ao : AOp} (hp : ZY P op = some ao) : ∀ x ∈ ao.opds, (∃ y ∈ op.operands, QG y = some x) \/ ∃ i, x = .s (900000 + i) := by
  intro z hz
  have gl : ∀ {l : List Operand} {f : Nat} {xs : List Opd}, ZD (l ++ (Fo f).map .global) = some xs -> z ∈ xs -> (∃ y ∈ l, QG y = some z) \/ ∃ i, z = .s (900000 + i) := fun h1 hz => by
    obtain ⟨y, h2, h3⟩ := KG h1 z hz
    rcases QhQ.1 h2 with h2 | h2
    · exact .inl ⟨y, h2, h3⟩
    · obtain ⟨i, _, rfl⟩ := QhT.1 h2
      simp only [QG, QhI] at h3
      exact .inr ⟨i, h3.symm⟩
  cases op <;> simp only [ZY, reduceCtorEq] at hp
  case move x => obtain ⟨x', h1, rfl⟩ := QhF.1 hp; simp [AOp.opds] at hz; subst hz; exact .inl ⟨x, by simp [Op.operands], h1⟩
  case assign x => obtain ⟨x', h1, rfl⟩ := QhF.1 hp; simp [AOp.opds] at hz; subst hz; exact .inl ⟨x, by simp [Op.operands], h1⟩
  case pick c x y =>
    split at hp
    · rename_i c' x' y' e1 e2 e3
      cases hp
      simp [AOp.opds] at hz
      rcases hz with rfl | rfl | rfl
      · exact .inl ⟨c, by simp [Op.operands], e1⟩
      · exact .inl ⟨x, by simp [Op.operands], e2⟩
      · exact .inl ⟨y, by simp [Op.operands], e3⟩
    · cases hp
  case alloc e => obtain ⟨x', h1, rfl⟩ := QhF.1 hp; simp [AOp.opds] at hz
  case box e x => obtain ⟨x', h1, rfl⟩ := QhF.1 hp; simp [AOp.opds] at hz; subst hz; exact .inl ⟨x, by simp [Op.operands], h1⟩
  case build t parts =>
    split at hp
    · obtain ⟨ps, h1, rfl⟩ := QhF.1 hp
      obtain ⟨y, h2, h3⟩ := Gy h1 z hz
      exact .inl ⟨y, by simpa [Op.operands] using h2, h3⟩
    · cases hp
  case buildSlice t n parts =>
    unfold Zy at hp
    split at hp
    · split at hp
      · rename_i esz z' ps e1 e2 e3
        split at hp
        · cases hp
          obtain ⟨y, h2, h3⟩ := Fu e3 z hz
          exact .inl ⟨y, by simpa [Op.operands] using h2, h3⟩
        · cases hp
      · cases hp
    · cases hp
  case load t x =>
    split at hp
    · rename_i b sz x' e1 e2 e3
      cases hp; simp [AOp.opds] at hz; subst hz; exact .inl ⟨x, by simp [Op.operands], e3⟩
    · cases hp
  case store t x y =>
    split at hp
    · rename_i sz x' y' e1 e2 e3
      split at hp
      · cases hp
        simp [AOp.opds] at hz
        rcases hz with rfl | rfl
        · exact .inl ⟨x, by simp [Op.operands], e2⟩
        · exact .inl ⟨y, by simp [Op.operands], e3⟩
      · cases hp
    · cases hp
  case nilCheck x => obtain ⟨x', h1, rfl⟩ := QhF.1 hp; simp [AOp.opds] at hz; subst hz; exact .inl ⟨x, by simp [Op.operands], h1⟩
  case binOp op t x y u =>
    unfold X4 at hp
    split at hp
    · rename_i x' y' e1 e2
      have fin : z = x' \/ z = y' -> (∃ y_1 ∈ (Op.binOp op t x y u).operands, QG y_1 = some z) \/ ∃ i, z = .s (900000 + i) := by
        rintro (rfl | rfl)
        · exact .inl ⟨x, by simp [Op.operands], e1⟩
        · exact .inl ⟨y, by simp [Op.operands], e2⟩
      split at hp
      · split at hp
        · split at hp
          · cases hp; exact fin (by simpa [AOp.opds] using hz)
          · cases hp; exact fin (by simpa [AOp.opds] using hz)
          · cases hp
        · cases hp
      · split at hp
        · cases hp; exact fin (by simpa [AOp.opds] using hz)
        · cases hp
      · split at hp
        · cases hp; simp [AOp.opds] at hz; exact fin (.inl hz)
        · cases hp
      · split at hp
        · cases hp
        · cases hp; exact fin (by simpa [AOp.opds] using hz)
    · cases hp
  case unOp op t x =>
    split at hp
    · cases hp
    obtain ⟨x', h1, rfl⟩ := QhF.1 hp; simp [AOp.opds] at hz; subst hz; exact .inl ⟨x, by simp [Op.operands], h1⟩
  case convert t u x =>
    split at hp
    · rename_i b k x' e1 e2 e3
      cases hp; simp [AOp.opds] at hz; subst hz; exact .inl ⟨x, by simp [Op.operands], e3⟩
    · rename_i e x' e1 e2 e3
      split at hp
      · cases hp; simp [AOp.opds] at hz; subst hz; exact .inl ⟨x, by simp [Op.operands], e3⟩
      · cases hp
    · rename_i e x' e1 e2 e3
      split at hp
      · cases hp; simp [AOp.opds] at hz; subst hz; exact .inl ⟨x, by simp [Op.operands], e3⟩
      · cases hp
    · cases hp
  case slice t x lo hi mx =>
    unfold Yu at hp
    split at hp
    · rename_i x' lo' hi' mx' e1 e2 e3 e4
      have fin : z ∈ [x'] ++ lo'.toList ++ hi'.toList ++ mx'.toList -> (∃ y ∈ (Op.slice t x lo hi mx).operands, QG y = some z) \/ ∃ i, z = .s (900000 + i) := by
        intro hz
        simp only [QhQ, QhO] at hz
        rcases hz with ((rfl | hz) | hz) | hz
        · exact .inl ⟨x, by simp [Op.operands], e1⟩
        · obtain ⟨y, h1, h2⟩ := HX e2 z hz; exact .inl ⟨y, by simp only [Op.operands, Array.mem_append]; exact .inl (.inl (.inr h1)), h2⟩
        · obtain ⟨y, h1, h2⟩ := HX e3 z hz; exact .inl ⟨y, by simp only [Op.operands, Array.mem_append]; exact .inl (.inr h1), h2⟩
        · obtain ⟨y, h1, h2⟩ := HX e4 z hz; exact .inl ⟨y, by simp only [Op.operands, Array.mem_append]; exact .inr h1, h2⟩
      split at hp
      · obtain ⟨esz, _, rfl⟩ := QhF.1 hp
        exact fin hz
      · cases hp
        exact fin (List.mem_append_left _ hz)
      · cases hp
    · cases hp
  case fieldAddr t x n =>
    unfold ZB at hp
    split at hp
    · rename_i x' fields e1 e2
      (repeat' split at hp) <;> first | (cases hp; simp [AOp.opds] at hz; subst hz; exact .inl ⟨x, by simp [Op.operands], e1⟩) | (cases hp; done)
    · cases hp
  case field t x n =>
    unfold Yt at hp
    split at hp
    · rename_i x' fields e1 e2
      (repeat' split at hp) <;> first | (cases hp; simp [AOp.opds] at hz; subst hz; exact .inl ⟨x, by simp [Op.operands], e1⟩) | (cases hp; done)
    · cases hp
  case indexAddr t x i =>
    split at hp
    · rename_i x' i' e e1 e2 e3
      obtain ⟨esz, _, rfl⟩ := QhF.1 hp
      simp [AOp.opds] at hz
      rcases hz with rfl | rfl
      · exact .inl ⟨x, by simp [Op.operands], e1⟩
      · exact .inl ⟨i, by simp [Op.operands], e2⟩
    · rename_i x' i' len e e1 e2 e3
      obtain ⟨esz, _, rfl⟩ := QhF.1 hp
      simp [AOp.opds] at hz
      rcases hz with rfl | rfl
      · exact .inl ⟨x, by simp [Op.operands], e1⟩
      · exact .inl ⟨i, by simp [Op.operands], e2⟩
    · cases hp
  case index t x i =>
    split at hp
    · rename_i x' i' e1 e2 e3
      cases hp
      simp [AOp.opds] at hz
      rcases hz with rfl | rfl
      · exact .inl ⟨x, by simp [Op.operands], e1⟩
      · exact .inl ⟨i, by simp [Op.operands], e2⟩
    · rename_i x' i' len e e1 e2 e3
      unfold ZH at hp
      split at hp
      · cases hp
        simp [AOp.opds] at hz
        rcases hz with rfl | rfl
        · exact .inl ⟨x, by simp [Op.operands], e1⟩
        · exact .inl ⟨i, by simp [Op.operands], e2⟩
      · cases hp
    · cases hp
  case range t x =>
    split at hp
    · rename_i x' e1 e2
      cases hp; simp [AOp.opds] at hz; subst hz; exact .inl ⟨x, by simp [Op.operands], e1⟩
    · cases hp
  case next x b =>
    cases b <;> simp only [YB, reduceCtorEq] at hp
    obtain ⟨x', h1, rfl⟩ := QhF.1 hp
    simp [AOp.opds] at hz; subst hz; exact .inl ⟨x, by simp [Op.operands], h1⟩
  case extract x n => obtain ⟨x', h1, rfl⟩ := QhF.1 hp; simp [AOp.opds] at hz; subst hz; exact .inl ⟨x, by simp [Op.operands], h1⟩
  case makeSlice t x y =>
    unfold YS at hp
    split at hp
    · rename_i x' y' e e1 e2 e3
      split at hp
      · split at hp
        · cases hp
          simp [AOp.opds] at hz
          rcases hz with rfl | rfl
          · exact .inl ⟨x, by simp [Op.operands], e1⟩
          · exact .inl ⟨y, by simp [Op.operands], e2⟩
        · cases hp
      · cases hp
    · cases hp
  case call c =>
    have ops : ∀ y, y ∈ c.args -> y ∈ (Op.call c).operands := fun y hy => by simp [Op.operands, Call.operands, hy]
    unfold YR at hp
    split at hp
    · rename_i x hc hargs
      have hx : x ∈ c.args := by rw [<- Array.mem_toList_iff, hargs]; simp
      unfold X6 at hp
      split at hp
      · rename_i x' t ts e1 e2
        (repeat' split at hp) <;> first | (cases hp; simp [AOp.opds] at hz; subst hz; exact .inl ⟨x, ops x hx, e1⟩) | (cases hp; done)
      · cases hp
    · rename_i x y hc hargs
      have hx : x ∈ c.args := by rw [<- Array.mem_toList_iff, hargs]; simp
      have hy : y ∈ c.args := by rw [<- Array.mem_toList_iff, hargs]; simp
      split at hp
      · rename_i x' y' e1 e2
        cases hp
        simp [AOp.opds] at hz
        rcases hz with rfl | rfl
        · exact .inl ⟨x, ops x hx, e1⟩
        · exact .inl ⟨y, ops y hy, e2⟩
      · cases hp
    · rename_i x y hc hargs
      have hx : x ∈ c.args := by rw [<- Array.mem_toList_iff, hargs]; simp
      have hy : y ∈ c.args := by rw [<- Array.mem_toList_iff, hargs]; simp
      split at hp
      · rename_i x' y' e1 e2
        cases hp
        simp [AOp.opds] at hz
        rcases hz with rfl | rfl
        · exact .inl ⟨x, ops x hx, e1⟩
        · exact .inl ⟨y, ops y hy, e2⟩
      · cases hp
    · rename_i x y hc hargs
      have hx : x ∈ c.args := by rw [<- Array.mem_toList_iff, hargs]; simp
      have hy : y ∈ c.args := by rw [<- Array.mem_toList_iff, hargs]; simp
      unfold Z3 at hp
      split at hp
      · rename_i x' y' t u e1 e2 e3
        (repeat' split at hp) <;> first
          | (cases hp
             simp [AOp.opds] at hz
             rcases hz with rfl | rfl
             · exact .inl ⟨x, ops x hx, e1⟩
             · exact .inl ⟨y, ops y hy, e2⟩)
          | (cases hp; done)
          | (unfold YQ at hp
             (repeat' split at hp) <;> first
               | (cases hp
                  simp [AOp.opds] at hz
                  rcases hz with rfl | rfl
                  · exact .inl ⟨x, ops x hx, e1⟩
                  · exact .inl ⟨y, ops y hy, e2⟩)
               | (cases hp; done))
      · cases hp
    · rename_i x hc hargs
      have hx : x ∈ c.args := by rw [<- Array.mem_toList_iff, hargs]; simp
      unfold X5 at hp
      split at hp
      · rename_i x' t ts e1 e2
        (repeat' split at hp) <;> first | (cases hp; simp [AOp.opds] at hz; subst hz; exact .inl ⟨x, ops x hx, e1⟩) | (cases hp; done)
      · cases hp
    · obtain ⟨args', h1, rfl⟩ := QhF.1 hp
      exact (gl h1 hz).imp (fun ⟨y, h2, h3⟩ => ⟨y, ops y (by rw [<- Array.mem_toList_iff]; exact h2), h3⟩) id
    · rename_i xs t hcal
      split at hp
      case isFalse => cases hp
      rename_i ht9
      obtain ⟨args', h1, rfl⟩ := QhF.1 hp
      simp only [AOp.opds, QhH] at hz
      rcases hz with rfl | hz
      · exact .inl ⟨.tmp t, by simp [Op.operands, Call.operands, hcal], if_pos ht9⟩
      · obtain ⟨y, h2, h3⟩ := KG h1 z hz
        exact .inl ⟨y, ops y (by rw [<- Array.mem_toList_iff]; exact h2), h3⟩
    · cases hp
  case makeFunc fn first captured =>
    unfold KH at hp
    split at hp
    · obtain ⟨xs, h1, rfl⟩ := QhF.1 hp
      exact (gl h1 hz).imp (fun ⟨y, h2, h3⟩ => ⟨y, by simp only [Op.operands, Array.mem_append]; exact .inr (by rw [<- Array.mem_toList_iff]; exact h2), h3⟩) id
    · rename_i f x hf
      split at hp
      · obtain ⟨xs, h1, rfl⟩ := QhF.1 hp
        exact (gl (l := [x]) h1 hz).imp (fun ⟨y, h2, h3⟩ => ⟨y, by simp only [Op.operands, Array.mem_append]; exact .inl (by rw [<- Array.mem_toList_iff, hf]; exact h2), h3⟩) id
      · cases hp
    · cases hp
  case panic x => cases hp; cases hz
  case makeInterface t x => cases hp; cases hz
theorem Gw {y : Operand} {x : Opd} (h : QG y = some x) : (∃ t, y = .tmp t /\ x = .s t) \/ (∃ d, x = .c d /\ d.ids = []) \/ ∃ i, x = .s (900000 + i) := by
  cases y with
  | tmp t => exact .inl ⟨t, rfl, (J5 h).2⟩
  | const v =>
    simp only [QG, QhF] at h
    obtain ⟨d, h1, h2⟩ := h
    exact .inr (.inl ⟨d, h2.symm, (KS h1 (fun _ _ => none)).2⟩)
  | func f => exact .inr (.inl ⟨_, (KI h).2, rfl⟩)
  | global i => simp only [QG, QhI] at h; exact .inr (.inr ⟨i, h.symm⟩)
end Go.Abs
namespace Go.Abs
open Go
def AOp.pkOpds : AOp -> List Opd
 | .load _ _ x => [x]
 | .convS _ x => [x]
 | .store _ x _ => [x]
 | .indexAddr _ x _ => [x]
 | .append _ _ _ x y => [x, y]
 | .call _ args => args
 | .callV x args => x :: args
 | _ => []
def Qa4 : Option D -> List Nat
 | some d => d.ids
 | none => []
def pk (op : AOp) (s : St) : List Nat := op.pkOpds.flatMap fun x => Qa4 (s.ev x)
theorem Fs {op : AOp} {s : St} {x : Opd} {d : D} {k : Nat} (hx : x ∈ op.pkOpds) (he : s.ev x = some d) (hk : k ∈ d.ids) : k ∈ pk op s :=
 QhM.2 ⟨x, hx, by rw [he]; exact hk⟩
structure PB (ao : AOp) (dst : Option Nat) (p : List Nat) (s s' : St) : Prop where
 ev : ∀ x ∈ ao.opds, s'.ev x = s.ev x
 H : ao.isIx = false -> ∀ k ∈ p, lk s'.H k = lk s.H k
 sh : ao.isIx = true -> ∀ k ∈ p, ∀ b, lk s.H k = some b -> ∃ b', lk s'.H k = some b' /\ b'.rows.length = b.rows.length /\ b'.esz = b.esz
 so : ∀ x ∈ ao.opds, ∀ d, s.ev x = some d -> ∀ k ∈ d.ids, (lk s.H k).isSome = true -> (lk s'.H k).isSome = true
 al : ∀ t, dst = some t -> lk s.H t = none -> lk s'.H t = none
section
variable {s s' : St}
theorem By {d : D} {cells : List D} (hk : ∀ k ∈ d.ids, lk s'.H k = lk s.H k) (h : s.at d cells) : s'.at d cells := by
 cases d <;> simp only [St.at] at h ⊢
 ·rw [hk _ Wi]; exact h
 ·exact h
theorem NU {d : D} {esz : Nat} {rows : List (List D)} {pr : Bool} (hk : ∀ k ∈ d.ids, lk s'.H k = lk s.H k) (h : s.src esz d rows pr) : s'.src esz d rows pr := by
 cases d <;> simp only [St.src] at h ⊢
 ·exact h
 ·exact h
 ·rw [hk _ Wi]; exact h
theorem Tn {d : D} {S : Nat -> Bool} (hk : ∀ k ∈ d.ids, lk s'.H k = lk s.H k) : d.fz s'.H S = d.fz s.H S := by
 have one : ∀ {d : D}, (∀ k ∈ d.sid, lk s'.H k = lk s.H k) -> d.fzS s'.H S = d.fzS s.H S := by
  intro d hk
  cases d <;> simp only [D.fzS] <;> rw [hk _ Wm]
 cases d
 case agg cs => simp only [D.fz]; congr 1; exact List.map_congr_left fun x hx => one fun k hk' => hk k (QhM.2 ⟨x, hx, hk'⟩)
 case clo f cs => simp only [D.fz]; congr 1; exact List.map_congr_left fun x hx => one fun k hk' => hk k (QhM.2 ⟨x, hx, hk'⟩)
 case tpo cs z => simp only [D.fz]; congr 1; exact List.map_congr_left fun x hx => one fun k hk' => hk k (QhM.2 ⟨x, hx, hk'⟩)
 case osl k n => exact one (d := .osl k n) hk
 case osv k lo c n => exact one (d := .osv k lo c n) hk
 case ref k i o => exact one (d := .ref k i o) hk
 case clr f k ps => exact one (d := .clr f k ps) hk
 all_goals rfl
theorem Xc {x : Option Opd} {n m : Nat} (he : ∀ y ∈ x.toList, s'.ev y = s.ev y) (h : s.bd x n m) : s'.bd x n m := by
 cases x with
 | none => exact h
 | some y => simp only [St.bd] at h ⊢; rw [he y Wc]; exact h
theorem Yp : ∀ {xs : List Opd}, (∀ x ∈ xs, s'.ev x = s.ev x) -> Zb s' xs = Zb s xs
 | [], _ => rfl
 | x :: xs, h => by simp only [Zb]; rw [h x Wc, Yp fun y hy => h y (by simp [hy])]
theorem Ku {esz : Nat} : ∀ {xs : List Opd}, (∀ x ∈ xs, s'.ev x = s.ev x) -> XV s' esz xs = XV s esz xs
 | [], _ => rfl
 | x :: xs, h => by simp only [XV]; rw [h x Wc, Ku fun y hy => h y (by simp [hy])]
theorem Gj : ∀ {xs : List (Nat × Nat × Opd)}, (∀ x ∈ xs.map (fun p => p.2.2), s'.ev x = s.ev x) -> XU s' xs = XU s xs
 | [], _ => rfl
 | (i, j, x) :: xs, h => by simp only [XU]; rw [h x Wc, Gj fun y hy => h y (by rw [List.map_cons]; exact List.mem_cons_of_mem _ hy)]
theorem KU : ∀ {xs : List Opd} {ds : List D}, Zb s xs = some ds -> ∀ d ∈ ds, ∃ x ∈ xs, s.ev x = some d
 | [], ds, h, d, hd => by simp [Zb] at h; subst h; cases hd
 | x :: xs, ds, h, d, hd => by
  simp only [Zb] at h
  split at h
  ·rename_i d0 ds0 e1 e2
   cases h
   cases hd with
   | head => exact ⟨x, by simp, e1⟩
   | tail _ hm => obtain ⟨y, h1, h2⟩ := KU e2 d hm; exact ⟨y, by simp [h1], h2⟩
  ·cases h
theorem _root_.Wp {p : Prop} (h : p := by simp [AOp.pkOpds]) : p := h
theorem SO {ao : AOp} {dst : Option Nat} {d : D} {bx : Option Box} (ag : PB ao dst (pk ao s) s s') (h : SN ao dst s d bx) : SN ao dst s' d bx := by
 obtain ⟨ev, H, sh, so, al⟩ := ag
 cases ao <;> simp only [SN] at h ⊢ <;> simp only [AOp.opds] at ev so
 case mov x => rw [ev x Wc]; exact h
 case pick c x y =>
  obtain ⟨t, h1, h2, h3⟩ := h
  refine ⟨t, by rw [ev c Wc]; exact h1, ?_, h3⟩
  cases t
  ·simp only [QhN, if_false] at h2 ⊢; rw [ev y Wc]; exact h2
  ·simp only [if_true] at h2 ⊢; rw [ev x Wc]; exact h2
 case alloc e cs => obtain ⟨t, h1, h2, h3⟩ := h; exact ⟨t, h1, al t h1 h2, h3⟩
 case box e x =>
  obtain ⟨t, v, cells, h1, h2, h3, h4, h5⟩ := h
  exact ⟨t, v, cells, h1, by rw [ev x Wc]; exact h2, h3, al t h1 h4, h5⟩
 case build z ps =>
  obtain ⟨qs, ds, h1, h2⟩ := h
  exact ⟨qs, ds, by rw [Gj ev]; exact h1, h2⟩
 case buildSlice esz et ps =>
  rcases h with ⟨t, rows, h1, h2, h3, h4⟩ | ⟨rows, h2, h3⟩
  ·exact .inl ⟨t, rows, h1, by rw [Ku ev]; exact h2, al t h1 h3, h4⟩
  ·exact .inr ⟨rows, by rw [Ku ev]; exact h2, h3⟩
 case load b sz x =>
  obtain ⟨p, cells, h1, h2, h3⟩ := h
  exact ⟨p, cells, by rw [ev x Wc]; exact h1, By (fun k hk => H rfl k (Fs (x := x) Wp h1 hk)) h2, h3⟩
 case nilCheck x => rw [ev x Wc]; exact h
 case bin op bt x y => rw [ev x Wc, ev y Wc]; exact h
 case eqs neg ks x y => rw [ev x Wc, ev y Wc]; exact h
 case un op x => rw [ev x Wc]; exact h
 case conv k x => rw [ev x Wc]; exact h
 case convS sb x =>
  obtain ⟨q, h1, h2, h3⟩ := h
  refine ⟨q, by rw [ev x Wc]; exact h1, h2, ?_⟩
  cases sb
  ·simp only [QhN, if_false] at h3 ⊢
   obtain ⟨ys, pr, l, h4, h5⟩ := h3
   exact ⟨ys, pr, l, NU (fun k hk => H rfl k (Fs (x := x) Wp h1 hk)) h4, h5⟩
  ·exact h3
 case slice esz x lo hi mx =>
  have e1 : ∀ y ∈ lo.toList, s'.ev y = s.ev y := fun y hy => ev y (by simp [QhQ]; right; left; simpa using hy)
  have e2 : ∀ y ∈ hi.toList, s'.ev y = s.ev y := fun y hy => ev y (by simp [QhQ]; right; right; left; simpa using hy)
  have e3 : ∀ y ∈ mx.toList, s'.ev y = s.ev y := fun y hy => ev y (by simp [QhQ]; right; right; right; simpa using hy)
  rcases h with ⟨p, rows, l, h0, h1, h2, h3, h4, h5, h6, h7, h8, h9⟩ | ⟨h1, h2, h3, h4⟩ | ⟨h1, h2, k, n, l, h3, h4, h5, h6, h7⟩
  rotate_left
  ·exact .inr (.inl ⟨h1, h2, Xc e1 h3, h4.imp (fun ⟨rows, q1, q2, q3⟩ => ⟨rows, by rw [ev x Wc]; exact q1, Xc e2 q2, q3⟩) fun ⟨k, n, m, q1, q2, q3, q4⟩ => ⟨k, n, m, by rw [ev x Wc]; exact q1, Xc e2 q2, q3, q4⟩⟩)
  ·exact .inr (.inr ⟨h1, h2, k, n, l, by rw [ev x Wc]; exact h3, Xc e1 h4, Xc e2 h5, h6, h7⟩)
  refine .inl ⟨p, rows, l, h0, by rw [ev x Wc]; exact h1, h2, Xc e1 h3, Xc e2 h4, h5, h6, h7, ?_, h9⟩
  cases mx with
  | none => exact h8
  | some m => exact ⟨Xc e3 h8.1, h8.2⟩
 case sliceStr x lo hi =>
  obtain ⟨c, l, h0, h1, h2, h3, h4⟩ := h
  have e1 : ∀ y ∈ lo.toList, s'.ev y = s.ev y := fun y hy => ev y (by simp [QhQ]; right; left; simpa using hy)
  have e2 : ∀ y ∈ hi.toList, s'.ev y = s.ev y := fun y hy => ev y (by simp [QhQ]; right; right; simpa using hy)
  exact ⟨c, l, h0, by rw [ev x Wc]; exact h1, Xc e1 h2, Xc e2 h3, h4⟩
 case fieldAddr off x =>
  obtain ⟨p, h1, h2, h3⟩ := h
  refine ⟨p, by rw [ev x Wc]; exact h1, ?_, h3⟩
  cases p <;> simp only [Mi] at h2 ⊢
  ·exact ⟨so x Wc _ h1 _ Wi h2.1, h2.2⟩
  ·exact h2
 case field b off sz x => rw [ev x Wc]; exact h
 case indexAddr esz x i =>
  obtain ⟨k, n, p, h1, h2, h3, h4, h5⟩ := h
  refine ⟨k, n, p, by rw [ev i Wc]; exact h1, by rw [ev x Wc]; exact h2, h3, ?_, h5⟩
  cases p <;> simp only [DX] at h4 ⊢
  ·exact h4
  ·exact h4
  ·obtain ⟨b, q1, q2, q3, q4, q5⟩ := h4
   obtain ⟨b', r1, r2, r3⟩ := sh rfl _ (Fs (x := x) Wp h2 Wi) b q1
   exact ⟨b', r1, q2.trans (by rw [r2]), q3, r3.trans q4, q5⟩
 case indexStr x i => rw [ev i Wc, ev x Wc]; exact h
 case extract i x => rw [ev x Wc]; exact h
 case len x => rw [ev x Wc]; exact h
 case lenStr x => rw [ev x Wc]; exact h
 case min x y => rw [ev x Wc, ev y Wc]; exact h
 case max x y => rw [ev x Wc, ev y Wc]; exact h
 case append esz et bytes x y =>
  obtain ⟨t, rows, q, ys, pr, h1, h2, h3, h4, h5, h6⟩ := h
  exact ⟨t, rows, q, ys, pr, h1, by rw [ev x Wc]; exact h2, by rw [ev y Wc]; exact h3, NU (fun k hk => H rfl k (Fs (x := y) Wp h3 hk)) h4, al t h1 h5, h6⟩
 case range x =>
  obtain ⟨t, l, h1, h2, h3, h4⟩ := h
  exact ⟨t, l, h1, by rw [ev x Wc]; exact h2, al t h1 h3, h4⟩
 case indexArr len esz x i =>
  obtain ⟨k, n, p, h1, h2, h3, h3', h4, h5⟩ := h
  refine ⟨k, n, p, by rw [ev i Wc]; exact h1, by rw [ev x Wc]; exact h2, h3, h3', ?_, h5⟩
  cases p <;> simp only [Mi] at h4 ⊢
  ·exact ⟨so x Wc _ h2 _ Wi h4.1, h4.2⟩
  ·exact h4
 case indexAgg b len esz x i => rw [ev i Wc, ev x Wc]; exact h
 case mkfn f xs => rw [Yp ev]; exact h
 case mkbn f xs => rw [Yp ev]; exact h
 case capF x => rw [ev x Wc]; exact h
 case appz esz et bytes z x y =>
  obtain ⟨t, k, n, h1, h2, h3, h4, h5⟩ := h
  exact ⟨t, k, n, h1, by rw [ev x Wc]; exact h2, by rw [ev y Wc]; exact h3, al t h1 h4, h5⟩
 case makeSlice esz et bytes z x y =>
  obtain ⟨t, k, j, n, h1, h2, h3, h4, h5⟩ := h
  exact ⟨t, k, j, n, h1, by rw [ev x Wc]; exact h2, by rw [ev y Wc]; exact h3, al t h1 h4, h5⟩
theorem _root_.Wl {p : Prop} (h : p := by simp [AOp.opds]) : p := h
theorem PH {P : Program} {o : AOper} {d : D} {bx : Option Box} (ag : PB o.op o.dst (pk o.op s) s s') (h : Xf P o s d bx) : Xf P o s' d bx := by
 unfold Xf at h ⊢
 split at h
 ·rename_i f args hop
  rw [hop] at ag
  obtain ⟨h1, ds, h2, h3, h4⟩ := h
  have e1 := Yp (s := s) (s' := s') (xs := args) ag.ev
  refine ⟨h1, ds, by rw [e1]; exact h2, ?_, h4⟩
  have : ds.map (JM s') = ds.map (JM s) := List.map_congr_left fun d hd => by
   obtain ⟨x, hx, he⟩ := KU h2 d hd
   unfold JM
   rw [Tn fun k hk => ag.H rfl k (Fs (x := x) hx he hk)]
  rw [this]; exact h3
 ·rename_i x az hop
  rw [hop] at ag
  obtain ⟨h1, h⟩ := h
  refine ⟨h1, h.imp ?_ ?_⟩
  rotate_left
  ·rintro ⟨has, f, rs, hx, hpu, ds, h2, h3, h4⟩
   have e0 : s'.ev x = s.ev x := ag.ev x Wl
   rw [J3] at h2; cases h2
   refine ⟨has, f, rs, by rw [e0]; exact hx, hpu, rs, J3 _, ?_, h4⟩
   have : rs.map (JM s') = rs.map (JM s) := List.map_congr_left fun d hd => by
    have hp := QhP.1 hpu d hd
    unfold JM
    rw [G0 hp, G0 hp]
   rw [this]; exact h3
  rintro ⟨f, caps, hx, hcap, ds, h2, h3, h4⟩
  have e0 : s'.ev x = s.ev x := ag.ev x Wl
  have e1 := Yp (s := s) (s' := s') (xs := az ++ caps.map .c) fun y hy => by
   rcases QhQ.1 hy with hy | hy
   ·exact ag.ev y (by simp [AOp.opds, hy])
   ·obtain ⟨d, _, rfl⟩ := QhT.1 hy; rfl
  refine ⟨f, caps, by rw [e0]; exact hx, hcap, ds, by rw [e1]; exact h2, ?_, h4⟩
  have : ds.map (JM s') = ds.map (JM s) := List.map_congr_left fun d hd => by
   obtain ⟨y, hy, he⟩ := KU h2 d hd
   unfold JM
   rw [Tn fun k hk => ?_]
   rcases QhQ.1 hy with hy | hy
   ·exact ag.H rfl k (Fs (x := y) (by simp [AOp.pkOpds, hy]) he hk)
   ·obtain ⟨d0, hd0, rfl⟩ := QhT.1 hy
    simp only [St.ev, QhI] at he; subst he
    exact ag.H rfl k (Fs (x := x) Wp hx (QhM.2 ⟨d0, hd0, Dk (QhP.1 hcap d0 hd0) k hk⟩))
  rw [this]; exact h3
 ·exact SO ag h
end
def stD (op : AOp) (s : St) (k : Nat) (b' : Box) : Prop :=
 match op with
 | .store sz x v => ∃ i off b row q cells, s.ev x = some (.ref k i off) /\ lk s.H k = some b /\ b.rows[i]? = some row /\ s.ev v = some q /\ q.cells = some cells /\ cells.length = sz /\ off + sz <= row.length /\
   b' = { b with rows := b.rows.set i (setRow row off cells), pr := b.pr && cells.all fun d => d.sid.isEmpty }
 | _ => False
theorem Pl {op : AOp} {s : St} {k : Nat} {b' : Box} (h : stD op s k b') : RL op s { s with H := (k, b') :: s.H } .undef := by
 cases op <;> simp only [stD] at h
 obtain ⟨i, off, b, row, q, cells, h1, h2, h3, h4, h5, h6, h7, rfl⟩ := h
 exact ⟨k, i, off, b, row, q, cells, h1, h2, h3, h4, h5, h6, h7, rfl, rfl⟩
theorem CT {op : AOp} {dst : Option Nat} {s s' : St} {k : Nat} {b' : Box} (ag : PB op dst (pk op s) s s') (h : stD op s k b') : stD op s' k b' := by
 cases op <;> simp only [stD] at h ⊢
 obtain ⟨i, off, b, row, q, cells, h1, h2, h3, h4, h5, h6, h7, h8⟩ := h
 exact ⟨i, off, b, row, q, cells, by rw [ag.ev _ Wl]; exact h1, by rw [ag.H rfl k (Fs Wp h1 Wi)]; exact h2, h3, by rw [ag.ev _ Wl]; exact h4, h5, h6, h7, h8⟩
def wk (op : AOp) (s : St) : List Nat :=
 match op with
 | .store _ x _ => Qa4 (s.ev x)
 | _ => []
theorem QeA {op : AOp} {s : St} {k : Nat} {b' : Box} (h : stD op s k b') : k ∈ wk op s /\ (lk s.H k).isSome = true := by
 cases op <;> simp only [stD] at h
 obtain ⟨i, off, b, row, q, cells, h1, h2, _⟩ := h
 exact ⟨by simp [wk, h1, Qa4, D.ids, D.sid], by rw [h2]; rfl⟩
def alL (dst : Option Nat) (bx : Option Box) : QhD :=
 match dst, bx with
 | some t, some b => [(t, b)]
 | _, _ => []
theorem Kh (s : St) (dst : Option Nat) (d : D) (bx : Option Box) : s.apply dst d bx = s.eff dst d (alL dst bx) := by
 cases dst <;> cases bx <;> rfl
def YD (P : Program) (B : Nat -> Prop) (o : AOper) (s : St) (p q : List Nat) (d : D) (ef : QhD) : Prop :=
 (gw s o.guard = some true /\ ((((∃ bx, Xf P o s d bx /\ ef = alL o.dst bx) \/ ∃ k b, stD o.op s k b /\ d = .undef /\ ef = [(k, b)]) /\ p = pk o.op s /\ q = wk o.op s) \/ EF P B o.op o.dst s p q d ef)) \/
 (gw s o.guard = some false /\ d = .undef /\ ef = [] /\ p = [] /\ q = [])
def Apt (anc : Nat -> Prop) (p q : List Nat) (R W : List (Nat × Nat)) : Prop :=
 (∀ k ∈ p, ∀ i, (k, i) ∈ W -> anc i) /\ ∀ k ∈ q, (∀ i, (k, i) ∈ R -> anc i) /\ ∀ i, (k, i) ∈ W -> anc i
def tag (i : Nat) (l : List Nat) : List (Nat × Nat) := l.map fun k => (k, i)
theorem HT {i j k : Nat} {l : List Nat} : (k, j) ∈ tag i l ↔ k ∈ l /\ j = i := by
 simp only [tag, QhT, Prod.mk.injEq]
 constructor
 ·rintro ⟨x, h, rfl, rfl⟩; exact ⟨h, rfl⟩
 ·rintro ⟨h, rfl⟩; exact ⟨k, h, rfl, rfl⟩
def J8 (P : Program) (B : Nat -> Prop) (anc : Nat -> Nat -> Prop) : List AOper -> Nat -> List (Nat × Nat) -> List (Nat × Nat) -> (St -> Prop) -> St -> Prop
 | [], _, _, _, K, s => K s
 | o :: r, j, R, W, K, s => ∃ p q d ef, YD P B o s p q d ef /\ Apt (anc j) (JH o.op p) (Jb o.op q) R W /\ J8 P B anc r (j + 1) (tag j (JH o.op p) ++ R) (tag j (Jb o.op q) ++ W) K (s.eff o.dst d ef)
def St.same (s s' : St) : Prop := (∀ t, lk s.fr t = lk s'.fr t) /\ ∀ k, lk s.H k = lk s'.H k
section
variable {P : Program} {E : Env} {g : Gh} {s s' : St} {a : Act} {w : World}
theorem Rel.same (r : Rel E g s a w) (h : s.same s') : Rel E g s' a w :=
 ⟨r.nt, r.df, fun t d e => r.fr t d (by rw [h.1]; exact e), fun t d e k hk => by rw [<- h.2]; exact r.wfF t d (by rw [h.1]; exact e) k hk, fun k b e j hj => by rw [<- h.2]; exact r.wfH k b (by rw [h.2]; exact e) j hj,
  fun k b e => r.bx k b (by rw [h.2]; exact e), fun k k' b b' B e e' h1 h2 => r.inj k k' b b' B e e' (by rw [h.2]; exact h1) (by rw [h.2]; exact h2), r.kr, r.ext, r.kx, fun j hj => let ⟨h1, h2, h3, h4⟩ := r.kp j hj; ⟨h1, h2, h3, by rw [<- h.2]; exact h4⟩⟩
theorem QcQ (h : s.same s') (x : Opd) : s'.ev x = s.ev x := by
 cases x with
 | s t => exact (h.1 t).symm
 | c d => rfl
theorem LC (h : s.same s') (ao : AOp) (dst : Option Nat) (p : List Nat) : PB ao dst p s s' :=
 ⟨fun x _ => QcQ h x, fun _ k _ => (h.2 k).symm, fun _ k _ b hb => ⟨b, by rw [<- h.2]; exact hb, rfl, rfl⟩, fun _ _ _ _ k _ hk => by rw [<- h.2]; exact hk, fun t _ ht => by rw [<- h.2]; exact ht⟩
theorem QcR (h : s.same s') (gd : Option (Nat × Bool)) : gw s' gd = gw s gd := by
 cases gd with
 | none => rfl
 | some p => obtain ⟨t, b⟩ := p; simp only [gw]; rw [h.1 t]
theorem Qep {op : AOp} (h : ∀ x ∈ op.opds, s'.ev x = s.ev x) : pk op s' = pk op s /\ wk op s' = wk op s := by
 have hsub : ∀ x ∈ op.pkOpds, x ∈ op.opds := by
  intro x hx
  cases op <;> simp only [AOp.pkOpds, AOp.opds] at hx ⊢ <;> first | exact hx | (cases hx; done) | (simp at hx ⊢; exact .inl hx)
 constructor
 ·unfold pk
  have : ∀ l : List Opd, (∀ x ∈ l, s'.ev x = s.ev x) -> (l.flatMap fun x => Qa4 (s'.ev x)) = l.flatMap fun x => Qa4 (s.ev x) := by
   intro l
   induction l with
   | nil => intro _; rfl
   | cons x l ih => intro hl; simp only [List.flatMap_cons]; rw [hl x Wc, ih fun y hy => hl y (by simp [hy])]
  exact this _ fun x hx => h x (hsub x hx)
 ·cases op <;> simp only [wk]
  rw [h _ Wl]
theorem Na {f : Nat} {args : List Opd} {HF Hn Hu : QhD} {d : D} (hev : ∀ x ∈ args, s'.ev x = s.ev x) (hH : ∀ k ∈ HF.map Prod.fst, lk s'.H k = lk s.H k) (h : XR P f args s HF Hn Hu d) (hn : ∀ k b, lk Hn k = some b -> lk s.H k = none -> lk s'.H k = none) : XR P f args s' HF Hn Hu d := by
 obtain ⟨ds, h1, h2, h3, h4, h5, h6, h7⟩ := h
 refine ⟨ds, by rw [Yp hev]; exact h1, fun k b hk => ?_, h3, h4, h5, (fun k b hk => ⟨(h6 k b hk).1, hn k b hk (h6 k b hk).2.1, (h6 k b hk).2.2⟩), h7⟩
 have hm : ∀ (l : QhD), lk l k = some b -> k ∈ l.map Prod.fst := by
  intro l
  induction l with
  | nil => intro h; cases h
  | cons p l ih =>
   obtain ⟨j, x⟩ := p
   intro h
   rw [Qx] at h
   split at h
   ·rename_i e; subst e; simp
   ·exact List.mem_cons_of_mem _ (ih h)
 rw [hH k (hm HF hk)]; exact h2 k b hk
theorem Qah {l : QhD} {k : Nat} {b : Box} (h : lk l k = some b) : k ∈ l.map Prod.fst := by
 induction l with
 | nil => cases h
 | cons p l ih =>
  obtain ⟨j, x⟩ := p
  rw [Qx] at h
  split at h
  ·rename_i e; subst e; simp
  ·exact List.mem_cons_of_mem _ (ih h)
theorem R3 {f : Nat} {args : List Opd} {HF : QhD} {k t n' : Nat} {b b' : Box} (hev : ∀ x ∈ args, s'.ev x = s.ev x) (hH : ∀ j ∈ k :: HF.map Prod.fst, lk s'.H j = lk s.H j) (ht : lk s.H t = none -> lk s'.H t = none) (h : BE P f args s HF k t b b' n') : BE P f args s' HF k t b b' n' := by
 obtain ⟨ds, h1, h2, h3, h4, h5, h6, h7, h8, h9, h9', h10⟩ := h
 refine ⟨ds, by rw [Yp hev]; exact h1, by rw [hH k Wc]; exact h2, h3, h4, ht h5, h6, fun j x hj => ?_, h8, h9, h9', h10⟩
 obtain ⟨q1, q2⟩ := h7 j x hj
 exact ⟨q1, by rw [hH j (List.mem_cons_of_mem _ (Qah hj))]; exact q2⟩
theorem BP {B : Nat -> Prop} {op : AOp} {dst : Option Nat} {p q : List Nat} {d : D} {ef : QhD} (ag : PB op dst p s s') (h : EF P B op dst s p q d ef) : EF P B op dst s' p q d ef := by
 cases op <;> simp only [EF] at h ⊢
 case call f args =>
  rcases h with ⟨HF, k, b, h1, h2, rfl, h3⟩ | ⟨HF, k, t, b, b', n', h1, h2, h3, rfl, h4⟩ | ⟨HF, t, b, n, h1, h2, h3, h4, rfl, h5⟩
  ·exact .inl ⟨HF, k, b, Na (fun x hx => ag.ev x hx) (ag.H rfl) h1 (fun _ _ h => by cases h), h2, rfl, h3⟩
  ·exact .inr (.inl ⟨HF, k, t, b, b', n', h1, R3 (fun x hx => ag.ev x hx) (ag.H rfl) (ag.al t h1) h2, h3, rfl, h4⟩)
  ·refine .inr (.inr ⟨HF, t, b, n, h1, Na (fun x hx => ag.ev x hx) (ag.H rfl) h2 (fun k b' hk hn => ?_), ag.al t h1 h3, h4, rfl, h5⟩)
   rw [Qx] at hk
   split at hk
   ·rename_i e; subst e; exact ag.al _ h1 hn
   ·cases hk
 case append esz et bytes x y =>
  obtain ⟨t, k, n, b, e, ys, pr, h0, h1, h2, h3, h4, h5, h6, h7, h8, h9, h10, h11, h12, h13, rfl, h15⟩ := h
  exact ⟨t, k, n, b, e, ys, pr, h0, by rw [ag.ev x Wl]; exact h1, h2, ag.al t h0 h3, h4, by rw [ag.H rfl k Wc]; exact h5, h6, h7, h8, by rw [ag.ev y Wl]; exact h9, h10,
   NU (fun j hj => ag.H rfl j (List.mem_cons_of_mem _ hj)) h11, h12, h13, rfl, h15⟩
theorem Px {B : Nat -> Prop} {o : AOper} {p q : List Nat} {d : D} {ef : QhD} (ag : gw s o.guard = some true -> PB o.op o.dst p s s') (hg : gw s' o.guard = gw s o.guard) (hy : YD P B o s p q d ef) : YD P B o s' p q d ef := by
 unfold YD at hy ⊢
 rw [hg]
 refine hy.imp (fun ⟨h1, h2⟩ => ⟨h1, ?_⟩) id
 have ag := ag h1
 rcases h2 with ⟨h2, rfl, rfl⟩ | h2
 ·obtain ⟨e1, e2⟩ := Qep (op := o.op) ag.ev
  exact .inl ⟨h2.imp (fun ⟨bx, q1, q2⟩ => ⟨bx, PH ag q1, q2⟩) fun ⟨k, b, q1, q2⟩ => ⟨k, b, CT ag q1, q2⟩, e1.symm, e2.symm⟩
 ·exact .inr (BP ag h2)
theorem Qc3 (h : s.same s') {B : Nat -> Prop} {o : AOper} {p q : List Nat} {d : D} {ef : QhD} (hy : YD P B o s p q d ef) : YD P B o s' p q d ef := Px (fun _ => LC h _ _ _) (QcR h _) hy
theorem JR (s : St) (dst : Option Nat) (d : D) (ef : QhD) (t : Nat) : lk (s.eff dst d ef).fr t = if dst = some t then some d else lk s.fr t := by
 cases dst with
 | none => simp [St.eff]
 | some u => simp only [St.eff, Qx, QhI]
theorem Tw (s : St) (dst : Option Nat) (d : D) (ef : QhD) (k : Nat) : lk (s.eff dst d ef).H k = match lk ef k with
  | some b => some b
  | none => lk s.H k := (JQ ef s.H k).trans (by cases lk ef k <;> rfl)
theorem Yz {s : St} {dst : Option Nat} {d : D} {ef : QhD} {k : Nat} (h : lk ef k = none) : lk (s.eff dst d ef).H k = lk s.H k := Jn h
theorem Jo {s : St} {dst : Option Nat} {d : D} {ef : QhD} {k : Nat} {b : Box} (h : lk ef k = some b) : lk (s.eff dst d ef).H k = some b := XH h
theorem BS (h : s.same s') (dst : Option Nat) (d : D) (ef : QhD) : (s.eff dst d ef).same (s'.eff dst d ef) :=
 ⟨fun t => by rw [JR, JR, h.1], fun k => by rw [Tw, Tw, h.2]⟩
theorem BR (s : St) {x y : Option Nat} (hne : ∀ t, x = some t -> y ≠ some t) (d e : D) (ef eg : QhD) (hk : ∀ k b, lk ef k = some b -> lk eg k = none) : ((s.eff x d ef).eff y e eg).same ((s.eff y e eg).eff x d ef) := by
 constructor
 ·intro t
  simp only [JR]
  by_cases h1 : x = some t
  ·rw [if_pos h1, if_pos h1, if_neg (hne t h1)]
  ·rw [if_neg h1, if_neg h1]
 ·intro k
  cases h1 : lk ef k with
  | some b =>
   rw [Yz (hk k b h1), Jo h1, Jo h1]
  | none =>
   rw [Yz (s := s.eff y e eg) h1]
   cases h2 : lk eg k with
   | some b => rw [Jo h2, Jo h2]
   | none => rw [Yz h2, Yz h2, Yz h1]
end
end Go.Abs
namespace Go.Abs
open Go
section
variable {P : Program} {E : Env} {ops : Array Oper} {l' : List AOper}
def Qc7 (E : Env) (s : St) : Prop := ∃ g a w, Rel E g s a w
def FX (P : Program) (nt : Nat) (ops : Array Oper) (l' : List AOper) : Prop := ∀ (i : Nat) (o : Oper), ops[i]? = some o -> ∃ o', l'[i]? = some o' /\ Zw P nt ops o = some o'
theorem Zn {nt : Nat} : ∀ {l : List Oper} {l' : List AOper}, QO P nt ops l = some l' -> ∀ (i : Nat) (o : Oper), l[i]? = some o -> ∃ o', l'[i]? = some o' /\ Zw P nt ops o = some o'
 | [], l', _, i, o, h => by simp at h
 | x :: xs, l', hp, i, o, h => by
  simp only [QO] at hp
  split at hp
  ·rename_i o' r' e1 e2
   cases hp
   cases i with
   | zero => simp at h; subst h; exact ⟨o', by simp, e1⟩
   | succ i => simpa using Zn e2 i o (by simpa using h)
  ·cases hp
theorem Qaz {nt : Nat} {s : St} {o : Oper} {o' : AOper} {k : Nat} {b : Box} {g : Gh} {a : Act} {w : World} {K' : Act -> World -> Prop} {Q : Exit -> Act -> World -> Prop} (hnt : E.nt = nt) (r : Rel E g s a w) (hp : Zw P nt ops o = some o') (hy : stD o'.op s k b)
  (hK : ∀ g' a' w', Rel E g' (s.eff o.dst .undef [(k, b)]) a' w' -> K' a' w') : o.wp P a w K' Q := by
 obtain ⟨h1, h2, h3, h4⟩ := QT hp
 have ht : ∀ t, o.dst = some t -> t < E.nt := fun t ht => by rw [hnt]; exact h4 t ht
 obtain ⟨n, w', g', q1, q2, q3, q4⟩ := Nm r h1 (Pl hy)
 unfold Oper.wp
 rw [q1]
 have q2' : Rel E g' (({ s with H := (k, b) :: s.H } : St).withBox o.dst none) a w' := by cases o.dst <;> exact q2
 have q3' : Has (({ s with H := (k, b) :: s.H } : St).withBox o.dst none) .undef := by cases o.dst <;> exact q3
 have e : ({ s with H := (k, b) :: s.H } : St).apply o.dst .undef none = s.eff o.dst .undef [(k, b)] := by cases o.dst <;> rfl
 rcases q4 with ⟨rfl, _⟩ | ⟨u, rfl, q5⟩
 ·rw [Oper.upon_skip]
  exact hK g' _ w' (e ▸ q2.skip ht)
 ·rw [Oper.upon_value]
  exact hK g' _ w' (e ▸ q2'.apply q5 q3' ht)
def YT (P : Program) (o : AOper) (s : St) (d : D) (ef : QhD) : Prop :=
 ((∃ bx, Xf P o s d bx /\ ef = alL o.dst bx) \/ ∃ k b, stD o.op s k b /\ d = .undef /\ ef = [(k, b)]) \/ ∃ B p q, EF P B o.op o.dst s p q d ef
theorem QeN {B : Nat -> Prop} {o : AOper} {s : St} {p q : List Nat} {d : D} {ef : QhD} (h : YD P B o s p q d ef) : (gw s o.guard = some true /\ YT P o s d ef) \/ (gw s o.guard = some false /\ d = .undef /\ ef = []) := by
 rcases h with ⟨h1, ⟨h2, _⟩ | h2⟩ | ⟨h1, h2, h3, _⟩
 ·exact .inl ⟨h1, .inl h2⟩
 ·exact .inl ⟨h1, .inr ⟨B, p, q, h2⟩⟩
 ·exact .inr ⟨h1, h2, h3⟩
theorem T7 {nt : Nat} {s : St} {o : Oper} {o' : AOper} {d : D} {ef : QhD} {g : Gh} {a : Act} {w : World} {K' : Act -> World -> Prop} {Q : Exit -> Act -> World -> Prop} (hnt : E.nt = nt) (r : Rel E g s a w) (hp : Zw P nt ops o = some o') (hy : YT P o' s d ef)
  (hK : ∀ g' a' w', Rel E g' (s.eff o'.dst d ef) a' w' -> K' a' w') : o.wp P a w K' Q := by
 obtain ⟨h1, h2, h3, h4⟩ := QT hp
 have ht : ∀ t, o.dst = some t -> t < E.nt := fun t ht => by rw [hnt]; exact h4 t ht
 rcases hy with (⟨bx, hy, rfl⟩ | ⟨k, b, hy, rfl, rfl⟩) | ⟨B, p, q, he⟩
 ·refine HY r h1 h3 hy ht fun g' a' w' r' => hK g' a' w' ?_
  rw [h3, <- Kh]; exact r'
 ·refine Qaz hnt r hp hy fun g' a' w' r' => hK g' a' w' ?_
  rw [h3]; exact r'
 ·rw [h3] at he hK
  exact Tk r h1 he ht hK
theorem Mz {nt : Nat} {B : Nat -> Prop} {s : St} {o : Oper} {o' : AOper} {p q : List Nat} {d : D} {ef : QhD} (hnt : E.nt = nt) (h : Qc7 E s) (hp : Zw P nt ops o = some o') (hy : YD P B o' s p q d ef) : Qc7 E (s.eff o'.dst d ef) := by
 obtain ⟨g, a, w, r⟩ := h
 obtain ⟨h1, h2, h3, h4⟩ := QT hp
 have ht : ∀ t, o.dst = some t -> t < E.nt := fun t ht => by rw [hnt]; exact h4 t ht
 rcases QeN hy with ⟨_, hy⟩ | ⟨_, rfl, rfl⟩
 ·have hw := T7 (P := P) (K' := fun a' w' => ∃ g', Rel E g' (s.eff o'.dst d ef) a' w') (Q := fun _ _ _ => False) hnt r hp hy fun g' a' w' r' => ⟨g', r'⟩
  unfold Oper.wp at hw
  generalize (execOp a.eval o).run P w = res at hw
  cases res with
  | ok n w' =>
   cases n <;> simp only [Oper.upon] at hw
   case value v => obtain ⟨g', r'⟩ := hw; exact ⟨g', _, _, r'⟩
   case skip => obtain ⟨g', r'⟩ := hw; exact ⟨g', _, _, r'⟩
   case defer d => obtain ⟨g', r'⟩ := hw; exact ⟨g', _, _, r'⟩
   case enter f args =>
    obtain ⟨e, w'', fr, hR, _⟩ := hw []
    cases e with
    | returned v => obtain ⟨g', r'⟩ := hR; exact ⟨g', _, _, r'⟩
    | panicked c => exact hR.elim
    | outgrown => obtain ⟨_, _, hR⟩ := hR; exact hR.elim
   case row row args =>
    obtain ⟨v, w'', hR, _⟩ := hw default []
    obtain ⟨g', r'⟩ := hR; exact ⟨g', _, _, r'⟩
  | halt x w' => cases x <;> simp only [Oper.upon] at hw
 ·have := r.skip ht
  rw [h3, <- (show s.apply o.dst .undef none = s.eff o.dst .undef [] by rw [Kh]; cases o.dst <;> rfl)]
  exact ⟨g, _, w, this⟩
def Dep (ops : Array Oper) (j i : Nat) : Prop := ∃ oj, ops[j]? = some oj /\ ∃ e ∈ oj.after, Region.binds .any e = true /\ e.on = i
inductive Anc (ops : Array Oper) : Nat -> Nat -> Prop
 | one {j i : Nat} : Dep ops j i -> Anc ops j i
 | more {j m i : Nat} : Dep ops j m -> Anc ops m i -> Anc ops j i
def Bn (ops : Array Oper) (listed : Array Bool) : Prop := ∀ j i, listed.getD j false = true -> Dep ops j i -> listed.getD i false = true
theorem Ti {listed : Array Bool} (hd : Bn ops listed) : ∀ {j i : Nat}, Anc ops j i -> listed.getD j false = true -> listed.getD i false = true
 | _, _, .one h, hj => hd _ _ hj h
 | _, _, .more h h2, hj => Ti hd h2 (hd _ _ hj h)
theorem Gz {listed : Array Bool} (hd : Bn ops listed) {j i : Nat} (hr : j ∈ Region.ready .any ops listed) (ha : Anc ops j i) : listed.getD i false = true := by
 obtain ⟨_, oj, hoj, hall⟩ := mem_ready.1 hr
 have one : ∀ m, Dep ops j m -> listed.getD m false = true := fun m ⟨o, ho, e, he, hb, hon⟩ => by
  rw [hoj] at ho; cases ho
  rw [<- hon]; exact hall e he hb
 cases ha with
 | one h => exact one _ h
 | more h h2 => exact Ti hd h2 (one _ h)
theorem Gm {listed : Array Bool} {i j : Nat} (h : listed.getD j false = true) : (listed.setIfInBounds i true).getD j false = true := by
 rcases Qh2 j listed.size with h' | h'
 ·simp [h', Array.getElem_setIfInBounds] at h ⊢
  exact .inr h
 ·simp [Array.getElem?_eq_none h'] at h
theorem FI {listed : Array Bool} {j : Nat} (hd : Bn ops listed) (hr : j ∈ Region.ready .any ops listed) : Bn ops (listed.setIfInBounds j true) := fun m i hm h => by
 by_cases hmj : m = j
 ·subst hmj; exact Gm (Gz hd hr (.one h))
 ·refine Gm (hd m i ?_ h)
  rcases Qh2 m listed.size with h' | h'
  ·simp [h', Array.getElem_setIfInBounds, Ne.symm hmj] at hm ⊢; exact hm
  ·simp [Array.getElem?_eq_none, h'] at hm
theorem QaF {listed : Array Bool} {i : Nat} (h : listed.getD i true = false) : ¬ listed.getD i false = true := fun h' => by
 rcases Qh2 i listed.size with h2 | h2
 ·simp [h2] at h h'; rw [h] at h'; cases h'
 ·simp [Array.getElem?_eq_none h2] at h'
def F1 (P : Program) (B : Nat -> Prop) (ops : Array Oper) (l' : List AOper) (KK : St -> Prop) : Nat -> Array Bool -> List (Nat × Nat) -> List (Nat × Nat) -> St -> Prop
 | 0, listed, _, _, s => Region.ready .any ops listed = [] /\ KK s
 | fuel + 1, listed, R, W, s =>
  (Region.ready .any ops listed = [] -> KK s) /\
  ∀ i ∈ Region.ready .any ops listed, ∃ o' p q d ef, l'[i]? = some o' /\ YD P B o' s p q d ef /\ Apt (Anc ops i) (JH o'.op p) (Jb o'.op q) R W /\ F1 P B ops l' KK fuel (listed.setIfInBounds i true) (tag i (JH o'.op p) ++ R) (tag i (Jb o'.op q) ++ W) (s.eff o'.dst d ef)
variable {KK : St -> Prop} {B : Nat -> Prop}
theorem Apt.less {anc : Nat -> Prop} {p q : List Nat} {R W R' W' : List (Nat × Nat)} (h : Apt anc p q R W) (hR : ∀ k ∈ R', k ∈ R) (hW : ∀ k ∈ W', k ∈ W) : Apt anc p q R' W' :=
 ⟨fun k hk i hw => h.1 k hk i (hW _ hw), fun k hk => ⟨fun i hr => (h.2 k hk).1 i (hR _ hr), fun i hw => (h.2 k hk).2 i (hW _ hw)⟩⟩
theorem F2 (hKK : ∀ s s', s.same s' -> KK s -> KK s') : ∀ (fuel : Nat) (listed : Array Bool) (R W R' W' : List (Nat × Nat)) (s s' : St), s.same s' -> (∀ k ∈ R', k ∈ R) -> (∀ k ∈ W', k ∈ W) -> F1 P B ops l' KK fuel listed R W s -> F1 P B ops l' KK fuel listed R' W' s'
 | 0, listed, _, _, _, _, s, s', h, _, _, ha => ⟨ha.1, hKK s s' h ha.2⟩
 | fuel + 1, listed, R, W, R', W', s, s', h, hR, hW, ha => ⟨fun hr => hKK s s' h (ha.1 hr), fun i hi => by
   obtain ⟨o', p, q, d, ef, h1, h2, h3, h4⟩ := ha.2 i hi
   refine ⟨o', p, q, d, ef, h1, Qc3 h h2, h3.less hR hW, ?_⟩
   refine F2 hKK fuel _ _ _ _ _ _ _ (BS h _ _ _) ?_ ?_ h4
   ·intro k hk; rcases QhQ.1 hk with hk | hk
    ·exact List.mem_append_left _ hk
    ·exact QhU _ (hR k hk)
   ·intro k hk; rcases QhQ.1 hk with hk | hk
    ·exact List.mem_append_left _ hk
    ·exact QhU _ (hW k hk)⟩
theorem T6 {s : St} {o : AOper} {p q : List Nat} {d : D} {ef : QhD} {k : Nat} {b : Box} (hy : YD P B o s p q d ef) (hk : lk ef k = some b) : (o.dst = some k /\ lk s.H k = none) \/ (k ∈ q /\ (lk s.H k).isSome = true) := by
 rcases hy with ⟨hg, ⟨⟨bx, hy, he⟩ | ⟨k', b', h1, _, he⟩, hp, hq⟩ | he⟩ | ⟨_, _, h, _⟩
 ·left
  subst he
  cases hd : o.dst with
  | none => rw [hd] at hk; cases hk
  | some t =>
   cases bx with
   | none => rw [hd] at hk; cases hk
   | some b1 =>
    rw [hd] at hk
    simp only [alL, Qx] at hk
    split at hk
    rotate_left
    ·cases hk
    rename_i e
    subst e
    refine ⟨rfl, ?_⟩
    unfold Xf at hy
    split at hy
    ·obtain ⟨h, _⟩ := hy; cases h
    ·obtain ⟨h, _⟩ := hy; cases h
    ·generalize o.op = ao at hy
     rw [hd] at hy
     cases ao <;> simp only [SN] at hy
     case alloc e cs => obtain ⟨t', h1, h2, _⟩ := hy; cases h1; exact h2
     case box e x => obtain ⟨t', v, cells, h1, _, _, h2, _⟩ := hy; cases h1; exact h2
     case buildSlice esz et ps =>
      rcases hy with ⟨t', rows, h1, _, h2, _⟩ | ⟨_, _, _, _, h⟩
      ·cases h1; exact h2
      ·cases h
     case append esz et bytes x y => obtain ⟨t', rows, q, ys, pr, h1, _, _, _, h2, _⟩ := hy; cases h1; exact h2
     case makeSlice esz et bytes z x y => obtain ⟨t', k, j, n, h1, _, _, h2, _⟩ := hy; cases h1; exact h2
     case mov => cases hy.2
     case pick => obtain ⟨_, _, _, h⟩ := hy; cases h
     case build => obtain ⟨_, _, _, _, _, h⟩ := hy; cases h
     case load => obtain ⟨_, _, _, _, _, h⟩ := hy; cases h
     case nilCheck => obtain ⟨_, _, _, _, h⟩ := hy; cases h
     case bin => obtain ⟨_, _, _, _, _, h⟩ := hy; cases h
     case eqs => obtain ⟨_, _, _, _, _, _, _, h⟩ := hy; cases h
     case un => obtain ⟨_, _, _, h⟩ := hy; cases h
     case conv => obtain ⟨_, _, _, _, h⟩ := hy; cases h
     case convS => obtain ⟨_, _, h, _⟩ := hy; cases h
     case slice => rcases hy with ⟨_, _, _, _, _, _, _, _, _, _, _, _, h⟩ | ⟨_, h, _⟩ | ⟨_, h, _⟩ <;> cases h
     case capF => obtain ⟨_, _, _, h⟩ := hy; cases h
     case appz esz et bytes z x y => obtain ⟨t', k, n, h1, _, _, h2, _⟩ := hy; cases h1; exact h2
     case sliceStr => obtain ⟨_, _, _, _, _, _, _, _, _, h⟩ := hy; cases h
     case fieldAddr => obtain ⟨_, _, _, h⟩ := hy; cases h
     case field => obtain ⟨_, _, _, h⟩ := hy; cases h
     case indexAddr => obtain ⟨_, _, _, _, _, _, _, h⟩ := hy; cases h
     case indexStr => obtain ⟨_, _, _, _, _, _, _, _, _, h⟩ := hy; cases h
     case extract => obtain ⟨_, _, _, _, _, h⟩ := hy; cases h
     case len => obtain ⟨_, _, _, _, _, h⟩ := hy; cases h
     case lenStr => obtain ⟨_, _, _, h⟩ := hy; cases h
     case min => obtain ⟨_, _, _, _, _, _, _, h⟩ := hy; cases h
     case max => obtain ⟨_, _, _, _, _, _, _, h⟩ := hy; cases h
     case range x => obtain ⟨t', l, h1, _, h2, _⟩ := hy; cases h1; exact h2
     case indexArr => obtain ⟨_, _, _, _, _, _, _, _, h⟩ := hy; cases h
     case indexAgg => obtain ⟨_, _, _, _, _, _, _, _, h⟩ := hy; cases h
     case mkfn => obtain ⟨_, _, _, _, h⟩ := hy; cases h
     case mkbn => obtain ⟨_, _, _, _, h⟩ := hy; cases h
 ·right
  subst he
  rw [Qx] at hk
  split at hk
  rotate_left
  ·cases hk
  rename_i e
  subst e
  obtain ⟨h2, h3⟩ := QeA h1
  subst hq
  exact ⟨h2, h3⟩
 ·generalize o.op = op at he
  cases op <;> simp only [EF] at he
  case call f args =>
   rcases he with ⟨HF, k', b', hc, _, _, rfl, rfl⟩ | ⟨HF, k', t, b1, b', n', hd, hc, _, _, rfl, _, rfl⟩ | ⟨HF, t, b1, n, hd, hc, hn, _, _, rfl, _, rfl⟩
   ·right
    rw [Qx] at hk
    split at hk
    rotate_left
    ·cases hk
    rename_i e
    subst e
    obtain ⟨ds, _, c1, _, _, c4, _⟩ := hc
    obtain ⟨b2, hb2⟩ := QhL.1 (c4 k' b' (by rw [Qx, if_pos rfl])).1
    exact ⟨by simp, by rw [c1 k' b2 hb2]; rfl⟩
   ·obtain ⟨ds, _, m1, _, _, m4, _⟩ := hc
    rw [Qx] at hk
    split at hk
    ·rename_i e; subst e; exact .inl ⟨hd, m4⟩
    ·rw [Qx] at hk
     split at hk
     ·rename_i e; subst e; exact .inr ⟨by simp, by rw [m1]; rfl⟩
     ·cases hk
   ·rw [Qx] at hk
    split at hk
    ·rename_i e; subst e; exact .inl ⟨hd, hn⟩
    ·cases hk
  case append esz et bytes x y =>
   obtain ⟨t, k', n, b1, e, ys, pr, h0, _, _, h3, _, h5, _, _, _, _, _, _, _, _, _, rfl, _, rfl⟩ := he
   rw [Qx] at hk
   split at hk
   ·rename_i e; subst e; exact .inl ⟨h0, h3⟩
   ·rw [Qx] at hk
    split at hk
    ·rename_i e; subst e; exact .inr ⟨by simp, by rw [h5]; rfl⟩
    ·cases hk
 ·subst h; cases hk
theorem QaA {s : St} {o : AOper} {p q : List Nat} {d : D} {ef : QhD} {k : Nat} {b : Box} (hy : YD P B o s p q d ef) (hs : o.op.isSt = true) (hb : lk s.H k = some b) : ∃ b', lk (s.eff o.dst d ef).H k = some b' /\ b'.rows.length = b.rows.length /\ b'.esz = b.esz := by
 obtain ⟨dst, op, gd⟩ := o
 cases op <;> simp only [AOp.isSt, QhN] at hs
 rcases hy with ⟨_, ⟨⟨bx, h, _⟩ | ⟨k', b', h, _, rfl⟩, _⟩ | h⟩ | ⟨_, _, rfl, _⟩
 ·simp only [Xf, SN] at h
 ·simp only [stD] at h
  obtain ⟨i, off, b0, row, q', cells, _, h2, _, _, _, _, _, rfl⟩ := h
  by_cases hk : k' = k
  ·subst hk
   rw [h2] at hb; cases hb
   exact ⟨_, Jo (if_pos rfl), by simp, rfl⟩
  ·exact ⟨b, by rw [Yz (by rw [Qx, if_neg hk]; rfl)]; exact hb, rfl, rfl⟩
 ·exact h.elim
 ·exact ⟨b, by rw [Yz rfl]; exact hb, rfl, rfl⟩
theorem F3 {nt : Nat} {s : St} {oi oj : Oper} {oi' oj' : AOper} {pi qi pj : List Nat} {d : D} {ef : QhD} (hl : Qc7 E s) (hi : Zw P nt ops oi = some oi') (hj : Zw P nt ops oj = some oj') (hap : ∀ t, oi.dst = some t -> t ∉ oj.looksAt ops)
  (hne : ∀ t, oi.dst = some t -> oj.dst ≠ some t) (hy : YD P B oi' s pi qi d ef) :
  (∀ x ∈ oj'.op.opds, (s.eff oi'.dst d ef).ev x = s.ev x) /\ gw (s.eff oi'.dst d ef) oj'.guard = gw s oj'.guard /\ (∀ k ∈ pk oj'.op s, (lk s.H k).isSome = true) /\ (∀ x ∈ oj'.op.opds, ∀ d', s.ev x = some d' -> ∀ k ∈ d'.ids, (lk s.H k).isSome = true) /\
   ((oj'.op.isIx = true /\ oi'.op.isSt = true) \/ (∀ k ∈ pj, k ∉ qi) -> (∀ k ∈ pj, (lk s.H k).isSome = true) -> PB oj'.op oj'.dst pj s (s.eff oi'.dst d ef) /\ PB oj'.op oj'.dst pj (s.eff oi'.dst d ef) s) := by
 obtain ⟨i1, i2, i3, i4⟩ := QT hi
 obtain ⟨j1, j2, j3, j4⟩ := QT hj
 have hev : ∀ x ∈ oj'.op.opds, (s.eff oi'.dst d ef).ev x = s.ev x := by
  intro x hx
  have gcase : ∀ i, x = .s (900000 + i) -> (s.eff oi'.dst d ef).ev x = s.ev x := fun i e => by
   subst e
   simp only [St.ev, JR, i3]
   rw [if_neg]
   intro h
   have := Gx hi h
   omega
  rcases G9 j1 x hx with ⟨y, hy, hpy⟩ | ⟨i, e⟩
  case inr => exact gcase i e
  rcases Gw hpy with ⟨t, rfl, rfl⟩ | ⟨d', rfl, _⟩ | ⟨i, e⟩
  case inr.inr => exact gcase i e
  ·simp only [St.ev, JR, i3]
   rw [if_neg]
   intro h
   exact hap t h (List.mem_append_left _ (List.mem_filterMap.2 ⟨.tmp t, by simpa using hy, rfl⟩))
  ·rfl
 have hid : ∀ x ∈ oj'.op.opds, ∀ d', s.ev x = some d' -> ∀ k ∈ d'.ids, (lk s.H k).isSome = true := by
  intro x hx d' hd' k hk
  obtain ⟨g, a, w, r⟩ := hl
  rcases G9 j1 x hx with ⟨y, hy, hpy⟩ | ⟨i, rfl⟩
  ·exact (Zi r hpy hd').2 k hk
  ·exact r.wfF _ d' hd' k hk
 have hpid : ∀ k ∈ pk oj'.op s, (lk s.H k).isSome = true := by
  intro k hk
  obtain ⟨x, hx, hk⟩ := QhM.1 hk
  have hsub : x ∈ oj'.op.opds := by
   generalize oj'.op = op at hx ⊢
   cases op <;> simp only [AOp.pkOpds, AOp.opds] at hx ⊢ <;> first | exact hx | (cases hx; done) | (simp at hx ⊢; exact .inl hx)
  cases he : s.ev x with
  | none => rw [he] at hk; cases hk
  | some d' => rw [he] at hk; exact hid x hsub d' he k hk
 have hgw : gw (s.eff oi'.dst d ef) oj'.guard = gw s oj'.guard := by
  cases hg : oj'.guard with
  | none => rfl
  | some p =>
   obtain ⟨t, b⟩ := p
   simp only [gw, JR, i3]
   rw [if_neg]
   intro h
   refine hap t h ?_
   unfold Oper.looksAt
   refine QhU _ ?_
   rw [hg] at j2
   cases hog : oj.guard with
   | none => rw [hog] at j2; simp [ZE] at j2
   | some q =>
    obtain ⟨j, b'⟩ := q
    rw [hog] at j2
    simp only [ZE] at j2
    split at j2
    ·rename_i t' ht'
     cases j2
     simp [ht']
    ·cases j2
 refine ⟨hev, hgw, hpid, hid, fun hpk hin => ?_⟩
 have hkeep : (∀ k ∈ pj, k ∉ qi) -> ∀ k ∈ pj, lk (s.eff oi'.dst d ef).H k = lk s.H k := by
  intro hpk k hk
  cases he : lk ef k with
  | none => exact Yz he
  | some b =>
   rcases T6 hy he with ⟨_, h2⟩ | ⟨h1, _⟩
   ·have := hin k hk; rw [h2] at this; cases this
   ·exact absurd h1 (hpk k hk)
 have hcont : oj'.op.isIx = false -> ∀ k ∈ pj, lk (s.eff oi'.dst d ef).H k = lk s.H k := fun hix => by
  rcases hpk with ⟨h, _⟩ | h
  ·rw [hix] at h; cases h
  ·exact hkeep h
 have hshape : ∀ k ∈ pj, ∀ b, lk s.H k = some b -> ∃ b', lk (s.eff oi'.dst d ef).H k = some b' /\ b'.rows.length = b.rows.length /\ b'.esz = b.esz := by
  intro k hk b hb
  rcases hpk with ⟨_, h⟩ | h
  ·exact QaA hy h hb
  ·exact ⟨b, by rw [hkeep h k hk]; exact hb, rfl, rfl⟩
 have hshape' : ∀ k ∈ pj, ∀ b, lk (s.eff oi'.dst d ef).H k = some b -> ∃ b', lk s.H k = some b' /\ b'.rows.length = b.rows.length /\ b'.esz = b.esz := by
  intro k hk b hb
  obtain ⟨b1, hb1⟩ := QhL.1 (hin k hk)
  obtain ⟨b2, q1, q2, q3⟩ := hshape k hk b1 hb1
  rw [hb] at q1; cases q1
  exact ⟨b1, hb1, q2.symm, q3.symm⟩
 have hsome : ∀ k, (lk s.H k).isSome = true -> (lk (s.eff oi'.dst d ef).H k).isSome = true := by
  intro k hk
  cases he : lk ef k with
  | none => rw [Yz he]; exact hk
  | some b => rw [Jo he]; rfl
 refine ⟨⟨hev, hcont, fun _ => hshape, fun _ _ _ _ k _ hk => hsome k hk, fun t ht hn => ?_⟩, ⟨fun x hx => (hev x hx).symm, fun hix k hk => (hcont hix k hk).symm, fun _ => hshape', fun x hx d' hd' k hk _ => hid x hx d' (by rw [<- hev x hx]; exact hd') k hk, fun t ht hn => ?_⟩⟩
 ·cases he : lk ef t with
  | none => rw [Yz he]; exact hn
  | some b =>
   rcases T6 hy he with ⟨h1, _⟩ | ⟨_, h2⟩
   ·rw [i3] at h1; rw [j3] at ht; exact absurd ht (hne t h1)
   ·rw [hn] at h2; cases h2
 ·cases he : lk ef t with
  | none => rw [Yz he] at hn; exact hn
  | some b => rw [Jo he] at hn; cases hn
theorem Qfj {s : St} {op : AOp} {dst : Option Nat} {p q : List Nat} {d : D} {ef : QhD} (he : EF P B op dst s p q d ef) (hid : ∀ x ∈ op.opds, ∀ d', s.ev x = some d' -> ∀ k ∈ d'.ids, (lk s.H k).isSome = true) (hB : ∀ k, B k -> (lk s.H k).isSome = true) : ∀ k ∈ p, (lk s.H k).isSome = true := by
 cases op <;> simp only [EF] at he
 case call f args =>
  rcases he with ⟨HF, k, b, _, h, rfl, _⟩ | ⟨HF, k, t, b, b', n', _, hc, h, rfl, _⟩ | ⟨HF, t, b, n, _, _, _, h, rfl, _⟩
  ·exact fun j hj => hB j (h j hj)
  ·intro j hj
   rcases QhH.1 hj with rfl | hj
   ·obtain ⟨_, _, m1, _⟩ := hc; rw [m1]; rfl
   ·exact hB j (h j hj)
  ·exact fun j hj => hB j (h j hj)
 case append esz et bytes x y =>
  obtain ⟨t, k, n, b, e, ys, pr, _, _, _, _, _, h5, _, _, _, h9, _, _, _, _, rfl, _⟩ := he
  intro j hj
  rcases QhH.1 hj with rfl | hj
  ·rw [h5]; rfl
  ·exact hid y Wl e h9 j hj
theorem Tl {s : St} {dst : Option Nat} {d : D} {ef : QhD} {k : Nat} (hk : (lk s.H k).isSome = true) : (lk (s.eff dst d ef).H k).isSome = true := by
 cases he : lk ef k with
 | none => rw [Yz he]; exact hk
 | some b => rw [Jo he]; rfl
theorem QfI {s s' : St} {o : AOper} {p q : List Nat} {d : D} {ef : QhD} (hy : YD P B o s' p q d ef) (hev : ∀ x ∈ o.op.opds, s'.ev x = s.ev x) (hpk : ∀ k ∈ pk o.op s, (lk s.H k).isSome = true) (hid : ∀ x ∈ o.op.opds, ∀ d', s.ev x = some d' -> ∀ k ∈ d'.ids, (lk s.H k).isSome = true) (hB : ∀ k, B k -> (lk s.H k).isSome = true) : ∀ k ∈ p, (lk s.H k).isSome = true := by
 rcases hy with ⟨_, ⟨_, rfl, _⟩ | he⟩ | ⟨_, _, _, rfl, _⟩
 ·rw [(Qep hev).1]; exact hpk
 ·generalize o.op = op at he hev hid
  cases op <;> simp only [EF] at he
  case call f args =>
   rcases he with ⟨HF, k, b, _, h, rfl, _⟩ | ⟨HF, k, t, b, b', n', _, hc, h, rfl, _⟩ | ⟨HF, t, b, n, _, _, _, h, rfl, _⟩
   ·exact fun j hj => hB j (h j hj)
   rotate_left
   ·exact fun j hj => hB j (h j hj)
   ·intro j hj
    rcases QhH.1 hj with rfl | hj
    ·by_cases hBj : B j
     ·exact hB j hBj
     ·obtain ⟨ds, h1, m1, _, _, _, _, _, _, _, ⟨x, hx, hxk⟩, _⟩ := hc
      obtain ⟨y, hy, he⟩ := KU h1 x hx
      rw [hev y hy] at he
      exact hid y hy x he _ hxk
    ·exact hB j (h j hj)
  case append esz et bytes x y =>
   obtain ⟨t, k, n, b, e, ys, pr, _, h1, _, _, _, h5, _, _, _, h9, _, _, _, _, rfl, _⟩ := he
   intro j hj
   rw [hev x Wl] at h1
   rw [hev y Wl] at h9
   rcases QhH.1 hj with rfl | hj
   ·exact hid x Wl _ h1 j Wi
   ·exact hid y Wl e h9 j hj
 ·intro k hk; cases hk
theorem QfH {s : St} {o : AOper} {p q : List Nat} {d : D} {ef : QhD} (hy : YD P B o s p q d ef) (hpk : ∀ k ∈ pk o.op s, (lk s.H k).isSome = true) (hid : ∀ x ∈ o.op.opds, ∀ d', s.ev x = some d' -> ∀ k ∈ d'.ids, (lk s.H k).isSome = true) (hB : ∀ k, B k -> (lk s.H k).isSome = true) : ∀ k ∈ p, (lk s.H k).isSome = true := by
 rcases hy with ⟨_, ⟨_, rfl, _⟩ | he⟩ | ⟨_, _, _, rfl, _⟩
 ·exact hpk
 ·exact Qfj he hid hB
 ·intro k hk; cases hk
theorem QaO {nt : Nat} {s : St} {oi oj : Oper} {oi' oj' : AOper} {i j : Nat} {pi qi pj qj : List Nat} {d e : D} {ef eg : QhD} {R W : List (Nat × Nat)} (hl : Qc7 E s) (hB : ∀ k, B k -> (lk s.H k).isSome = true) (hi : Zw P nt ops oi = some oi') (hj : Zw P nt ops oj = some oj') (hap : oi.apart ops oj = true)
  (hji : ¬ Anc ops j i)
  (hyi : YD P B oi' s pi qi d ef) (hai : Apt (Anc ops i) (JH oi'.op pi) (Jb oi'.op qi) R W) (hyj : YD P B oj' (s.eff oi'.dst d ef) pj qj e eg) (haj : Apt (Anc ops j) (JH oj'.op pj) (Jb oj'.op qj) (tag i (JH oi'.op pi) ++ R) (tag i (Jb oi'.op qi) ++ W)) :
  YD P B oj' s pj qj e eg /\ Apt (Anc ops j) (JH oj'.op pj) (Jb oj'.op qj) R W /\ YD P B oi' (s.eff oj'.dst e eg) pi qi d ef /\ Apt (Anc ops i) (JH oi'.op pi) (Jb oi'.op qi) (tag j (JH oj'.op pj) ++ R) (tag j (Jb oj'.op qj) ++ W) /\ (∀ k b, lk ef k = some b -> lk eg k = none) := by
 obtain ⟨a1, a2, a3⟩ := Oper.apart_spec hap
 obtain ⟨_, _, i3, _⟩ := QT hi
 obtain ⟨_, _, j3, _⟩ := QT hj
 have x1 : ∀ k ∈ JH oj'.op pj, k ∉ Jb oi'.op qi := fun k hk hq => hji (haj.1 k hk i (List.mem_append_left _ (HT.2 ⟨hq, rfl⟩)))
 have x2 : ∀ k ∈ Jb oj'.op qj, k ∉ JH oi'.op pi := fun k hk hq => hji ((haj.2 k hk).1 i (List.mem_append_left _ (HT.2 ⟨hq, rfl⟩)))
 have x3' : ∀ k ∈ Jb oj'.op qj, k ∉ Jb oi'.op qi := fun k hk hq => hji ((haj.2 k hk).2 i (List.mem_append_left _ (HT.2 ⟨hq, rfl⟩)))
 have x3 := LJ x3'
 obtain ⟨c1, c2, c3, c3', c4⟩ := F3 (pj := pj) hl hi hj a1 a2 hyi
 have hinj := QfI hyj c1 c3 c3' hB
 obtain ⟨c5, c6⟩ := c4 (RO x1) hinj
 have hyj' : YD P B oj' s pj qj e eg := Px (fun _ => c6) c2.symm hyj
 obtain ⟨d1, d2, d3, d3', d4⟩ := F3 (pj := pi) hl hj hi a3 (fun t ht h => a2 t h ht) hyj'
 have hini := QfH hyi d3 d3' hB
 obtain ⟨d5, d6⟩ := d4 (RO fun k hk hq => x2 k hq hk) hini
 refine ⟨hyj', haj.less (fun k hk => QhU _ hk) (fun k hk => QhU _ hk), Px (fun _ => d5) d2 hyi, ⟨fun k hk m hw => ?_, fun k hk => ⟨fun m hr => ?_, fun m hw => ?_⟩⟩, ?_⟩
 ·rcases QhQ.1 hw with hw | hw
  ·exact absurd hk (x2 k (HT.1 hw).1)
  ·exact hai.1 k hk m hw
 ·rcases QhQ.1 hr with hr | hr
  ·exact absurd hk (x1 k (HT.1 hr).1)
  ·exact (hai.2 k hk).1 m hr
 ·rcases QhQ.1 hw with hw | hw
  ·exact absurd hk (x3' k (HT.1 hw).1)
  ·exact (hai.2 k hk).2 m hw
 ·intro k b hk
  cases hkj : lk eg k with
  | none => rfl
  | some b' =>
  exfalso
  rcases T6 hyi hk with ⟨h1, h2⟩ | ⟨h1, h2⟩ <;> rcases T6 hyj' hkj with ⟨h3, h4⟩ | ⟨h3, h4⟩
  ·rw [i3] at h1; rw [j3] at h3; exact a2 k h1 h3
  ·rw [h2] at h4; cases h4
  ·rw [h4] at h2; cases h2
  ·exact x3 k h3 h1
theorem PG {nt : Nat} (hnt : E.nt = nt) (hKK : ∀ s s', s.same s' -> KK s -> KK s') (hpre : FX P nt ops l') {i : Nat} {oi : Oper} {oi' : AOper} (hi : ops[i]? = some oi) (hi' : l'[i]? = some oi') :
  ∀ (fuel : Nat) (listed : Array Bool) (R W : List (Nat × Nat)) (s : St) (p q : List Nat) (d : D) (ef : QhD), Qc7 E s -> (∀ k, B k -> (lk s.H k).isSome = true) -> Bn ops listed ->
   (∀ j oj, ops[j]? = some oj -> j ≠ i -> listed.getD j true = false -> (∀ e ∈ oj.after, Region.binds .any e = true -> e.on ≠ i) -> oi.apart ops oj = true) ->
   i ∈ Region.ready .any ops listed -> YD P B oi' s p q d ef -> Apt (Anc ops i) (JH oi'.op p) (Jb oi'.op q) R W -> F1 P B ops l' KK fuel (listed.setIfInBounds i true) (tag i (JH oi'.op p) ++ R) (tag i (Jb oi'.op q) ++ W) (s.eff oi'.dst d ef) -> F1 P B ops l' KK (fuel + 1) listed R W s := by
 have hpi : Zw P nt ops oi = some oi' := by
  obtain ⟨o', h1, h2⟩ := hpre i oi hi
  rw [hi'] at h1; cases h1; exact h2
 intro fuel
 induction fuel with
 | zero =>
  intro listed R W s p q d ef _ _ _ _ hr hy ha H
  refine ⟨fun h => (by rw [h] at hr; cases hr), fun j hj => ?_⟩
  by_cases hji : j = i
  ·subst hji; exact ⟨oi', p, q, d, ef, hi', hy, ha, H⟩
  ·have := ready_mono hj hji
   rw [H.1] at this
   cases this
 | succ fuel ih =>
  intro listed R W s p q d ef hl hB hdn hfree hr hy ha H
  refine ⟨fun h => (by rw [h] at hr; cases hr), fun j hj => ?_⟩
  by_cases hji : j = i
  ·subst hji; exact ⟨oi', p, q, d, ef, hi', hy, ha, H⟩
  ·obtain ⟨oj', pj, qj, e, eg, hj', hyj, haj, hrest⟩ := H.2 j (ready_mono hj hji)
   obtain ⟨hjun, oj, hoj, hall⟩ := mem_ready.1 hj
   have hpj : Zw P nt ops oj = some oj' := by
    obtain ⟨o', h1, h2⟩ := hpre j oj hoj
    rw [hj'] at h1; cases h1; exact h2
   have hnot : ∀ e ∈ oj.after, Region.binds .any e = true -> e.on ≠ i := fun e he hb heq => by
    have h1 := hall e he hb
    have h0 := (mem_ready.1 hr).1
    rw [heq] at h1
    rcases Qh2 i listed.size with h' | h'
    ·simp [h'] at h0 h1; rw [h0] at h1; cases h1
    ·simp [Array.getElem?_eq_none h'] at h1
   have hap := hfree j oj hoj hji hjun hnot
   have n1 : ¬ Anc ops j i := fun h => QaF (mem_ready.1 hr).1 (Gz hdn hj h)
   obtain ⟨k1, k2, k3, k4, k5⟩ := QaO hl hB hpi hpj hap n1 hy ha hyj haj
   have hfree' : ∀ k ok, ops[k]? = some ok -> k ≠ i -> (listed.setIfInBounds j true).getD k true = false ->
     (∀ e ∈ ok.after, Region.binds .any e = true -> e.on ≠ i) -> oi.apart ops ok = true := fun k ok hk hki hun hno => by
    refine hfree k ok hk hki ?_ hno
    by_cases hjk : j = k
    ·subst hjk; exact hjun
    ·rw [getD_set_ne true hjk] at hun; exact hun
   refine ⟨oj', pj, qj, e, eg, hj', k1, k2, ih (listed.setIfInBounds j true) _ _ (s.eff oj'.dst e eg) p q d ef (Mz hnt hl hpj k1) (fun k hk => Tl (hB k hk)) (FI hdn hj) hfree' (ready_mono hr (Ne.symm hji)) k3 k4 ?_⟩
   rw [Array.setIfInBounds_comm _ _ hji]
   have hne : ∀ t, oi'.dst = some t -> oj'.dst ≠ some t := fun t h => by
    obtain ⟨_, a2, _⟩ := Oper.apart_spec hap
    rw [(QT hpi).2.2.1] at h
    rw [(QT hpj).2.2.1]
    exact a2 t h
   refine F2 hKK fuel _ _ _ _ _ _ _ (BR s hne d e ef eg k5) ?_ ?_ hrest
   ·intro k hk
    simp only [QhQ] at hk ⊢
    rcases hk with h | h | h
    ·exact .inr (.inl h)
    ·exact .inl h
    ·exact .inr (.inr h)
   ·intro k hk
    simp only [QhQ] at hk ⊢
    rcases hk with h | h | h
    ·exact .inr (.inl h)
    ·exact .inl h
    ·exact .inr (.inr h)
theorem GQ {nt : Nat} (hnt : E.nt = nt) (hKK : ∀ s s', s.same s' -> KK s -> KK s') (hpre : FX P nt ops l') : ∀ (l : List AOper) (k : Nat) (listed : Array Bool) (R W : List (Nat × Nat)) (s : St), (∀ j, l[j]? = l'[k + j]?) -> Qc7 E s -> (∀ k, B k -> (lk s.H k).isSome = true) -> Bn ops listed ->
  Region.lexFrom .any ops l.length k listed = true -> J8 P B (Anc ops) l k R W KK s -> F1 P B ops l' KK l.length listed R W s
 | [], _, _, _, _, _, _, _, _, _, hB, h => ⟨by simpa [Region.lexFrom] using hB, h⟩
 | o' :: l, k, listed, R, W, s, hl, hlive, hBs, hdn, hB, h => by
  have h0 : l'[k]? = some o' := by simpa using (hl 0).symm
  simp only [List.length_cons, Region.lexFrom, QhJ] at hB
  obtain ⟨⟨hr, hf⟩, hB'⟩ := hB
  have hr' : k ∈ Region.ready .any ops listed := by simpa using hr
  obtain ⟨_, o, ho, _⟩ := mem_ready.1 hr'
  obtain ⟨p, q, d, ef, hy, ha, hK⟩ := h
  have hpo : Zw P nt ops o = some o' := by
   obtain ⟨o2, h1, h2⟩ := hpre k o ho
   rw [h0] at h1; cases h1; exact h2
  exact PG hnt hKK hpre ho h0 l.length listed R W s p q d ef hlive hBs hdn (Region.free_spec ho hf) hr' hy ha
   (GQ hnt hKK hpre l (k + 1) _ _ _ _ (fun j => by have := hl (j + 1); simpa [Nat.add_assoc, Nat.add_comm 1 j] using this) (Mz hnt hlive hpo hy) (fun k hk => Tl (hBs k hk)) (FI hdn hr') hB' hK)
theorem Je {nt : Nat} {Q : Exit -> Act -> World -> Prop} (hnt : E.nt = nt) (hpre : FX P nt ops l') (hdst : ∀ (j : Nat) (o' : Oper), ops[j]? = some o' -> ∀ t, o'.dst = some t -> t < E.nt) (hQ : ∀ s g a w, KK s -> Rel E g s a w -> Q .normal a w) :
  ∀ (fuel : Nat) (listed : Array Bool) (R W : List (Nat × Nat)) (s : St) (g : Gh) (a : Act) (w : World), Rel E g s a w -> F1 P B ops l' KK fuel listed R W s -> wpAny P .any ops Q fuel listed a w
 | 0, _, _, _, s, g, a, w, r, h => ⟨h.1, hQ s g a w h.2 r⟩
 | fuel + 1, listed, R, W, s, g, a, w, r, h => ⟨fun hr => hQ s g a w (h.1 hr) r, fun i hi => by
   obtain ⟨o', p, q, d, ef, h1, h2, _, h3⟩ := h.2 i hi
   obtain ⟨_, o, ho, _⟩ := mem_ready.1 hi
   have hpo : Zw P nt ops o = some o' := by
    obtain ⟨o2, q1, q2⟩ := hpre i o ho
    rw [h1] at q1; cases q1; exact q2
   obtain ⟨p1, p2, p3, p4⟩ := QT hpo
   have ht : ∀ t, o.dst = some t -> t < E.nt := fun t ht => by rw [hnt]; exact p4 t ht
   unfold wpOp
   rw [ho]
   simp only
   rcases QeN h2 with ⟨hg, hy⟩ | ⟨hg, rfl, rfl⟩
   ·rw [Xb r p2 hdst true hg]
    simp only [if_true]
    exact .inl (T7 hnt r hpo hy fun g' a' w' r' => Je hnt hpre hdst hQ fuel _ _ _ _ g' a' w' r' h3)
   ·rw [Xb r p2 hdst false hg]
    simp only [QhN, if_false]
    refine Je hnt hpre hdst hQ fuel _ _ _ _ g _ w ?_ h3
    have := r.skip ht
    rw [p3, <- (show s.apply o.dst .undef none = s.eff o.dst .undef [] by rw [Kh]; cases o.dst <;> rfl)]
    exact this⟩
theorem GA {nt : Nat} {Q : Exit -> Act -> World -> Prop} {K : St -> Prop} {s : St} {g : Gh} {a : Act} {w : World} (hB : Region.lexB .any ops = true) (hnt : E.nt = nt) (hp : QO P nt ops ops.toList = some l')
  (hdst : ∀ (j : Nat) (o' : Oper), ops[j]? = some o' -> ∀ t, o'.dst = some t -> t < E.nt) (r : Rel E g s a w) (hBs : ∀ k, B k -> (lk s.H k).isSome = true) (h : J8 P B (Anc ops) l' 0 [] [] K s) (hK : ∀ s' g' a' w', Rel E g' s' a' w' -> K s' -> Q .normal a' w') : wpAny P .any ops Q ops.size (Array.replicate ops.size false) a { w with drawn := w.drawn + 1 } := by
 have hlen : ∀ {l : List Oper} {l' : List AOper}, QO P nt ops l = some l' -> l'.length = l.length := by
  intro l
  induction l with
  | nil => intro l' h; simp [QO] at h; subst h; rfl
  | cons x xs ih =>
   intro l' h
   simp only [QO] at h
   split at h
   ·rename_i e2; cases h; simp [ih e2]
   ·cases h
 have hpre : FX P nt ops l' := fun i o ho => Zn hp i o (by rw [Array.getElem?_toList]; exact ho)
 simp only [Region.lexB, QhJ] at hB
 have hmono : J8 P B (Anc ops) l' 0 [] [] (fun s => ∃ s', s.same s' /\ K s') s := by
  have : ∀ (l : List AOper) (j : Nat) (R W : List (Nat × Nat)) (s : St), J8 P B (Anc ops) l j R W K s -> J8 P B (Anc ops) l j R W (fun s => ∃ s', s.same s' /\ K s') s := by
   intro l
   induction l with
   | nil => intro j R W s h; exact ⟨s, ⟨fun _ => rfl, fun _ => rfl⟩, h⟩
   | cons o l ih => intro j R W s ⟨p, q, d, bx, h1, h2, h3⟩; exact ⟨p, q, d, bx, h1, h2, ih _ _ _ _ h3⟩
  exact this l' 0 [] [] s h
 have hsize : l'.length = ops.size := by rw [hlen hp]; simp
 have hdn : Bn ops (Array.replicate ops.size false) := fun j i hj _ => by
  rcases Qh2 j ops.size with h' | h'
  ·simp [h'] at hj
  ·simp [h'] at hj
 have := GQ (KK := fun s => ∃ s', s.same s' /\ K s') hnt (fun s s' hs ⟨s2, h1, h2⟩ => ⟨s2, ⟨fun t => (hs.1 t).symm.trans (h1.1 t), fun k => (hs.2 k).symm.trans (h1.2 k)⟩, h2⟩) hpre l' 0 (Array.replicate ops.size false) [] [] s Wc ⟨g, a, w, r⟩ hBs hdn
  (by rw [hsize]; exact hB.2) hmono
 rw [hsize] at this
 exact Je hnt hpre hdst (fun s g a w ⟨s', h1, h2⟩ r => hK s' g a w (r.same h1) h2) ops.size _ _ _ s g a _ (r.heap rfl) this
end
end Go.Abs
namespace Go.Abs
open Go
/-! ### Frames of rounds of a loop over a function -/
def fen : Option Nat -> Fence
 | none => Fence.wide
 | some l => Fence.wide.inRound l
theorem Dy (rd : Option Nat) (f : FuncId) : (fen rd).fn f := by cases rd <;> trivial
theorem P2 (rd : Option Nat) : (fen rd).depth = none := by cases rd <;> rfl
theorem Dz (rd : Option Nat) : (fen rd).round = rd := by cases rd <;> rfl
section
variable {P : Program} {n : Nat} {rd : Option Nat} {a : Act} {w : World} {K : Act -> World -> Prop} {Q : Exit -> Act -> World -> Prop}
theorem Dx {f : FuncId} {args : Array Value} {R : Ending -> World -> Prop} (h : Calls P f args w R) : CallsIn (fen rd) n P f args w R := by
 cases rd
 ·exact callsIn_wide.2 h
 ·exact CallsIn.inRound _ (callsIn_wide.2 h)
theorem BU {row : String} {args : Array Value} {R : Value -> World -> Prop} (h : Rows P row args w R) : RowsIn (fen rd) n P row args w R := fun c cs _ => by
 obtain ⟨v, w', r, s⟩ := h c cs
 refine ⟨v, w', r, ?_⟩
 cases rd
 ·exact stepsIn_wide.2 s
 ·exact stepsIn_wide.2 s
theorem Cq {o : Oper} (hd : ∀ c, o.op ≠ .defer c) (h : o.wp P a w K Q) : o.wpIn (fen rd) n P a w K Q := by
 refine ⟨fun f _ => Dy rd f, ?_⟩
 have e : o.semAt (fen rd).round a.eval = execOp a.eval o := by
  rw [Dz]
  cases rd
  ·rfl
  ·exact Oper.semAt_some _ _ _ hd
 rw [e]
 unfold Oper.wp at h
 generalize (execOp a.eval o).run P w = res at h ⊢
 cases res with
 | ok x w' =>
  cases x <;> simp only [Oper.upon, Oper.uponIn] at h ⊢ <;> first
   | exact h
   | exact h.elim
   | exact ⟨(fun hh => by rw [P2] at hh; cases hh), Dx h⟩
   | exact ⟨(fun hh => by rw [P2] at hh; cases hh), BU h⟩
 | halt x w' => cases x <;> simp only [Oper.upon, Oper.uponIn] at h ⊢ <;> first | exact h | exact h.elim
theorem Ry {op : Op} {ao : AOp} (hp : ZY P op = some ao) : ∀ c, op ≠ .defer c := fun c e => by
 subst e; simp [ZY] at hp
variable {ops : Array Oper}
theorem Hc (hL : ¬ LetsOut Q) (hd : ∀ (j : Nat) (o : Oper), ops[j]? = some o -> ∀ c, o.op ≠ .defer c) : ∀ (l : List Nat) (a : Act) (w : World), wpOps P ops Q l a w -> wpOpsIn (fen rd) n P ops Q l a w
 | [], _, _, h => h
 | i :: rest, a, w, h => by
  simp only [wpOps, wpOpsIn] at h ⊢
  cases ho : ops[i]? with
  | none => rw [ho] at h; exact Hc hL hd rest a w h
  | some o =>
   rw [ho] at h
   simp only at h ⊢
   split
   ·rename_i hw
    rw [if_pos hw] at h
    rcases h with h | ⟨_, h⟩
    ·exact Cq (hd i o ho) (Oper.wp_mono (fun a w h => Hc hL hd rest a w h) h)
    ·exact absurd h hL
   ·rename_i hw
    rw [if_neg hw] at h
    exact ⟨fun f _ => Dy rd f, Hc hL hd rest _ w h⟩
theorem GO (hL : ¬ LetsOut Q) (hd : ∀ (j : Nat) (o : Oper), ops[j]? = some o -> ∀ c, o.op ≠ .defer c) : ∀ (fuel : Nat) (listed : Array Bool) (a : Act) (w : World), wpAny P .any ops Q fuel listed a w -> wpAnyIn (fen rd) n P .any ops Q fuel listed a w
 | 0, _, _, _, h => h
 | fuel + 1, listed, a, w, h => by
  refine ⟨h.1, fun i hi => ?_⟩
  have := h.2 i hi
  unfold wpOp at this
  unfold wpOpIn
  cases ho : ops[i]? with
  | none => rw [ho] at this; exact GO hL hd fuel _ a w this
  | some o =>
   rw [ho] at this
   simp only at this ⊢
   split
   ·rename_i hw
    rw [if_pos hw] at this
    rcases this with h | ⟨_, h⟩
    ·exact Cq (hd i o ho) (Oper.wp_mono (fun a w h => GO hL hd fuel _ a w h) h)
    ·exact absurd h hL
   ·rename_i hw
    rw [if_neg hw] at this
    exact ⟨fun f _ => Dy rd f, GO hL hd fuel _ _ w this⟩
theorem LL {F : Fence} {c : Code} (h : c.wpIn F n P (Exit.noGoto Q) a w) : (Code.scope c).wpIn F n P Q a w := by
 intro b k cs hro hb hr
 have h0 : (lone (b.atR a (.code (.scope c) :: k)) cs w).fenced P F := fenced_calm hb hr rfl
 have s0 : step P (lone (b.atR a (.code (.scope c) :: k)) cs w) = .next (lone (b.atR a (.code c :: .inScope c :: k)) cs w) := step_lone_go (by simp [stepG, stepG.exec, Frame.atR])
 obtain ⟨e, a₁, w₁, hq, harr⟩ := h b (.inScope c :: k) cs hro hb hr
 cases e with
 | normal =>
  have s1 : step P (lone (b.atR a₁ (.inScope c :: k)) cs w₁) = .next (lone (b.atR a₁ k) cs w₁) := step_lone_go (by simp [stepG, stepG.exec, Frame.atR])
  exact ⟨.normal, a₁, w₁, hq, .head h0 s0 (StepsIn.trans harr (.one (fenced_calm hb hr rfl) s1))⟩
 | exit id =>
  have hx : exitTo id (.inScope c :: k) = exitTo id k := by simp [exitTo]
  exact ⟨.exit id, a₁, w₁, hq, fun k' hk => .head h0 s0 (harr.1 k' (by rw [hx]; exact hk)),
   fun hr' hk => let ⟨k₁, h1, h2⟩ := harr.2 hr' (by rw [hx]; exact hk); ⟨k₁, h1, .head h0 s0 h2⟩⟩
 | goto l => exact hq.elim
 | ret => exact ⟨_, a₁, w₁, hq, .of_steps (.one h0 s0) harr⟩
 | panic ch => exact ⟨_, a₁, w₁, hq, .of_steps (.one h0 s0) harr⟩
 | outgrown => exact ⟨_, a₁, w₁, hq, .of_steps (.one h0 s0) harr⟩
end
end Go.Abs
namespace Go.Abs
open Go
inductive ACode where
 | skip
 | region (draw : Bool) (ops : List AOper)
 | seq (a b : ACode)
 | cond (c : Opd) (a b : ACode)
 | block (id : Nat) (a : ACode)
 | loop (a : ACode)
 | scope (a : ACode)
 | exit (id : Nat)
 | ret
 | rangeF (x : Opd) (p q : Nat) (a : ACode)
def ACode.flat : ACode -> Bool
 | .seq a b => a.flat && b.flat
 | .cond _ a b => a.flat && b.flat
 | .block _ a => a.flat
 | .loop a => a.flat
 | .scope a => a.flat
 | .rangeF _ _ _ _ => false
 | _ => true
inductive ZT where
 | normal
 | exit (id : Nat)
 | ret
def Tu : Op -> Bool
 | .load .. => true
 | _ => false
def X1 : Op -> Bool
 | .store .. => true
 | _ => false
def Ts (ops : Array Oper) (oj : Oper) (m : Nat) : Bool := oj.after.any fun e => Region.binds .any e && e.on == m
def lsB (ops : Array Oper) : Bool :=
 Nat.ble (ops.toList.countP fun o => X1 o.op) 0 || (List.range ops.size).all fun j => (List.range j).all fun m => match ops[j]?, ops[m]? with
  | some oj, some om => !(X1 oj.op && (Tu om.op || X1 om.op)) || Ts ops oj m
  | _, _ => true
def X0 : Op -> Bool
 | .call c => match c.callee with
  | .value _ => true
  | _ => false
 | _ => false
def KV (ops : Array Oper) (m : Nat) : Bool := (ops.toList.drop m).all fun o => o.guard.isNone
def Rv (ops : Array Oper) (m j : Nat) : Bool := ((ops.toList.drop (m + 1)).take (j - m - 1)).all fun o => !X0 o.op
def lcB (ops : Array Oper) : Bool :=
 (List.range ops.size).all fun j => (List.range j).all fun m => match ops[j]?, ops[m]? with
  | some oj, some om => !(X0 oj.op && (X0 om.op && (KV ops m && Rv ops m j))) || Ts ops oj m
  | _, _ => true
def P1 (ops : Array Oper) (k : Nat) : Bool := match ops[k]? with
 | none => false
 | some oi => (oi.after.all fun e => !Region.binds .any e || decide (e.on < k)) && (List.range ops.size).all fun j => decide (j <= k) || match ops[j]? with
  | some oj => oj.after.any (fun e => Region.binds .any e && e.on == k) || oi.apart ops oj
  | none => true
def MN (ops : Array Oper) : Bool := Region.noSelect ops && (List.range ops.size).all (P1 ops)
theorem KA {ops : Array Oper} (h : ∀ k, k < ops.size -> P1 ops k = true) : ∀ (fuel k : Nat) (listed : Array Bool), fuel + k = ops.size -> listed.size = ops.size -> (∀ i d, i < ops.size -> listed.getD i d = decide (i < k)) -> Region.lexFrom .any ops fuel k listed = true
 | 0, k, listed, hk, hs, hl => by
  rw [Region.lexFrom, List.isEmpty_iff, List.eq_nil_iff_forall_not_mem]
  intro j hj
  obtain ⟨h1, o, ho, _⟩ := mem_ready.1 hj
  have hjs := (Array.getElem?_eq_some_iff.1 ho).1
  rw [hl j true hjs, decide_eq_true Wa] at h1
  cases h1
 | fuel + 1, k, listed, hk, hs, hl => by
  have hks : k < ops.size := Wa
  have hf := h k hks
  rw [P1] at hf
  obtain ⟨oi, hoi⟩ : ∃ oi, ops[k]? = some oi := ⟨ops[k], Array.getElem?_eq_getElem hks⟩
  rw [hoi] at hf
  simp only [QhJ, Array.all_eq_true_iff_forall_mem, Bool.or_eq_true, Bool.not_eq_true', decide_eq_true_eq, QhP, Qh1] at hf
  obtain ⟨h1, h2⟩ := hf
  rw [Region.lexFrom, QhJ, QhJ]
  refine ⟨⟨?_, ?_⟩, ?_⟩
  ·rw [List.contains_iff_mem]
   refine mem_ready.2 ⟨by rw [hl k true hks, decide_eq_false Wa], oi, hoi, fun e he hb => ?_⟩
   rcases h1 e he with h3 | h3
   ·rw [hb] at h3; cases h3
   ·rw [hl e.on false Wa, decide_eq_true h3]
  ·rw [Region.free, hoi]
   simp only [QhP, Qh1]
   intro j hj
   rw [hl j true hj]
   simp only [Bool.or_eq_true, decide_eq_true_eq, beq_iff_eq]
   rcases h2 j hj with h3 | h3
   ·left
    rcases Qh2 j k with h4 | h4
    ·exact .inr h4
    ·exact .inl Wa
   ·right
    cases hoj : ops[j]? with
    | none => rfl
    | some oj => rw [hoj] at h3; simpa using h3
  ·refine KA h fuel (k + 1) _ Wa (by rw [Array.size_setIfInBounds]; exact hs) fun i d hi => ?_
   by_cases e : k = i
   ·subst e
    rw [decide_eq_true Wa, Array.getD_eq_getD_getElem?, Array.getElem?_setIfInBounds_self_of_lt Wa]; rfl
   ·rw [getD_set_ne d e, hl i d hi]
    exact decide_eq_decide.2 Wa
theorem Gt {ops : Array Oper} (h : MN ops = true) : Region.lexB .any ops = true := by
 simp only [MN, QhJ, QhP, Qh1] at h
 rw [Region.lexB, QhJ]
 refine ⟨h.1, KA h.2 ops.size 0 _ Wa Wc fun i d hi => ?_⟩
 rw [Array.getD_eq_getD_getElem?, Array.getElem?_replicate, if_pos hi, decide_eq_false Wa]; rfl
def gdB (ops : Array Oper) : Bool := (List.range ops.size).all fun k => match ops[k]? with
 | some o => match o.guard with
  | some (j, _) => decide (j < k)
  | none => true
 | none => true
def Ni (ops : Array Oper) : Bool := (MN ops && lsB ops) && (lcB ops && gdB ops)
def Qe7 (p : Nat) (ops : List Oper) : Option Nat :=
 match ops with
 | [o] => match o.op, o.dst, o.guard with
  | .assign (.tmp p'), some q, none => if p' = p then some q else none
  | .move (.tmp p'), some q, none => if p' = p then some q else none
  | _, _, _ => none
 | _ => none
def Qes (nt : Nat) (g : Operand) (ps : List Nat) (az : Code) (b : Option ACode) : Option (Opd × Nat × Nat × ACode) :=
 match QG g, ps, az, b with
 | some x, [p], .region _ ops false, some b' => match Qe7 p ops.toList with
  | some q => if p < nt /\ q < nt /\ b'.flat = true then some (x, p, q, b') else none
  | none => none
 | _, _, _, _ => none
def JT (P : Program) (nt : Nat) : Code -> Option ACode
 | .skip => some .skip
 | .label _ => some .skip
 | .region _ ops draw =>
  if draw && !Ni ops then none else (QO P nt ops ops.toList).map (.region draw)
 | .seq a b => match JT P nt a, JT P nt b with
  | some a', some b' => some (.seq a' b')
  | _, _ => none
 | .cond c a b => match QG c, JT P nt a, JT P nt b with
  | some c', some a', some b' => some (.cond c' a' b')
  | _, _, _ => none
 | .block id a => (JT P nt a).map (.block id)
 | .loop a => (JT P nt a).map .loop
 | .scope a => (JT P nt a).map .scope
 | .exit id => some (.exit id)
 | .ret => some .ret
 | .rangeFunc g ps az b => (Qes nt g ps.toList az (JT P nt b)).map fun t => .rangeF t.1 t.2.1 t.2.2.1 t.2.2.2
 | _ => none
def Fl (E : Env) (c : ACode) : Prop := (E.rd = none /\ ∃ n, E.bd = some n /\ n <= E.B0) \/ c.flat = true
theorem Fl.imp {E : Env} {c c' : ACode} (h : Fl E c) (f : c.flat = true -> c'.flat = true) : Fl E c' := Or.imp id f h
def AQ (E : Env) (Q : ZT -> St -> Prop) : Exit -> Act -> World -> Prop
 | .normal, a, w => ∃ s g, Q .normal s /\ Rel E g s a w
 | .exit id, a, w => ∃ s g, Q (.exit id) s /\ Rel E g s a w
 | .ret, a, w => ∃ s g, Q .ret s /\ Rel E g s a w
 | _, _, _ => False
def AW (P : Program) (nt : Nat) (c : ACode) (Q : ZT -> St -> Prop) (s : St) : Prop :=
 ∀ code E g a w, P.follows .mixedOrders = true -> JT P nt code = some c -> E.nt = nt -> Fl E c -> Rel E g s a w -> code.wpIn (fen E.rd) 0 P (AQ E Q) a w
section
variable {P : Program} {nt : Nat} {Q : ZT -> St -> Prop} {s : St}
theorem RU {c : ACode} {s' : St} (h : s.le s') (hw : AW P nt c Q s') : AW P nt c Q s := fun code E g a w hm hp hn hfl r =>
 let ⟨g', r'⟩ := h E g a w r
 hw code E g' a w hm hp hn hfl r'
theorem Qbx (h : Q .normal s) : AW P nt .skip Q s := fun code E g a w hm hp hn hfl r => by
 cases code <;> simp only [JT, QhI, reduceCtorEq] at hp
 case skip => exact wpIn_skip ⟨s, g, h, r⟩
 case label => exact wpIn_label ⟨s, g, h, r⟩
 case region => split at hp <;> first | cases hp | (obtain ⟨_, _, h⟩ := QhF.1 hp; cases h)
 case seq => split at hp <;> cases hp
 case cond => split at hp <;> cases hp
 all_goals (obtain ⟨_, _, h⟩ := QhF.1 hp; cases h)
theorem Qbv {id : Nat} (h : Q (.exit id) s) : AW P nt (.exit id) Q s := fun code E g a w hm hp hn hfl r => by
 cases code <;> simp only [JT, QhI, reduceCtorEq] at hp
 case exit i => cases hp; exact wpIn_exit ⟨s, g, h, r⟩
 case region => split at hp <;> first | cases hp | (obtain ⟨_, _, h⟩ := QhF.1 hp; cases h)
 case seq => split at hp <;> cases hp
 case cond => split at hp <;> cases hp
 all_goals (obtain ⟨_, _, h⟩ := QhF.1 hp; cases h)
theorem Qdh (h : Q .ret s) : AW P nt .ret Q s := fun code E g a w hm hp hn hfl r => by
 cases code <;> simp only [JT, QhI, reduceCtorEq] at hp
 case ret => exact wpIn_ret ⟨s, g, h, r⟩
 case region => split at hp <;> first | cases hp | (obtain ⟨_, _, h⟩ := QhF.1 hp; cases h)
 case seq => split at hp <;> cases hp
 case cond => split at hp <;> cases hp
 all_goals (obtain ⟨_, _, h⟩ := QhF.1 hp; cases h)
theorem YU {ops : Array Oper} {l' : List AOper} (h : QO P nt ops ops.toList = some l') : ∀ (j : Nat) (o' : Oper), ops[j]? = some o' -> ∀ t, o'.dst = some t -> t < nt := fun j o' ho t ht => by
 obtain ⟨o2, _, h2⟩ := Zn h j o' (by rw [Array.getElem?_toList]; exact ho)
 exact (QT h2).2.2.2 t ht
theorem Xn {ops : Array Oper} {l' : List AOper} (h : QO P nt ops ops.toList = some l') : ∀ (j : Nat) (o : Oper), ops[j]? = some o -> ∀ c, o.op ≠ .defer c := fun j o ho => by
 obtain ⟨o2, _, h2⟩ := Zn h j o (by rw [Array.getElem?_toList]; exact ho)
 exact Ry (QT h2).1
theorem JU {code : Code} {draw : Bool} {l : List AOper} (hp : JT P nt code = some (.region draw l)) : ∃ id ops, code = .region id ops draw /\ (draw = true -> Ni ops = true) /\ QO P nt ops ops.toList = some l := by
 cases code <;> simp only [JT, QhI, reduceCtorEq] at hp
 case region id ops d =>
  split at hp
  ·cases hp
  ·rename_i hd
   obtain ⟨l', h1, h2⟩ := QhF.1 hp
   cases h2
   refine ⟨id, ops, rfl, fun h => ?_, h1⟩
   subst h
   simpa using hd
 case seq => split at hp <;> cases hp
 case cond => split at hp <;> cases hp
 all_goals (obtain ⟨_, _, h⟩ := QhF.1 hp; cases h)
theorem PA {l : List AOper} (h : GS P l (Q .normal) s) : AW P nt (.region false l) Q s := fun code E g a w hm hp hn hfl r => by
 obtain ⟨id, ops, rfl, _, h1⟩ := JU hp
 refine wpIn_region (Hc (fun ⟨_, _, h⟩ => h) (Xn h1) _ _ _ ?_)
 rw [List.range_eq_range', <- Array.length_toList]
 exact Rw hn (fun j o' ho t ht => by rw [hn]; exact YU h1 j o' ho t ht) ops.toList 0 l s g a w Wc h1 r h fun s' g' a' w' r' h' => ⟨s', g', h', r'⟩
def AwD (P : Program) (nt : Nat) (l : List AOper) (K : St -> Prop) (s : St) : Prop :=
 ∀ ops : Array Oper, QO P nt ops ops.toList = some l -> Ni ops = true -> J8 P (fun k => (lk s.H k).isSome = true) (Anc ops) l 0 [] [] K s
theorem N8 {l : List AOper} (h : AwD P nt l (Q .normal) s) : AW P nt (.region true l) Q s := fun code E g a w hm hp hn hfl r => by
 obtain ⟨id, ops, rfl, hB, h1⟩ := JU hp
 refine wpIn_region_any hm (GO (fun ⟨_, _, h⟩ => h) (Xn h1) _ _ _ _ ?_)
 exact GA (by have := hB rfl; simp only [Ni, QhJ] at this; exact Gt this.1.1) hn h1 (fun j o' ho t ht => by rw [hn]; exact YU h1 j o' ho t ht) r (fun _ h => h) (h ops h1 (hB rfl)) fun s' g' a' w' r' h' => ⟨s', g', h', r'⟩
def Qgc (P : Program) (nt : Nat) (b : ACode) (Q : ZT -> St -> Prop) : ZT -> St -> Prop
 | .normal, s => AW P nt b Q s
 | e, s => Q e s
theorem N9 {x y : ACode} (h : AW P nt x (Qgc P nt y Q) s) : AW P nt (.seq x y) Q s := fun code E g a w hm hp hn hfl r => by
 cases code <;> simp only [JT, QhI, reduceCtorEq] at hp
 case seq c d =>
  split at hp
  ·rename_i c' d' h1 h2
   cases hp
   have hfl1 : Fl E x := hfl.imp fun h => by simp only [ACode.flat, QhJ] at h; exact h.1
   have hfl2 : Fl E y := hfl.imp fun h => by simp only [ACode.flat, QhJ] at h; exact h.2
   refine wpIn_seq (wpIn_mono (h c E g a w hm h1 hn hfl1 r) fun e a' w' hq => ?_)
   cases e <;> simp only [AQ] at hq
   ·obtain ⟨s', g', hq, r'⟩ := hq
    exact hq d E g' a' w' hm h2 hn hfl2 r'
   ·obtain ⟨s', g', hq, r'⟩ := hq; exact ⟨s', g', hq, r'⟩
   ·obtain ⟨s', g', hq, r'⟩ := hq; exact ⟨s', g', hq, r'⟩
  ·cases hp
 case region => split at hp <;> first | cases hp | (obtain ⟨_, _, h⟩ := QhF.1 hp; cases h)
 case cond => split at hp <;> cases hp
 all_goals (obtain ⟨_, _, h⟩ := QhF.1 hp; cases h)
theorem RT {c : Opd} {x y : ACode} {t : Bool} (hc : s.ev c = some (.bool t)) (h1 : t = true -> AW P nt x Q s) (h2 : t = false -> AW P nt y Q s) : AW P nt (.cond c x y) Q s := fun code E g a w hm hp hn hfl r => by
 cases code <;> simp only [JT, QhI, reduceCtorEq] at hp
 case cond c0 x0 y0 =>
  split at hp
  ·rename_i c' x' y' e1 e2 e3
   cases hp
   have hv := FG r e1 hc
   have hfl1 : Fl E x := hfl.imp fun h => by simp only [ACode.flat, QhJ] at h; exact h.1
   have hfl2 : Fl E y := hfl.imp fun h => by simp only [ACode.flat, QhJ] at h; exact h.2
   cases t
   ·exact wpIn_cond hv (by simpa using h2 rfl y0 E g a w hm e3 hn hfl2 r)
   ·exact wpIn_cond hv (by simpa using h1 rfl x0 E g a w hm e2 hn hfl1 r)
  ·cases hp
 case seq => split at hp <;> cases hp
 case region => split at hp <;> first | cases hp | (obtain ⟨_, _, h⟩ := QhF.1 hp; cases h)
 all_goals (obtain ⟨_, _, h⟩ := QhF.1 hp; cases h)
def Jh (id : Nat) (Q : ZT -> St -> Prop) : ZT -> St -> Prop
 | .exit i, s => if i = id then Q .normal s else Q (.exit i) s
 | e, s => Q e s
theorem Bl {id : Nat} {x : ACode} (h : AW P nt x (Jh id Q) s) : AW P nt (.block id x) Q s := fun code E g a w hm hp hn hfl r => by
 cases code <;> simp only [JT, QhI, reduceCtorEq] at hp
 case block i c =>
  obtain ⟨c', h1, h2⟩ := QhF.1 hp
  cases h2
  refine wpIn_block (wpIn_mono (h c E g a w hm h1 hn (hfl.imp fun h => h) r) fun e a' w' hq => ?_)
  cases e <;> simp only [AQ] at hq
  ·obtain ⟨s', g', hq, r'⟩ := hq; exact ⟨s', g', hq, r'⟩
  ·rename_i j
   obtain ⟨s', g', hq, r'⟩ := hq
   simp only [Jh] at hq
   simp only [Exit.inBlock]
   split
   ·rename_i hj; rw [if_pos hj] at hq; exact ⟨s', g', hq, r'⟩
   ·rename_i hj; rw [if_neg hj] at hq; exact ⟨s', g', hq, r'⟩
  ·obtain ⟨s', g', hq, r'⟩ := hq; exact ⟨s', g', hq, r'⟩
 case seq => split at hp <;> cases hp
 case cond => split at hp <;> cases hp
 case region => split at hp <;> first | cases hp | (obtain ⟨_, _, h⟩ := QhF.1 hp; cases h)
 case loop => obtain ⟨_, _, h⟩ := QhF.1 hp; cases h
 case scope => obtain ⟨_, _, h⟩ := QhF.1 hp; cases h
 case rangeFunc => obtain ⟨_, _, h⟩ := QhF.1 hp; cases h
theorem Bm {x : ACode} (h : AW P nt x Q s) : AW P nt (.scope x) Q s := fun code E g a w hm hp hn hfl r => by
 cases code <;> simp only [JT, QhI, reduceCtorEq] at hp
 case scope c =>
  obtain ⟨c', h1, h2⟩ := QhF.1 hp
  cases h2
  refine LL (wpIn_mono (h c E g a w hm h1 hn (hfl.imp fun h => h) r) fun e a' w' hq => ?_)
  cases e <;> first | exact hq | exact hq.elim
 case region id ops draw =>
  split at hp
  ·cases hp
  ·obtain ⟨_, _, h⟩ := QhF.1 hp; cases h
 all_goals ((repeat' split at hp) <;> first | (cases hp; done) | (obtain ⟨_, _, h⟩ := QhF.1 hp; cases h; done))
def Mu {ι : Type} (st : ι -> St) (I : ι -> Prop) (μ : ι -> Nat) (i : ι) (Q : ZT -> St -> Prop) : ZT -> St -> Prop
 | .normal, s => ∃ j, s.le (st j) /\ I j /\ μ j < μ i
 | e, s => Q e s
theorem Qbw {ι : Type} {x : ACode} (st : ι -> St) (I : ι -> Prop) (μ : ι -> Nat) (i0 : ι) (h0 : s.le (st i0)) (hI : I i0) (round : ∀ i, I i -> AW P nt x (Mu st I μ i Q) (st i)) : AW P nt (.loop x) Q s := fun code E g a w hm hp hn hfl r => by
 classical
 cases code <;> simp only [JT, QhI, reduceCtorEq] at hp
 case loop c =>
  obtain ⟨c', h1, h2⟩ := QhF.1 hp
  cases h2
  obtain ⟨g0, r0⟩ := h0 E g a w r
  intro b k cs hro hb hr
  have key : ∀ n i g a w, μ i = n -> I i -> Rel E g (st i) a w ->
    ∃ e a' w', AQ E Q e a' w' /\ ArrivesIn (Machine.fenced P (fen E.rd)) P (lone (b.atR a (.code c :: .inLoop c :: k)) cs w) b k cs e a' w' := by
   intro n
   induction n using Nat.strongRecOn with
   | _ n ih =>
    intro i g a w hn' hi r
    obtain ⟨e, a₁, w₁, hq, harr⟩ := round i hi c E g a w hm h1 hn (hfl.imp fun h => h) r b (.inLoop c :: k) cs hro hb hr
    cases e with
    | normal =>
     obtain ⟨s', g', ⟨j, hle, hj, hlt⟩, r'⟩ := hq
     obtain ⟨g2, r2⟩ := hle E g' a₁ w₁ r'
     obtain ⟨e₂, a₂, w₂, hq₂, harr₂⟩ := ih (μ j) (hn' ▸ hlt) j g2 a₁ w₁ rfl hj r2
     exact ⟨e₂, a₂, w₂, hq₂, .of_steps (StepsIn.trans harr (.one (fenced_calm hb hr rfl) stepR_inLoop)) harr₂⟩
    | exit id => exact ⟨.exit id, a₁, w₁, (show AQ E Q (.exit id) a₁ w₁ from hq), .pass (x := .inLoop c) rfl (fun _ _ => .inl Wc) harr⟩
    | ret => exact ⟨.ret, a₁, w₁, (show AQ E Q .ret a₁ w₁ from hq), .pass (x := .inLoop c) rfl (fun _ _ => .inl Wc) harr⟩
    | goto l => exact hq.elim
    | panic ch => exact hq.elim
    | outgrown => exact hq.elim
  obtain ⟨e, a', w', hq, harr⟩ := key _ i0 g0 a w rfl hI r0
  exact ⟨e, a', w', hq, .of_steps (.one (fenced_calm hb hr rfl) stepR_loop) harr⟩
 case seq => split at hp <;> cases hp
 case cond => split at hp <;> cases hp
 case region => split at hp <;> first | cases hp | (obtain ⟨_, _, h⟩ := QhF.1 hp; cases h)
 case block => obtain ⟨_, _, h⟩ := QhF.1 hp; cases h
 case scope => obtain ⟨_, _, h⟩ := QhF.1 hp; cases h
 case rangeFunc => obtain ⟨_, _, h⟩ := QhF.1 hp; cases h
end
end Go.Abs
namespace Go.Abs
open Go
section
variable {P : Program} {E : Env} {g : Gh} {s : St} {a a' : Act} {w w' : World}
theorem Rel.aside (r : Rel E g s a w) (T : Nat -> Prop) (hh : ∀ b, b < w.heap.size -> ¬ T b -> w'.heap[b]? = w.heap[b]?) (hs : w.heap.size <= w'.heap.size)
  (hT : ∀ b, T b -> E.B0 <= b /\ (∀ k bx e, lk s.H k = some bx -> g.β k ≠ some (b, e)) /\ ∀ o, g.K b o = none) (ha : a'.tmps = a.tmps) (hdf : DfOk E.bd a' w') (hfx : SameFx w w' := by exact ⟨rfl, rfl, rfl⟩) : Rel E g s a' w' := by
 refine ⟨by rw [ha]; exact r.nt, hdf, fun t d h => by rw [ha]; exact r.fr t d h, r.wfF, r.wfH, fun k b h => ?_, r.inj, fun b o x hx => ?_,
  ⟨QhY r.ext.1 hs, fun b hb hf => (hh b (Nat.lt_of_lt_of_le hb r.ext.1) (fun h => by have := (hT b h).1; omega)).trans (r.ext.2.1 b hb hf), r.ext.2.2.trans hfx⟩, r.kx, r.kp⟩
 ·refine (r.bx k b h).move ⟨rfl, rfl⟩ (fun _ _ _ _ _ _ => ⟨rfl, rfl⟩) (Kn.le_refl _) fun B e hβ => ⟨hh B ((r.bx k b h).blk hβ).1 (fun ht => (hT B ht).2.1 k b e h hβ), fun _ h => h, fun h => h⟩
 ·obtain ⟨c, e, f, h1, h2⟩ := r.kr b o x hx
  exact ⟨c, e, f, (hh b (r.kr.lt hx) (fun ht => by have := (hT b ht).2.2 o; rw [this] at hx; cases hx)).trans h1, h2⟩
theorem KRel.cells {K : Kn} {w : World} (h : KRel K w) {b o : Nat} {ob : Obj} (hb : w.heap[b]? = some ob) (hc : ob.isCells = false) : K b o = none := by
 cases hk : K b o with
 | none => rfl
 | some x =>
  obtain ⟨c, e, f, h1, _⟩ := h b o x hk
  rw [hb] at h1; cases h1; cases hc
theorem Rel.shut {D : Nat} {ds : List Deferred} (r : Rel E g s a w) (hD : XT w D) (hB : E.B0 <= D) (ha : a'.tmps = a.tmps) (hdf : DfOk E.bd a' (w.putObj D (.deferred none))) : Rel E g s a' (w.putObj D (.deferred none)) := by
 refine r.aside (fun b => b = D) (fun b _ hb => World.putObj_heap_other hb) Wc (fun b hb => ?_) ha hdf
 subst hb
 exact ⟨hB, fun k bx e h1 h2 => (r.bx k bx h1).nodf h2 hD, fun o => r.kr.cells hD rfl⟩
theorem QbT {B0 D : Nat} {bd : Option Nat} (h : ∀ n, bd = some n -> B0 <= n) (hD : QeP bd D) : B0 <= D := by
 cases bd with
 | none => exact hD.elim
 | some n => exact QhY (h n rfl) hD
theorem Ny (hbd : ∀ n, E.bd = some n -> E.B0 <= n) {F : Fence} {n : Nat} {fn : Func} {R : Ending -> World -> Prop} : ∀ (dd : List Nat) {a : Act} {w : World}, a.defers = dd.map (fun D => ({ target := .collected D, args := #[] } : Deferred)) -> dd.Nodup -> (∀ D ∈ dd, XT w D /\ QeP E.bd D) -> Rel E g s a w ->
  (∀ a' w', a'.tmps = a.tmps -> Rel E g s a' w' -> ∃ v, (results fn a'.tmps).run P w' = .ok v w' /\ R (.returned v) w') -> LeavesInM F n P fn a.tmps R a.defers .returning w
 | [], a, w, hd, _, _, r, fin => by
  rw [hd]
  exact fin a w rfl r
 | D :: dd, a, w, hd, hn, hE, r, fin => by
  rw [hd]
  obtain ⟨h1, h2⟩ := hE D Wc
  obtain ⟨hn1, hn2⟩ := List.nodup_cons.1 hn
  have hE2 : ∀ D' ∈ dd, XT (w.putObj D (.deferred none)) D' /\ QeP E.bd D' := fun D' hD' => by
   obtain ⟨q1, q2⟩ := hE D' (by simp [hD'])
   exact ⟨(World.putObj_heap_other (fun e => hn1 (by rw [<- e]; exact hD'))).trans q1, q2⟩
  have r2 : Rel E g s { a with defers := dd.map (fun D => ({ target := .collected D, args := #[] } : Deferred)) } (w.putObj D (.deferred none)) :=
   r.shut (ds := []) h1 (QbT hbd h2) rfl ⟨dd, rfl, hn2, hE2⟩
  have := Ny hbd (F := F) (n := n) (fn := fn) (R := R) dd (a := { a with defers := dd.map (fun D => ({ target := .collected D, args := #[] } : Deferred)) }) rfl hn2 hE2 r2 (fun a' w' ha r' => fin a' w' ha r')
  refine ⟨by simp, .inl ⟨D, _, rfl, run_takeDeferred h1, this⟩⟩
theorem FL (hbd : ∀ n, E.bd = some n -> E.B0 <= n) {F : Fence} {n : Nat} {fn : Func} {R : Ending -> World -> Prop} (r : Rel E g s a w)
  (fin : ∀ a' w', a'.tmps = a.tmps -> Rel E g s a' w' -> ∃ v, (results fn a'.tmps).run P w' = .ok v w' /\ R (.returned v) w') : LeavesInM F n P fn a.tmps R a.defers .returning w := by
 obtain ⟨dd, h1, h2, h3⟩ := r.df.ex
 exact Ny hbd dd h1 h2 h3 r fin
end
end Go.Abs
namespace Go.Abs
open Go
inductive Py where
 | tmp (t : Nat)
 | cell (t : Nat) (agg : Bool) (sz : Nat)
def JF (P : Program) : ResultVar -> Option Py
 | .tmp t => if t < 900000 then some (.tmp t) else none
 | .cell a t => if a < 900000 then (match RI P t, YY P t with
  | some b, some sz => some (.cell a b sz)
  | _, _ => none) else none
theorem NM {P : Program} {t : Nat} {x : Py} (h : JF P (.tmp t) = some x) : t < 900000 /\ x = .tmp t := by
 simp only [JF] at h
 split at h
 ·rename_i ht; cases h; exact ⟨ht, rfl⟩
 ·cases h
theorem Rel.frT {E : Env} {g : Gh} {s : St} {a : Act} {w : World} (r : Rel E g s a w) {t : Nat} {d : D} (ht : t < 900000) (h : lk s.fr t = some d) : Rep g d (a.tmps.getD t Go.undef) := by
 have := r.fr t d h
 rwa [Hq, if_pos ht] at this
def ZP (P : Program) : List ResultVar -> Option (List Py)
 | [] => some []
 | x :: r => match JF P x, ZP P r with
  | some x', some r' => some (x' :: r')
  | _, _ => none
def QbO (S : Nat -> Bool) (s : St) (d : D) : D := (d.fz s.H S).can
def RC (S : Nat -> Bool) (s : St) : Py -> D -> Prop
 | .tmp t, d => ∃ p, lk s.fr t = some p /\ d = QbO S s p
 | .cell t agg sz, d => ∃ p cells, lk s.fr t = some p /\ s.at p cells /\ (if agg = true then sz <= cells.length /\ d = QbO S s (.agg (cells.take sz)) else ∃ q, cells.head? = some q /\ d = QbO S s q)
def CA (S : Nat -> Bool) (s : St) : List Py -> List D -> Prop
 | [], ds => ds = []
 | r :: rs, ds => ∃ d ds', ds = d :: ds' /\ RC S s r d /\ CA S s rs ds'
abbrev QfQ (s : St) : Py -> D -> Prop := RC FE s
abbrev TK (s : St) : List Py -> List D -> Prop := CA FE s
def QeV (s : St) (rs : List Py) (d : D) : Prop :=
 match rs with
 | [r] => QfQ s r d
 | rs => ∃ ds, d = .tup ds /\ TK s rs ds
def Post (rs : List Py) (d : D) : ZT -> St -> Prop
 | .normal, s => QeV s rs d
 | .ret, s => QeV s rs d
 | .exit _, _ => False
def Li {α : Type} : Nat -> List α -> List (Nat × α)
 | _, [] => []
 | k, x :: r => (k, x) :: Li (k + 1) r
structure AFn where
 nt : Nat
 rs : List Py
 body : ACode
def QQ (P : Program) (fn : Func) : Option AFn :=
 match fn.body, ZP P fn.results.toList with
 | some c, some rs => match JT P fn.ntmps c with
  | some ac => if (fn.name == "runtime.NumGoroutine") = false /\ fn.ntmps <= 900000 then some ⟨fn.ntmps, rs, ac⟩ else none
  | none => none
 | _, _ => none
section
variable {P : Program} {E : Env} {g : Gh} {s : St} {a : Act} {w : World}
theorem MF {K : Kn} (hrep : ∀ d v, RepS g d v -> (∀ k ∈ d.sid, (lk s.H k).isSome = true) -> RepS { g with K := K } (d.fzS s.H FE) v) {d : D} {v : Value} (h : Rep g d v) (hh : Has s d) : RepP K (JM s d) v := by
 have hp := (Rep.fz hrep h hh).toP Nr
 have canS : ∀ {d : D} {v : Value}, RepP K d v -> RepP K d.canS v := by
  intro d v h
  cases d <;> simp only [D.canS] <;> try exact h
  simp only [RepP] at h ⊢
  obtain ⟨a0, q1, q2⟩ := h
  exact ⟨a0, _, q1, Nat.le_refl _, q2⟩
 unfold JM
 generalize d.fz s.H FE = d' at hp
 cases d' <;> simp only [D.can] <;> try exact canS hp
 case agg cs =>
  simp only [RepP] at hp ⊢
  obtain ⟨vs, q1, q2⟩ := hp
  refine ⟨vs, q1, ?_⟩
  have : ∀ {cs : List D} {vs : List Value}, RepCs K cs vs -> RepCs K (cs.map D.canS) vs := by
   intro cs
   induction cs with
   | nil => intro vs h; exact h
   | cons c cs ih =>
    intro vs h
    cases vs with
    | nil => simp only [RepCs] at h
    | cons v vs =>
     simp only [List.map_cons, RepCs] at h ⊢
     refine ⟨⟨?_, canS h.1.2⟩, ih h.2⟩
     have := h.1.1
     cases c <;> first | exact this | rfl
  exact this q2
def Xo (tmps : Array Value) : ResultVar -> Sem Value
 | .tmp t => pure (tmps.getD t Go.undef)
 | .cell a t => do loadVar t (<- asAddr (tmps.getD a Go.undef))
theorem CB (r : Rel E g s a w) {K : Kn} (hrep : ∀ d v, RepS g d v -> (∀ k ∈ d.sid, (lk s.H k).isSome = true) -> RepS { g with K := K } (d.fzS s.H FE) v) {x : ResultVar} {x' : Py} (hp : JF P x = some x') {d : D} (h : QfQ s x' d) :
  ∃ v, (Xo a.tmps x).run P w = .ok v w /\ RepP K d v := by
 cases x with
 | tmp t =>
  obtain ⟨ht9, rfl⟩ := NM hp
  obtain ⟨p, h1, rfl⟩ := h
  exact ⟨_, by simp [Xo], MF hrep (r.frT ht9 h1) (r.wfF t p h1)⟩
 | cell t ty =>
  simp only [JF] at hp
  split at hp
  case isFalse => cases hp
  rename_i ht9
  split at hp
  ·rename_i b sz e1 e2
   cases hp
   obtain ⟨p, cells, h1, h2, h3⟩ := h
   obtain ⟨B, off, hv, hc, hid⟩ := FF r (r.frT ht9 h1) h2
   cases b with
   | true =>
    simp only [if_true] at h3
    obtain ⟨hl, rfl⟩ := h3
    obtain ⟨cs, q1, q2, q3, q4⟩ := TR (P := P) (hc.take sz)
    rw [List.length_take, Nat.min_eq_left hl] at q4
    refine ⟨.agg cs.toArray, ?_, MF hrep ⟨cs, rfl, q2, q3⟩ fun k hk => ?_⟩
    ·simp [Xo, hv, asAddr, loadVar, ZV e1, Zr e2, q4]
    ·obtain ⟨y, hy, hk⟩ := QhM.1 hk
     exact hid y (QhZ hy) k hk
   | false =>
    simp only [QhN, if_false] at h3
    obtain ⟨q, hq, rfl⟩ := h3
    cases cells with
    | nil => simp at hq
    | cons y ys =>
     simp at hq; subst hq
     obtain ⟨cs, q1, q2, q3, q4⟩ := hc
     cases cs with
     | nil => exact q2.elim
     | cons c cs =>
      have hcell := q4 0 c Wc
      simp only [Nat.add_zero] at hcell
      refine ⟨c, ?_, MF hrep (q2.1.toRep (q3 _ Wc)) (Gn q2.1 (q3 _ Wc) fun k hk => hid _ Wc k hk)⟩
      simp [Xo, hv, asAddr, loadVar, ZV e1, hcell]
  ·cases hp
theorem Pe (r : Rel E g s a w) {K : Kn} (hrep : ∀ d v, RepS g d v -> (∀ k ∈ d.sid, (lk s.H k).isSome = true) -> RepS { g with K := K } (d.fzS s.H FE) v) : ∀ {xs : List ResultVar} {xs' : List Py} {ds : List D}, ZP P xs = some xs' -> TK s xs' ds ->
  ∃ vs, (xs.mapM (Xo a.tmps)).run P w = .ok vs w /\ RepVs K ds vs /\ vs.length = xs.length
 | [], xs', ds, h1, h2 => by
  simp only [ZP, QhI] at h1; subst h1
  simp only [TK] at h2; subst h2
  exact ⟨[], by simp, by simp only [RepVs], rfl⟩
 | x :: xs, xs', ds, h1, h2 => by
  simp only [ZP] at h1
  split at h1
  ·rename_i x' r' e1 e2
   cases h1
   obtain ⟨d, ds', rfl, h3, h4⟩ := h2
   obtain ⟨v, q1, q2⟩ := CB r hrep e1 h3
   obtain ⟨vs, q3, q4, q5⟩ := Pe r hrep e2 h4
   exact ⟨v :: vs, by simp [List.mapM_cons, q1, q3], by simp only [RepVs]; exact ⟨q2, q4⟩, by simp [q5]⟩
  ·cases h1
theorem SC (r : Rel E g s a w) {K : Kn} (hrep : ∀ d v, RepS g d v -> (∀ k ∈ d.sid, (lk s.H k).isSome = true) -> RepS { g with K := K } (d.fzS s.H FE) v) {fn : Func} {rs : List Py} (hp : ZP P fn.results.toList = some rs) {d : D} (h : QeV s rs d) :
  ∃ v, (results fn a.tmps).run P w = .ok v w /\ RepP K d v := by
 have hres : results fn a.tmps = (fn.results.mapM (Xo a.tmps) >>= fun vs => pure (if h : vs.size = 1 then vs[0] else .tuple vs)) := by
  unfold results
  congr 1
 have key : ∀ vs, (fn.results.toList.mapM (Xo a.tmps)).run P w = .ok vs w -> (results fn a.tmps).run P w = .ok (if h : vs.toArray.size = 1 then vs.toArray[0] else .tuple vs.toArray) w := fun vs hv => by
  rw [hres, Array.mapM_eq_mapM_toList]
  simp [hv]
 match rs, hp, h with
 | [x'], hp, h =>
  cases hx : fn.results.toList with
  | nil => rw [hx] at hp; simp [ZP] at hp
  | cons x xs =>
   rw [hx] at hp
   simp only [ZP] at hp
   split at hp
   ·rename_i x2 r2 e1 e2
    cases hp
    have hxs : xs = [] := by
     cases xs with
     | nil => rfl
     | cons y ys => simp only [ZP] at e2; split at e2 <;> cases e2
    subst hxs
    obtain ⟨v, q1, q2⟩ := CB r hrep e1 h
    exact ⟨v, by rw [key [v] (by rw [hx]; simp [q1])]; rfl, q2⟩
   ·cases hp
 | [], hp, h =>
  obtain ⟨ds, rfl, h2⟩ := h
  obtain ⟨vs, q1, q2, q3⟩ := Pe r hrep hp h2
  simp only [TK] at h2; subst h2
  cases vs with
  | nil => exact ⟨_, key [] q1, by simp only [RepP]; exact ⟨[], rfl, q2⟩⟩
  | cons => simp only [RepVs] at q2
 | x :: y :: rs, hp, h =>
  obtain ⟨ds, rfl, h2⟩ := h
  obtain ⟨vs, q1, q2, q3⟩ := Pe r hrep hp h2
  refine ⟨_, key vs q1, ?_⟩
  have hl : vs.length ≠ 1 := by
   obtain ⟨d1, ds1, e1, _, h3⟩ := h2
   obtain ⟨d2, ds2, e2, _, _⟩ := h3
   subst e2; subst e1
   cases vs with
   | nil => simp only [RepVs] at q2
   | cons v vs => cases vs with
    | nil => simp only [RepVs] at q2; exact fun _ => q2.2
    | cons => simp
  rw [dif_neg (by simpa using hl)]
  simp only [RepP]
  exact ⟨vs, rfl, q2⟩
theorem NA : ∀ (l : List D) (k t : Nat), lk (Li k l) t = if k <= t then l[t - k]? else none
 | [], k, t => by simp [Li, lk]
 | x :: r, k, t => by
  simp only [Li, Qx, NA r (k + 1) t]
  by_cases h : k = t
  ·subst h; simp
  ·rw [if_neg h]
   by_cases h2 : k <= t
   ·rw [if_pos Wa, if_pos h2, show t - k = (t - (k + 1)) + 1 by omega, List.getElem?_cons_succ]
   ·rw [if_neg Wa, if_neg h2]
theorem GC {K : Kn} : ∀ {ds : List D} {vs : List Value}, RepVs K ds vs -> vs.length = ds.length /\ ∀ (i : Nat) d, ds[i]? = some d -> ∃ v, vs[i]? = some v /\ RepP K d v
 | [], [], _ => ⟨rfl, fun i d h => by simp at h⟩
 | d :: ds, v :: vs, h => by
  simp only [RepVs] at h
  obtain ⟨h1, h2⟩ := GC h.2
  refine ⟨by simp [h1], fun i d' hd => ?_⟩
  cases i with
  | zero => simp at hd; subst hd; exact ⟨v, by simp, h.1⟩
  | succ i => simpa using h2 i d' (by simpa using hd)
 | [], _ :: _, h => by simp only [RepVs] at h
 | _ :: _, [], h => by simp only [RepVs] at h
theorem Ok.ofE {f : Nat} {fn : Func} {af : AFn} {ds : List D} {d : D} {fr0 : QhE} (hm : P.follows .mixedOrders = true) (hf : P.funcs[f]? = some fn) (hp : QQ P fn = some af) (hn : ds.length <= af.nt + (Fo f).length)
  (hfr : ∀ K vs, RepVs K ds (vs ++ gVs f) -> ∀ t d', lk fr0 t = some d' -> (∃ v, vs[t]? = some v /\ RepP K d' v) \/ ∃ i, t = 900000 + i /\ RepP K d' (.pointer (some ⟨i, 0, none⟩)))
  (h : AW P af.nt af.body (Post af.rs d) ⟨fr0, []⟩) : Ok P f ds d := by
 unfold QQ at hp
 split at hp
 ·rename_i c rs hbody hrs
  split at hp
  ·rename_i ac hac
   split at hp
   ·rename_i hname
    cases hp
    refine ⟨⟨fn, hf, hname.1, by rw [hbody]; rfl⟩, fun K w vs hkr hvs => ?_⟩
    have hlen := (GC hvs).1
    rw [List.length_append, gVs, List.length_map] at hlen
    have hfr := hfr K vs hvs
    simp only at hn h
    let E : Env := ⟨fn.ntmps, w.heap.size, w, K, fun _ => False, fun _ => False, fun _ => none, fun _ => (0, 0), none, some w.heap.size⟩
    let g : Gh := ⟨K, fun _ => none, fun _ => (0, 0)⟩
    have hsz : (vs.toArray ++ Array.replicate (fn.ntmps - vs.toArray.size) Go.undef).size = fn.ntmps := by simp; omega
    have r0 : Rel E g ⟨fr0, []⟩ { tmps := vs.toArray ++ Array.replicate (fn.ntmps - vs.toArray.size) Go.undef, defers := [] } w := by
     refine ⟨⟨hsz, hname.2⟩, DfOk.nil rfl, fun t d' hd => ?_, fun t d' hd k hk => ?_, (fun k b hb => by cases hb), (fun k b hb => by cases hb), (fun k k' b b' B e e' h1 => by cases h1), hkr, ⟨Nat.le_refl _, fun b hb _ => rfl, SameFx.refl w⟩, fun b hb _ => rfl, fun k hk => hk.elim⟩
     ·rcases hfr t d' hd with ⟨v, h1, h2⟩ | ⟨i, rfl, h2⟩
      ·have : (vs.toArray ++ Array.replicate (fn.ntmps - vs.toArray.size) Go.undef).getD t (Hq t) = v := by
        have hlt := (List.getElem?_eq_some_iff.1 h1).1
        rw [Array.getD_eq_getD_getElem?, Array.getElem?_append_left (by simpa using hlt)]
        simp [h1]
       simp only [this]
       exact Rep.of h2
      ·have : (vs.toArray ++ Array.replicate (fn.ntmps - vs.toArray.size) Go.undef).getD (900000 + i) (Hq (900000 + i)) = .pointer (some ⟨i, 0, none⟩) := by
        have h9 := hname.2
        rw [Array.getD_eq_getD_getElem?, Array.getElem?_eq_none (by rw [hsz]; omega), Option.getD_none, Hq, if_neg Wa, Nat.add_sub_cancel_left]
       simp only [this]
       exact Rep.of h2
     ·rcases hfr t d' hd with ⟨v, h1, h2⟩ | ⟨i, rfl, h2⟩ <;> (rw [Xa h2] at hk; cases hk)
    refine (callsIn_wide (n := 0)).1 (callsIn_of_wp_marks hf hbody trivial (wpIn_mono (h c E g _ w hm hac rfl (.inl ⟨rfl, _, rfl, Nat.le_refl _⟩) r0) fun e a' w' hq => ?_))
    have fin0 : ∀ s' g' a' w', QeV s' rs d -> Rel E g' s' a' w' -> ∃ v, (results fn a'.tmps).run P w' = .ok v w' /\ ∃ v_1 K', Ending.returned v = .returned v_1 /\ RepP K' d v_1 /\ KRel K' w' /\ w.heap.size <= w'.heap.size /\ (∀ b, b < w.heap.size -> w'.heap[b]? = w.heap[b]?) /\ (∀ b, b < w.heap.size -> K' b = K b) /\ SameFx w w' := by
     intro s' g' a' w' hret r'
     obtain ⟨K2, hle, hkr2, hoth, hrep⟩ := FK r' FE
     obtain ⟨v, h1, h2⟩ := SC r' hrep hrs hret
     refine ⟨v, h1, v, K2, rfl, h2, hkr2, r'.ext.1, fun b hb => r'.ext.2.1 b hb (fun h => h), fun b hb => ?_, r'.ext.2.2⟩
     rw [hoth b fun k bx e q1 q2 q3 => ?_]
     ·exact r'.kx b hb (fun h => h)
     ·obtain ⟨_, _, q4⟩ := r'.bx k bx q1
      rcases q4 with ⟨_, ⟨q4, _⟩ | ⟨_, _, _, _, _, B, _, q5, _, _, q10⟩⟩ | ⟨_, B, c, q5, _, _, _, _, q10⟩
      ·rw [q4] at q3; cases q3
      ·rw [q3] at q5; cases q5
       rcases q10 with h | h
       ·exact absurd hb (Nat.not_lt.2 h)
       ·exact h
      ·rw [q3] at q5; cases q5
       rcases q10 with h | h
       ·exact absurd hb (Nat.not_lt.2 h)
       ·exact h
    cases e <;> simp only [AQ] at hq
    ·obtain ⟨s', g', hq, r'⟩ := hq
     exact FL (fun n h => by cases h; exact Nat.le_refl _) r' fun a2 w2 _ r2 => fin0 s' g' a2 w2 hq r2
    ·obtain ⟨s', g', hq, r'⟩ := hq; exact hq.elim
    ·obtain ⟨s', g', hq, r'⟩ := hq
     exact FL (fun n h => by cases h; exact Nat.le_refl _) r' fun a2 w2 _ r2 => fin0 s' g' a2 w2 hq r2
   ·cases hp
  ·cases hp
 ·cases hp
theorem Ok.of {f : Nat} {fn : Func} {af : AFn} {ds : List D} {d : D} (hm : P.follows .mixedOrders = true) (hf : P.funcs[f]? = some fn) (hp : QQ P fn = some af) (hn : ds.length <= af.nt) (hg : Fo f = [])
  (h : AW P af.nt af.body (Post af.rs d) ⟨Li 0 ds, []⟩) : Ok P f ds d := Ok.ofE hm hf hp Wa (fun K vs hvs t d' hd => .inl (by
 rw [gVs, hg, List.map_nil, List.append_nil] at hvs
 rw [NA, if_pos (QhR _), Nat.sub_zero] at hd
 exact (GC hvs).2 t d' hd)) h
theorem Ok.ofG {f : Nat} {fn : Func} {af : AFn} {ds : List D} {d dg : D} (hm : P.follows .mixedOrders = true) (hf : P.funcs[f]? = some fn) (hp : QQ P fn = some af) (hn : ds.length <= af.nt) (hg : Fo f = [0])
  (h : AW P af.nt af.body (Post af.rs d) ⟨Li 0 ds ++ [(900000, dg)], []⟩) : Ok P f (ds ++ [dg]) d := Ok.ofE hm hf hp (by rw [hg]; simpa using hn) (fun K vs hvs t d' hd => by
 rw [gVs, hg] at hvs
 obtain ⟨h1, h2⟩ := GC hvs
 simp only [List.map_cons, List.map_nil, List.length_append, List.length_singleton, Nat.add_right_cancel_iff] at h1
 rw [JQ] at hd
 split at hd
 ·rename_i x hx
  cases hd
  rw [NA, if_pos (QhR _), Nat.sub_zero] at hx
  have hlt := (List.getElem?_eq_some_iff.1 hx).1
  obtain ⟨v, h3, h4⟩ := h2 t _ (by rw [List.getElem?_append_left hlt]; exact hx)
  rw [List.getElem?_append_left Wa] at h3
  exact .inl ⟨v, h3, h4⟩
 ·rw [Qx] at hd
  split at hd
  ·rename_i e
   cases hd; subst e
   obtain ⟨v, h3, h4⟩ := h2 ds.length dg Wc
   rw [<- h1, List.getElem?_append_right (Nat.le_refl _)] at h3
   simp at h3; subst h3
   exact .inr ⟨0, rfl, h4⟩
  ·cases hd) h
/-! ### Weakening -/
theorem le_refl (s : St) : s.le s := fun _ g _ _ r => ⟨g, r⟩
theorem le_trans {s1 s2 s3 : St} (h : s1.le s2) (h' : s2.le s3) : s1.le s3 := fun E g a w r =>
 let ⟨g', r'⟩ := h E g a w r
 h' E g' a w r'
theorem Rg (k : Nat) (s : St) (hk : k < 1000000) : s.le (s.freeze k) := fun _ _ _ _ r => let ⟨g', _, r'⟩ := r.freeze k hk; ⟨g', r'⟩
def wfB (H : QhD) (fr : QhE) : Bool :=
 (fr.all fun p => p.2.ids.all fun k => (lk H k).isSome) && H.all fun p => p.2.ids.all fun k => (lk H k).isSome
def QbU (H H' : QhD) : Bool := H.all fun p => decide (p.1 < 1000000) || (lk H' p.1).isSome
theorem ZR {α : Type} : ∀ {l : List (Nat × α)} {t : Nat} {v : α}, lk l t = some v -> (t, v) ∈ l
 | [], _, _, h => by cases h
 | (k, x) :: r, t, v, h => by
  rw [Qx] at h
  split at h
  ·rename_i e; cases h; subst e; simp
  ·exact List.mem_cons_of_mem _ (ZR h)
theorem F7 {H H' : QhD} (h : QbU H H' = true) : ∀ k, 1000000 <= k -> (lk H k).isSome = true -> (lk H' k).isSome = true := by
 intro k hk hs
 obtain ⟨b, hb⟩ := QhL.1 hs
 simp only [QbU, QhP] at h
 have := h (k, b) (ZR hb)
 simp only [Bool.or_eq_true, decide_eq_true_eq] at this
 rcases this with h | h
 ·omega
 ·exact h
end
end Go.Abs
namespace Go.Abs
open Go
inductive TCode where
 | skip
 | region (draw : Bool) (ops : List AOper)
 | seq (a : TCode) (live : List Nat) (b : TCode)
 | cond (c : Opd) (a b : TCode)
 | block (id : Nat) (a : TCode)
 | loop (a : TCode)
 | scope (a : TCode)
 | exit (id : Nat)
 | ret
 | rangeF (x : Opd) (p q : Nat) (a : TCode)
def TCode.erase : TCode -> ACode
 | .skip => .skip
 | .region d ops => .region d ops
 | .seq a _ b => .seq a.erase b.erase
 | .cond c a b => .cond c a.erase b.erase
 | .block id a => .block id a.erase
 | .loop a => .loop a.erase
 | .scope a => .scope a.erase
 | .exit id => .exit id
 | .ret => .ret
 | .rangeF x p q a => .rangeF x p q a.erase
structure TFn where
 nt : Nat
 rs : List Py
 body : TCode
def TFn.erase (t : TFn) : AFn := ⟨t.nt, t.rs, t.body.erase⟩
def Zc : List Nat -> QhE -> QhE
 | [], _ => []
 | t :: ts, fr => match lk fr t with
  | some d => (t, d) :: Zc ts fr
  | none => Zc ts fr
theorem YN : ∀ (l : List Nat) (fr : QhE) (t : Nat) (d : D), lk (Zc l fr) t = some d -> lk fr t = some d
 | [], fr, t, d, h => by cases h
 | u :: us, fr, t, d, h => by
  simp only [Zc] at h
  split at h
  ·rename_i d' hd
   rw [Qx] at h
   split at h
   ·rename_i e; subst e; cases h; exact hd
   ·exact YN us fr t d h
  ·exact YN us fr t d h
theorem G1 (l : List Nat) (fr : QhE) (H : QhD) : St.le ⟨fr, H⟩ ⟨Zc l fr, H⟩ := fun _ g _ _ r =>
 ⟨g, r.less (fun t d h => YN l fr t d h) (fun _ _ h => h) (fun t d h => r.wfF t d (YN l fr t d h)) r.wfH (fun _ _ h => h)⟩
section
variable {P : Program} {nt : Nat} {Q : ZT -> St -> Prop} {s : St}
abbrev TW (P : Program) (nt : Nat) (c : TCode) (Q : ZT -> St -> Prop) (s : St) : Prop := AW P nt c.erase Q s
theorem YE {K K' : St -> Prop} (h : ∀ s, K s -> K' s) : ∀ {l : List AOper} {s : St}, GS P l K s -> GS P l K' s
 | [], s, hh => h s hh
 | o :: l, s, hh => by
  simp only [GS, L5] at hh ⊢
  split
  ·rename_i hg; rw [hg] at hh; exact hh
  ·rename_i hg; rw [hg] at hh; exact YE h hh
  ·rename_i hg
   rw [hg] at hh
   rcases hh with ⟨d, bx, h1, h2⟩ | ⟨s', d, h1, h2⟩ | ⟨p, q, d, ef, h1, h2⟩ | ⟨f, args, HF, Hn, Hu, d, h1, h2, h3⟩ | ⟨s', d, bx, h1, h2, h3⟩
   ·exact .inl ⟨d, bx, h1, YE h h2⟩
   ·exact .inr (.inl ⟨s', d, h1, YE h h2⟩)
   ·exact .inr (.inr (.inl ⟨p, q, d, ef, h1, YE h h2⟩))
   ·exact .inr (.inr (.inr (.inl ⟨f, args, HF, Hn, Hu, d, h1, h2, YE h h3⟩)))
   ·exact .inr (.inr (.inr (.inr ⟨s', d, bx, h1, h2, YE h h3⟩)))
theorem F6 {B : Nat -> Prop} {anc : Nat -> Nat -> Prop} {K K' : St -> Prop} (h : ∀ s, K s -> K' s) : ∀ {l : List AOper} {j : Nat} {R W : List (Nat × Nat)} {s : St}, J8 P B anc l j R W K s -> J8 P B anc l j R W K' s
 | [], _, _, _, s, hh => h s hh
 | o :: l, _, _, _, s, hh => by
  obtain ⟨p, q, d, bx, h1, h2, h3⟩ := hh
  exact ⟨p, q, d, bx, h1, h2, F6 h h3⟩
theorem Qe5 {ops : List AOper} {l : List Nat} {b : TCode} (h : ∀ K : St -> Prop, (∀ fr H, TW P nt b Q ⟨Zc l fr, H⟩ -> K ⟨fr, H⟩) -> GS P ops K s) : TW P nt (.seq (.region false ops) l b) Q s :=
 N9 (PA (h _ fun fr H hb => RU (G1 l fr H) hb))
theorem QdA {ops : List AOper} {l : List Nat} {b : TCode} (h : ∀ K : St -> Prop, (∀ fr H, TW P nt b Q ⟨Zc l fr, H⟩ -> K ⟨fr, H⟩) -> AwD P nt ops K s) : TW P nt (.seq (.region true ops) l b) Q s :=
 N9 (N8 (h _ fun fr H hb => RU (G1 l fr H) hb))
theorem Qdz {ops : List AOper} (h : ∀ K : St -> Prop, (∀ s', Q .normal s' -> K s') -> GS P ops K s) : TW P nt (.region false ops) Q s :=
 PA (h _ fun _ h => h)
theorem QbE {ops : List AOper} (h : ∀ K : St -> Prop, (∀ s', Q .normal s' -> K s') -> AwD P nt ops K s) : TW P nt (.region true ops) Q s :=
 N8 (h _ fun _ h => h)
def TV (P : Program) (nt : Nat) (l : List Nat) (b : TCode) (Q : ZT -> St -> Prop) : ZT -> St -> Prop
 | .normal, s => TW P nt b Q ⟨Zc l s.fr, s.H⟩
 | e, s => Q e s
theorem Qz {a : TCode} {l : List Nat} {b : TCode} (h : TW P nt a (TV P nt l b Q) s) : TW P nt (.seq a l b) Q s :=
 N9 (fun code E g a w hm hp hn hfl r => wpIn_mono (h code E g a w hm hp hn hfl r) fun e a' w' hq => by
  cases e <;> simp only [AQ] at hq ⊢
  ·obtain ⟨s', g', hq, r'⟩ := hq; exact ⟨s', g', RU (G1 l s'.fr s'.H) hq, r'⟩
  ·exact hq
  ·exact hq)
theorem Qu {c : Opd} {x y : TCode} {t : Bool} (hc : s.ev c = some (.bool t)) (h1 : t = true -> TW P nt x Q s) (h2 : t = false -> TW P nt y Q s) : TW P nt (.cond c x y) Q s := RT hc h1 h2
theorem QV {c : Opd} {x y : TCode} (hc : s.ev c = some (.bool true)) (h1 : TW P nt x Q s) : TW P nt (.cond c x y) Q s := RT hc (fun _ => h1) (fun h => by cases h)
theorem Zg {c : Opd} {x y : TCode} (hc : s.ev c = some (.bool false)) (h1 : TW P nt y Q s) : TW P nt (.cond c x y) Q s := RT hc (fun h => by cases h) (fun _ => h1)
theorem Qw {id : Nat} {a : TCode} (h : TW P nt a (Jh id Q) s) : TW P nt (.block id a) Q s := Bl h
theorem Q5 {ι : Type} {a : TCode} (st : ι -> St) (I : ι -> Prop) (μ : ι -> Nat) (i0 : ι) (h0 : s.le (st i0)) (hI : I i0) (round : ∀ i, I i -> TW P nt a (Mu st I μ i Q) (st i)) : TW P nt (.loop a) Q s := Qbw st I μ i0 h0 hI round
theorem QbF {a : TCode} (h : TW P nt a Q s) : TW P nt (.scope a) Q s := Bm h
theorem QU {id : Nat} (h : Q (.exit id) s) : TW P nt (.exit id) Q s := Qbv h
theorem Qs (h : Q .ret s) : TW P nt .ret Q s := Qdh h
theorem Qq (h : Q .normal s) : TW P nt .skip Q s := Qbx h
theorem S2 {c : TCode} {s' : St} (h : s.le s') (hw : TW P nt c Q s') : TW P nt c Q s := RU h hw
theorem Ok.ofT {f : Nat} {fn : Func} {tf : TFn} {ds : List D} {d : D} (hm : P.follows .mixedOrders = true) (hf : P.funcs[f]? = some fn) (hp : QQ P fn = some tf.erase) (hn : ds.length <= tf.nt)
  (h : TW P tf.nt tf.body (Post tf.rs d) ⟨Li 0 ds, []⟩) (hg : Fo f = [] := by rfl) : Ok P f ds d := Ok.of (af := tf.erase) hm hf hp hn hg h
theorem Ok.ofTG {f : Nat} {fn : Func} {tf : TFn} {ds : List D} {d dg : D} (hm : P.follows .mixedOrders = true) (hf : P.funcs[f]? = some fn) (hp : QQ P fn = some tf.erase) (hn : ds.length <= tf.nt)
  (h : TW P tf.nt tf.body (Post tf.rs d) ⟨Li 0 ds ++ [(900000, dg)], []⟩) (hg : Fo f = [0] := by rfl) : Ok P f (ds ++ [dg]) d := Ok.ofG (af := tf.erase) hm hf hp hn hg h
end
/-! ### The walk's equations -/
def Za {α : Type} (o : Option α) (k : α -> Prop) : Prop := ∃ a, o = some a /\ k a
@[congr] theorem obind_congr {α : Type} {o o' : Option α} {k : α -> Prop} (h : o = o') : Za o k = Za o' k := by rw [h]
def QeT (c b : Bool) (A B : Prop) : Prop := (c = b -> A) /\ (c = (!b) -> B)
@[congr] theorem gsel_congr {c c' b : Bool} {A B : Prop} (h : c = c') : QeT c b A B = QeT c' b A B := by rw [h]
def Mm (d : D) (b : Bool) (A B : Prop) : Prop :=
 match d with
 | .bool c => QeT c b A B
 | .undef => B
 | _ => False
@[congr] theorem guardK_congr {d d' : D} {b : Bool} {A B : Prop} (h : d = d') : Mm d b A B = Mm d' b A B := by rw [h]
def Qe9 (d : D) (k : Bool -> Prop) : Prop := ∃ t, d = .bool t /\ k t
def St.atO (s : St) : D -> Option (List D)
 | .ptr cs => some cs
 | .ref k i off => match lk s.H k with
  | some b => match b.rows[i]? with
   | some row => some (row.drop off)
   | none => none
  | none => none
 | _ => none
theorem L4 {s : St} {d : D} {cells : List D} : s.at d cells ↔ s.atO d = some cells := by
 cases d <;> simp only [St.at, St.atO, reduceCtorEq, QhI]
 ·rename_i k i off
  constructor
  ·rintro ⟨b, row, h1, h2, rfl⟩; simp [h1, h2]
  ·intro h
   split at h
   ·rename_i b hb
    split at h
    ·rename_i row hrow; cases h; exact ⟨b, row, hb, hrow, rfl⟩
    ·cases h
   ·cases h
 ·exact eq_comm
end Go.Abs
namespace Go.Abs
open Go
def Bz (op : BinOp) (k : IntKind) (x y : Int) (kk : D -> Prop) : Prop :=
  match op with
  | .add => kk (.int k (k.wrap (x + y)))
  | .sub => kk (.int k (k.wrap (x - y)))
  | .mul => kk (.int k (k.wrap (x * y)))
  | .quo => y ≠ 0 /\ kk (.int k (k.wrap (x.tdiv y)))
  | .rem => y ≠ 0 /\ kk (.int k (x.tmod y))
  | .and => kk (.int k (Ht .and k x y))
  | .or => kk (.int k (Ht .or k x y))
  | .xor => kk (.int k (Ht .xor k x y))
  | .andNot => kk (.int k (Ht .andNot k x y))
  | .shl => 0 <= y /\ kk (.int k (k.wrap (x * 2 ^ min y.toNat k.bits)))
  | .shr => 0 <= y /\ kk (.int k (x.fdiv (2 ^ min y.toNat k.bits)))
  | .eql => kk (.bool (decide (x = y)))
  | .neq => kk (.bool (!decide (x = y)))
  | .lss => kk (.bool (decide (x < y)))
  | .leq => kk (.bool (decide (x <= y)))
  | .gtr => kk (.bool (decide (y < x)))
  | .geq => kk (.bool (decide (y <= x)))
def QbV (op : BinOp) (x y : Bool) (kk : D -> Prop) : Prop :=
  match op with
  | .eql => kk (.bool (decide (x = y)))
  | .neq => kk (.bool (!decide (x = y)))
  | _ => False
def QbY (op : BinOp) (x y : List UInt8) (kk : D -> Prop) : Prop :=
  match op with
  | .add => x.length + y.length <= 9223372036854775807 /\ kk (.str (x ++ y))
  | .eql => kk (.bool (decide (x = y)))
  | .neq => kk (.bool (!decide (x = y)))
  | .lss => kk (.bool (Op.bytesLess x y))
  | .leq => kk (.bool (Op.bytesLess x y || decide (x = y)))
  | .gtr => kk (.bool (!(Op.bytesLess x y || decide (x = y))))
  | .geq => kk (.bool (!Op.bytesLess x y))
  | _ => False
def Qc8 (op : BinOp) (bt : Bool) (p q : D) (kk : D -> Prop) : Prop :=
  match p, q with
  | .int k m, .int j n => (MX op = true \/ k = j) /\ Bz op k m n kk
  | .bool m, .bool n => bt = true /\ QbV op m n kk
  | .str m, .str n => QbY op m n kk
  | .clo _ _, .val v => v = .nilFunc /\ op = .xor /\ bt = true /\ kk (.bool false)
  | _, _ => False
def unK (op : UnOp) (p : D) (kk : D -> Prop) : Prop :=
  match op, p with
  | .not, .bool b => kk (.bool (!b))
  | .neg, .int k n => kk (.int k (k.wrap (0 - n)))
  | .plus, .sl rows => rows ≠ [] /\ kk (.bool false)
  | _, _ => False
def St.bdO (s : St) (x : Option Opd) (dflt : Nat) : Option Int :=
  match x with
  | none => some dflt
  | some y => match s.ev y with
    | some (.int _ m) => some m
    | _ => none
def Mj (s : St) (off : Nat) (p : D) (kk : D -> Prop) : Prop :=
  match p with
  | .ptr cells => off <= cells.length /\ kk (.ptr (cells.drop off))
  | .ref k i j => (lk s.H k).isSome = true /\ kk (.ref k i (j + off))
  | _ => False
def Ct (rows : List (List D)) (n : Int) (esz : Nat) (kk : List D -> Prop) : Prop := ∃ row, 0 <= n /\ rows[n.toNat]? = some row /\ row.length = esz /\ kk row
def Qao (l : List UInt8) (n : Int) (kk : UInt8 -> Prop) : Prop := ∃ c, 0 <= n /\ l[n.toNat]? = some c /\ kk c
def Rf (s : St) (esz : Nat) (i p : D) (kk : D -> Prop) : Prop :=
  match i, p with
  | .int _ n, .sl rows => Ct rows n esz fun row => kk (.ptr row)
  | .int _ n, .fsl rows => Ct rows n esz fun row => kk (.ptr row)
  | .int _ n, .osl j m => Za (lk s.H j) fun b => m = b.rows.length /\ 0 <= n /\ n < m /\ b.esz = esz /\ kk (.ref j n.toNat 0)
  | _, _ => False
def Ky (i p : D) (kk : D -> Prop) : Prop :=
  match i, p with
  | .int _ n, .str l => Qao l n fun c => kk (.int .u8 c.toNat)
  | _, _ => False
def QaS : D -> Option (List D)
  | .agg cs => some cs
  | _ => none
def Qbo : D -> Option (List UInt8)
  | .str l => some l
  | _ => none
def QdS (k : IntKind) : D -> Option D
  | .int _ n => some (.int k (k.wrap n))
  | _ => none
def Qee (p q : D) (kk : D -> Prop) : Prop :=
  match p, q with
  | .int k m, .int _ n => kk (.int k (min m n))
  | _, _ => False
def Qec (p q : D) (kk : D -> Prop) : Prop :=
  match p, q with
  | .int k m, .int _ n => kk (.int k (max m n))
  | _, _ => False
def LP (s : St) (esz : Nat) (q : D) (kk : List (List D) -> Bool -> Prop) : Prop :=
  match q with
  | .sl rs => (∀ r ∈ rs, r.length = esz) /\ kk rs true
  | .fsl rs => (∀ r ∈ rs, r.length = esz) /\ kk rs true
  | .osl j n => Za (lk s.H j) fun b => n = b.rows.length /\ b.esz = esz /\ kk b.rows b.pr
  | _ => False
def Qfz (s : St) (p : D) (kk : Nat -> Nat -> Nat -> Box -> List D -> Prop) : Prop :=
  match p with
  | .ref k i off => Za (lk s.H k) fun b => Za b.rows[i]? fun row => kk k i off b row
  | _ => False
def QbN (dr : Bool) (esz et bytes : Nat) (dst : Option Nat) (s : St) (p : D) (ys : List (List D)) (pr : Bool) (kk : St -> Prop) : Prop :=
  match p with
  | .fsl rows => Za dst fun t => lk s.H t = none /\ (rows = [] \/ ys ≠ []) /\ (∀ r ∈ rows, r.length = esz) /\ (rows.length + ys.length) * bytes <= 140737488355328 /\ rows.length + ys.length <= 4611686018427387904 /\
      kk (s.apply dst (.osl t (rows.length + ys.length)) (some ⟨rows ++ ys, esz, et, pr⟩))
  | .osl k n => dr = false /\ k < 1000000 /\ Za (lk s.H k) fun b => n = b.rows.length /\ b.esz = esz /\ b.et = et /\ ((b.pr && pr) = true \/ ∀ r0 ∈ b.rows ++ ys, ∀ d ∈ r0, k ∉ d.sid) /\ (n + ys.length) * bytes <= 140737488355328 /\ n + ys.length <= 4611686018427387904 /\
      kk (St.apply { fr := (s.scrub k).fr, H := (k, ⟨b.rows ++ ys, esz, et, b.pr && pr⟩) :: (s.scrub k).H } dst (.osl k (n + ys.length)) none)
  | _ => False
def Ca (esz et bytes : Nat) (zero : List D) (dst : Option Nat) (s : St) (p q : D) (kk : St -> Prop) : Prop :=
  match p, q with
  | .int _ m, .int _ n => Za dst fun t => lk s.H t = none /\ m = n /\ 0 <= n /\ n.toNat * bytes <= 281474976710656 /\ n.toNat <= 4611686018427387904 /\ kk (s.apply dst (.osl t n.toNat) (some ⟨List.replicate n.toNat zero, esz, et, true⟩))
  | _, _ => False
def Qb2 (P : Program) (f : Nat) (ds : List D) (pu : Bool) (kk : D -> Prop) : Prop := ∃ d, Ok P f ds d /\ (pu = true \/ d.flat = true) /\ kk d
def Qey (esz : Nat) (rows : List (List D)) (l h : Int) (mx : Option (Option Int)) (hs : Bool) (kk : D -> Prop) : Prop :=
  0 <= l /\ l <= h /\ h <= rows.length /\ (∀ r ∈ rows, r.length = esz) /\
  match mx with
  | none => kk (.sl ((rows.take h.toNat).drop l.toNat))
  | some m => m = some h /\ hs = true /\ kk (.fsl ((rows.take h.toNat).drop l.toNat))
def Qe6 (s : St) (len esz : Nat) (i p : D) (kk : D -> Prop) : Prop :=
  match i with
  | .int _ n => 0 <= n /\ n < len /\ Mj s (n.toNat * esz) p kk
  | _ => False
def QeU : D -> Option Int
  | .int _ n => some n
  | _ => none
def Qcf (s : St) (p : D) (kk : Nat -> List UInt8 -> Nat -> Prop) : Prop :=
  match p with
  | .ref k 0 0 => ∃ l q, lk s.H k = some ⟨[], 0, Zq l q, false⟩ /\ kk k l q
  | _ => False
def Qff (p : D) (kk : Nat -> List D -> Prop) : Prop :=
  match p with
  | .clo f caps => kk f caps
  | _ => False
def Qe8 (p : D) (kk : Nat -> List D -> Prop) : Prop :=
  match p with
  | .bnd f rs => kk f rs
  | _ => False
def Qdc (p : D) (kk : List (List D) -> Prop) : Prop :=
  match p with
  | .fsl rows => kk rows
  | _ => False
def Ba (s : St) (hi : Option Opd) (p : D) (kk : D -> Prop) : Prop :=
  match p with
  | .fsl rows => s.bdO hi rows.length = some (rows.length : Int) /\ kk (.fsl rows)
  | .osl j n => Za (s.bdO hi n) fun m => 0 <= m /\ m <= n /\ kk (.osl j m.toNat)
  | _ => False
def Qc0 (s : St) (esz : Nat) (hi : Option Opd) (l : Int) (p : D) (kk : D -> Prop) : Prop :=
  match p with
  | .osl j n => 0 <= l /\ l <= n /\ s.bdO hi n = some (n : Int) /\ kk (.osv j l.toNat (l.toNat * esz) (n - l.toNat))
  | _ => False
def step (P : Program) (dr : Bool) (op : AOp) (dst : Option Nat) (s : St) (k : St -> Prop) : Prop :=
  match op with
  | .mov x => Za (s.ev x) fun d => k (s.apply dst d none)
  | .pick c x y => Za (s.ev c) fun cd => Qe9 cd fun t => Za (s.ev (if t = true then x else y)) fun d => k (s.apply dst d none)
  | .alloc et cells => Za dst fun t => lk s.H t = none /\ k (s.apply dst (.ref t 0 0) (some (Qc9 et cells)))
  | .box et x => Za dst fun t => Za (s.ev x) fun v => Za v.cells fun cells => lk s.H t = none /\ k (s.apply dst (.ref t 0 0) (some (Qc9 et cells)))
  | .build zero parts => Za (XU s parts) fun qs => Za (P3 zero qs) fun ds => k (s.apply dst (.agg ds) none)
  | .buildSlice esz et parts => (Za dst fun t => Za (XV s esz parts) fun rows => lk s.H t = none /\ k (s.apply dst (.osl t parts.length) (some ⟨rows, esz, et, rows.all fun r => r.all fun d => d.sid.isEmpty⟩))) \/
      Za (XV s esz parts) fun rows => (rows.all fun r => r.all fun d => d.sid.isEmpty) = true /\ k (s.apply dst (.fsl rows) none)
  | .load agg sz x => Za (s.ev x) fun p => Za (s.atO p) fun cells => match agg with
    | true => sz <= cells.length /\ k (s.apply dst (.agg (cells.take sz)) none)
    | false => Za cells.head? fun d => k (s.apply dst d none)
  | .store sz x v => Za (s.ev x) fun p => Qfz s p fun kk i off b row => Za (s.ev v) fun q => Za q.cells fun cells => cells.length = sz /\ off + sz <= row.length /\
      k (St.apply { s with H := (kk, { b with rows := b.rows.set i (setRow row off cells), pr := b.pr && cells.all fun d => d.sid.isEmpty }) :: s.H } dst .undef none)
  | .nilCheck x => Za (s.ev x) fun p => p.isPtr = true /\ k (s.apply dst p none)
  | .bin op bt x y => Za (s.ev x) fun p => Za (s.ev y) fun q => Qc8 op bt p q fun d => k (s.apply dst d none)
  | .eqs neg ks x y => Za (s.ev x) fun p => Za (s.ev y) fun q => Za (QaS p) fun xs => Za (QaS q) fun ys => Za (JX ks xs ys) fun b => k (s.apply dst (.bool (if neg = true then !b else b)) none)
  | .un op x => Za (s.ev x) fun p => unK op p fun d => k (s.apply dst d none)
  | .conv kk x => Za (s.ev x) fun p => Za (QdS kk p) fun d => k (s.apply dst d none)
  | .convS sb x => Za (s.ev x) fun p => match sb with
    | true => Za (Qbo p) fun l => k (s.apply dst (.sl (l.map L7)) none)
    | false => LP s 1 p fun ys _ => Za (H5 ys) fun l => k (s.apply dst (.str l) none)
  | .slice esz x lo hi mx => (Za (s.ev x) fun p => Za p.rows? fun rows => Za (s.bdO lo 0) fun l => Za (s.bdO hi rows.length) fun h => Qey esz rows l h (mx.map fun m => s.bdO (some m) 0) hi.isSome fun d => k (s.apply dst d none)) \/
      (mx = none /\ s.bdO lo 0 = some 0 /\ Za (s.ev x) fun p => Ba s hi p fun d => k (s.apply dst d none)) \/
      (mx = none /\ Za (s.bdO lo 0) fun l => Za (s.ev x) fun p => Qc0 s esz hi l p fun d => k (s.apply dst d none))
  | .capF x => Za (s.ev x) fun p => Qdc p fun rows => k (s.apply dst (.int .i64 rows.length) none)
  | .appz esz et bytes zero x y => Za dst fun t => Za (s.ev x) fun p => Qdc p fun rows => rows = [] /\ Za (s.ev y) fun q => Za (QeU q) fun n => lk s.H t = none /\ 0 < n /\ n.toNat * bytes <= 140737488355328 /\ n.toNat <= 4611686018427387904 /\
      k (s.apply dst (.osl t n.toNat) (some ⟨List.replicate n.toNat zero, esz, et, true⟩))
  | .sliceStr x lo hi => Za (s.ev x) fun p => Za (Qbo p) fun c => Za (s.bdO lo 0) fun l => Za (s.bdO hi c.length) fun h => 0 <= l /\ l <= h /\ h <= c.length /\ k (s.apply dst (.str ((c.take h.toNat).drop l.toNat)) none)
  | .fieldAddr off x => Za (s.ev x) fun p => Mj s off p fun d => k (s.apply dst d none)
  | .field agg off sz x => Za (s.ev x) fun p => Za (QaS p) fun cells => match agg with
    | true => off + sz <= cells.length /\ k (s.apply dst (.agg ((cells.drop off).take sz)) none)
    | false => Za cells[off]? fun d => k (s.apply dst d none)
  | .indexAddr esz x i => Za (s.ev i) fun n => Za (s.ev x) fun p => Rf s esz n p fun d => k (s.apply dst d none)
  | .indexStr x i => Za (s.ev i) fun n => Za (s.ev x) fun p => Ky n p fun d => k (s.apply dst d none)
  | .extract i x => Za (s.ev x) fun p => Za (QeX p) fun ds => Za ds[i]? fun d => k (s.apply dst d none)
  | .len x => Za (s.ev x) fun p => Za (Qdg p) fun n => k (s.apply dst (.int .i64 n) none)
  | .lenStr x => Za (s.ev x) fun p => Za (Qbo p) fun l => k (s.apply dst (.int .i64 l.length) none)
  | .min x y => Za (s.ev x) fun p => Za (s.ev y) fun q => Qee p q fun d => k (s.apply dst d none)
  | .max x y => Za (s.ev x) fun p => Za (s.ev y) fun q => Qec p q fun d => k (s.apply dst d none)
  | .append esz et bytes x y => Za (s.ev x) fun p => Za (s.ev y) fun q => LP s esz q fun ys pr => QbN dr esz et bytes dst s p ys pr k
  | .makeSlice esz et bytes zero x y => Za (s.ev x) fun p => Za (s.ev y) fun q => Ca esz et bytes zero dst s p q k
  | .range x => Za dst fun t => Za (s.ev x) fun p => Za (Qbo p) fun l => lk s.H t = none /\ k (s.apply dst (.ref t 0 0) (some ⟨[], 0, Zq l 0, false⟩))
  | .next x => dr = false /\ Za (s.ev x) fun p => Qcf s p fun kk l q =>
      (q < l.length /\ k (St.apply { s with H := (kk, ⟨[], 0, Zq l (q + (Utf8.decode ⟨l.toArray⟩ q).2), false⟩) :: s.H } dst (.tup [.bool true, .int .i64 q, .int .i32 (Utf8.decode ⟨l.toArray⟩ q).1]) none)) \/
      (¬ q < l.length /\ k (s.apply dst (.tup [.bool false]) none))
  | .indexArr len esz x i => Za (s.ev i) fun n => Za (s.ev x) fun p => Qe6 s len esz n p fun d => k (s.apply dst d none)
  | .indexAgg agg len esz x i => Za (s.ev i) fun nd => Za (QeU nd) fun n => Za (s.ev x) fun p => Za (QaS p) fun cells => 0 <= n /\ n < len /\ match agg with
    | true => n.toNat * esz + esz <= cells.length /\ k (s.apply dst (.agg ((cells.drop (n.toNat * esz)).take esz)) none)
    | false => Za cells[n.toNat * esz]? fun d => k (s.apply dst d none)
  | .call f args => Za (Zb s args) fun ds => Qb2 P f (ds.map (JM s)) (ds.all D.pure) fun d => k (s.apply dst d none)
  | .mkfn f xs => Za (Zb s xs) fun ds => ds.all D.capOk = true /\ (k (s.apply dst (.clo f ds) none) \/ ∃ kk ps, Fo f = [] /\ ds = .ref kk 0 0 :: ps /\ (ps.all fun d => !d.own) = true /\ k (s.apply dst (.clr f kk ps) none))
  | .mkbn f xs => Za (Zb s xs) fun ds => ds.all D.pure = true /\ k (s.apply dst (.bnd f ds) none)
  | .callV x az => Za (s.ev x) fun p => (Qff p fun f caps => caps.all D.capOk = true /\ Za (Zb s az) fun ds => Qb2 P f ((ds ++ caps).map (JM s)) ((ds ++ caps).all D.pure) fun d => k (s.apply dst d none)) \/ (az = [] /\ Qe8 p fun f rs => rs.all D.pure = true /\ Qb2 P f (rs.map (JM s)) (rs.all D.pure) fun d => k (s.apply dst d none))
  | .stop => False
inductive Dr where
  | fixed
  | drawn (H0 : QhD) (R W : List (Nat × List Nat))
def Dr.dr : Dr -> Bool
  | .fixed => false
  | .drawn _ _ _ => true
def Dn (n : Nat) (p : List Nat) (R : List (Nat × List Nat)) : Bool := p.all fun k => R.all fun e => e.1 != k || e.2.contains n
def Dr.ok : Dr -> Nat -> List Nat -> List Nat -> Bool
  | .fixed, _, _, _ => true
  | .drawn _ R W, n, p, q => Dn n p W && Dn n q R && Dn n q W
def Dr.nx : Dr -> List Nat -> List Nat -> List Nat -> Dr
  | .fixed, _, _, _ => .fixed
  | .drawn H0 R W, ds, p, q => .drawn H0 (p.map (·, ds) ++ R) (q.map (·, ds) ++ W)
def Dr.of (H0 : QhD) : Bool -> Dr
  | false => .fixed
  | true => .drawn H0 [] []
def Dr.B : Dr -> Nat -> Prop
  | .fixed => fun _ => True
  | .drawn H0 _ _ => fun k => (lk H0 k).isSome = true
def Opd.slot : Opd -> Option Nat
  | .s t => some t
  | .c _ => none
def AOper.looks (o : AOper) : List Nat := o.op.opds.filterMap Opd.slot ++ (o.guard.map Prod.fst).toList
def XS : List Nat -> List AOper -> List Nat
  | _, [] => []
  | S, o :: r => if o.looks.any (fun t => S.contains t) = true then r.length :: XS (o.dst.toList ++ S) r else XS S r
def X9 : List AOper -> List Nat
  | [] => []
  | o :: r => if o.op.isSt = true then r.length :: X9 r else X9 r
def st2 (l : List Nat) : List Nat := l
def Fy (op : AOp) (dst : Option Nat) (r : List AOper) : List Nat :=
  match op with
  | .load _ _ _ => XS dst.toList r ++ st2 (X9 r)
  | .store _ _ _ => XS dst.toList r ++ X9 r
  | _ => XS dst.toList r
def AOp.isCl : AOp -> Bool
  | .call .. | .callV .. => true
  | _ => false
def PP : List AOper -> List Nat
  | [] => []
  | o :: r => if o.op.isCl = true then r.length :: PP r else PP r
def Ta (r : List AOper) : List Nat := if (r.all fun o => o.guard.isNone) = true then PP r else []
def R8 (op : AOp) (dst : Option Nat) (r : List AOper) : List Nat :=
  match op with
  | .call _ _ => XS dst.toList r ++ Ta r
  | _ => XS dst.toList r
def run (P : Program) : Dr -> List AOper -> (St -> Prop) -> St -> Prop
  | _, [], K, s => K s
  | dr, ⟨dst, op, none⟩ :: r, K, s =>
    (dr.ok r.length (JH op (pk op s)) (Jb op (wk op s)) = true /\ step P dr.dr op dst s fun s' => run P (dr.nx (Fy op dst r) (JH op (pk op s)) (Jb op (wk op s))) r K s') \/
    (∃ p q d ef, EF P dr.B op dst s p q d ef /\ dr.ok r.length (JH op p) (Jb op q) = true /\ run P (dr.nx (R8 op dst r) (JH op p) (Jb op q)) r K (s.eff dst d ef)) \/
    (∃ f args HF Hn Hu d, dr = .fixed /\ JI s op f args /\ XR P f args s HF Hn Hu d /\ run P dr r K (St.apply { s with H := Hn ++ (Hu ++ s.H) } dst d none)) \/
    ∃ s' d bx, dr = .fixed /\ s.le s' /\ Xf P ⟨dst, op, none⟩ s' d bx /\ run P dr r K (s'.apply dst d bx)
  | dr, ⟨dst, op, some (t, b)⟩ :: r, K, s => Za (lk s.fr t) fun d => Mm d b
    ((dr.ok r.length (JH op (pk op s)) (Jb op (wk op s)) = true /\ step P dr.dr op dst s fun s' => run P (dr.nx (Fy op dst r) (JH op (pk op s)) (Jb op (wk op s))) r K s') \/
      (∃ p q d ef, EF P dr.B op dst s p q d ef /\ dr.ok r.length (JH op p) (Jb op q) = true /\ run P (dr.nx (XS dst.toList r) (JH op p) (Jb op q)) r K (s.eff dst d ef)) \/
      (∃ f args HF Hn Hu d, dr = .fixed /\ JI s op f args /\ XR P f args s HF Hn Hu d /\ run P dr r K (St.apply { s with H := Hn ++ (Hu ++ s.H) } dst d none)) \/
      ∃ s' d bx, dr = .fixed /\ s.le s' /\ Xf P ⟨dst, op, none⟩ s' d bx /\ run P dr r K (s'.apply dst d bx))
    (run P dr r K (s.apply dst .undef none))
section
variable {P : Program} {s : St} {k : St -> Prop}
theorem QbW {op : BinOp} {kd : IntKind} {x y : Int} {kk : D -> Prop} (h : Bz op kd x y kk) : ∃ d, QeQ op kd x y d /\ kk d := by
  cases op <;> simp only [Bz] at h <;> simp only [QeQ]
  case quo => exact ⟨_, ⟨h.1, rfl⟩, h.2⟩
  case rem => exact ⟨_, ⟨h.1, rfl⟩, h.2⟩
  case shl => exact ⟨_, ⟨h.1, rfl⟩, h.2⟩
  case shr => exact ⟨_, ⟨h.1, rfl⟩, h.2⟩
  all_goals exact ⟨_, rfl, h⟩
theorem QdH {op : BinOp} {bt : Bool} {p q : D} {kk : D -> Prop} (h : Qc8 op bt p q kk) : ∃ d, QdG op bt p q d /\ kk d := by
  cases p <;> cases q <;> simp only [Qc8] at h <;> simp only [QdG]
  · obtain ⟨h1, h2⟩ := h
    obtain ⟨d, h3, h4⟩ := QbW h2
    exact ⟨d, ⟨h1, h3⟩, h4⟩
  · obtain ⟨h1, h2⟩ := h
    cases op <;> simp only [QbV] at h2
    · exact ⟨_, ⟨h1, .inl ⟨rfl, rfl⟩⟩, h2⟩
    · exact ⟨_, ⟨h1, .inr ⟨rfl, rfl⟩⟩, h2⟩
  · cases op <;> simp only [QbY] at h <;> simp only [QeR]
    case add => exact ⟨_, ⟨h.1, rfl⟩, h.2⟩
    all_goals exact ⟨_, rfl, h⟩
  · obtain ⟨h1, h2, h3, h4⟩ := h
    exact ⟨_, ⟨h1, h2, h3, rfl⟩, h4⟩
theorem GV {x : Option Opd} {n : Nat} {m : Int} (h : s.bdO x n = some m) (h0 : 0 <= m) : s.bd x n m.toNat := by
  cases x with
  | none => simp only [St.bdO, QhI] at h; simp only [St.bd]; omega
  | some y =>
    simp only [St.bdO] at h
    split at h
    · rename_i k' m' he; cases h; exact ⟨k', m, he, h0, rfl⟩
    · cases h
theorem Nl {s : St} {caps : List D} : ∀ {xs : List Opd} {ds : List D}, Zb s xs = some ds -> Zb s (xs ++ caps.map .c) = some (ds ++ caps)
  | [], ds, h => by simp only [Zb, QhI] at h; subst h; exact J3 caps
  | x :: xs, ds, h => by
    simp only [Zb] at h
    split at h
    · rename_i d ds' e1 e2
      cases h
      simp only [List.cons_append, Zb, e1, Nl e2]
    · cases h
theorem SJ {dr : Bool} {op : AOp} {dst : Option Nat} {gd : Option (Nat × Bool)} (h : step P dr op dst s k) :
    (∃ d bx, Xf P ⟨dst, op, gd⟩ s d bx /\ k (s.apply dst d bx)) \/ ((∃ kk b, stD op s kk b /\ k (s.eff dst .undef [(kk, b)])) \/ (dr = false /\ ∃ s' d, RL op s s' d /\ k (s'.apply dst d none))) := by
  cases op <;> simp only [step] at h
  case mov x => obtain ⟨d, h1, h2⟩ := h; exact .inl ⟨d, none, ⟨h1, rfl⟩, h2⟩
  case pick c x y => obtain ⟨cd, h1, t, rfl, d, h2, h3⟩ := h; exact .inl ⟨d, none, ⟨t, h1, h2, rfl⟩, h3⟩
  case alloc et cells => obtain ⟨t, h1, h2, h3⟩ := h; exact .inl ⟨_, _, ⟨t, h1, h2, rfl, rfl⟩, h3⟩
  case box et x => obtain ⟨t, h1, v, h2, cells, h3, h4, h5⟩ := h; exact .inl ⟨_, _, ⟨t, v, cells, h1, h2, h3, h4, rfl, rfl⟩, h5⟩
  case build zero parts => obtain ⟨qs, h1, ds, h2, h3⟩ := h; exact .inl ⟨_, _, ⟨qs, ds, h1, h2, rfl, rfl⟩, h3⟩
  case buildSlice esz et parts =>
    rcases h with ⟨t, h1, rows, h2, h3, h4⟩ | ⟨rows, h2, h3, h4⟩
    · exact .inl ⟨_, _, .inl ⟨t, rows, h1, h2, h3, rfl, rfl⟩, h4⟩
    · exact .inl ⟨_, _, .inr ⟨rows, h2, h3, rfl, rfl⟩, h4⟩
  case load agg sz x =>
    obtain ⟨p, h1, cells, h2, h3⟩ := h
    cases agg with
    | true => exact .inl ⟨_, none, ⟨p, cells, h1, L4.2 h2, by simp only [if_true]; exact ⟨h3.1, trivial⟩, rfl⟩, h3.2⟩
    | false =>
      obtain ⟨d, h4, h5⟩ := h3
      exact .inl ⟨d, none, ⟨p, cells, h1, L4.2 h2, by simp only [QhN, if_false]; exact h4, rfl⟩, h5⟩
  case store sz x v =>
    obtain ⟨p, h1, h2⟩ := h
    cases p <;> simp only [Qfz] at h2
    obtain ⟨b, h3, row, h4, q, h5, cells, h6, h7, h8, h9⟩ := h2
    refine .inr (.inl ⟨_, _, ⟨_, _, b, row, q, cells, h1, h3, h4, h5, h6, h7, h8, rfl⟩, ?_⟩)
    cases dst <;> exact h9
  case nilCheck x => obtain ⟨p, h1, h2, h3⟩ := h; exact .inl ⟨p, none, ⟨p, h1, h2, rfl, rfl⟩, h3⟩
  case bin op bt x y =>
    obtain ⟨p, h1, q, h2, h3⟩ := h
    obtain ⟨d, h4, h5⟩ := QdH h3
    exact .inl ⟨d, none, ⟨p, q, h1, h2, h4, rfl⟩, h5⟩
  case eqs neg ks x y =>
    obtain ⟨p, h1, q, h2, xs, h3, ys, h4, b, h5, h6⟩ := h
    cases p <;> simp only [QaS, QhI, reduceCtorEq] at h3
    cases q <;> simp only [QaS, QhI, reduceCtorEq] at h4
    subst h3; subst h4
    exact .inl ⟨_, none, ⟨_, _, b, h1, h2, h5, rfl, rfl⟩, h6⟩
  case un op x =>
    obtain ⟨p, h1, h2⟩ := h
    cases op <;> cases p <;> simp only [unK] at h2 <;> first
      | exact .inl ⟨_, none, ⟨_, h1, ⟨rfl, rfl⟩, rfl⟩, h2⟩
      | exact .inl ⟨_, none, ⟨_, h1, ⟨rfl, h2.1, rfl⟩, rfl⟩, h2.2⟩
  case conv kk x =>
    obtain ⟨p, h1, d, h2, h3⟩ := h
    cases p <;> simp only [QdS, QhI, reduceCtorEq] at h2
    subst h2
    exact .inl ⟨_, none, ⟨_, _, h1, rfl, rfl⟩, h3⟩
  case convS sb x =>
    obtain ⟨p, h1, h2⟩ := h
    cases sb
    · have hsrc : ∃ ys pr l, s.src 1 p ys pr /\ H5 ys = some l /\ k (s.apply dst (.str l) none) := by
        cases p <;> simp only [LP] at h2
        · obtain ⟨h3, l, h4, h5⟩ := h2; exact ⟨_, true, l, ⟨rfl, h3, rfl⟩, h4, h5⟩
        · obtain ⟨h3, l, h4, h5⟩ := h2; exact ⟨_, true, l, ⟨rfl, h3, rfl⟩, h4, h5⟩
        · obtain ⟨b, h4, h5, h6, l, h7, h8⟩ := h2; exact ⟨_, _, l, ⟨b, h4, h5, h6, rfl, rfl⟩, h7, h8⟩
      obtain ⟨ys, pr, l, h3, h4, h5⟩ := hsrc
      exact .inl ⟨_, none, ⟨p, h1, rfl, by simp only [QhN, if_false]; exact ⟨ys, pr, l, h3, h4, rfl⟩⟩, h5⟩
    · obtain ⟨l, h3, h4⟩ := h2
      cases p <;> simp only [Qbo, QhI, reduceCtorEq] at h3
      subst h3
      exact .inl ⟨_, none, ⟨_, h1, rfl, by simp only [if_true]; exact ⟨_, rfl, rfl⟩⟩, h4⟩
  case capF x =>
    obtain ⟨p, h1, h2⟩ := h
    cases p <;> simp only [Qdc] at h2
    exact .inl ⟨_, none, ⟨_, h1, rfl, rfl⟩, h2⟩
  case appz esz et bytes zero x y =>
    obtain ⟨t, h1, p, h2, h3⟩ := h
    cases p <;> simp only [Qdc] at h3
    obtain ⟨rfl, q, h4, n, h5, h6, h7, h8, h9, h10⟩ := h3
    cases q <;> simp only [QeU, QhI, reduceCtorEq] at h5
    subst h5
    exact .inl ⟨_, _, ⟨t, _, _, h1, h2, h4, h6, h7, h8, h9, rfl, rfl⟩, h10⟩
  case slice esz x lo hi mx =>
    rcases h with h | ⟨rfl, hlo, p, h1, h2⟩ | ⟨rfl, l, hlo, p, h1, h2⟩
    rotate_left
    rotate_left
    · cases p <;> simp only [Qc0] at h2
      obtain ⟨h3, h4, h5, h6⟩ := h2
      exact .inl ⟨_, none, .inr (.inr ⟨rfl, rfl, _, _, _, h1, GV hlo h3, by have := GV h5 Wa; simpa using this, Wa, rfl⟩), h6⟩
    rotate_left
    · cases p <;> simp only [Ba] at h2
      · exact .inl ⟨_, none, .inr (.inl ⟨rfl, rfl, GV hlo (Int.le_refl 0), .inl ⟨_, h1, by have := GV h2.1 Wa; simpa using this, rfl⟩⟩), h2.2⟩
      · obtain ⟨m, h3, h4, h5, h6⟩ := h2
        exact .inl ⟨_, none, .inr (.inl ⟨rfl, rfl, GV hlo (Int.le_refl 0), .inr ⟨_, _, _, h1, GV h3 h4, Wa, rfl⟩⟩), h6⟩
    obtain ⟨p, h1, rows, h2, l, h3, hh, h4, h5, h6, h7, h8, h9⟩ := h
    cases mx with
    | none =>
      simp only [Option.map_none] at h9
      exact .inl ⟨_, none, .inl ⟨p, rows, l.toNat, hh.toNat, h1, h2, GV h3 h5, GV h4 Wa, Wa, Wa, h8, rfl, rfl⟩, h9⟩
    | some m =>
      simp only [Option.map_some] at h9
      obtain ⟨h10, h11, h12⟩ := h9
      exact .inl ⟨_, none, .inl ⟨p, rows, l.toNat, hh.toNat, h1, h2, GV h3 h5, GV h4 Wa, Wa, Wa, h8, ⟨GV h10 Wa, h11, rfl⟩, rfl⟩, h12⟩
  case sliceStr x lo hi =>
    obtain ⟨p, h1, c, h2, l, h3, hh, h4, h5, h6, h7, h8⟩ := h
    cases p <;> simp only [Qbo, QhI, reduceCtorEq] at h2
    subst h2
    exact .inl ⟨_, none, ⟨_, l.toNat, hh.toNat, h1, GV h3 h5, GV h4 Wa, Wa, Wa, rfl, rfl⟩, h8⟩
  case fieldAddr off x =>
    obtain ⟨p, h1, h2⟩ := h
    cases p <;> simp only [Mj] at h2
    · exact .inl ⟨_, none, ⟨_, h1, ⟨h2.1, rfl⟩, rfl⟩, h2.2⟩
    · exact .inl ⟨_, none, ⟨_, h1, ⟨h2.1, rfl⟩, rfl⟩, h2.2⟩
  case field agg off sz x =>
    obtain ⟨p, h1, cells, h2, h3⟩ := h
    cases p <;> simp only [QaS, QhI, reduceCtorEq] at h2
    subst h2
    cases agg with
    | true => exact .inl ⟨_, none, ⟨_, h1, by simp only [if_true]; exact ⟨h3.1, trivial⟩, rfl⟩, h3.2⟩
    | false =>
      obtain ⟨d, h4, h5⟩ := h3
      exact .inl ⟨d, none, ⟨_, h1, by simp only [QhN, if_false]; exact h4, rfl⟩, h5⟩
  case indexAddr esz x i =>
    obtain ⟨n, h1, p, h2, h3⟩ := h
    cases n <;> try (simp only [Rf] at h3; done)
    cases p <;> simp only [Rf] at h3
    · obtain ⟨row, h4, h5, h6, h7⟩ := h3; exact .inl ⟨_, none, ⟨_, _, _, h1, h2, h4, ⟨row, h5, h6, rfl⟩, rfl⟩, h7⟩
    · obtain ⟨row, h4, h5, h6, h7⟩ := h3; exact .inl ⟨_, none, ⟨_, _, _, h1, h2, h4, ⟨row, h5, h6, rfl⟩, rfl⟩, h7⟩
    · obtain ⟨b, h4, h5, h6, h7, h8, h9⟩ := h3; exact .inl ⟨_, none, ⟨_, _, _, h1, h2, h6, ⟨b, h4, h5, h7, h8, rfl⟩, rfl⟩, h9⟩
  case indexStr x i =>
    obtain ⟨n, h1, p, h2, h3⟩ := h
    cases n <;> try (simp only [Ky] at h3; done)
    cases p <;> simp only [Ky] at h3
    obtain ⟨c, h4, h5, h6⟩ := h3
    exact .inl ⟨_, none, ⟨_, _, _, c, h1, h2, h4, h5, rfl, rfl⟩, h6⟩
  case extract i x =>
    obtain ⟨p, h1, ds, h2, d, h3, h4⟩ := h
    exact .inl ⟨d, none, ⟨p, ds, h1, h2, h3, rfl⟩, h4⟩
  case len x => obtain ⟨p, h1, n, h2, h3⟩ := h; exact .inl ⟨_, none, ⟨p, n, h1, h2, rfl, rfl⟩, h3⟩
  case lenStr x =>
    obtain ⟨p, h1, l, h2, h3⟩ := h
    cases p <;> simp only [Qbo, QhI, reduceCtorEq] at h2
    subst h2
    exact .inl ⟨_, none, ⟨_, h1, rfl, rfl⟩, h3⟩
  case min x y =>
    obtain ⟨p, h1, q, h2, h3⟩ := h
    cases p <;> try (simp only [Qee] at h3; done)
    cases q <;> simp only [Qee] at h3
    exact .inl ⟨_, none, ⟨_, _, _, _, h1, h2, rfl, rfl⟩, h3⟩
  case max x y =>
    obtain ⟨p, h1, q, h2, h3⟩ := h
    cases p <;> try (simp only [Qec] at h3; done)
    cases q <;> simp only [Qec] at h3
    exact .inl ⟨_, none, ⟨_, _, _, _, h1, h2, rfl, rfl⟩, h3⟩
  case append esz et bytes x y =>
    obtain ⟨p, h1, q, h2, h3⟩ := h
    have hsrc : ∃ ys pr, s.src esz q ys pr /\ QbN dr esz et bytes dst s p ys pr k := by
      cases q <;> simp only [LP] at h3
      · exact ⟨_, true, ⟨rfl, h3.1, rfl⟩, h3.2⟩
      · exact ⟨_, true, ⟨rfl, h3.1, rfl⟩, h3.2⟩
      · obtain ⟨b, h4, h5, h6, h7⟩ := h3; exact ⟨_, _, ⟨b, h4, h5, h6, rfl, rfl⟩, h7⟩
    obtain ⟨ys, pr, h4, h5⟩ := hsrc
    cases p <;> simp only [QbN] at h5
    · obtain ⟨t, h6, h7, h8, h9, h10, h11, h12⟩ := h5
      exact .inl ⟨_, _, ⟨t, _, q, ys, pr, h6, h1, h2, h4, h7, h8, h9, h10, h11, rfl, rfl⟩, h12⟩
    · obtain ⟨hd, hk0, b, h6, h7, h8, h9, h10, h12, h13, h14⟩ := h5
      exact .inr <| .inr ⟨hd, _, _, ⟨_, _, b, q, ys, pr, h1, hk0, h6, h7, h8, h9, h10, h2, h4, h12, h13, rfl, rfl⟩, h14⟩
  case makeSlice esz et bytes zero x y =>
    obtain ⟨p, h1, q, h2, h3⟩ := h
    cases p <;> try (simp only [Ca] at h3; done)
    cases q <;> simp only [Ca] at h3
    obtain ⟨t, h4, h5, rfl, h6, h7, h8, h9⟩ := h3
    exact .inl ⟨_, _, ⟨t, _, _, _, h4, h1, h2, h5, h6, h7, h8, rfl, rfl⟩, h9⟩
  case range x =>
    obtain ⟨t, h1, p, h2, l, h3, h4, h5⟩ := h
    cases p <;> simp only [Qbo, QhI, reduceCtorEq] at h3
    subst h3
    exact .inl ⟨_, _, ⟨t, _, h1, h2, h4, rfl, rfl⟩, h5⟩
  case next x =>
    obtain ⟨hd, p, h1, h2⟩ := h
    unfold Qcf at h2
    split at h2
    · obtain ⟨l, q, h3, h4⟩ := h2
      rcases h4 with ⟨h4, h5⟩ | ⟨h4, h5⟩
      · exact .inr <| .inr ⟨hd, _, _, ⟨_, l, q, h1, h3, .inl ⟨h4, rfl, rfl⟩⟩, h5⟩
      · exact .inr <| .inr ⟨hd, _, _, ⟨_, l, q, h1, h3, .inr ⟨h4, rfl, rfl⟩⟩, h5⟩
    · exact h2.elim
  case indexArr len esz x i =>
    obtain ⟨nd, h1, p, h2, h3⟩ := h
    cases nd <;> try (simp only [Qe6] at h3; done)
    obtain ⟨h4, h5, h6⟩ := h3
    cases p <;> simp only [Mj] at h6
    · exact .inl ⟨_, none, ⟨_, _, _, h1, h2, h4, h5, ⟨h6.1, rfl⟩, rfl⟩, h6.2⟩
    · exact .inl ⟨_, none, ⟨_, _, _, h1, h2, h4, h5, ⟨h6.1, rfl⟩, rfl⟩, h6.2⟩
  case indexAgg agg len esz x i =>
    obtain ⟨nd, h1, n, h2, p, h3, cells, h4, h5, h6, h7⟩ := h
    cases nd <;> simp only [QeU, QhI, reduceCtorEq] at h2
    subst h2
    cases p <;> simp only [QaS, QhI, reduceCtorEq] at h4
    subst h4
    cases agg with
    | true => exact .inl ⟨_, none, ⟨_, _, _, h1, h3, h5, h6, by simp only [if_true]; exact ⟨h7.1, trivial⟩, rfl⟩, h7.2⟩
    | false =>
      obtain ⟨d, h8, h9⟩ := h7
      exact .inl ⟨d, none, ⟨_, _, _, h1, h3, h5, h6, by simp only [QhN, if_false]; exact h8, rfl⟩, h9⟩
  case call f args =>
    obtain ⟨ds, h1, d, h2, h3, h4⟩ := h
    exact .inl ⟨d, none, ⟨rfl, ds, h1, h2, h3⟩, h4⟩
  case mkfn f xs =>
    obtain ⟨ds, h1, h2, h3 | ⟨kk, ps, q1, q2, q3, h3⟩⟩ := h
    · exact .inl ⟨_, none, ⟨ds, h1, h2, .inl rfl, rfl⟩, h3⟩
    · exact .inl ⟨_, none, ⟨ds, h1, h2, .inr ⟨kk, ps, q1, q2, q3, rfl⟩, rfl⟩, h3⟩
  case mkbn f xs =>
    obtain ⟨ds, h1, h2, h3⟩ := h
    exact .inl ⟨_, none, ⟨ds, h1, h2, rfl, rfl⟩, h3⟩
  case callV x az =>
    obtain ⟨p, h1, h2⟩ := h
    rcases h2 with h2 | ⟨rfl, h2⟩
    · cases p <;> simp only [Qff] at h2
      obtain ⟨h3, ds, h4, d, h5, h6, h7⟩ := h2
      exact .inl ⟨d, none, ⟨rfl, .inl ⟨_, _, h1, h3, _, Nl h4, h5, h6⟩⟩, h7⟩
    · cases p <;> simp only [Qe8] at h2
      obtain ⟨h3, d, h5, h6, h7⟩ := h2
      exact .inl ⟨d, none, ⟨rfl, .inr ⟨rfl, _, _, h1, h3, _, J3 _, h5, h6⟩⟩, h7⟩
theorem Qbl {t : Nat} {b : Bool} {A B : Prop} (h : Za (lk s.fr t) fun d => Mm d b A B) : (gw s (some (t, b)) = some true /\ A) \/ (gw s (some (t, b)) = some false /\ B) := by
  obtain ⟨d, h1, h2⟩ := h
  simp only [gw, h1]
  cases d <;> simp only [Mm] at h2
  · exact .inr ⟨rfl, h2⟩
  · rename_i c
    simp only [QeT] at h2
    cases c <;> cases b
    · exact .inl ⟨rfl, h2.1 rfl⟩
    · exact .inr ⟨rfl, h2.2 rfl⟩
    · exact .inr ⟨rfl, h2.2 rfl⟩
    · exact .inl ⟨rfl, h2.1 rfl⟩
theorem Z4 : ∀ {l : List AOper} {s : St}, run P .fixed l k s -> GS P l k s
  | [], s, h => h
  | ⟨dst, op, none⟩ :: r, s, h => by
    simp only [run] at h
    simp only [GS, L5, gw]
    rcases h with h | ⟨p, q, d, ef, h1, _, h2⟩ | ⟨f, args, HF, Hn, Hu, d, _, h1, h2, h3⟩ | ⟨s', d, bx, _, h1, h2, h3⟩
    · rcases SJ (gd := none) h.2 with ⟨d, bx, h1, h2⟩ | ⟨kk, b, h1, h2⟩ | ⟨_, s', d, h1, h2⟩
      · exact .inl ⟨d, bx, h1, Z4 h2⟩
      · refine .inr (.inl ⟨_, _, Pl h1, Z4 ?_⟩)
        cases dst <;> exact h2
      · exact .inr (.inl ⟨s', d, h1, Z4 h2⟩)
    · exact .inr (.inr (.inl ⟨p, q, d, ef, h1, Z4 h2⟩))
    · exact .inr (.inr (.inr (.inl ⟨f, args, HF, Hn, Hu, d, h1, h2, Z4 h3⟩)))
    · exact .inr (.inr (.inr (.inr ⟨s', d, bx, h1, h2, Z4 h3⟩)))
  | ⟨dst, op, some (t, b)⟩ :: r, s, h => by
    simp only [run] at h
    simp only [GS, L5]
    rcases Qbl h with ⟨hg, h⟩ | ⟨hg, h⟩
    · rw [hg]
      rcases h with h | ⟨p, q, d, ef, h1, _, h2⟩ | ⟨f, args, HF, Hn, Hu, d, _, h1, h2, h3⟩ | ⟨s', d, bx, _, h1, h2, h3⟩
      · rcases SJ (gd := some (t, b)) h.2 with ⟨d, bx, h1, h2⟩ | ⟨kk, b, h1, h2⟩ | ⟨_, s', d, h1, h2⟩
        · exact .inl ⟨d, bx, h1, Z4 h2⟩
        · refine .inr (.inl ⟨_, _, Pl h1, Z4 ?_⟩)
          cases dst <;> exact h2
        · exact .inr (.inl ⟨s', d, h1, Z4 h2⟩)
      · exact .inr (.inr (.inl ⟨p, q, d, ef, h1, Z4 h2⟩))
      · exact .inr (.inr (.inr (.inl ⟨f, args, HF, Hn, Hu, d, h1, h2, Z4 h3⟩)))
      · exact .inr (.inr (.inr (.inr ⟨s', d, bx, h1, h2, Z4 h3⟩)))
    · rw [hg]; exact Z4 h
section
variable {nt : Nat} {ops : Array Oper} {l' : List AOper}
def PC (ops : Array Oper) : Prop := ∀ m j om oj, m < j -> ops[m]? = some om -> ops[j]? = some oj -> Dep ops j m \/ om.apart ops oj = true
theorem Nz : ∀ (fuel k : Nat) (listed : Array Bool), Region.lexFrom .any ops fuel k listed = true -> (∀ j, k <= j -> j < ops.size -> listed.getD j true = false) ->
    ∀ m j om oj, k <= m -> m < k + fuel -> m < j -> ops[m]? = some om -> ops[j]? = some oj -> Dep ops j m \/ om.apart ops oj = true
  | 0, k, listed, _, _, m, j, om, oj, h1, h2, _, _, _ => Wa
  | fuel + 1, k, listed, h, hun, m, j, om, oj, h1, h2, h3, h4, h5 => by
    simp only [Region.lexFrom, QhJ] at h
    obtain ⟨⟨hr, hf⟩, hn⟩ := h
    have hj : j < ops.size := (Array.getElem?_eq_some_iff.1 h5).1
    by_cases hm : m = k
    · subst hm
      by_cases hd : Dep ops j m
      · exact .inl hd
      · exact .inr (Region.free_spec h4 hf j oj h5 Wa (hun j Wa hj) fun e he hb heq => hd ⟨oj, h5, e, he, hb, heq⟩)
    · refine Nz fuel (k + 1) _ hn (fun i hi1 hi2 => ?_) m j om oj Wa Wa h3 h4 h5
      rw [getD_set_ne true (Wa : k ≠ i)]
      exact hun i Wa hi2
theorem Tv (h : Region.lexB .any ops = true) : PC ops := fun m j om oj h1 h2 h3 => by
  simp only [Region.lexB, QhJ] at h
  have hm : m < ops.size := (Array.getElem?_eq_some_iff.1 h2).1
  exact Nz ops.size 0 _ h.2 (fun i _ hi => by simp [hi]) m j om oj (QhR _) Wa h1 h2 h3
theorem Ss {o : Oper} {o' : AOper} (hp : Zw P nt ops o = some o') {t : Nat} (ht9 : t < 900000) (ht : t ∈ o'.looks) : t ∈ o.looksAt ops := by
  obtain ⟨j1, j2, j3, j4⟩ := QT hp
  unfold AOper.looks at ht
  unfold Oper.looksAt
  rcases QhQ.1 ht with ht | ht
  · obtain ⟨x, hx, hs⟩ := List.mem_filterMap.1 ht
    have gcase : ∀ i, x ≠ .s (900000 + i) := fun i e => by
      subst e
      simp only [Opd.slot, QhI] at hs; omega
    rcases G9 j1 x hx with ⟨y, hy, hpy⟩ | ⟨i, e⟩
    case inr => exact absurd e (gcase i)
    refine List.mem_append_left _ (List.mem_filterMap.2 ⟨y, by simpa using hy, ?_⟩)
    rcases Gw hpy with ⟨t', rfl, rfl⟩ | ⟨d', rfl, _⟩ | ⟨i, e⟩
    case inr.inr => exact absurd e (gcase i)
    · simp only [Opd.slot, QhI] at hs; subst hs; rfl
    · cases hs
  · refine QhU _ ?_
    cases hg : o'.guard with
    | none => rw [hg] at ht; cases ht
    | some p =>
      obtain ⟨u, b⟩ := p
      rw [hg] at ht j2
      simp at ht; subst ht
      cases hog : o.guard with
      | none => rw [hog] at j2; simp [ZE] at j2
      | some q =>
        obtain ⟨j, b'⟩ := q
        rw [hog] at j2
        simp only [ZE] at j2
        split at j2
        · rename_i t' ht'
          cases j2
          simp [ht']
        · cases j2
theorem J1 (hlex : PC ops) (hp : QO P nt ops ops.toList = some l') {i : Nat} : ∀ (r : List AOper) (j : Nat) (S : List Nat), r = l'.drop j -> j + r.length = l'.length -> (∀ t ∈ S, ∃ m om, m < j /\ ops[m]? = some om /\ om.dst = some t /\ (m = i \/ Anc ops m i)) ->
    ∀ n ∈ XS S r, Anc ops (l'.length - 1 - n) i
  | [], _, _, _, _, _, n, hn => by cases hn
  | o' :: r, j, S, hr, hl, hS, n, hn => by
    have hr' : r = l'.drop (j + 1) := by
      have := congrArg List.tail hr
      simpa using this
    have hl' : j + 1 + r.length = l'.length := by rw [List.length_cons] at hl; omega
    have hoj : l'[j]? = some o' := by
      have := congrArg (·[0]?) hr
      simpa using this.symm
    have hsz : l'.length = ops.size := by
      have hlen : ∀ {l : List Oper} {l' : List AOper}, QO P nt ops l = some l' -> l'.length = l.length := by
        intro l
        induction l with
        | nil => intro l' h; simp [QO] at h; subst h; rfl
        | cons x xs ih =>
          intro l' h
          simp only [QO] at h
          split at h
          · rename_i e2; cases h; simp [ih e2]
          · cases h
      simpa using hlen hp
    have hjs : j < ops.size := by rw [<- hsz, <- hl']; omega
    have hoo : ops[j]? = some ops[j] := Array.getElem?_eq_getElem hjs
    have hpo : Zw P nt ops ops[j] = some o' := by
      obtain ⟨o2, q1, q2⟩ := Zn hp j _ (by rw [Array.getElem?_toList]; exact hoo)
      rw [hoj] at q1; cases q1; exact q2
    simp only [XS] at hn
    split at hn
    · rename_i hany
      have hanc : Anc ops j i := by
        obtain ⟨t, ht, hts⟩ := List.any_eq_true.1 hany
        obtain ⟨m, om, h1, h2, h3, h4⟩ := hS t (by simpa using hts)
        have ht9 : t < 900000 := by
          obtain ⟨o2, _, q2⟩ := Zn hp m om (by rw [Array.getElem?_toList]; exact h2)
          exact Gx q2 h3
        have hd : Dep ops j m := (hlex m j om _ h1 h2 hoo).resolve_right fun ha => (Oper.apart_spec ha).1 t h3 (Ss hpo ht9 ht)
        rcases h4 with rfl | h4
        · exact .one hd
        · exact .more hd h4
      rcases QhH.1 hn with rfl | hn
      · have : l'.length - 1 - r.length = j := Wa
        rw [this]; exact hanc
      · refine J1 hlex hp r (j + 1) _ hr' hl' (fun t ht => ?_) n hn
        rcases QhQ.1 ht with ht | ht
        · refine ⟨j, _, Nat.lt_succ_self j, hoo, ?_, .inr hanc⟩
          rw [<- (QT hpo).2.2.1]
          cases hd : o'.dst with
          | none => rw [hd] at ht; cases ht
          | some u => rw [hd] at ht; simp at ht; rw [ht]
        · obtain ⟨m, om, h1, h2⟩ := hS t ht
          exact ⟨m, om, Wa, h2⟩
    · refine J1 hlex hp r (j + 1) _ hr' hl' (fun t ht => ?_) n hn
      obtain ⟨m, om, h1, h2⟩ := hS t ht
      exact ⟨m, om, Wa, h2⟩
theorem Qad (h : lsB ops = true) (h2 : 1 <= ops.toList.countP fun o => X1 o.op) {m j : Nat} {om oj : Oper} (hmj : m < j) (hm : ops[m]? = some om) (hj : ops[j]? = some oj) (hs : X1 oj.op = true) (hl : (Tu om.op || X1 om.op) = true) : Dep ops j m := by
  simp only [lsB, Bool.or_eq_true] at h
  rcases h with h | h
  · have := QhG h; omega
  · have hjs : j < ops.size := (Array.getElem?_eq_some_iff.1 hj).1
    have h3 := QhP.1 (QhP.1 h j (Qh1.2 hjs)) m (Qh1.2 hmj)
    simp only [hj, hm, hs, hl, Bool.and_self, Bool.not_true, Bool.false_or, Ts] at h3
    obtain ⟨e, he, hb⟩ := Array.any_eq_true'.1 h3
    simp only [QhJ, beq_iff_eq] at hb
    exact ⟨oj, hj, e, he, hb.1, hb.2⟩
theorem NN {op : Op} {ao : AOp} (hp : ZY P op = some ao) (h : ao.isSt = true) : X1 op = true := by
  cases ao <;> simp only [AOp.isSt, QhN] at h
  cases op <;> simp only [ZY, reduceCtorEq] at hp <;> first
    | rfl
    | (obtain ⟨_, _, h⟩ := QhF.1 hp; cases h; done)
    | (simp only [X4, Yu, ZB, Yt, Zy, YS, YR, X6, Z3, YQ, X5, ZH, YB, KH] at hp
       (repeat' split at hp) <;> first | (cases hp; done) | (obtain ⟨_, _, h⟩ := QhF.1 hp; cases h; done))
    | ((repeat' split at hp) <;> first | (cases hp; done) | (obtain ⟨_, _, h⟩ := QhF.1 hp; cases h; done))
theorem Cx {op : Op} {agg : Bool} {sz : Nat} {x : Opd} (hp : ZY P op = some (.load agg sz x)) : Tu op = true := by
  cases op <;> simp only [ZY, reduceCtorEq] at hp <;> first
    | rfl
    | (obtain ⟨_, _, h⟩ := QhF.1 hp; cases h; done)
    | (simp only [X4, Yu, ZB, Yt, Zy, YS, YR, X6, Z3, YQ, X5, ZH, YB, KH] at hp
       (repeat' split at hp) <;> first | (cases hp; done) | (obtain ⟨_, _, h⟩ := QhF.1 hp; cases h; done))
    | ((repeat' split at hp) <;> first | (cases hp; done) | (obtain ⟨_, _, h⟩ := QhF.1 hp; cases h; done))
theorem J7 : ∀ r : List AOper, (X9 r).length = r.countP fun o => o.op.isSt
  | [] => rfl
  | o :: r => by
    simp only [X9, List.countP_cons]
    split
    · rename_i h; simp [J7 r]
    · rename_i h; simp [J7 r]
theorem Fa {ops : Array Oper} : ∀ {l : List Oper} {l' : List AOper}, QO P nt ops l = some l' -> (l'.countP fun o => o.op.isSt) <= l.countP fun o => X1 o.op
  | [], l', h => by simp only [QO, QhI] at h; subst h; exact Nat.le_refl _
  | o :: l, l', h => by
    simp only [QO] at h
    split at h
    · rename_i o' r' e1 e2
      cases h
      have h1 := Fa e2
      simp only [List.countP_cons]
      have h2 : o'.op.isSt = true -> X1 o.op = true := fun h => NN (QT e1).1 h
      by_cases h3 : o'.op.isSt = true
      · simp [h3, h2 h3]; exact h1
      · simp [h3]; omega
    · cases h
theorem XK (hls : lsB ops = true) (hp : QO P nt ops ops.toList = some l') {i : Nat} {oi : Oper} (hi : ops[i]? = some oi) (hld : (Tu oi.op || X1 oi.op) = true) (h2 : 1 <= ops.toList.countP fun o => X1 o.op) : ∀ (r : List AOper) (j : Nat), r = l'.drop j -> j + r.length = l'.length -> i < j -> ∀ n ∈ X9 r, Anc ops (l'.length - 1 - n) i
  | [], _, _, _, _, n, hn => by cases hn
  | o' :: r, j, hr, hl, hij, n, hn => by
    have hr' : r = l'.drop (j + 1) := by
      have := congrArg List.tail hr
      simpa using this
    have hl' : j + 1 + r.length = l'.length := by rw [List.length_cons] at hl; omega
    have hoj : l'[j]? = some o' := by
      have := congrArg (·[0]?) hr
      simpa using this.symm
    have hsz : l'.length = ops.size := by
      have hlen : ∀ {l : List Oper} {l' : List AOper}, QO P nt ops l = some l' -> l'.length = l.length := by
        intro l
        induction l with
        | nil => intro l' h; simp [QO] at h; subst h; rfl
        | cons x xs ih =>
          intro l' h
          simp only [QO] at h
          split at h
          · rename_i e2; cases h; simp [ih e2]
          · cases h
      simpa using hlen hp
    have hjs : j < ops.size := by rw [<- hsz, <- hl']; omega
    have hoo : ops[j]? = some ops[j] := Array.getElem?_eq_getElem hjs
    have hpo : Zw P nt ops ops[j] = some o' := by
      obtain ⟨o2, q1, q2⟩ := Zn hp j _ (by rw [Array.getElem?_toList]; exact hoo)
      rw [hoj] at q1; cases q1; exact q2
    simp only [X9] at hn
    split at hn
    · rename_i hst
      rcases QhH.1 hn with rfl | hn
      · have : l'.length - 1 - r.length = j := Wa
        rw [this]
        exact .one (Qad hls h2 hij hi hoo (NN (QT hpo).1 hst) hld)
      · exact XK hls hp hi hld h2 r (j + 1) hr' hl' Wa n hn
    · exact XK hls hp hi hld h2 r (j + 1) hr' hl' Wa n hn
def Rec (ops : Array Oper) (N : Nat) (R : List (Nat × List Nat)) (R' : List (Nat × Nat)) : Prop := ∀ k i, (k, i) ∈ R' -> ∃ ds, (k, ds) ∈ R /\ ∀ n ∈ ds, Anc ops (N - 1 - n) i
theorem GY {n N : Nat} {p : List Nat} {R : List (Nat × List Nat)} {R' : List (Nat × Nat)} (hr : Rec ops N R R') (h : Dn n p R = true) : ∀ k ∈ p, ∀ i, (k, i) ∈ R' -> Anc ops (N - 1 - n) i := by
  intro k hk i hi
  obtain ⟨ds, h1, h2⟩ := hr k i hi
  simp only [Dn, QhP] at h
  have := h k hk (k, ds) h1
  simp at this
  exact h2 n this
theorem Rec.more {N i : Nat} {R : List (Nat × List Nat)} {R' : List (Nat × Nat)} (hr : Rec ops N R R') {p ds : List Nat} (hd : ∀ n ∈ ds, Anc ops (N - 1 - n) i) : Rec ops N (p.map (·, ds) ++ R) (tag i p ++ R') := fun k j hj => by
  rcases QhQ.1 hj with hj | hj
  · obtain ⟨h1, rfl⟩ := HT.1 hj
    exact ⟨ds, List.mem_append_left _ (QhT.2 ⟨k, h1, rfl⟩), hd⟩
  · obtain ⟨ds', h1, h2⟩ := hr k j hj
    exact ⟨ds', QhU _ h1, h2⟩
theorem Qac (h : lcB ops = true) {m j : Nat} {om oj : Oper} (hmj : m < j) (hm : ops[m]? = some om) (hj : ops[j]? = some oj) (hcj : X0 oj.op = true) (hcm : X0 om.op = true) (hf : ∀ k o, m <= k -> ops[k]? = some o -> o.guard = none) (hn : ∀ k o, m < k -> k < j -> ops[k]? = some o -> X0 o.op = false) : Dep ops j m := by
  have hjs : j < ops.size := (Array.getElem?_eq_some_iff.1 hj).1
  have h3 := QhP.1 (QhP.1 h j (Qh1.2 hjs)) m (Qh1.2 hmj)
  have hfree : KV ops m = true := QhP.2 fun o ho => by
    obtain ⟨i, hi⟩ := List.getElem?_of_mem ho
    rw [List.getElem?_drop, Array.getElem?_toList] at hi
    rw [hf (m + i) o (Nat.le_add_right _ _) hi]; rfl
  have hno : Rv ops m j = true := QhP.2 fun o ho => by
    obtain ⟨i, hi⟩ := List.getElem?_of_mem ho
    have hlt : i < j - m - 1 := by
      have := (List.getElem?_eq_some_iff.1 hi).1
      rw [List.length_take] at this
      omega
    rw [List.getElem?_take_of_lt hlt, List.getElem?_drop, Array.getElem?_toList] at hi
    rw [hn (m + 1 + i) o Wa Wa hi]; rfl
  simp only [hj, hm, hcj, hcm, hfree, hno, Bool.and_self, Bool.not_true, Bool.false_or, Ts] at h3
  obtain ⟨e, he, hb⟩ := Array.any_eq_true'.1 h3
  simp only [QhJ, beq_iff_eq] at hb
  exact ⟨oj, hj, e, he, hb.1, hb.2⟩
theorem Rx {op : Op} {ao : AOp} (hp : ZY P op = some ao) : X0 op = ao.isCl := by
  cases op <;> simp only [ZY, reduceCtorEq] at hp
  case call c =>
    unfold YR at hp
    unfold X0
    split at hp
    · rename_i h1 _; simp only [h1]
      unfold X6 at hp; (repeat' split at hp) <;> first | (cases hp; done) | (cases hp; rfl)
    · rename_i h1 _; simp only [h1]
      (repeat' split at hp) <;> first | (cases hp; done) | (cases hp; rfl)
    · rename_i h1 _; simp only [h1]
      (repeat' split at hp) <;> first | (cases hp; done) | (cases hp; rfl)
    · rename_i h1 _; simp only [h1]
      unfold Z3 YQ at hp; (repeat' split at hp) <;> first | (cases hp; done) | (cases hp; rfl)
    · rename_i h1 _; simp only [h1]
      unfold X5 at hp; (repeat' split at hp) <;> first | (cases hp; done) | (cases hp; rfl)
    · rename_i h1; simp only [h1]
      obtain ⟨_, _, h⟩ := QhF.1 hp; subst h; rfl
    · rename_i h1; simp only [h1]
      split at hp
      · obtain ⟨_, _, h⟩ := QhF.1 hp; subst h; rfl
      · cases hp
    · cases hp
  all_goals first
    | (cases hp; rfl)
    | (obtain ⟨_, _, h⟩ := QhF.1 hp; subst h; rfl)
    | (simp only [X4, Yu, ZB, Yt, Zy, YS, ZH, YB, KH] at hp
       (repeat' split at hp) <;> first | (cases hp; done) | (cases hp; rfl) | (obtain ⟨_, _, h⟩ := QhF.1 hp; subst h; rfl))
    | ((repeat' split at hp) <;> first | (cases hp; done) | (cases hp; rfl) | (obtain ⟨_, _, h⟩ := QhF.1 hp; subst h; rfl))
theorem Kr (hlc : lcB ops = true) (hp : QO P nt ops ops.toList = some l') {i : Nat} (hf : ∀ k o, i <= k -> ops[k]? = some o -> o.guard = none) : ∀ (r : List AOper) (j m : Nat) (om : Oper), r = l'.drop j -> j + r.length = l'.length -> i <= m -> m < j -> ops[m]? = some om -> X0 om.op = true -> (m = i \/ Anc ops m i) ->
    (∀ k o, m < k -> k < j -> ops[k]? = some o -> X0 o.op = false) -> ∀ n ∈ PP r, Anc ops (l'.length - 1 - n) i
  | [], _, _, _, _, _, _, _, _, _, _, _, n, hn => by cases hn
  | o' :: r, j, m, om, hr, hl, him, hmj, hm, hcm, hmi, hno, n, hn => by
    have hr' : r = l'.drop (j + 1) := by
      have := congrArg List.tail hr
      simpa using this
    have hl' : j + 1 + r.length = l'.length := by rw [List.length_cons] at hl; omega
    have hoj : l'[j]? = some o' := by
      have := congrArg (·[0]?) hr
      simpa using this.symm
    have hsz : l'.length = ops.size := by
      have hlen : ∀ {l : List Oper} {l' : List AOper}, QO P nt ops l = some l' -> l'.length = l.length := by
        intro l
        induction l with
        | nil => intro l' h; simp [QO] at h; subst h; rfl
        | cons x xs ih =>
          intro l' h
          simp only [QO] at h
          split at h
          · rename_i e2; cases h; simp [ih e2]
          · cases h
      simpa using hlen hp
    have hjs : j < ops.size := by rw [<- hsz, <- hl']; omega
    have hoo : ops[j]? = some ops[j] := Array.getElem?_eq_getElem hjs
    have hpo : Zw P nt ops ops[j] = some o' := by
      obtain ⟨o2, q1, q2⟩ := Zn hp j _ (by rw [Array.getElem?_toList]; exact hoo)
      rw [hoj] at q1; cases q1; exact q2
    have hcl := Rx (QT hpo).1
    simp only [PP] at hn
    split at hn
    · rename_i hst
      have hd : Dep ops j m := Qac hlc hmj hm hoo (by rw [hcl]; exact hst) hcm (fun k o hk ho => hf k o Wa ho) hno
      have hanc : Anc ops j i := by
        rcases hmi with rfl | h
        · exact .one hd
        · exact .more hd h
      rcases QhH.1 hn with rfl | hn
      · rw [show l'.length - 1 - r.length = j by omega]; exact hanc
      · exact Kr hlc hp hf r (j + 1) j _ hr' hl' Wa Wa hoo (by rw [hcl]; exact hst) (.inr hanc) (fun k o h1 h2 _ => Wa) n hn
    · rename_i hst
      refine Kr hlc hp hf r (j + 1) m om hr' hl' him Wa hm hcm hmi (fun k o h1 h2 ho => ?_) n hn
      by_cases hk : k = j
      · subst hk; rw [hoo] at ho; cases ho; rw [hcl]; simpa using hst
      · exact hno k o h1 Wa ho
theorem K8 {H0 : QhD} (hlex : PC ops) (hls : lsB ops = true) (hlc : lcB ops = true) (hp : QO P nt ops ops.toList = some l') : ∀ (l : List AOper) (j : Nat) (R W : List (Nat × List Nat)) (R' W' : List (Nat × Nat)) (s : St), l = l'.drop j -> j + l.length = l'.length -> Rec ops l'.length R R' -> Rec ops l'.length W W' ->
    run P (.drawn H0 R W) l k s -> J8 P (fun k => (lk H0 k).isSome = true) (Anc ops) l j R' W' k s
  | [], _, _, _, _, _, s, _, _, _, _, h => h
  | o :: r, j, R, W, R', W', s, hl, hlen, hR, hW, h => by
    have hl2 : r = l'.drop (j + 1) := by
      have := congrArg List.tail hl
      simpa using this
    have hlen2 : j + 1 + r.length = l'.length := by rw [List.length_cons] at hlen; omega
    have hj : l'.length - 1 - r.length = j := Wa
    have hoj : l'[j]? = some o := by
      have := congrArg (·[0]?) hl
      simpa using this.symm
    have hpo : ∃ oo, ops[j]? = some oo /\ oo.dst = o.dst /\ ZY P oo.op = some o.op := by
      have hsz : l'.length = ops.size := by
        have hlen : ∀ {l : List Oper} {l' : List AOper}, QO P nt ops l = some l' -> l'.length = l.length := by
          intro l
          induction l with
          | nil => intro l' h; simp [QO] at h; subst h; rfl
          | cons x xs ih =>
            intro l' h
            simp only [QO] at h
            split at h
            · rename_i e2; cases h; simp [ih e2]
            · cases h
        simpa using hlen hp
      have hjs : j < ops.size := by rw [<- hsz, <- hlen2]; omega
      refine ⟨ops[j], Array.getElem?_eq_getElem hjs, ?_⟩
      obtain ⟨o2, q1, q2⟩ := Zn hp j _ (by rw [Array.getElem?_toList]; exact Array.getElem?_eq_getElem hjs)
      rw [hoj] at q1; cases q1
      exact ⟨(QT q2).2.2.1.symm, (QT q2).1⟩
    obtain ⟨oo, hoo, hdst, hpop⟩ := hpo
    have hds : ∀ n ∈ XS o.dst.toList r, Anc ops (l'.length - 1 - n) j := J1 hlex hp r (j + 1) _ hl2 hlen2 fun t ht => by
      refine ⟨j, oo, Nat.lt_succ_self j, hoo, ?_, .inl rfl⟩
      rw [hdst]
      cases hd : o.dst with
      | none => rw [hd] at ht; cases ht
      | some u => rw [hd] at ht; simp at ht; rw [ht]
    have hdO : ∀ n ∈ Fy o.op o.dst r, Anc ops (l'.length - 1 - n) j := fun n hn => by
      unfold Fy at hn
      split at hn
      · rename_i agg sz x hop
        rcases QhQ.1 hn with hn | hn
        · exact hds n hn
        · rw [hop] at hpop
          have hm : n ∈ X9 r /\ 1 <= (X9 r).length := ⟨hn, List.length_pos_of_mem hn⟩
          refine XK hls hp hoo (by rw [Cx hpop, Bool.true_or]) ?_ r (j + 1) hl2 hlen2 (Nat.lt_succ_self j) n hm.1
          have h1 := Fa hp
          have h3 : (r.countP fun o => o.op.isSt) <= l'.countP fun o => o.op.isSt := by rw [hl2]; exact List.Sublist.countP_le (List.drop_sublist _ _)
          have h4 := hm.2
          rw [J7] at h4
          omega
      · rename_i sz x v hop
        rcases QhQ.1 hn with hn | hn
        · exact hds n hn
        · rw [hop] at hpop
          refine XK hls hp hoo (by rw [NN hpop rfl, Bool.or_true]) ?_ r (j + 1) hl2 hlen2 (Nat.lt_succ_self j) n hn
          have h1 := Fa hp
          have h3 : ((o :: r).countP fun o => o.op.isSt) <= l'.countP fun o => o.op.isSt := by rw [hl]; exact List.Sublist.countP_le (List.drop_sublist _ _)
          have h5 : 0 < (X9 r).length := List.length_pos_of_mem hn
          rw [J7] at h5
          rw [List.countP_cons, if_pos (by rw [hop]; rfl)] at h3
          omega
      · exact hds n hn
    have ok : ∀ {p q : List Nat}, (Dr.drawn H0 R W).ok r.length p q = true -> Apt (Anc ops j) p q R' W' := fun {p q} h => by
      simp only [Dr.ok, QhJ] at h
      refine ⟨fun k hk i hi => ?_, fun k hk => ⟨fun i hi => ?_, fun i hi => ?_⟩⟩
      · rw [<- hj]; exact GY hW h.1.1 k hk i hi
      · rw [<- hj]; exact GY hR h.1.2 k hk i hi
      · rw [<- hj]; exact GY hW h.2 k hk i hi
    have go : ∀ (DE : List Nat) (hDE : ∀ n ∈ DE, Anc ops (l'.length - 1 - n) j) (hg : gw s o.guard = some true), ((Dr.drawn H0 R W).ok r.length (JH o.op (pk o.op s)) (Jb o.op (wk o.op s)) = true /\ step P true o.op o.dst s fun s' => run P ((Dr.drawn H0 R W).nx (Fy o.op o.dst r) (JH o.op (pk o.op s)) (Jb o.op (wk o.op s))) r k s') \/
        (∃ p q d ef, EF P (Dr.drawn H0 R W).B o.op o.dst s p q d ef /\ (Dr.drawn H0 R W).ok r.length (JH o.op p) (Jb o.op q) = true /\ run P ((Dr.drawn H0 R W).nx DE (JH o.op p) (Jb o.op q)) r k (s.eff o.dst d ef)) \/
        (∃ f args HF Hn Hu d, (Dr.drawn H0 R W) = .fixed /\ JI s o.op f args /\ XR P f args s HF Hn Hu d /\ run P (Dr.drawn H0 R W) r k (St.apply { s with H := Hn ++ (Hu ++ s.H) } o.dst d none)) \/
        (∃ s' d bx, (Dr.drawn H0 R W) = .fixed /\ s.le s' /\ Xf P ⟨o.dst, o.op, none⟩ s' d bx /\ run P (Dr.drawn H0 R W) r k (s'.apply o.dst d bx)) -> J8 P (fun k => (lk H0 k).isSome = true) (Anc ops) (o :: r) j R' W' k s := fun DE hDE hg h => by
      rcases h with ⟨h1, h2⟩ | ⟨p, q, d, ef, h1, h2, h3⟩ | ⟨_, _, _, _, _, _, h, _⟩ | ⟨_, _, _, h, _⟩
      · rcases SJ (gd := o.guard) h2 with ⟨d, bx, q1, q2⟩ | ⟨kk, b, q1, q2⟩ | ⟨h, _⟩
        · refine ⟨_, _, d, _, .inl ⟨hg, .inl ⟨.inl ⟨bx, q1, rfl⟩, rfl, rfl⟩⟩, ok h1, ?_⟩
          rw [<- Kh]
          exact K8 hlex hls hlc hp r (j + 1) _ _ _ _ _ hl2 hlen2 (hR.more hdO) (hW.more hdO) q2
        · refine ⟨_, _, _, _, .inl ⟨hg, .inl ⟨.inr ⟨kk, b, q1, rfl, rfl⟩, rfl, rfl⟩⟩, ok h1, ?_⟩
          exact K8 hlex hls hlc hp r (j + 1) _ _ _ _ _ hl2 hlen2 (hR.more hdO) (hW.more hdO) q2
        · cases h
      · exact ⟨p, q, d, ef, .inl ⟨hg, .inr h1⟩, ok h2, K8 hlex hls hlc hp r (j + 1) _ _ _ _ _ hl2 hlen2 (hR.more hDE) (hW.more hDE) h3⟩
      · cases h
      · cases h
    obtain ⟨dst, op, gd⟩ := o
    cases gd with
    | none =>
      simp only [run] at h
      refine go _ (fun n hn => ?_) rfl h
      have hdF : n ∈ XS dst.toList r \/ ((∃ f az, op = .call f az) /\ n ∈ Ta r) := by
        revert hn
        cases op <;> simp only [R8] <;> intro hn <;> first
          | exact .inl hn
          | (rcases QhQ.1 hn with hn | hn
             · exact .inl hn
             · exact .inr ⟨⟨_, _, rfl⟩, hn⟩)
      rcases hdF with hn | ⟨⟨f, az, rfl⟩, hn2⟩
      · exact hds n hn
      · clear hn; have hn := hn2
        unfold Ta at hn
        split at hn
        · rename_i hall
          have hcj : X0 oo.op = true := Rx hpop
          have hszo : l'.length = ops.size := by
            have hlen : ∀ {l : List Oper} {l' : List AOper}, QO P nt ops l = some l' -> l'.length = l.length := by
              intro l
              induction l with
              | nil => intro l' h; simp [QO] at h; subst h; rfl
              | cons x xs ih =>
                intro l' h
                simp only [QO] at h
                split at h
                · rename_i e2; cases h; simp [ih e2]
                · cases h
            simpa using hlen hp
          refine Kr hlc hp (i := j) (fun k o hk ho => ?_) r (j + 1) j oo hl2 hlen2 (Nat.le_refl _) (Nat.lt_succ_self _) hoo hcj (.inl rfl) (fun k o h1 h2 _ => Wa) n hn
          have hks : k < ops.size := (Array.getElem?_eq_some_iff.1 ho).1
          obtain ⟨o2, q1, q2⟩ := Zn hp k _ (by rw [Array.getElem?_toList]; exact ho)
          have hg2 : o2.guard = none := by
            by_cases hkj : k = j
            · subst hkj; rw [hoj] at q1; cases q1; rfl
            · have hmem : o2 ∈ r := by
                rw [hl2]
                refine List.mem_of_getElem? (i := k - (j + 1)) ?_
                rw [List.getElem?_drop, show j + 1 + (k - (j + 1)) = k by omega]; exact q1
              have := QhP.1 hall o2 hmem
              cases hgd : o2.guard with
              | none => rfl
              | some x => rw [hgd] at this; cases this
          have h3 := (QT q2).2.1
          cases hgo : o.guard with
          | none => rfl
          | some x =>
            rw [hgo, hg2] at h3
            simp only [ZE] at h3
            split at h3 <;> cases h3
        · cases hn
    | some tb =>
      obtain ⟨t, b⟩ := tb
      simp only [run] at h
      rcases Qbl h with ⟨hg, h⟩ | ⟨hg, h⟩
      · exact go _ hds hg h
      · refine ⟨[], [], _, _, .inr ⟨hg, rfl, rfl, rfl, rfl⟩, ⟨by rw [FV]; simp, by rw [FW]; simp⟩, ?_⟩
        rw [FV, FW]
        rw [<- (show s.apply dst .undef none = s.eff dst .undef [] by rw [Kh]; cases dst <;> rfl)]
        exact K8 hlex hls hlc hp r (j + 1) _ _ _ _ _ hl2 hlen2 hR hW h
end
end
section
variable {P : Program} {nt : Nat} {Q : ZT -> St -> Prop} {s : St}
theorem SD {ops : List AOper} {K : St -> Prop} (h : run P (.drawn s.H [] []) ops K s) : AwD P nt ops K s := fun oa hp hB =>
  K8 (Tv (by simp only [Ni, QhJ] at hB; exact Gt hB.1.1)) (by simp only [Ni, QhJ] at hB; exact hB.1.2) (by simp only [Ni, QhJ] at hB; exact hB.2.1) hp ops 0 [] [] [] [] s Wc Wc (fun _ _ h => by cases h) (fun _ _ h => by cases h) h
theorem Qd {dr : Bool} {ops : List AOper} {l : List Nat} {b : TCode} (h : ∀ K : St -> Prop, (∀ fr H, TW P nt b Q ⟨Zc l fr, H⟩ -> K ⟨fr, H⟩) -> run P (Dr.of s.H dr) ops K s) : TW P nt (.seq (.region dr ops) l b) Q s := by
  cases dr
  · exact Qe5 fun K hK => Z4 (h K hK)
  · exact QdA fun K hK => SD (h K hK)
theorem QN {dr : Bool} {ops : List AOper} (h : ∀ K : St -> Prop, (∀ s', Q .normal s' -> K s') -> run P (Dr.of s.H dr) ops K s) : TW P nt (.region dr ops) Q s := by
  cases dr
  · exact Qdz fun K hK => Z4 (h K hK)
  · exact QbE fun K hK => SD (h K hK)
end
end Go.Abs
namespace Go.Abs
open Go
theorem Qp {e : Int} (h1 : -9223372036854775808 <= e) (h2 : e <= 9223372036854775807) : IntKind.i64.wrap e = e := by
 unfold IntKind.wrap
 simp only [IntKind.bits, IntKind.signed, Bool.true_and]
 split
 ·rename_i h
  have := of_decide_eq_true h
  omega
 ·rename_i h
  have : ¬ (e % 2 ^ 64 >= 2 ^ (64 - 1)) := fun hh => h (decide_eq_true hh)
  omega
theorem T4 {e : Int} (h1 : -2147483648 <= e) (h2 : e <= 2147483647) : IntKind.i32.wrap e = e := by
 unfold IntKind.wrap
 simp only [IntKind.bits, IntKind.signed, Bool.true_and]
 split
 ·rename_i h
  have := of_decide_eq_true h
  omega
 ·rename_i h
  have : ¬ (e % 2 ^ 32 >= 2 ^ (32 - 1)) := fun hh => h (decide_eq_true hh)
  omega
theorem Qc2 {e : Int} (h1 : 0 <= e) (h2 : e <= 255) : IntKind.u8.wrap e = e := by
 unfold IntKind.wrap
 simp only [IntKind.bits, IntKind.signed, Bool.false_and, QhN, if_false]
 omega
section
variable {P : Program} {dr : Dr} {r : List AOper} {K : St -> Prop} {s : St} {dst : Option Nat} {op : AOp}
theorem Mw {p q ds : List Nat} (hp : pk op s = p) (hw : wk op s = q) (hds : Fy op dst r = ds) (ho : dr.ok r.length (JH op p) (Jb op q) = true) (h : step P dr.dr op dst s fun s' => run P (dr.nx ds (JH op p) (Jb op q)) r K s') : run P dr (⟨dst, op, none⟩ :: r) K s := by
 subst hp hw hds; exact .inl ⟨ho, h⟩
theorem QW (hp : pk op s = []) (hw : wk op s = []) (h : step P dr.dr op dst s fun s' => run P dr r K s') : run P dr (⟨dst, op, none⟩ :: r) K s := by
 refine Mw hp hw rfl (by rw [FV, FW]; cases dr <;> rfl) ?_
 rw [FV, FW]
 have : dr.nx (Fy op dst r) [] [] = dr := by cases dr <;> rfl
 rw [this]; exact h
theorem YW (h : step P false op dst s fun s' => run P .fixed r K s') : run P .fixed (⟨dst, op, none⟩ :: r) K s := .inl ⟨rfl, h⟩
theorem pk1 {x : Opd} {p : D} (hop : op.pkOpds = [x]) (hx : s.ev x = some p) : pk op s = p.ids := by
 unfold pk; rw [hop]; simp [hx, Qa4]
theorem Cv : ∀ {args : List Opd} {ds : List D}, Zb s args = some ds -> (args.flatMap fun x => Qa4 (s.ev x)) = ds.flatMap D.ids
 | [], ds, h => by simp only [Zb, QhI] at h; subst h; rfl
 | x :: xs, ds, h => by
  simp only [Zb] at h
  split at h
  ·rename_i d ds' e1 e2
   cases h
   simp only [List.flatMap_cons, e1]
   exact congrArg _ (Cv e2)
  ·cases h
end
section
variable {P : Program} {dr : Dr} {r : List AOper} {K : St -> Prop} {fr : QhE} {H : QhD} {t : Nat}
theorem RY (h : K ⟨fr, H⟩) : run P dr [] K ⟨fr, H⟩ := h
theorem Qb {x : Opd} {d : D} (hx : St.ev ⟨fr, H⟩ x = some d) (k : run P dr r K ⟨(t, d) :: fr, H⟩) : run P dr (⟨some t, .mov x, none⟩ :: r) K ⟨fr, H⟩ := QW rfl rfl ⟨d, hx, k⟩
theorem Qh {c x y : Opd} {b : Bool} {d : D} (hc : St.ev ⟨fr, H⟩ c = some (.bool b)) (hx : St.ev ⟨fr, H⟩ (if b = true then x else y) = some d) (k : run P dr r K ⟨(t, d) :: fr, H⟩) : run P dr (⟨some t, .pick c x y, none⟩ :: r) K ⟨fr, H⟩ := QW rfl rfl ⟨_, hc, b, rfl, d, hx, k⟩
theorem Zu {et : Nat} {cells : List D} (hn : lk H t = none) (k : run P dr r K ⟨(t, .ref t 0 0) :: fr, (t, Qc9 et cells) :: H⟩) : run P dr (⟨some t, .alloc et cells, none⟩ :: r) K ⟨fr, H⟩ := QW rfl rfl ⟨t, rfl, hn, k⟩
theorem Zs {et : Nat} {x : Opd} {v : D} {cells : List D} (hx : St.ev ⟨fr, H⟩ x = some v) (hc : v.cells = some cells) (hn : lk H t = none) (k : run P dr r K ⟨(t, .ref t 0 0) :: fr, (t, Qc9 et cells) :: H⟩) : run P dr (⟨some t, .box et x, none⟩ :: r) K ⟨fr, H⟩ := QW rfl rfl ⟨t, rfl, v, hx, cells, hc, hn, k⟩
theorem ZM {zero ds : List D} {parts : List (Nat × Nat × Opd)} {qs : List (Nat × Nat × D)} (hq : XU ⟨fr, H⟩ parts = some qs) (hf : P3 zero qs = some ds) (k : run P dr r K ⟨(t, .agg ds) :: fr, H⟩) : run P dr (⟨some t, .build zero parts, none⟩ :: r) K ⟨fr, H⟩ := QW rfl rfl ⟨qs, hq, ds, hf, k⟩
theorem Q2 {esz et : Nat} {parts : List Opd} {rows : List (List D)} (hq : XV ⟨fr, H⟩ esz parts = some rows) (hn : lk H t = none) (k : run P dr r K ⟨(t, .osl t parts.length) :: fr, (t, ⟨rows, esz, et, rows.all fun r => r.all fun d => d.sid.isEmpty⟩) :: H⟩) : run P dr (⟨some t, .buildSlice esz et parts, none⟩ :: r) K ⟨fr, H⟩ := QW rfl rfl (.inl ⟨t, rfl, rows, hq, hn, k⟩)
theorem Z5 {esz et : Nat} {parts : List Opd} {rows : List (List D)} (hq : XV ⟨fr, H⟩ esz parts = some rows) (hp : (rows.all fun r => r.all fun d => d.sid.isEmpty) = true) (k : run P dr r K ⟨(t, .fsl rows) :: fr, H⟩) : run P dr (⟨some t, .buildSlice esz et parts, none⟩ :: r) K ⟨fr, H⟩ := QW rfl rfl (.inr ⟨rows, hq, hp, k⟩)
theorem Qt {sz : Nat} {x : Opd} {p d : D} {cells : List D} (hx : St.ev ⟨fr, H⟩ x = some p) (ha : St.atO ⟨fr, H⟩ p = some cells) (hd : cells.head? = some d) (k : run P .fixed r K ⟨(t, d) :: fr, H⟩) : run P .fixed (⟨some t, .load false sz x, none⟩ :: r) K ⟨fr, H⟩ := YW ⟨p, hx, cells, ha, d, hd, k⟩
theorem QD {sz : Nat} {x : Opd} {p : D} {cells cs : List D} (hx : St.ev ⟨fr, H⟩ x = some p) (ha : St.atO ⟨fr, H⟩ p = some cells) (hl : Nat.ble sz cells.length = true) (hc : cells.take sz = cs) (k : run P .fixed r K ⟨(t, .agg cs) :: fr, H⟩) : run P .fixed (⟨some t, .load true sz x, none⟩ :: r) K ⟨fr, H⟩ := YW ⟨p, hx, cells, ha, QhG hl, hc ▸ k⟩
theorem Zf {sz : Nat} {x v : Opd} {kk i off : Nat} {b : Box} {row cells row' : List D} {q : D} (hx : St.ev ⟨fr, H⟩ x = some (.ref kk i off)) (hb : lk H kk = some b) (hr : b.rows[i]? = some row) (hv : St.ev ⟨fr, H⟩ v = some q) (hc : q.cells = some cells)
  (hs : cells.length = sz) (ho : Nat.ble (off + sz) row.length = true) (hrow : setRow row off cells = row')
  (k : run P .fixed r K ⟨fr, (kk, { b with rows := b.rows.set i row', pr := b.pr && cells.all fun d => d.sid.isEmpty }) :: H⟩) : run P .fixed (⟨none, .store sz x v, none⟩ :: r) K ⟨fr, H⟩ := YW ⟨_, hx, b, hb, row, hr, q, hv, cells, hc, hs, QhG ho, hrow ▸ k⟩
/-! ### Where the order is drawn -/
section
variable {H0 : QhD} {R W : List (Nat × List Nat)} {ds0 : List Nat}
theorem QH {sz : Nat} {x : Opd} {p d : D} {cells : List D} (hx : St.ev ⟨fr, H⟩ x = some p) (ha : St.atO ⟨fr, H⟩ p = some cells) (hd : cells.head? = some d) (ho : (Dr.drawn H0 R W).ok r.length (p.ids.map (2 * ·)) [] = true) (hds : Fy (.load false sz x) (some t) r = ds0) (k : run P (.drawn H0 ((p.ids.map (2 * ·)).map (·, ds0) ++ R) W) r K ⟨(t, d) :: fr, H⟩) : run P (.drawn H0 R W) (⟨some t, .load false sz x, none⟩ :: r) K ⟨fr, H⟩ :=
 Mw (pk1 rfl hx) rfl hds ho ⟨p, hx, cells, ha, d, hd, k⟩
theorem Q7 {sz : Nat} {x : Opd} {p : D} {cells cs : List D} (hx : St.ev ⟨fr, H⟩ x = some p) (ha : St.atO ⟨fr, H⟩ p = some cells) (hl : Nat.ble sz cells.length = true) (hc : cells.take sz = cs) (ho : (Dr.drawn H0 R W).ok r.length (p.ids.map (2 * ·)) [] = true) (hds : Fy (.load true sz x) (some t) r = ds0) (k : run P (.drawn H0 ((p.ids.map (2 * ·)).map (·, ds0) ++ R) W) r K ⟨(t, .agg cs) :: fr, H⟩) : run P (.drawn H0 R W) (⟨some t, .load true sz x, none⟩ :: r) K ⟨fr, H⟩ :=
 Mw (pk1 rfl hx) rfl hds ho ⟨p, hx, cells, ha, QhG hl, hc ▸ k⟩
theorem Jd {sz : Nat} {x v : Opd} {kk i off : Nat} {b : Box} {row cells row' : List D} {q : D} (hx : St.ev ⟨fr, H⟩ x = some (.ref kk i off)) (hb : lk H kk = some b) (hr : b.rows[i]? = some row) (hv : St.ev ⟨fr, H⟩ v = some q) (hc : q.cells = some cells)
  (hs : cells.length = sz) (ho : Nat.ble (off + sz) row.length = true) (hrow : setRow row off cells = row') (hok : (Dr.drawn H0 R W).ok r.length [2 * kk] [2 * kk] = true) (hds : Fy (.store sz x v) none r = ds0)
  (k : run P (.drawn H0 ((2 * kk, ds0) :: R) ((2 * kk, ds0) :: W)) r K ⟨fr, (kk, { b with rows := b.rows.set i row', pr := b.pr && cells.all fun d => d.sid.isEmpty }) :: H⟩) : run P (.drawn H0 R W) (⟨none, .store sz x v, none⟩ :: r) K ⟨fr, H⟩ :=
 Mw (p := [kk]) (q := [kk]) (pk1 rfl hx) (by simp only [wk, hx, Qa4]; rfl) hds hok ⟨_, hx, b, hb, row, hr, q, hv, cells, hc, hs, QhG ho, hrow ▸ k⟩
theorem HZ {esz : Nat} {x i : Opd} {ki : IntKind} {n : Int} {j m : Nat} {b : Box} (hi : St.ev ⟨fr, H⟩ i = some (.int ki n)) (hx : St.ev ⟨fr, H⟩ x = some (.osl j m)) (hb : lk H j = some b) (hm : m = b.rows.length) (h0 : 0 <= n) (h1 : n < m) (hl : b.esz = esz) (hok : (Dr.drawn H0 R W).ok r.length [2 * j + 1] [] = true) (hds : XS [t] r = ds0) (k : run P (.drawn H0 ((2 * j + 1, ds0) :: R) W) r K ⟨(t, .ref j n.toNat 0) :: fr, H⟩) : run P (.drawn H0 R W) (⟨some t, .indexAddr esz x i, none⟩ :: r) K ⟨fr, H⟩ :=
 Mw (p := [j]) (pk1 rfl hx) rfl hds hok ⟨_, hi, _, hx, b, hb, hm, h0, h1, hl, k⟩
theorem Zk {f : Nat} {args : List Opd} {ds ds' : List D} {d : D} (hok : Ok P f ds' d) (ha : Zb ⟨fr, H⟩ args = some ds) (hd : ds.map (JM ⟨fr, H⟩) = ds') (hp : ds.all D.pure = true \/ d.flat = true) (ho : (Dr.drawn H0 R W).ok r.length ((ds.flatMap D.ids).map (2 * ·)) [] = true) (hds : XS [t] r = ds0) (k : run P (.drawn H0 (((ds.flatMap D.ids).map (2 * ·)).map (·, ds0) ++ R) W) r K ⟨(t, d) :: fr, H⟩) : run P (.drawn H0 R W) (⟨some t, .call f args, none⟩ :: r) K ⟨fr, H⟩ :=
 Mw (Cv ha) rfl hds ho ⟨ds, ha, d, hd ▸ hok, hp, k⟩
theorem QbA {op : AOp} {dst : Option Nat} {p q : List Nat} {d : D} {ef : QhD} (he : EF P (fun k => (lk H0 k).isSome = true) op dst ⟨fr, H⟩ p q d ef) (ho : (Dr.drawn H0 R W).ok r.length (JH op p) (Jb op q) = true) (hds : R8 op dst r = ds0)
  (k : run P (.drawn H0 ((JH op p).map (·, ds0) ++ R) ((Jb op q).map (·, ds0) ++ W)) r K (St.eff ⟨fr, H⟩ dst d ef)) : run P (.drawn H0 R W) (⟨dst, op, none⟩ :: r) K ⟨fr, H⟩ := by
 subst hds
 exact .inr (.inl ⟨p, q, d, ef, he, ho, k⟩)
theorem LR {f : Nat} {args : List Opd} {HF : QhD} {kk : Nat} {b : Box} {d : D} (hc : XR P f args ⟨fr, H⟩ HF [] [(kk, b)] d) (hB : ∀ j ∈ HF.map Prod.fst, (lk H0 j).isSome = true) (ho : (Dr.drawn H0 R W).ok r.length ((HF.map Prod.fst).map (2 * ·)) [2 * kk, 2 * kk + 1] = true) (hds : R8 (.call f args) (some t) r = ds0)
  (k : run P (.drawn H0 (((HF.map Prod.fst).map (2 * ·)).map (·, ds0) ++ R) ((2 * kk, ds0) :: (2 * kk + 1, ds0) :: W)) r K ⟨(t, d) :: fr, (kk, b) :: H⟩) : run P (.drawn H0 R W) (⟨some t, .call f args, none⟩ :: r) K ⟨fr, H⟩ :=
 QbA (dst := some t) (.inl ⟨HF, kk, b, hc, hB, rfl, rfl, rfl⟩) ho hds k
theorem Bo {f : Nat} {args : List Opd} {HF : QhD} {n : Nat} {b : Box} (hc : XR P f args ⟨fr, H⟩ HF [(t, b)] [] (.osl t n)) (hn : lk H t = none) (hB : ∀ j ∈ HF.map Prod.fst, (lk H0 j).isSome = true) (ho : (Dr.drawn H0 R W).ok r.length ((HF.map Prod.fst).map (2 * ·)) [] = true) (hds : R8 (.call f args) (some t) r = ds0)
  (k : run P (.drawn H0 (((HF.map Prod.fst).map (2 * ·)).map (·, ds0) ++ R) W) r K ⟨(t, .osl t n) :: fr, (t, b) :: H⟩) : run P (.drawn H0 R W) (⟨some t, .call f args, none⟩ :: r) K ⟨fr, H⟩ :=
 QbA (dst := some t) (.inr (.inr ⟨HF, t, b, n, rfl, hc, hn, hB, rfl, rfl, rfl, rfl⟩)) ho hds k
theorem JY {esz et bytes kk n : Nat} {x y : Opd} {b : Box} {ys : List (List D)} {q : D} {pr : Bool} (hx : St.ev ⟨fr, H⟩ x = some (.osl kk n)) (hy : St.ev ⟨fr, H⟩ y = some q) (hq : kk ∉ q.ids) (hs : St.src ⟨fr, H⟩ esz q ys pr) (hn : lk H t = none)
  (hb : lk H kk = some b) (hl : n = b.rows.length) (he : b.esz = esz) (het : b.et = et) (hbb : (n + ys.length) * bytes <= 140737488355328) (hc : n + ys.length <= 4611686018427387904) (ho : (Dr.drawn H0 R W).ok r.length ((kk :: q.ids).map (2 * ·)) [2 * kk, 2 * kk + 1] = true) (hds : XS [t] r = ds0)
  (k : run P (.drawn H0 (((kk :: q.ids).map (2 * ·)).map (·, ds0) ++ R) ((2 * kk, ds0) :: (2 * kk + 1, ds0) :: W)) r K ⟨(t, .osl t (n + ys.length)) :: fr, (t, ⟨b.rows ++ ys, esz, et, b.pr && pr⟩) :: (kk, ZQ) :: H⟩) (hk0 : kk < 1000000 := by decide) (ht0 : t < 1000000 := by decide) : run P (.drawn H0 R W) (⟨some t, .append esz et bytes x y, none⟩ :: r) K ⟨fr, H⟩ :=
 QbA (dst := some t) ⟨t, kk, n, b, q, ys, pr, rfl, hx, hk0, hn, ht0, hb, hl, he, het, hy, hq, hs, hbb, hc, rfl, rfl, rfl, rfl⟩ ho hds k
end
theorem FY {f : Nat} {args : List Opd} {HF Hn Hu : QhD} {d : D} (hc : XR P f args ⟨fr, H⟩ HF Hn Hu d) (k : run P .fixed r K ⟨(t, d) :: fr, Hn ++ (Hu ++ H)⟩) : run P .fixed (⟨some t, .call f args, none⟩ :: r) K ⟨fr, H⟩ :=
 .inr (.inr (.inl ⟨f, args, HF, Hn, Hu, d, rfl, .inl rfl, hc, k⟩))
theorem LS {f kk : Nat} {xs : List Opd} {ps : List D} (ha : Zb ⟨fr, H⟩ xs = some (.ref kk 0 0 :: ps)) (hc : (D.ref kk 0 0 :: ps).all D.capOk = true) (hg : Fo f = []) (hps : (ps.all fun d => !d.own) = true) (k : run P dr r K ⟨(t, .clr f kk ps) :: fr, H⟩) : run P dr (⟨some t, .mkfn f xs, none⟩ :: r) K ⟨fr, H⟩ := QW rfl rfl ⟨_, ha, hc, .inr ⟨kk, ps, hg, rfl, hps, k⟩⟩
theorem Ze {x : Opd} {p : D} (hx : St.ev ⟨fr, H⟩ x = some p) (hp : p.isPtr = true) (k : run P dr r K ⟨(t, p) :: fr, H⟩) : run P dr (⟨some t, .nilCheck x, none⟩ :: r) K ⟨fr, H⟩ := QW rfl rfl ⟨p, hx, hp, k⟩
section
variable {bt : Bool} {x y : Opd} {ki : IntKind} {m n z : Int}
theorem Q0 (hx : St.ev ⟨fr, H⟩ x = some (.int ki m)) (hy : St.ev ⟨fr, H⟩ y = some (.int ki n)) (hz : ki.wrap (m + n) = z) (k : run P dr r K ⟨(t, .int ki z) :: fr, H⟩) : run P dr (⟨some t, .bin .add bt x y, none⟩ :: r) K ⟨fr, H⟩ := by subst hz; exact QW rfl rfl ⟨_, hx, _, hy, .inr rfl, k⟩
theorem JK (hx : St.ev ⟨fr, H⟩ x = some (.int ki m)) (hy : St.ev ⟨fr, H⟩ y = some (.int ki n)) (hz : ki.wrap (m - n) = z) (k : run P dr r K ⟨(t, .int ki z) :: fr, H⟩) : run P dr (⟨some t, .bin .sub bt x y, none⟩ :: r) K ⟨fr, H⟩ := by subst hz; exact QW rfl rfl ⟨_, hx, _, hy, .inr rfl, k⟩
theorem T9 (hx : St.ev ⟨fr, H⟩ x = some (.int ki m)) (hy : St.ev ⟨fr, H⟩ y = some (.int ki n)) (hz : ki.wrap (m * n) = z) (k : run P dr r K ⟨(t, .int ki z) :: fr, H⟩) : run P dr (⟨some t, .bin .mul bt x y, none⟩ :: r) K ⟨fr, H⟩ := by subst hz; exact QW rfl rfl ⟨_, hx, _, hy, .inr rfl, k⟩
theorem Qdx (hx : St.ev ⟨fr, H⟩ x = some (.int ki m)) (hy : St.ev ⟨fr, H⟩ y = some (.int ki n)) (h0 : n ≠ 0) (hz : ki.wrap (m.tdiv n) = z) (k : run P dr r K ⟨(t, .int ki z) :: fr, H⟩) : run P dr (⟨some t, .bin .quo bt x y, none⟩ :: r) K ⟨fr, H⟩ := by subst hz; exact QW rfl rfl ⟨_, hx, _, hy, .inr rfl, h0, k⟩
theorem Y3 (hx : St.ev ⟨fr, H⟩ x = some (.int ki m)) (hy : St.ev ⟨fr, H⟩ y = some (.int ki n)) (k : run P dr r K ⟨(t, .bool (decide (m = n))) :: fr, H⟩) : run P dr (⟨some t, .bin .eql bt x y, none⟩ :: r) K ⟨fr, H⟩ := QW rfl rfl ⟨_, hx, _, hy, .inr rfl, k⟩
theorem Z7 (hx : St.ev ⟨fr, H⟩ x = some (.int ki m)) (hy : St.ev ⟨fr, H⟩ y = some (.int ki n)) (k : run P dr r K ⟨(t, .bool (!decide (m = n))) :: fr, H⟩) : run P dr (⟨some t, .bin .neq bt x y, none⟩ :: r) K ⟨fr, H⟩ := QW rfl rfl ⟨_, hx, _, hy, .inr rfl, k⟩
theorem ZI (hx : St.ev ⟨fr, H⟩ x = some (.int ki m)) (hy : St.ev ⟨fr, H⟩ y = some (.int ki n)) (k : run P dr r K ⟨(t, .bool (decide (m < n))) :: fr, H⟩) : run P dr (⟨some t, .bin .lss bt x y, none⟩ :: r) K ⟨fr, H⟩ := QW rfl rfl ⟨_, hx, _, hy, .inr rfl, k⟩
theorem SZ (hx : St.ev ⟨fr, H⟩ x = some (.int ki m)) (hy : St.ev ⟨fr, H⟩ y = some (.int ki n)) (k : run P dr r K ⟨(t, .bool (decide (m <= n))) :: fr, H⟩) : run P dr (⟨some t, .bin .leq bt x y, none⟩ :: r) K ⟨fr, H⟩ := QW rfl rfl ⟨_, hx, _, hy, .inr rfl, k⟩
theorem YZ (hx : St.ev ⟨fr, H⟩ x = some (.int ki m)) (hy : St.ev ⟨fr, H⟩ y = some (.int ki n)) (k : run P dr r K ⟨(t, .bool (decide (n < m))) :: fr, H⟩) : run P dr (⟨some t, .bin .gtr bt x y, none⟩ :: r) K ⟨fr, H⟩ := QW rfl rfl ⟨_, hx, _, hy, .inr rfl, k⟩
theorem Fw (hx : St.ev ⟨fr, H⟩ x = some (.int ki m)) (hy : St.ev ⟨fr, H⟩ y = some (.int ki n)) (k : run P dr r K ⟨(t, .bool (decide (n <= m))) :: fr, H⟩) : run P dr (⟨some t, .bin .geq bt x y, none⟩ :: r) K ⟨fr, H⟩ := QW rfl rfl ⟨_, hx, _, hy, .inr rfl, k⟩
end
section
variable {x y : Opd} {m n : Bool}
theorem Bp (hx : St.ev ⟨fr, H⟩ x = some (.bool m)) (hy : St.ev ⟨fr, H⟩ y = some (.bool n)) (k : run P dr r K ⟨(t, .bool (decide (m = n))) :: fr, H⟩) : run P dr (⟨some t, .bin .eql true x y, none⟩ :: r) K ⟨fr, H⟩ := QW rfl rfl ⟨_, hx, _, hy, rfl, k⟩
theorem Qdw (hx : St.ev ⟨fr, H⟩ x = some (.bool m)) (hy : St.ev ⟨fr, H⟩ y = some (.bool n)) (k : run P dr r K ⟨(t, .bool (!decide (m = n))) :: fr, H⟩) : run P dr (⟨some t, .bin .neq true x y, none⟩ :: r) K ⟨fr, H⟩ := QW rfl rfl ⟨_, hx, _, hy, rfl, k⟩
end
section
variable {bt : Bool} {x y : Opd} {m n : List UInt8}
theorem JJ (hx : St.ev ⟨fr, H⟩ x = some (.str m)) (hy : St.ev ⟨fr, H⟩ y = some (.str n)) (k : run P dr r K ⟨(t, .bool (decide (m = n))) :: fr, H⟩) : run P dr (⟨some t, .bin .eql bt x y, none⟩ :: r) K ⟨fr, H⟩ := QW rfl rfl ⟨_, hx, _, hy, k⟩
theorem La (hx : St.ev ⟨fr, H⟩ x = some (.str m)) (hy : St.ev ⟨fr, H⟩ y = some (.str n)) (k : run P dr r K ⟨(t, .bool (!decide (m = n))) :: fr, H⟩) : run P dr (⟨some t, .bin .neq bt x y, none⟩ :: r) K ⟨fr, H⟩ := QW rfl rfl ⟨_, hx, _, hy, k⟩
theorem Br (hx : St.ev ⟨fr, H⟩ x = some (.str m)) (hy : St.ev ⟨fr, H⟩ y = some (.str n)) (k : run P dr r K ⟨(t, .bool (Op.bytesLess m n)) :: fr, H⟩) : run P dr (⟨some t, .bin .lss bt x y, none⟩ :: r) K ⟨fr, H⟩ := QW rfl rfl ⟨_, hx, _, hy, k⟩
theorem Qdu (hx : St.ev ⟨fr, H⟩ x = some (.str m)) (hy : St.ev ⟨fr, H⟩ y = some (.str n)) (k : run P dr r K ⟨(t, .bool (!(Op.bytesLess m n || decide (m = n)))) :: fr, H⟩) : run P dr (⟨some t, .bin .gtr bt x y, none⟩ :: r) K ⟨fr, H⟩ := QW rfl rfl ⟨_, hx, _, hy, k⟩
end
theorem Qds {neg : Bool} {ks : List Nat} {x y : Opd} {xs ys : List D} {b : Bool} (hx : St.ev ⟨fr, H⟩ x = some (.agg xs)) (hy : St.ev ⟨fr, H⟩ y = some (.agg ys)) (he : JX ks xs ys = some b) (k : run P dr r K ⟨(t, .bool (if neg = true then !b else b)) :: fr, H⟩) : run P dr (⟨some t, .eqs neg ks x y, none⟩ :: r) K ⟨fr, H⟩ := QW rfl rfl ⟨_, hx, _, hy, xs, rfl, ys, rfl, b, he, k⟩
theorem PD {ks : List Nat} {x y : Opd} {xs ys : List D} {b : Bool} (hx : St.ev ⟨fr, H⟩ x = some (.agg xs)) (hy : St.ev ⟨fr, H⟩ y = some (.agg ys)) (he : JX ks xs ys = some b) (k : run P dr r K ⟨(t, .bool b) :: fr, H⟩) : run P dr (⟨some t, .eqs false ks x y, none⟩ :: r) K ⟨fr, H⟩ := Qds hx hy he k
theorem Qdt {ks : List Nat} {x y : Opd} {xs ys : List D} {b : Bool} (hx : St.ev ⟨fr, H⟩ x = some (.agg xs)) (hy : St.ev ⟨fr, H⟩ y = some (.agg ys)) (he : JX ks xs ys = some b) (k : run P dr r K ⟨(t, .bool (!b)) :: fr, H⟩) : run P dr (⟨some t, .eqs true ks x y, none⟩ :: r) K ⟨fr, H⟩ := Qds hx hy he k
theorem Zm {x : Opd} {b : Bool} (hx : St.ev ⟨fr, H⟩ x = some (.bool b)) (k : run P dr r K ⟨(t, .bool (!b)) :: fr, H⟩) : run P dr (⟨some t, .un .not x, none⟩ :: r) K ⟨fr, H⟩ := QW rfl rfl ⟨_, hx, k⟩
theorem SY {x : Opd} {ki kj : IntKind} {m z : Int} (hx : St.ev ⟨fr, H⟩ x = some (.int ki m)) (hz : kj.wrap m = z) (k : run P dr r K ⟨(t, .int kj z) :: fr, H⟩) : run P dr (⟨some t, .conv kj x, none⟩ :: r) K ⟨fr, H⟩ := QW rfl rfl ⟨_, hx, _, rfl, hz ▸ k⟩
theorem KN {x : Opd} {lo hi : Option Opd} {c c' : List UInt8} {l h : Int} (hx : St.ev ⟨fr, H⟩ x = some (.str c)) (hl : St.bdO ⟨fr, H⟩ lo 0 = some l) (hh : St.bdO ⟨fr, H⟩ hi c.length = some h)
  (h0 : 0 <= l) (h1 : l <= h) (h2 : h <= c.length) (hq : (c.take h.toNat).drop l.toNat = c') (k : run P dr r K ⟨(t, .str c') :: fr, H⟩) : run P dr (⟨some t, .sliceStr x lo hi, none⟩ :: r) K ⟨fr, H⟩ := QW rfl rfl ⟨_, hx, c, rfl, l, hl, h, hh, h0, h1, h2, hq ▸ k⟩
theorem QX {off : Nat} {x : Opd} {cells : List D} (hx : St.ev ⟨fr, H⟩ x = some (.ptr cells)) (ho : Nat.ble off cells.length = true) (k : run P dr r K ⟨(t, .ptr (cells.drop off)) :: fr, H⟩) : run P dr (⟨some t, .fieldAddr off x, none⟩ :: r) K ⟨fr, H⟩ := QW rfl rfl ⟨_, hx, QhG ho, k⟩
theorem Qe {off kk i j : Nat} {x : Opd} (hx : St.ev ⟨fr, H⟩ x = some (.ref kk i j)) (hk : (lk H kk).isSome = true) (k : run P dr r K ⟨(t, .ref kk i (j + off)) :: fr, H⟩) : run P dr (⟨some t, .fieldAddr off x, none⟩ :: r) K ⟨fr, H⟩ := QW rfl rfl ⟨_, hx, hk, k⟩
theorem QE {esz : Nat} {x i : Opd} {ki : IntKind} {n : Int} {p : D} {rows : List (List D)} {row : List D} (hi : St.ev ⟨fr, H⟩ i = some (.int ki n)) (hx : St.ev ⟨fr, H⟩ x = some p) (hp : p.rows? = some rows) (h0 : 0 <= n) (hr : rows[n.toNat]? = some row) (hl : row.length = esz) (k : run P dr r K ⟨(t, .ptr row) :: fr, H⟩) : run P dr (⟨some t, .indexAddr esz x i, none⟩ :: r) K ⟨fr, H⟩ := by
 refine QW (by rw [pk1 rfl hx]; cases p <;> first | rfl | (cases hp; done)) rfl ?_
 refine ⟨_, hi, _, hx, ?_⟩
 cases p <;> simp only [D.rows?, QhI, reduceCtorEq] at hp
 ·subst hp; exact ⟨row, h0, hr, hl, k⟩
 ·subst hp; exact ⟨row, h0, hr, hl, k⟩
theorem Z6 {esz : Nat} {x i : Opd} {ki : IntKind} {n : Int} {j m : Nat} {b : Box} (hi : St.ev ⟨fr, H⟩ i = some (.int ki n)) (hx : St.ev ⟨fr, H⟩ x = some (.osl j m)) (hb : lk H j = some b) (hm : m = b.rows.length) (h0 : 0 <= n) (h1 : n < m) (hl : b.esz = esz) (k : run P .fixed r K ⟨(t, .ref j n.toNat 0) :: fr, H⟩) : run P .fixed (⟨some t, .indexAddr esz x i, none⟩ :: r) K ⟨fr, H⟩ := YW ⟨_, hi, _, hx, b, hb, hm, h0, h1, hl, k⟩
theorem Z1 {x i : Opd} {ki : IntKind} {n : Int} {l : List UInt8} {c : UInt8} (hi : St.ev ⟨fr, H⟩ i = some (.int ki n)) (hx : St.ev ⟨fr, H⟩ x = some (.str l)) (h0 : 0 <= n) (hc : l[n.toNat]? = some c) (k : run P dr r K ⟨(t, .int .u8 c.toNat) :: fr, H⟩) : run P dr (⟨some t, .indexStr x i, none⟩ :: r) K ⟨fr, H⟩ := QW rfl rfl ⟨_, hi, _, hx, c, h0, hc, k⟩
theorem Q4 {i : Nat} {x : Opd} {ds : List D} {d : D} (hx : St.ev ⟨fr, H⟩ x = some (.tup ds)) (hd : ds[i]? = some d) (k : run P dr r K ⟨(t, d) :: fr, H⟩) : run P dr (⟨some t, .extract i x, none⟩ :: r) K ⟨fr, H⟩ := QW rfl rfl ⟨_, hx, ds, rfl, d, hd, k⟩
theorem QY {x : Opd} {p : D} {n : Int} (hx : St.ev ⟨fr, H⟩ x = some p) (hn : Qdg p = some n) (k : run P dr r K ⟨(t, .int .i64 n) :: fr, H⟩) : run P dr (⟨some t, .len x, none⟩ :: r) K ⟨fr, H⟩ := QW rfl rfl ⟨p, hx, n, hn, k⟩
theorem ZN {x : Opd} {l : List UInt8} (hx : St.ev ⟨fr, H⟩ x = some (.str l)) (k : run P dr r K ⟨(t, .int .i64 l.length) :: fr, H⟩) : run P dr (⟨some t, .lenStr x, none⟩ :: r) K ⟨fr, H⟩ := QW rfl rfl ⟨_, hx, l, rfl, k⟩
theorem Qdv {x y : Opd} {ki kj : IntKind} {m n : Int} (hx : St.ev ⟨fr, H⟩ x = some (.int ki m)) (hy : St.ev ⟨fr, H⟩ y = some (.int kj n)) (k : run P dr r K ⟨(t, .int ki (min m n)) :: fr, H⟩) : run P dr (⟨some t, .min x y, none⟩ :: r) K ⟨fr, H⟩ := QW rfl rfl ⟨_, hx, _, hy, k⟩
theorem Qe1 {x y : Opd} {ki kj : IntKind} {m n : Int} (hx : St.ev ⟨fr, H⟩ x = some (.int ki m)) (hy : St.ev ⟨fr, H⟩ y = some (.int kj n)) (k : run P dr r K ⟨(t, .int ki (max m n)) :: fr, H⟩) : run P dr (⟨some t, .max x y, none⟩ :: r) K ⟨fr, H⟩ := QW rfl rfl ⟨_, hx, _, hy, k⟩
theorem Qdr {esz et bytes : Nat} {x y : Opd} {rows ys : List (List D)} {pr : Bool} {q : D} (hx : St.ev ⟨fr, H⟩ x = some (.fsl rows)) (hy : St.ev ⟨fr, H⟩ y = some q) (hs : ∀ kk : List (List D) -> Bool -> Prop, kk ys pr -> LP ⟨fr, H⟩ esz q kk) (hn : lk H t = none) (hy0 : rows = [] \/ ys ≠ []) (he : ∀ r ∈ rows, r.length = esz) (hb : (rows.length + ys.length) * bytes <= 140737488355328) (hc : rows.length + ys.length <= 4611686018427387904)
  (k : run P .fixed r K ⟨(t, .osl t (rows.length + ys.length)) :: fr, (t, ⟨rows ++ ys, esz, et, pr⟩) :: H⟩) : run P .fixed (⟨some t, .append esz et bytes x y, none⟩ :: r) K ⟨fr, H⟩ := YW ⟨_, hx, q, hy, hs _ ⟨t, rfl, hn, hy0, he, hb, hc, k⟩⟩
theorem Qbn {s : St} {esz : Nat} {rs : List (List D)} {kk : List (List D) -> Bool -> Prop} (he : ∀ r ∈ rs, r.length = esz) (h : kk rs true) : LP s esz (.fsl rs) kk := ⟨he, h⟩
theorem Qez {s : St} {esz : Nat} {rs : List (List D)} {kk : List (List D) -> Bool -> Prop} (he : ∀ r ∈ rs, r.length = esz) (h : kk rs true) : LP s esz (.sl rs) kk := ⟨he, h⟩
theorem Ka {s : St} {esz j n : Nat} {b : Box} {kk : List (List D) -> Bool -> Prop} (hb : lk s.H j = some b) (hn : n = b.rows.length) (he : b.esz = esz) (h : kk b.rows b.pr) : LP s esz (.osl j n) kk := ⟨b, hb, hn, he, h⟩
theorem QK {f : Nat} {args : List Opd} {ds ds' : List D} {d : D} (hok : Ok P f ds' d) (ha : Zb ⟨fr, H⟩ args = some ds) (hd : ds.map (JM ⟨fr, H⟩) = ds') (hp : ds.all D.pure = true \/ d.flat = true) (k : run P .fixed r K ⟨(t, d) :: fr, H⟩) : run P .fixed (⟨some t, .call f args, none⟩ :: r) K ⟨fr, H⟩ := YW ⟨ds, ha, d, hd ▸ hok, hp, k⟩
theorem LU {x : Opd} {l : List UInt8} (hx : St.ev ⟨fr, H⟩ x = some (.str l)) (hn : lk H t = none) (k : run P dr r K ⟨(t, .ref t 0 0) :: fr, (t, ⟨[], 0, Zq l 0, false⟩) :: H⟩) : run P dr (⟨some t, .range x, none⟩ :: r) K ⟨fr, H⟩ := QW rfl rfl ⟨t, rfl, _, hx, l, rfl, hn, k⟩
theorem S1 {x : Opd} {j p c n : Nat} {l : List UInt8} (hx : St.ev ⟨fr, H⟩ x = some (.ref j 0 0)) (hb : lk H j = some ⟨[], 0, Zq l p, false⟩) (hp : p < l.length) (hd : Utf8.decode ⟨l.toArray⟩ p = (c, n))
  (k : run P .fixed r K ⟨(t, .tup [.bool true, .int .i64 p, .int .i32 c]) :: fr, (j, ⟨[], 0, Zq l (p + n), false⟩) :: H⟩) : run P .fixed (⟨some t, .next x, none⟩ :: r) K ⟨fr, H⟩ :=
 YW ⟨rfl, _, hx, l, p, hb, .inl ⟨hp, by rw [hd]; exact k⟩⟩
theorem PE {x : Opd} {j p : Nat} {l : List UInt8} (hx : St.ev ⟨fr, H⟩ x = some (.ref j 0 0)) (hb : lk H j = some ⟨[], 0, Zq l p, false⟩) (hp : ¬ p < l.length)
  (k : run P .fixed r K ⟨(t, .tup [.bool false]) :: fr, H⟩) : run P .fixed (⟨some t, .next x, none⟩ :: r) K ⟨fr, H⟩ :=
 YW ⟨rfl, _, hx, l, p, hb, .inr ⟨hp, k⟩⟩
/-! ### Guards -/
theorem Qc {dst : Option Nat} {op : AOp} {g : Nat} {b : Bool} (h : lk fr g = some (.bool b)) (k : run P dr (⟨dst, op, none⟩ :: r) K ⟨fr, H⟩) (hc : (op.isCl && (dr.dr && !(Ta r).isEmpty)) = false := by rfl) : run P dr (⟨dst, op, some (g, b)⟩ :: r) K ⟨fr, H⟩ := by
 have e : ∀ p q : List Nat, dr.nx (R8 op dst r) p q = dr.nx (XS dst.toList r) p q := fun p q => by
  cases op <;> try rfl
  cases dr
  ·rfl
  ·simp only [AOp.isCl, Dr.dr, Bool.true_and, Bool.not_eq_false', List.isEmpty_iff] at hc
   simp only [R8, hc, List.append_nil]
 simp only [run] at k
 simp only [e] at k
 exact ⟨_, h, (fun _ => k), fun h => by cases b <;> cases h⟩
theorem Yk {op : AOp} {g : Nat} {b : Bool} (h : lk fr g = some (.bool (!b))) (k : run P dr r K ⟨(t, .undef) :: fr, H⟩) : run P dr (⟨some t, op, some (g, b)⟩ :: r) K ⟨fr, H⟩ :=
 ⟨_, h, (fun h => by cases b <;> cases h), fun _ => k⟩
theorem Qo {op : AOp} {g : Nat} {b : Bool} (h : lk fr g = some .undef) (k : run P dr r K ⟨(t, .undef) :: fr, H⟩) : run P dr (⟨some t, op, some (g, b)⟩ :: r) K ⟨fr, H⟩ := ⟨_, h, k⟩
theorem Qr {l : List AOper} {g : Nat} {c : Bool} (_h : lk fr g = some (.bool c)) (h1 : c = true -> run P dr l K ⟨fr, H⟩) (h2 : c = false -> run P dr l K ⟨fr, H⟩) : run P dr l K ⟨fr, H⟩ := by
 cases c
 ·exact h2 rfl
 ·exact h1 rfl
end
/-! ### What lives on -/
theorem Qn {t : Nat} {ts : List Nat} {fr : QhE} {d : D} {q : QhE} (h : lk fr t = some d) (hq : Zc ts fr = q) : Zc (t :: ts) fr = (t, d) :: q := by simp only [Zc, h, hq]
theorem QL {fr : QhE} : Zc [] fr = [] := rfl
section
variable {P : Program} {nt : Nat} {Q : ZT -> St -> Prop} {l : List Nat} {b : TCode} {fr fr' : QhE} {H : QhD}
theorem Zo (h : Zc l fr = fr') (k : TW P nt b Q ⟨fr', H⟩) : TW P nt b Q ⟨Zc l fr, H⟩ := h ▸ k
theorem QJ (h : Zc l fr = fr') (k : TW P nt b Q ⟨fr', H⟩) : TV P nt l b Q .normal ⟨fr, H⟩ := by
 simp only [TV, h]; exact k
end
section
variable {fr : QhE} {H : QhD} {t : Nat} {d p : D}
end
section
variable {fr : QhE} {H : QhD} {t : Nat}
theorem Qg {e : ZT} {b b' : Bool} (h : lk fr t = some (.bool b)) (hb : b = b') (he : e = .ret \/ e = .normal := by first | exact .inl rfl | exact .inr rfl) : Post [.tmp t] (.bool b') e ⟨fr, H⟩ := by
 subst hb; rcases he with rfl | rfl <;> exact ⟨_, h, rfl⟩
theorem QF {e : ZT} {k : IntKind} {b b' : Int} (h : lk fr t = some (.int k b)) (hb : b = b') (he : e = .ret \/ e = .normal := by first | exact .inl rfl | exact .inr rfl) : Post [.tmp t] (.int k b') e ⟨fr, H⟩ := by
 subst hb; rcases he with rfl | rfl <;> exact ⟨_, h, rfl⟩
theorem KF {e : ZT} {p d : D} (h : lk fr t = some p) (hd : JM ⟨fr, H⟩ p = d) (he : e = .ret \/ e = .normal := by first | exact .inl rfl | exact .inr rfl) : Post [.tmp t] d e ⟨fr, H⟩ := by
 subst hd; rcases he with rfl | rfl <;> exact ⟨_, h, rfl⟩
end
section
variable {fr : QhE} {H : QhD} {t u : Nat}
theorem Zt {e : ZT} {p q d d' : D} (h : lk fr t = some p) (h2 : lk fr u = some q) (hd : JM ⟨fr, H⟩ p = d /\ JM ⟨fr, H⟩ q = d') (he : e = .ret \/ e = .normal := by first | exact .inl rfl | exact .inr rfl) : Post [.tmp t, .tmp u] (.tup [d, d']) e ⟨fr, H⟩ := by
 obtain ⟨rfl, rfl⟩ := hd
 rcases he with rfl | rfl <;> exact ⟨_, rfl, _, _, rfl, ⟨p, h, rfl⟩, _, _, rfl, ⟨q, h2, rfl⟩, rfl⟩
theorem JS {e : ZT} {sz : Nat} {p : D} {cells cs ds : List D} (h : lk fr t = some p) (ha : St.atO ⟨fr, H⟩ p = some cells) (hl : Nat.ble sz cells.length = true) (hc : cells.take sz = cs) (hd : JM ⟨fr, H⟩ (.agg cs) = .agg ds) (he : e = .ret \/ e = .normal := by first | exact .inl rfl | exact .inr rfl) : Post [.cell t true sz] (.agg ds) e ⟨fr, H⟩ := by
 subst hc
 rcases he with rfl | rfl <;> exact ⟨p, cells, h, L4.2 ha, by simp only [if_true]; exact ⟨QhG hl, hd.symm⟩⟩
end
section
variable {P : Program} {nt : Nat} {Q : ZT -> St -> Prop} {l : List Nat} {b : TCode} {s : St} {id i : Nat}
def D4 {ι : Type} (st : ι -> St) (I : ι -> Prop) (Q : ZT -> St -> Prop) : ZT -> St -> Prop
 | .normal, s => ∃ j, s.le (st j) /\ I j
 | e, s => Q e s
theorem Fh {ι : Type} (st : ι -> St) (I : ι -> Prop) {a : TCode} (h : TW P nt a (D4 st I Q) s) (k : ∀ j, I j -> TW P nt b Q (st j)) : TW P nt (.seq a l b) Q s :=
 N9 (fun code E g a w hm hp hn hfl r => wpIn_mono (h code E g a w hm hp hn hfl r) fun e a' w' hq => by
  cases e <;> simp only [AQ] at hq ⊢
  ·obtain ⟨s', g', ⟨j, hle, hI⟩, r'⟩ := hq; exact ⟨s', g', RU hle (k j hI), r'⟩
  ·exact hq
  ·exact hq)
theorem Q9 {ι : Type} {st : ι -> St} {I : ι -> Prop} (j : ι) (h : s.le (st j)) (hI : I j) : D4 st I Q .normal s := ⟨j, h, hI⟩
theorem Kz {ι : Type} {st : ι -> St} {I : ι -> Prop} (h : Q (.exit id) s) : D4 st I Q (.exit id) s := h
theorem ZJ {ι : Type} {st : ι -> St} {I : ι -> Prop} (h : Q .ret s) : D4 st I Q .ret s := h
theorem QB (h : Q (.exit id) s) : TV P nt l b Q (.exit id) s := h
theorem Qf (h : Q .ret s) : TV P nt l b Q .ret s := h
theorem Ql (h : Q .normal s) : Jh id Q .normal s := h
theorem QA (h : Q .normal s) : Jh id Q (.exit id) s := by simp only [Jh, if_true]; exact h
theorem Zd (hn : i ≠ id) (h : Q (.exit i) s) : Jh id Q (.exit i) s := by simp only [Jh, if_neg hn]; exact h
theorem Qj (h : Q .ret s) : Jh id Q .ret s := h
section
variable {ι : Type} {st : ι -> St} {I : ι -> Prop} {μ : ι -> Nat} {j : ι}
theorem Qk (j' : ι) (h : s.le (st j')) (hI : I j') (hm : μ j' < μ j) : Mu st I μ j Q .normal s := ⟨j', h, hI, hm⟩
theorem Qv (h : Q (.exit id) s) : Mu st I μ j Q (.exit id) s := h
theorem QC (h : Q .ret s) : Mu st I μ j Q .ret s := h
end
end
def HP : List Nat -> QhD -> QhD
 | [], _ => []
 | t :: ts, H => match lk H t with
  | some d => (t, d) :: HP ts H
  | none => HP ts H
theorem Qa {t : Nat} {ts : List Nat} {H : QhD} {d : Box} {q : QhD} (h : lk H t = some d) (hq : HP ts H = q) : HP (t :: ts) H = (t, d) :: q := by simp only [HP, h, hq]
theorem Qi {H : QhD} : HP [] H = [] := rfl
theorem J4 : ∀ (l : List Nat) (fr : QhD) (t : Nat) (d : Box), lk (HP l fr) t = some d -> lk fr t = some d
 | [], fr, t, d, h => by cases h
 | u :: us, fr, t, d, h => by
  simp only [HP] at h
  split at h
  ·rename_i d' hd
   rw [Qx] at h
   split at h
   ·rename_i e; subst e; cases h; exact hd
   ·exact J4 us fr t d h
  ·exact J4 us fr t d h
theorem QP {l lH : List Nat} {fr fr1 fr' : QhE} {H H1 H' : QhD} (hf : Zc l fr = fr1) (hH : HP lH H = H1) (ef : fr1 = fr') (eH : H1 = H') (hw : wfB H' fr' = true) (hbk : QbU H H' = true := by rfl) : St.le ⟨fr, H⟩ ⟨fr', H'⟩ := by
 subst ef eH hf hH
 intro E g a w r
 simp only [wfB, QhJ, QhP] at hw
 exact ⟨g, r.less (fun t d h => YN l fr t d h) (fun k b h => J4 lH H k b h) (fun t d h k hk => hw.1 (t, d) (ZR h) k hk) (fun k b h j hj => hw.2 (k, b) (ZR h) j hj) (F7 hbk)⟩
theorem Yy {fr : QhE} {H : QhD} (t k esz et : Nat) (ht : lk fr t = some (.fsl [])) (hk : lk H k = none) : St.le ⟨fr, H⟩ ⟨(t, .osl k 0) :: fr, (k, ⟨[], esz, et, true⟩) :: H⟩ := by
 intro E g a w r
 obtain ⟨g', hK, hβ, r'⟩ := r.allocEmpty (esz := esz) (et := et) (t := k) hk
 refine ⟨g', { r' with fr := fun u d h => ?_, wfF := fun u d h j hj => ?_ }⟩
 ·rw [Qx] at h
  split at h
  ·rename_i e; cases h; subst e
   have h1 := r'.fr t (.fsl []) ht
   simp only [Rep, RepS, RepP] at h1 ⊢
   obtain ⟨a0, h2, _⟩ := h1
   exact ⟨a0, 0, h2, Nat.le_refl _, by simp⟩
  ·exact r'.fr u d h
 ·rw [Qx] at h
  split at h
  ·cases h
   simp only [D.ids, D.sid, QhO] at hj
   subst hj
   simp [Qx]
  ·exact r'.wfF u d h j hj
section
variable {P : Program} {r : List AOper} {K : St -> Prop} {fr : QhE} {H : QhD} {t : Nat}
theorem Qbz {esz et bytes k n : Nat} {x y : Opd} {b : Box} {ys : List (List D)} {q : D} {pr : Bool} (hx : St.ev ⟨fr, H⟩ x = some (.osl k n)) (hy : St.ev ⟨fr, H⟩ y = some q) (hs : ∀ kk : List (List D) -> Bool -> Prop, kk ys pr -> LP ⟨fr, H⟩ esz q kk)
  (hb : lk H k = some b) (hn : n = b.rows.length) (he : b.esz = esz) (ht : b.et = et) (hp : (b.pr && pr) = true \/ ∀ r0 ∈ b.rows ++ ys, ∀ d ∈ r0, k ∉ d.sid) (hbb : (n + ys.length) * bytes <= 140737488355328) (hc : n + ys.length <= 4611686018427387904)
  (kk : run P .fixed r K ⟨(t, .osl k (n + ys.length)) :: fr.map fun p => (p.1, p.2.scrub k), (k, ⟨b.rows ++ ys, esz, et, b.pr && pr⟩) :: H.map fun p => (p.1, p.2.scrub k)⟩) (hk0 : k < 1000000 := by decide) : run P .fixed (⟨some t, .append esz et bytes x y, none⟩ :: r) K ⟨fr, H⟩ := YW ⟨_, hx, q, hy, hs (fun ys pr => QbN false esz et bytes (some t) ⟨fr, H⟩ (.osl k n) ys pr fun s' => run P .fixed r K s') ⟨rfl, hk0, b, hb, hn, he, ht, hp, hbb, hc, kk⟩⟩
theorem Jc {esz et bytes k n : Nat} {x y : Opd} {b : Box} {ys : List (List D)} {q : D} (hx : St.ev ⟨fr, H⟩ x = some (.osl k n)) (hy : St.ev ⟨fr, H⟩ y = some q) (hs : ∀ kk : List (List D) -> Bool -> Prop, kk ys true -> LP ⟨fr, H⟩ esz q kk)
  (hb : lk H k = some b) (hn : n = b.rows.length) (he : b.esz = esz) (ht : b.et = et) (hp : b.pr = true) (hbb : (n + ys.length) * bytes <= 140737488355328) (hc : n + ys.length <= 4611686018427387904)
  (kk : run P .fixed r K ⟨(t, .osl k (n + ys.length)) :: fr.map fun p => (p.1, p.2.scrub k), (k, ⟨b.rows ++ ys, esz, et, true⟩) :: H.map fun p => (p.1, p.2.scrub k)⟩) (hk0 : k < 1000000 := by decide) : run P .fixed (⟨some t, .append esz et bytes x y, none⟩ :: r) K ⟨fr, H⟩ :=
 Qbz hx hy hs hb hn he ht (.inl (by rw [hp]; rfl)) hbb hc (by rw [hp]; exact kk) hk0
end
theorem Kx {α : Type} {l : List α} {i : Nat} (h : i < l.length) : l[((i : Nat) : Int).toNat]? = some l[i] := by simp [h]
theorem QR {α β : Type} {l : List α} {f : α -> β} {i : Nat} (h : i < l.length) : (l.map f)[((i : Nat) : Int).toNat]? = some (f l[i]) := by simp [h]
theorem QZ {α β : Type} {l : List α} {f : α -> β} {k : Int} (h0 : 0 <= k) (h : k < l.length) : (l.map f)[k.toNat]? = some (f (l[k.toNat]'Wa)) := by
 rw [List.getElem?_map, List.getElem?_eq_getElem Wa]; rfl
theorem Q8 {α : Type} {l : List α} {p : α -> Bool} {i : Nat} (h : i < l.length) (ha : (l.take i).all p = true) (hp : p l[i] = true) : (l.take (i + 1)).all p = true := by
 rw [List.take_succ_eq_append_getElem h, List.all_append, ha]
 simp [hp]
theorem Q3 {l : List Nat} {fr fr' : QhE} {H : QhD} (h : Zc l fr = fr') : St.le ⟨fr, H⟩ ⟨fr', H⟩ := h ▸ G1 l fr H
theorem PX {l : List UInt8} {p : Nat} (h : p < l.length) (ha : (l[p]).toNat < 128) : Utf8.decode ⟨l.toArray⟩ p = ((l[p]).toNat, 1) := by
 have hs : p < (ByteArray.mk l.toArray).size := by simpa [ByteArray.size] using h
 exact decode_ascii ⟨l.toArray⟩ p hs ha
theorem Tf {l : List UInt8} {p : Nat} (h : p < l.length) (ha : 128 <= (l[p]).toNat) : ∃ c n, 128 <= c /\ Utf8.decode ⟨l.toArray⟩ p = (c, n) := by
 suffices hh : 128 <= (Utf8.decode ⟨l.toArray⟩ p).1 from ⟨_, _, hh, rfl⟩
 have e : ((ByteArray.mk l.toArray).get! (p + 0)).toNat = (l[p]).toNat := by
  show (((l.toArray)[p]!) : UInt8).toNat = _
  rw [getElem!_pos _ _ (by simpa using h)]
  simp
 unfold Utf8.decode
 simp only [e]
 rw [if_neg Wa]
 repeat' split
 all_goals first | (simp only [Utf8.runeError]; omega) | (simp_all; omega)
end Go.Abs
