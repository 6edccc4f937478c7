/- Part 1 of the means of the proof: a verified abstract evaluator, the prepared functions, and contracts of functions. It states nothing of the claim by itself. -/
import Derived.Calls
import Derived.Still
import Derived.Laws.Sem
import Derived.Laws.World
import Derived.Laws.Cells
import Derived.Laws.AppendOwn
import Derived.Laws.Strings
import Derived.Laws.Slices
import Derived.Laws.MakeOwn
import Derived.Laws.StructEq
import Derived.Laws.Small
import Derived.Laws.Entries
import Derived.Laws.RangeString
import Derived.Laws.BytesString
import Derived.Lib.ConvBytes
set_option maxRecDepth 4000
set_option linter.unusedSimpArgs false
set_option linter.unusedVariables false
set_option linter.unusedSectionVars false
abbrev QhF := @Option.map_eq_some_iff
abbrev QhG := @Nat.le_of_ble_eq_true
abbrev QhH := @List.mem_cons
abbrev QhI := @Option.some.injEq
abbrev QhJ := @Bool.and_eq_true
abbrev QhK := @List.getElem_mem
abbrev QhL := @Option.isSome_iff_exists
abbrev QhM := @List.mem_flatMap
abbrev QhN := @Bool.false_eq_true
abbrev QhO := @List.mem_singleton
abbrev QhP := @List.all_eq_true
abbrev QhQ := @List.mem_append
abbrev QhR := @Nat.zero_le
abbrev QhS := @Bool.and_eq_false_iff
abbrev QhT := @List.mem_map
abbrev QhU := @List.mem_append_right
abbrev QhV := @List.take_of_length_le
abbrev QhW := @List.drop_eq_getElem_cons
abbrev QhX := @Option.isSome_map
abbrev QhY := @Nat.le_trans
abbrev QhZ := @List.mem_of_mem_take
abbrev Qh0 := @List.drop_eq_nil_of_le
abbrev Qh1 := @List.mem_range
abbrev Qh2 := @Nat.lt_or_ge
namespace Go.Abs
open Go
inductive D where
 | undef
 | top
 | junk
 | int (k : IntKind) (n : Int)
 | bool (b : Bool)
 | str (l : List UInt8)
 | sl (rows : List (List D))
 | fsl (rows : List (List D))
 | osl (k n : Nat)
 | osv (k lo c n : Nat)
 | ref (k i off : Nat)
 | ptr (cells : List D)
 | agg (cells : List D)
 | tup (vs : List D)
 | tpo (cells : List D) (x : D)
 | clo (f : Nat) (caps : List D)
 | clr (f k : Nat) (ps : List D)
 | bnd (f : Nat) (rs : List D)
 | val (v : Value)
 deriving Inhabited
abbrev Kn := Nat -> Nat -> Option Value
def gfuncs : List Nat := [3, 4, 6, 7, 9, 11, 16, 18, 30, 32, 52, 56, 67, 75]
def Fo (f : Nat) : List Nat := if gfuncs.contains f = true then [0] else []
def gVs (f : Nat) : List Value := (Fo f).map fun i => .pointer (some ⟨i, 0, none⟩)
def Hq (t : Nat) : Value := if t < 900000 then Go.undef else .pointer (some ⟨t - 900000, 0, none⟩)
def D.isCell : D -> Bool
 | .undef | .top | .agg _ | .tup _ | .tpo _ _ => false
 | _ => true
mutual
def RepP (K : Kn) : D -> Value -> Prop
 | .undef, v => v = Go.undef
 | .top, _ => True
 | .junk, v => v.oneCell' = true
 | .int k n, v => v = .int k n
 | .bool b, v => v = .bool b
 | .str l, v => v = .string ⟨l.toArray⟩
 | .sl rows, v => ∃ a cap, v = .slice a rows.length cap /\ rows.length <= cap /\
   (rows = [] \/ ∃ b off esz, a = some ⟨b, off, none⟩ /\ (∀ r ∈ rows, r.length = esz) /\ RepRows K b off rows)
 | .fsl rows, v => ∃ a, v = .slice a rows.length rows.length /\
   (rows = [] \/ ∃ b off esz, a = some ⟨b, off, none⟩ /\ (∀ r ∈ rows, r.length = esz) /\ RepRows K b off rows)
 | .ptr cells, v => ∃ b off, v = .pointer (some ⟨b, off, none⟩) /\ RepCells K b off cells
 | .agg cells, v => ∃ cs : List Value, v = .agg cs.toArray /\ RepCs K cells cs
 | .tup ds, v => ∃ vs : List Value, v = .tuple vs.toArray /\ RepVs K ds vs
 | .tpo cells x, v => ∃ (cs : List Value) (u : Value), v = .tuple #[.agg cs.toArray, u] /\ RepCs K cells cs /\ RepP K x u
 | .clo f caps, v => ∃ cs : List Value, v = .func (.func f) #[] cs.toArray /\ RepVs K caps (cs ++ gVs f)
 | .bnd f rs, v => ∃ vs : List Value, v = .func (.func f) vs.toArray #[] /\ RepVs K rs (vs ++ gVs f)
 | .val x, v => v = x /\ x.oneCell' = true
 | .osl _ _, _ => False
 | .osv _ _ _ _, _ => False
 | .ref _ _ _, _ => False
 | .clr _ _ _, _ => False
def RepRows (K : Kn) (b : Nat) : Nat -> List (List D) -> Prop
 | _, [] => True
 | off, r :: rs => RepCells K b off r /\ RepRows K b (off + r.length) rs
def RepCells (K : Kn) (b : Nat) : Nat -> List D -> Prop
 | _, [] => True
 | off, d :: ds => (d.isCell = true /\ ∃ x, K b off = some x /\ RepP K d x) /\ RepCells K b (off + 1) ds
def RepCs (K : Kn) : List D -> List Value -> Prop
 | [], [] => True
 | d :: ds, v :: vs => (d.isCell = true /\ RepP K d v) /\ RepCs K ds vs
 | _, _ => False
def RepVs (K : Kn) : List D -> List Value -> Prop
 | [], [] => True
 | d :: ds, v :: vs => RepP K d v /\ RepVs K ds vs
 | _, _ => False
end
def Kn.le (K K' : Kn) : Prop := ∀ b o x, K b o = some x -> K' b o = some x
theorem Kn.le_refl (K : Kn) : K.le K := fun _ _ _ h => h
mutual
theorem RepP.mono {K K' : Kn} (h : K.le K') : ∀ (d : D) (v : Value), RepP K d v -> RepP K' d v
 | .undef, _, e => by simpa only [RepP] using e
 | .junk, _, e => by simpa only [RepP] using e
 | .top, _, _ => by simp only [RepP]
 | .int .., _, e => by simpa only [RepP] using e
 | .bool .., _, e => by simpa only [RepP] using e
 | .str .., _, e => by simpa only [RepP] using e
 | .val .., _, e => by simpa only [RepP] using e
 | .sl rows, v, e => by
  simp only [RepP] at e ⊢
  obtain ⟨a, cap, h1, h2, h4⟩ := e
  refine ⟨a, cap, h1, h2, h4.imp id ?_⟩
  rintro ⟨b, off, esz, g1, g2, g3⟩
  exact ⟨b, off, esz, g1, g2, RepRows.mono h b off rows g3⟩
 | .fsl rows, v, e => by
  simp only [RepP] at e ⊢
  obtain ⟨a, h1, h4⟩ := e
  refine ⟨a, h1, h4.imp id ?_⟩
  rintro ⟨b, off, esz, g1, g2, g3⟩
  exact ⟨b, off, esz, g1, g2, RepRows.mono h b off rows g3⟩
 | .ptr cells, v, e => by
  simp only [RepP] at e ⊢
  obtain ⟨b, off, h1, h2⟩ := e
  exact ⟨b, off, h1, RepCells.mono h b off cells h2⟩
 | .agg cells, v, e => by
  simp only [RepP] at e ⊢
  obtain ⟨cs, h1, h2⟩ := e
  exact ⟨cs, h1, RepCs.mono h cells cs h2⟩
 | .tup ds, v, e => by
  simp only [RepP] at e ⊢
  obtain ⟨cs, h1, h2⟩ := e
  exact ⟨cs, h1, RepVs.mono h ds cs h2⟩
 | .tpo cells x, v, e => by
  simp only [RepP] at e ⊢
  obtain ⟨cs, u, h1, h2, h3⟩ := e
  exact ⟨cs, u, h1, RepCs.mono h cells cs h2, RepP.mono h x u h3⟩
 | .clo f caps, v, e => by
  simp only [RepP] at e ⊢
  obtain ⟨cs, h1, h2⟩ := e
  exact ⟨cs, h1, RepVs.mono h caps _ h2⟩
 | .bnd f caps, v, e => by
  simp only [RepP] at e ⊢
  obtain ⟨cs, h1, h2⟩ := e
  exact ⟨cs, h1, RepVs.mono h caps _ h2⟩
 | .osl .., _, e => by simp only [RepP] at e
 | .osv .., _, e => by simp only [RepP] at e
 | .ref .., _, e => by simp only [RepP] at e
 | .clr .., _, e => by simp only [RepP] at e
theorem RepRows.mono {K K' : Kn} (h : K.le K') (b : Nat) : ∀ (off : Nat) (rows : List (List D)), RepRows K b off rows -> RepRows K' b off rows
 | _, [], _ => by simp only [RepRows]
 | off, r :: rs, e => by
  simp only [RepRows] at e ⊢
  exact ⟨RepCells.mono h b off r e.1, RepRows.mono h b _ rs e.2⟩
theorem RepCells.mono {K K' : Kn} (h : K.le K') (b : Nat) : ∀ (off : Nat) (cells : List D), RepCells K b off cells -> RepCells K' b off cells
 | _, [], _ => by simp only [RepCells]
 | off, d :: ds, e => by
  simp only [RepCells] at e ⊢
  obtain ⟨⟨h1, x, h2, h3⟩, h4⟩ := e
  exact ⟨⟨h1, x, h _ _ _ h2, RepP.mono h d x h3⟩, RepCells.mono h b _ ds h4⟩
theorem RepCs.mono {K K' : Kn} (h : K.le K') : ∀ (ds : List D) (vs : List Value), RepCs K ds vs -> RepCs K' ds vs
 | [], [], _ => by simp only [RepCs]
 | d :: ds, v :: vs, e => by
  simp only [RepCs] at e ⊢
  exact ⟨⟨e.1.1, RepP.mono h d v e.1.2⟩, RepCs.mono h ds vs e.2⟩
 | [], _ :: _, e => by simp only [RepCs] at e
 | _ :: _, [], e => by simp only [RepCs] at e
theorem RepVs.mono {K K' : Kn} (h : K.le K') : ∀ (ds : List D) (vs : List Value), RepVs K ds vs -> RepVs K' ds vs
 | [], [], _ => by simp only [RepVs]
 | d :: ds, v :: vs, e => by
  simp only [RepVs] at e ⊢
  exact ⟨RepP.mono h d v e.1, RepVs.mono h ds vs e.2⟩
 | [], _ :: _, e => by simp only [RepVs] at e
 | _ :: _, [], e => by simp only [RepVs] at e
end
theorem RepP.cell {K : Kn} {d : D} {v : Value} (h : RepP K d v) (hc : d.isCell = true) : v.oneCell' = true := by
 cases d <;> simp only [D.isCell, QhN] at hc <;> simp only [RepP] at h
 case junk => exact h
 case int => subst h; rfl
 case bool => subst h; rfl
 case val => rw [h.1]; exact h.2
 case str => subst h; rfl
 case sl => obtain ⟨a, cap, rfl, _⟩ := h; rfl
 case fsl => obtain ⟨a, rfl, _⟩ := h; rfl
 case ptr => obtain ⟨b, off, rfl, _⟩ := h; rfl
 case clo => obtain ⟨cs, rfl, _⟩ := h; rfl
 case bnd => obtain ⟨cs, rfl, _⟩ := h; rfl
structure Gh where
 K : Kn
 β : Nat -> Option (Nat × Nat)
 σ : Nat -> Nat × Nat
def Gh.gone (g : Gh) (k : Nat) : Prop := g.β k = none /\ g.σ k = (1, 0)
theorem Gh.gone.no {g : Gh} {k : Nat} {x : Nat × Nat} (h : g.gone k) (hβ : g.β k = some x) : False := by rw [h.1] at hβ; cases hβ
def RepS (g : Gh) : D -> Value -> Prop
 | .osl k n, v => ∃ a cap, v = .slice a n cap /\ n <= cap /\ ((n = 0 /\ cap = 0) \/ (∃ B esz, g.β k = some (B, esz) /\ a = some ⟨B, (g.σ k).2, none⟩ /\ (g.σ k).2 + cap * esz <= (g.σ k).1) \/ g.gone k)
 | .osv k lo c n, v => ∃ a cap, v = .slice a n cap /\ n <= cap /\ ((n = 0 /\ cap = 0) \/ (∃ B esz, g.β k = some (B, esz) /\ a = some ⟨B, (g.σ k).2 + c, none⟩ /\ (g.σ k).2 + (lo + cap) * esz <= (g.σ k).1) \/ g.gone k)
 | .ref k i off, v => ∃ B esz o, ((g.β k = some (B, esz) /\ o = (g.σ k).2) \/ g.gone k) /\ v = .pointer (some ⟨B, o + (i * esz + off), none⟩)
 | .clr f k ps, v => ∃ (B esz o : Nat) (cs : List Value), ((g.β k = some (B, esz) /\ o = (g.σ k).2) \/ g.gone k) /\ v = .func (.func f) #[] (Value.pointer (some ⟨B, o, none⟩) :: cs).toArray /\ RepVs g.K ps (cs ++ gVs f)
 | d, v => RepP g.K d v
def RepL (g : Gh) : List D -> List Value -> Prop
 | [], [] => True
 | d :: ds, v :: vs => RepS g d v /\ RepL g ds vs
 | _, _ => False
def Rep (g : Gh) : D -> Value -> Prop
 | .agg cells, v => ∃ cs : List Value, v = .agg cs.toArray /\ RepL g cells cs /\ ∀ d ∈ cells, d.isCell = true
 | .clo f caps, v => ∃ cs : List Value, v = .func (.func f) #[] cs.toArray /\ RepL g caps (cs ++ gVs f)
 | .tpo cells x, v => ∃ (cs : List Value) (u : Value), v = .tuple #[.agg cs.toArray, u] /\ RepL g cells cs /\ (∀ d ∈ cells, d.isCell = true) /\ RepP g.K x u
 | d, v => RepS g d v
theorem RepS.of {g : Gh} {d : D} {v : Value} (h : RepP g.K d v) : RepS g d v := by
 cases d <;> first | exact h | (simp only [RepP] at h)
theorem RepL.of_cs {g : Gh} : ∀ {ds : List D} {vs : List Value}, RepCs g.K ds vs -> RepL g ds vs /\ ∀ d ∈ ds, d.isCell = true
 | [], [], _ => ⟨trivial, by simp⟩
 | d :: ds, v :: vs, h => by
  simp only [RepCs] at h
  obtain ⟨h1, h2⟩ := RepL.of_cs (g := g) h.2
  exact ⟨⟨RepS.of h.1.2, h1⟩, by intro x hx; cases hx with | head => exact h.1.1 | tail _ hm => exact h2 x hm⟩
 | [], _ :: _, h => by simp only [RepCs] at h
 | _ :: _, [], h => by simp only [RepCs] at h
theorem RepL.of_vs {g : Gh} : ∀ {ds : List D} {vs : List Value}, RepVs g.K ds vs -> RepL g ds vs
 | [], [], _ => trivial
 | d :: ds, v :: vs, h => by
  simp only [RepVs] at h
  exact ⟨RepS.of h.1, RepL.of_vs h.2⟩
 | [], _ :: _, h => by simp only [RepVs] at h
 | _ :: _, [], h => by simp only [RepVs] at h
theorem Rep.of {g : Gh} {d : D} {v : Value} (h : RepP g.K d v) : Rep g d v := by
 cases d <;> try exact RepS.of h
 case agg cells =>
  simp only [RepP] at h
  obtain ⟨cs, h1, h2⟩ := h
  exact ⟨cs, h1, RepL.of_cs h2⟩
 case clo f caps =>
  simp only [RepP] at h
  obtain ⟨cs, h1, h2⟩ := h
  exact ⟨cs, h1, RepL.of_vs h2⟩
 case tpo cells x =>
  simp only [RepP] at h
  obtain ⟨cs, u, h1, h2, h3⟩ := h
  exact ⟨cs, u, h1, (RepL.of_cs h2).1, (RepL.of_cs h2).2, h3⟩
def D.own : D -> Bool
 | .osl _ _ => true
 | .osv _ _ _ _ => true
 | .ref _ _ _ => true
 | .clr _ _ _ => true
 | _ => false
def D.pure : D -> Bool
 | .agg cs => cs.all fun d => !d.own
 | .clo _ cs => cs.all fun d => !d.own
 | .tpo cs _ => cs.all fun d => !d.own
 | d => !d.own
theorem RepS.toP {g : Gh} {d : D} {v : Value} (h : RepS g d v) (hp : d.own = false) : RepP g.K d v := by
 cases d <;> first | exact h | (simp [D.own] at hp)
theorem _root_.Wc {p : Prop} (h : p := by simp) : p := h
theorem RepL.to_cs {g : Gh} : ∀ {ds : List D} {vs : List Value}, RepL g ds vs -> (∀ d ∈ ds, d.isCell = true) -> (ds.all fun d => !d.own) = true -> RepCs g.K ds vs
 | [], [], _, _, _ => by simp only [RepCs]
 | d :: ds, v :: vs, h, hc, hp => by
  simp only [RepCs]
  simp at hp
  exact ⟨⟨hc d Wc, h.1.toP (by simpa using hp.1)⟩, RepL.to_cs h.2 (fun x hx => hc x (by simp [hx])) (by simpa using hp.2)⟩
 | [], _ :: _, h, _, _ => h.elim
 | _ :: _, [], h, _, _ => h.elim
theorem RepL.to_vs {g : Gh} : ∀ {ds : List D} {vs : List Value}, RepL g ds vs -> (ds.all fun d => !d.own) = true -> RepVs g.K ds vs
 | [], [], _, _ => by simp only [RepVs]
 | d :: ds, v :: vs, h, hp => by
  simp only [RepVs]
  simp at hp
  exact ⟨h.1.toP (by simpa using hp.1), RepL.to_vs h.2 (by simpa using hp.2)⟩
 | [], _ :: _, h, _ => h.elim
 | _ :: _, [], h, _ => h.elim
theorem Rep.toP {g : Gh} {d : D} {v : Value} (h : Rep g d v) (hp : d.pure = true) : RepP g.K d v := by
 cases d <;> try exact RepS.toP h (by simpa [D.pure] using hp)
 case agg cells =>
  obtain ⟨cs, h1, h2, h3⟩ := h
  simp only [RepP]
  exact ⟨cs, h1, h2.to_cs h3 hp⟩
 case clo f caps =>
  obtain ⟨cs, h1, h2⟩ := h
  simp only [RepP]
  exact ⟨cs, h1, h2.to_vs hp⟩
 case tpo cells x =>
  obtain ⟨cs, u, h1, h2, h3, h4⟩ := h
  simp only [RepP]
  exact ⟨cs, u, h1, h2.to_cs h3 hp, h4⟩
def D.sid : D -> List Nat
 | .osl k _ => [k]
 | .osv k _ _ _ => [k]
 | .ref k _ _ => [k]
 | .clr _ k _ => [k]
 | _ => []
def D.ids : D -> List Nat
 | .agg cs => cs.flatMap D.sid
 | .clo _ cs => cs.flatMap D.sid
 | .tpo cs _ => cs.flatMap D.sid
 | d => d.sid
theorem _root_.Wm {p : Prop} (h : p := by simp [D.sid]) : p := h
theorem RepS.congr {g g' : Gh} {d : D} {v : Value} (h : RepS g d v) (hK : g.K.le g'.K) (hβ : ∀ k ∈ d.sid, g'.β k = g.β k /\ g'.σ k = g.σ k) : RepS g' d v := by
 cases d
 case osl k n =>
  obtain ⟨e1, e2⟩ := hβ k Wm
  simp only [RepS, Gh.gone] at h ⊢
  rw [e1, e2]; exact h
 case osv k lo c n =>
  obtain ⟨e1, e2⟩ := hβ k Wm
  simp only [RepS, Gh.gone] at h ⊢
  rw [e1, e2]; exact h
 case ref k i off =>
  obtain ⟨e1, e2⟩ := hβ k Wm
  simp only [RepS, Gh.gone] at h ⊢
  rw [e1, e2]; exact h
 case clr f k ps =>
  obtain ⟨e1, e2⟩ := hβ k Wm
  simp only [RepS, Gh.gone] at h ⊢
  rw [e1, e2]
  obtain ⟨B, esz, o, cs, h1, h2, h3⟩ := h
  exact ⟨B, esz, o, cs, h1, h2, RepVs.mono hK _ _ h3⟩
 all_goals exact RepP.mono hK _ _ h
theorem RepL.congr {g g' : Gh} (hK : g.K.le g'.K) : ∀ {ds : List D} {vs : List Value}, RepL g ds vs -> (∀ k ∈ ds.flatMap D.sid, g'.β k = g.β k /\ g'.σ k = g.σ k) -> RepL g' ds vs
 | [], [], _, _ => trivial
 | d :: ds, v :: vs, h, hβ => ⟨h.1.congr hK fun k hk => hβ k (by simp [hk]), RepL.congr hK h.2 fun k hk => hβ k (by
   rw [List.flatMap_cons]; exact QhU _ hk)⟩
 | [], _ :: _, h, _ => h.elim
 | _ :: _, [], h, _ => h.elim
theorem Rep.congr {g g' : Gh} {d : D} {v : Value} (h : Rep g d v) (hK : g.K.le g'.K) (hβ : ∀ k ∈ d.ids, g'.β k = g.β k /\ g'.σ k = g.σ k) : Rep g' d v := by
 cases d
 case agg cells =>
  obtain ⟨cs, h1, h2, h3⟩ := h
  exact ⟨cs, h1, h2.congr hK hβ, h3⟩
 case clo f caps =>
  obtain ⟨cs, h1, h2⟩ := h
  exact ⟨cs, h1, h2.congr hK hβ⟩
 case tpo cells x =>
  obtain ⟨cs, u, h1, h2, h3, h4⟩ := h
  exact ⟨cs, u, h1, h2.congr hK hβ, h3, RepP.mono hK _ _ h4⟩
 case osl k n => exact RepS.congr (d := .osl k n) h hK hβ
 case osv k lo c n => exact RepS.congr (d := .osv k lo c n) h hK hβ
 case ref k i off => exact RepS.congr (d := .ref k i off) h hK hβ
 case clr f k ps => exact RepS.congr (d := .clr f k ps) h hK hβ
 all_goals exact RepP.mono hK _ _ h
open Go
structure Box where
 rows : List (List D)
 esz : Nat
 et : Nat
 pr : Bool
def Box.ids (b : Box) : List Nat := if b.pr then [] else b.rows.flatMap fun r => r.flatMap D.sid
def lk {α : Type} : List (Nat × α) -> Nat -> Option α
 | [], _ => none
 | (k, v) :: r, t => if k = t then some v else lk r t
theorem Qx {α : Type} (k : Nat) (v : α) (r : List (Nat × α)) (t : Nat) : lk ((k, v) :: r) t = if k = t then some v else lk r t := rfl
structure St where
 fr : List (Nat × D)
 H : List (Nat × Box)
structure Env where
 nt : Nat
 B0 : Nat
 w0 : World
 K0 : Kn
 fo : Nat -> Prop
 keep : Nat -> Prop
 β0 : Nat -> Option (Nat × Nat)
 σ0 : Nat -> Nat × Nat
 rd : Option Nat := none
 bd : Option Nat := none
mutual
def RowsC (g : Gh) (c : Array Value) : Nat -> List (List D) -> Prop
 | _, [] => True
 | off, r :: rs => CellsC g c off r /\ RowsC g c (off + r.length) rs
def CellsC (g : Gh) (c : Array Value) : Nat -> List D -> Prop
 | _, [] => True
 | off, d :: ds => (d.isCell = true /\ ∃ x, c[off]? = some x /\ RepS g d x) /\ CellsC g c (off + 1) ds
end
def Zq : List UInt8 -> Nat -> Nat
 | [], p => 257 * p
 | c :: l, p => 257 * Zq l p + (c.toNat + 1)
theorem _root_.Wa {p : Prop} (h : p := by omega) : p := h
theorem Fp : ∀ {l m : List UInt8} {p q : Nat}, Zq l p = Zq m q -> l = m /\ p = q
 | [], [], p, q, h => by simp only [Zq] at h; exact ⟨rfl, Wa⟩
 | [], c :: m, p, q, h => by have := c.toNat_lt; simp only [Zq] at h; omega
 | c :: l, [], p, q, h => by have := c.toNat_lt; simp only [Zq] at h; omega
 | c :: l, d :: m, p, q, h => by
  have h1 := c.toNat_lt
  have h2 := d.toNat_lt
  simp only [Zq] at h
  obtain ⟨h3, h4⟩ := Fp (l := l) (m := m) (p := p) (q := q) Wa
  exact ⟨by rw [h3, UInt8.toNat_inj.1 (by omega : c.toNat = d.toNat)], h4⟩
def MA (E : Env) (g : Gh) (w : World) (k : Nat) (b : Box) : Prop :=
 b.rows = [] /\ b.esz = 0 /\ b.pr = false /\ ∃ s p B, b.et = Zq s p /\ g.β k = some (B, 0) /\ w.heap[B]? = some (.stringIter ⟨s.toArray⟩ p) /\ (∀ o, g.K B o = none) /\ (E.B0 <= B \/ E.fo B) /\ (g.σ k).2 = 0
def ZQ : Box := ⟨[], 0, 0, true⟩
def BoxRel (E : Env) (g : Gh) (w : World) (k : Nat) (b : Box) : Prop :=
 (∀ r ∈ b.rows, r.length = b.esz) /\ (b.pr = true -> ∀ r ∈ b.rows, ∀ d ∈ r, d.sid = []) /\
 ((b.rows = [] /\ ((g.β k = none /\ (g.σ k = (1, 0) ↔ b = ZQ)) \/ MA E g w k b)) \/ ((b.rows ≠ [] \/ b.esz ≠ 0) /\ ∃ B c, g.β k = some (B, b.esz) /\ w.heap[B]? = some (.cells c b.et (0, 0)) /\ c.size = (g.σ k).1 /\ RowsC g c (g.σ k).2 b.rows /\ (∀ o, g.K B o = none) /\ (E.B0 <= B \/ E.fo B)))
def KRel (K : Kn) (w : World) : Prop := ∀ b o x, K b o = some x -> ∃ c e f, w.heap[b]? = some (.cells c e f) /\ c[o]? = some x
def SameFx (w w' : World) : Prop := w'.os = w.os /\ w'.tape = w.tape /\ w'.output = w.output
theorem SameFx.refl (w : World) : SameFx w w := ⟨rfl, rfl, rfl⟩
theorem SameFx.trans {a b c : World} (h : SameFx a b) (k : SameFx b c) : SameFx a c := ⟨k.1.trans h.1, k.2.1.trans h.2.1, k.2.2.trans h.2.2⟩
def XT (w : World) (D : Nat) : Prop := w.heap[D]? = some (Obj.deferred (some []))
def QeP : Option Nat -> Nat -> Prop
 | none, _ => False
 | some n, D => n <= D
structure DfOk (bd : Option Nat) (a : Act) (w : World) : Prop where
 ex : ∃ dd : List Nat, a.defers = dd.map (fun D => ({ target := .collected D, args := #[] } : Deferred)) /\ dd.Nodup /\ ∀ D ∈ dd, XT w D /\ QeP bd D
theorem DfOk.of {bd : Option Nat} {a a' : Act} {w w' : World} (h : DfOk bd a w) (ha : a'.defers = a.defers) (hw : ∀ D, XT w D -> XT w' D) : DfOk bd a' w' :=
 let ⟨dd, h1, h2, h3⟩ := h.ex; ⟨dd, ha.trans h1, h2, fun D hD => ⟨hw D (h3 D hD).1, (h3 D hD).2⟩⟩
theorem DfOk.nil {bd : Option Nat} {a : Act} {w : World} (h : a.defers = []) : DfOk bd a w := ⟨[], h, by simp, by simp⟩
theorem Act.put_defers (a : Act) (t : Option Nat) (v : Value) : (a.put t v).defers = a.defers := by cases t <;> rfl
structure Rel (E : Env) (g : Gh) (s : St) (a : Act) (w : World) : Prop where
 nt : a.tmps.size = E.nt /\ E.nt <= 900000
 df : DfOk E.bd a w
 fr : ∀ t d, lk s.fr t = some d -> Rep g d (a.tmps.getD t (Hq t))
 wfF : ∀ t d, lk s.fr t = some d -> ∀ k ∈ d.ids, (lk s.H k).isSome = true
 wfH : ∀ k b, lk s.H k = some b -> ∀ j ∈ b.ids, (lk s.H j).isSome = true
 bx : ∀ k b, lk s.H k = some b -> BoxRel E g w k b
 inj : ∀ k k' b b' B e e', lk s.H k = some b -> lk s.H k' = some b' -> g.β k = some (B, e) -> g.β k' = some (B, e') -> k = k'
 kr : KRel g.K w
 ext : E.B0 <= w.heap.size /\ (∀ b, b < E.B0 -> ¬ E.fo b -> w.heap[b]? = E.w0.heap[b]?) /\ SameFx E.w0 w
 kx : ∀ b, b < E.B0 -> ¬ E.fo b -> g.K b = E.K0 b
 kp : ∀ k, E.keep k -> 1000000 <= k /\ g.β k = E.β0 k /\ g.σ k = E.σ0 k /\ (lk s.H k).isSome = true
theorem CellsC.congr {g g' : Gh} {c : Array Value} (hK : g.K.le g'.K) : ∀ {off : Nat} {ds : List D}, CellsC g c off ds -> (∀ d ∈ ds, ∀ k ∈ d.sid, g'.β k = g.β k /\ g'.σ k = g.σ k) -> CellsC g' c off ds
 | _, [], _, _ => by simp only [CellsC]
 | off, d :: ds, h, hβ => by
  simp only [CellsC] at h ⊢
  obtain ⟨⟨h1, x, h2, h3⟩, h4⟩ := h
  exact ⟨⟨h1, x, h2, h3.congr hK (hβ d Wc)⟩, CellsC.congr hK h4 fun d hd => hβ d (by simp [hd])⟩
theorem RowsC.congr {g g' : Gh} {c : Array Value} (hK : g.K.le g'.K) : ∀ {off : Nat} {rs : List (List D)}, RowsC g c off rs -> (∀ r ∈ rs, ∀ d ∈ r, ∀ k ∈ d.sid, g'.β k = g.β k /\ g'.σ k = g.σ k) -> RowsC g' c off rs
 | _, [], _, _ => by simp only [RowsC]
 | off, r :: rs, h, hβ => by
  simp only [RowsC] at h ⊢
  exact ⟨CellsC.congr hK h.1 (hβ r Wc), RowsC.congr hK h.2 fun r hr => hβ r (by simp [hr])⟩
theorem KRel.lt {K : Kn} {w : World} (h : KRel K w) {b o : Nat} {x : Value} (hk : K b o = some x) : b < w.heap.size := by
 obtain ⟨c, e, f, h1, _⟩ := h b o x hk
 exact (Array.getElem?_eq_some_iff.1 h1).1
theorem Rel.wfB {E : Env} {g : Gh} {s : St} {a : Act} {w : World} (r : Rel E g s a w) (k : Nat) (b : Box) (h : lk s.H k = some b) :
  ∀ r ∈ b.rows, ∀ d ∈ r, ∀ j ∈ d.sid, (lk s.H j).isSome = true := by
 intro row hr d hd j hj
 cases hp : b.pr with
 | true => rw [(r.bx k b h).2.1 hp row hr d hd] at hj; cases hj
 | false => exact r.wfH k b h j (by simp only [Box.ids, hp]; exact QhM.2 ⟨row, hr, QhM.2 ⟨d, hd, hj⟩⟩)
theorem Rel.move {E : Env} {g g' : Gh} {s : St} {a : Act} {w w' : World} (r : Rel E g s a w)
  (hK : ∀ b, b < w.heap.size -> g'.K b = g.K b) (hβ : ∀ k, (lk s.H k).isSome = true -> g'.β k = g.β k /\ g'.σ k = g.σ k)
  (hkr : KRel g'.K w') (hh : ∀ b, b < w.heap.size -> w'.heap[b]? = w.heap[b]?) (hs : w.heap.size <= w'.heap.size) (hx : SameFx w w' := by exact ⟨rfl, rfl, rfl⟩) : Rel E g' s a w' := by
 have hle : g.K.le g'.K := fun b o x e => by rw [hK b (r.kr.lt e)]; exact e
 refine ⟨r.nt, r.df.of rfl (fun D hD => (hh D (Array.getElem?_eq_some_iff.1 hD).1).trans hD), fun t d h => (r.fr t d h).congr hle fun k hk => hβ k (r.wfF t d h k hk), r.wfF, r.wfH, fun k b h => ?_, ?_, hkr,
  ⟨QhY r.ext.1 hs, fun b hb hf => (hh b (Nat.lt_of_lt_of_le hb r.ext.1)).trans (r.ext.2.1 b hb hf), r.ext.2.2.trans hx⟩,
  fun b hb hf => (hK b (Nat.lt_of_lt_of_le hb r.ext.1)).trans (r.kx b hb hf),
  fun k hk => let ⟨h1, h2, h3, h4⟩ := r.kp k hk; ⟨h1, (hβ k h4).1.trans h2, (hβ k h4).2.trans h3, h4⟩⟩
 ·obtain ⟨h1, hpr, h2⟩ := r.bx k b h
  have hk := hβ k (by simp [h])
  refine ⟨h1, hpr, h2.imp (fun ⟨x, y⟩ => ⟨x, y.imp (fun y => ⟨hk.1.trans y.1, by rw [hk.2]; exact y.2⟩) fun ⟨i1, i2, i3, sv, p, B, i4, i5, i6, i7, i8⟩ => by
   have hB : B < w.heap.size := (Array.getElem?_eq_some_iff.1 i6).1
   exact ⟨i1, i2, i3, sv, p, B, i4, hk.1.trans i5, (hh B hB).trans i6, fun o => by rw [hK B hB]; exact i7 o, i8.1, by rw [hk.2]; exact i8.2⟩⟩) ?_⟩
  rintro ⟨h0, B, c, h3, h4, h5, h6, h7, h8⟩
  have hB : B < w.heap.size := (Array.getElem?_eq_some_iff.1 h4).1
  exact ⟨h0, B, c, hk.1.trans h3, (hh B hB).trans h4, h5.trans (congrArg Prod.fst hk.2.symm), RowsC.congr hle (by rw [hk.2]; exact h6) fun r' hr d hd j hj => hβ j (r.wfB k b h r' hr d hd j hj),
   fun o => by rw [hK B hB]; exact h7 o, h8⟩
 ·intro k k' b b' B e e' h1 h2 h3 h4
  exact r.inj k k' b b' B e e' h1 h2 ((hβ k (by simp [h1])).1 ▸ h3) ((hβ k' (by simp [h2])).1 ▸ h4)
theorem Rel.heap {E : Env} {g : Gh} {s : St} {a : Act} {w w' : World} (r : Rel E g s a w) (h : w'.heap = w.heap) (hx : SameFx w w' := by exact ⟨rfl, rfl, rfl⟩) : Rel E g s a w' :=
 r.move (fun _ _ => rfl) (fun _ _ => ⟨rfl, rfl⟩) (fun b o x e => by rw [h]; exact r.kr b o x e) (fun _ _ => by rw [h]) (by rw [h]; exact Nat.le_refl _) hx
def St.put (s : St) (t : Nat) (d : D) : St := { s with fr := (t, d) :: s.fr }
theorem Act.getD_put {a : Act} {t : Nat} {v : Value} (h : t < a.tmps.size) (u : Nat) : (a.put (some t) v).tmps.getD u (Hq u) = if t = u then v else a.tmps.getD u (Hq u) := by
 simp only [Act.put]
 by_cases e : t = u
 ·subst e; simp [Array.getD, h]
 ·simp only [if_neg e, Array.getD_eq_getD_getElem?]
  rw [Array.getElem?_setIfInBounds_ne e]
theorem Rel.put {E : Env} {g : Gh} {s : St} {a : Act} {w : World} {t : Nat} {d : D} {v : Value} (r : Rel E g s a w) (ht : t < E.nt)
  (hv : Rep g d v) (hd : ∀ k ∈ d.ids, (lk s.H k).isSome = true) : Rel E g (s.put t d) (a.put (some t) v) w := by
 have hs : t < a.tmps.size := by rw [r.nt.1]; exact ht
 refine ⟨⟨by simp [Act.put, r.nt.1], r.nt.2⟩, r.df.of (Act.put_defers _ _ _) (fun _ h => h), fun u d' h => ?_, fun u d' h => ?_, r.wfH, r.bx, r.inj, r.kr, r.ext, r.kx, r.kp⟩
 ·rw [Act.getD_put hs]
  simp only [St.put, Qx] at h
  split at h
  ·rename_i e; cases h; rw [if_pos e]; exact hv
  ·rename_i e; rw [if_neg e]; exact r.fr u d' h
 ·simp only [St.put, Qx] at h ⊢
  split at h
  ·cases h; exact hd
  ·exact r.wfF u d' h
theorem Rel.less {E : Env} {g : Gh} {s s' : St} {a : Act} {w : World} (r : Rel E g s a w)
  (hf : ∀ t d, lk s'.fr t = some d -> lk s.fr t = some d) (hH : ∀ k b, lk s'.H k = some b -> lk s.H k = some b)
  (wfF : ∀ t d, lk s'.fr t = some d -> ∀ k ∈ d.ids, (lk s'.H k).isSome = true)
  (wfH : ∀ k b, lk s'.H k = some b -> ∀ j ∈ b.ids, (lk s'.H j).isSome = true) (hbig : ∀ k, 1000000 <= k -> (lk s.H k).isSome = true -> (lk s'.H k).isSome = true) : Rel E g s' a w :=
 ⟨r.nt, r.df, fun t d h => r.fr t d (hf t d h), wfF, wfH, fun k b h => r.bx k b (hH k b h), fun k k' b b' B e e' h1 h2 => r.inj k k' b b' B e e' (hH _ _ h1) (hH _ _ h2), r.kr, r.ext, r.kx, fun k hk => let ⟨h1, h2, h3, h4⟩ := r.kp k hk; ⟨h1, h2, h3, hbig k h1 h4⟩⟩
theorem Rel.alloc {E : Env} {g : Gh} {s : St} {a : Act} {w : World} {t : Nat} {b : Box} {c : Array Value} (r : Rel E g s a w)
  (hn : lk s.H t = none) (hrow : ∀ r ∈ b.rows, r.length = b.esz) (hpr : b.pr = true -> ∀ r ∈ b.rows, ∀ d ∈ r, d.sid = []) (hne : b.rows ≠ [] \/ b.esz ≠ 0) (hc : RowsC g c 0 b.rows)
  (hid : ∀ r ∈ b.rows, ∀ d ∈ r, ∀ j ∈ d.sid, (lk s.H j).isSome = true) :
  ∃ g', g'.K = g.K /\ g'.β t = some (w.heap.size, b.esz) /\ g'.σ t = (c.size, 0) /\ (∀ k, k ≠ t -> g'.β k = g.β k /\ g'.σ k = g.σ k) /\
   Rel E g' { s with H := (t, b) :: s.H } a (w.alloc (.cells c b.et)) := by
 refine ⟨{ K := g.K, β := fun k => if k = t then some (w.heap.size, b.esz) else g.β k, σ := fun k => if k = t then (c.size, 0) else g.σ k }, rfl, by simp, by simp, fun k hk => by simp [hk], ?_⟩
 have hnt : ∀ k, (lk s.H k).isSome = true -> k ≠ t := fun k hk e => by subst e; simp [hn] at hk
 have hold : ∀ i, i < w.heap.size -> (w.alloc (.cells c b.et)).heap[i]? = w.heap[i]? := fun i hi => by
  simp only [World.alloc, Array.getElem?_push]; rw [if_neg Wa]
 have hKn : ∀ o, g.K w.heap.size o = none := fun o => by
  cases h : g.K w.heap.size o with
  | none => rfl
  | some x => exact absurd (r.kr.lt h) (Nat.lt_irrefl _)
 have hkr : KRel g.K (w.alloc (.cells c b.et)) := fun i o x e => by
  obtain ⟨c', e', f, h1, h2⟩ := r.kr i o x e
  exact ⟨c', e', f, (hold i (r.kr.lt e)).trans h1, h2⟩
 have r' : Rel E { K := g.K, β := fun k => if k = t then some (w.heap.size, b.esz) else g.β k, σ := fun k => if k = t then (c.size, 0) else g.σ k } s a (w.alloc (.cells c b.et)) :=
  r.move (fun _ _ => rfl) (fun k hk => by simp [hnt k hk]) hkr hold Wc
 have hsome : ∀ k, (lk s.H k).isSome = true -> (lk ((t, b) :: s.H) k).isSome = true := fun k hk => by
  rw [Qx]; split <;> simp_all
 refine ⟨r'.nt, r'.df, r'.fr, fun u d h k hk => hsome k (r.wfF u d h k hk), fun k b' h j hj => ?_, fun k b' h => ?_, fun k k' b1 b2 B e e' h1 h2 h3 h4 => ?_, r'.kr, r'.ext, r'.kx, fun k hk => let ⟨h1, h2, h3, h4⟩ := r'.kp k hk; ⟨h1, h2, h3, hsome k h4⟩⟩
 ·rw [Qx] at h
  split at h
  ·cases h
   simp only [Box.ids] at hj
   split at hj
   ·cases hj
   ·obtain ⟨r0, hr, hj⟩ := QhM.1 hj
    obtain ⟨d, hd, hj⟩ := QhM.1 hj
    exact hsome j (hid r0 hr d hd j hj)
  ·exact hsome j (r.wfH k b' h j hj)
 ·rw [Qx] at h
  split at h
  ·rename_i e
   cases h; subst e
   refine ⟨hrow, hpr, .inr ⟨hne, w.heap.size, c, by simp, heap_alloc_new w _, by simp, RowsC.congr (g := g) (g' := { K := g.K, β := fun k => if k = t then some (w.heap.size, b.esz) else g.β k, σ := fun k => if k = t then (c.size, 0) else g.σ k }) (Kn.le_refl _) (by simpa using hc) fun r0 hr d hd j hj => by simp [hnt j (hid r0 hr d hd j hj)], hKn, .inl r.ext.1⟩⟩
  ·exact r'.bx k b' h
 ·have hlt : ∀ k b e, lk s.H k = some b -> g.β k = some (B, e) -> B < w.heap.size := fun k b e h hb => by
   obtain ⟨_, _, h2⟩ := r.bx k b h
   rcases h2 with ⟨_, ⟨h2, _⟩ | ⟨_, _, _, _, _, B', _, h3, h4, _⟩⟩ | ⟨_, B', c', h3, h4, _⟩
   ·rw [h2] at hb; cases hb
   ·rw [h3] at hb; cases hb; exact (Array.getElem?_eq_some_iff.1 h4).1
   ·rw [h3] at hb; cases hb; exact (Array.getElem?_eq_some_iff.1 h4).1
  rw [Qx] at h1 h2
  simp only at h3 h4
  split at h1 <;> split at h2
  ·rename_i e1 e2; exact e1.symm.trans e2
  ·rename_i e1 e2
   rw [if_pos e1.symm] at h3; rw [if_neg (Ne.symm e2)] at h4; cases h3
   exact absurd (hlt k' b2 _ h2 h4) (Nat.lt_irrefl _)
  ·rename_i e1 e2
   rw [if_neg (Ne.symm e1)] at h3; rw [if_pos e2.symm] at h4; cases h4
   exact absurd (hlt k b1 _ h1 h3) (Nat.lt_irrefl _)
  ·rename_i e1 e2
   rw [if_neg (Ne.symm e1)] at h3; rw [if_neg (Ne.symm e2)] at h4
   exact r.inj k k' b1 b2 B e e' h1 h2 h3 h4
theorem Rel.allocEmptyP {E : Env} {g : Gh} {s : St} {a : Act} {w : World} {t : Nat} {esz et : Nat} (pr : Bool) (r : Rel E g s a w) (hn : lk s.H t = none) :
  ∃ g', g'.K = g.K /\ (∀ k, k ≠ t -> g'.β k = g.β k /\ g'.σ k = g.σ k) /\ Rel E g' { s with H := (t, ⟨[], esz, et, pr⟩) :: s.H } a w := by
 refine ⟨{ K := g.K, β := fun k => if k = t then none else g.β k, σ := fun k => if k = t then (if esz = 0 /\ et = 0 /\ pr = true then (1, 0) else (0, 0)) else g.σ k }, rfl, fun k hk => by simp [hk], ?_⟩
 have hnt : ∀ k, (lk s.H k).isSome = true -> k ≠ t := fun k hk e => by subst e; simp [hn] at hk
 have r' : Rel E { K := g.K, β := fun k => if k = t then none else g.β k, σ := fun k => if k = t then (if esz = 0 /\ et = 0 /\ pr = true then (1, 0) else (0, 0)) else g.σ k } s a w :=
  r.move (fun _ _ => rfl) (fun k hk => by simp [hnt k hk]) r.kr (fun _ _ => rfl) (Nat.le_refl _)
 have hsome : ∀ k, (lk s.H k).isSome = true -> (lk ((t, (⟨[], esz, et, pr⟩ : Box)) :: s.H) k).isSome = true := fun k hk => by
  rw [Qx]; split <;> simp_all
 refine ⟨r'.nt, r'.df, r'.fr, fun u d h k hk => hsome k (r.wfF u d h k hk), fun k b' h j hj => ?_, fun k b' h => ?_, fun k k' b1 b2 B e e' h1 h2 h3 h4 => ?_, r'.kr, r'.ext, r'.kx, fun k hk => let ⟨h1, h2, h3, h4⟩ := r'.kp k hk; ⟨h1, h2, h3, hsome k h4⟩⟩
 ·rw [Qx] at h
  split at h
  ·cases h; simp [Box.ids] at hj
  ·exact hsome j (r.wfH k b' h j hj)
 ·rw [Qx] at h
  split at h
  ·rename_i e; cases h; subst e; exact ⟨by simp, by simp, .inl ⟨rfl, .inl ⟨by simp, by simp [ZQ]⟩⟩⟩
  ·exact r'.bx k b' h
 ·rw [Qx] at h1 h2
  simp only at h3 h4
  split at h1
  ·rename_i e1; rw [if_pos e1.symm] at h3; cases h3
  ·split at h2
   ·rename_i e2; rw [if_pos e2.symm] at h4; cases h4
   ·rename_i e1 e2
    rw [if_neg (Ne.symm e1)] at h3; rw [if_neg (Ne.symm e2)] at h4
    exact r.inj k k' b1 b2 B e e' h1 h2 h3 h4
theorem Rel.allocEmpty {E : Env} {g : Gh} {s : St} {a : Act} {w : World} {t : Nat} {esz et : Nat} (r : Rel E g s a w) (hn : lk s.H t = none) :
  ∃ g', g'.K = g.K /\ (∀ k, k ≠ t -> g'.β k = g.β k /\ g'.σ k = g.σ k) /\ Rel E g' { s with H := (t, ⟨[], esz, et, true⟩) :: s.H } a w := r.allocEmptyP true hn
abbrev QhD := List (Nat × Box)
abbrev QhE := List (Nat × D)
end Go.Abs
namespace Go.Abs
open Go
inductive Opd where
 | s (t : Nat)
 | c (d : D)
inductive AOp where
 | mov (x : Opd)
 | pick (c a b : Opd)
 | alloc (et : Nat) (cells : List D)
 | box (et : Nat) (x : Opd)
 | build (zero : List D) (parts : List (Nat × Nat × Opd))
 | buildSlice (esz et : Nat) (parts : List Opd)
 | load (agg : Bool) (sz : Nat) (x : Opd)
 | store (sz : Nat) (x v : Opd)
 | nilCheck (x : Opd)
 | bin (op : BinOp) (bt : Bool) (x y : Opd)
 | eqs (neg : Bool) (kinds : List Nat) (x y : Opd)
 | un (op : UnOp) (x : Opd)
 | conv (k : IntKind) (x : Opd)
 | slice (esz : Nat) (x : Opd) (lo hi mx : Option Opd)
 | sliceStr (x : Opd) (lo hi : Option Opd)
 | fieldAddr (off : Nat) (x : Opd)
 | field (agg : Bool) (off sz : Nat) (x : Opd)
 | indexAddr (esz : Nat) (x i : Opd)
 | indexStr (x i : Opd)
 | extract (i : Nat) (x : Opd)
 | len (x : Opd)
 | lenStr (x : Opd)
 | min (x y : Opd)
 | max (x y : Opd)
 | convS (b : Bool) (x : Opd)
 | append (esz et bytes : Nat) (x y : Opd)
 | makeSlice (esz et bytes : Nat) (zero : List D) (n c : Opd)
 | capF (x : Opd)
 | appz (esz et bytes : Nat) (zero : List D) (x n : Opd)
 | call (f : Nat) (args : List Opd)
 | range (x : Opd)
 | next (x : Opd)
 | indexArr (n esz : Nat) (x i : Opd)
 | indexAgg (agg : Bool) (n esz : Nat) (x i : Opd)
 | mkfn (f : Nat) (xs : List Opd)
 | mkbn (f : Nat) (xs : List Opd)
 | callV (x : Opd) (args : List Opd)
 | stop
structure AOper where
 dst : Option Nat
 op : AOp
 guard : Option (Nat × Bool)
def Mf : Value -> Option D
 | .int k n => some (.int k n)
 | .bool b => some (.bool b)
 | .string s => some (.str s.data.toList)
 | .slice none 0 0 => some (.fsl [])
 | .nilFunc => some (.val .nilFunc)
 | .pointer none => some (.val (.pointer none))
 | _ => none
def QG : Operand -> Option Opd
 | .tmp t => if t < 900000 then some (.s t) else none
 | .const v => (Mf v).map .c
 | .func f => if gfuncs.contains f = true then none else some (.c (.clo f []))
 | .global i => some (.s (900000 + i))
def St.ev (s : St) : Opd -> Option D
 | .s t => lk s.fr t
 | .c d => some d
theorem KS {v : Value} {d : D} (h : Mf v = some d) (K : Kn) : RepP K d v /\ d.ids = [] := by
 unfold Mf at h
 split at h <;> cases h <;> simp [RepP, D.ids, D.sid, Value.oneCell']
theorem J5 {t : Nat} {x : Opd} (h : QG (.tmp t) = some x) : t < 900000 /\ x = .s t := by
 simp only [QG] at h
 split at h
 ·rename_i ht; cases h; exact ⟨ht, rfl⟩
 ·cases h
theorem KI {f : Nat} {x : Opd} (h : QG (.func f) = some x) : Fo f = [] /\ x = .c (.clo f []) := by
 simp only [QG] at h
 split at h
 ·cases h
 ·rename_i hf; cases h; exact ⟨if_neg hf, rfl⟩
def Has (s : St) (d : D) : Prop := ∀ k ∈ d.ids, (lk s.H k).isSome = true
section
variable {E : Env} {g : Gh} {s : St} {a : Act} {w : World}
theorem Zi (r : Rel E g s a w) {x : Operand} {x' : Opd} (hx : QG x = some x') {d : D} (he : s.ev x' = some d) :
  Rep g d (a.eval x) /\ Has s d := by
 cases x with
 | tmp t =>
  obtain ⟨ht, rfl⟩ := J5 hx
  have := r.fr t d he
  rw [Hq, if_pos ht] at this
  exact ⟨this, r.wfF t d he⟩
 | const v =>
  simp only [QG, QhF] at hx
  obtain ⟨d', h1, rfl⟩ := hx
  simp only [St.ev, QhI] at he; subst he
  obtain ⟨h2, h3⟩ := KS h1 g.K
  exact ⟨Rep.of h2, fun k hk => by rw [h3] at hk; cases hk⟩
 | func f =>
  obtain ⟨hg, rfl⟩ := KI hx
  simp only [St.ev, QhI] at he; subst he
  exact ⟨⟨[], rfl, by rw [gVs, hg]; trivial⟩, fun k hk => by simp [D.ids] at hk⟩
 | global i =>
  simp only [QG, QhI] at hx; subst hx
  have := r.fr _ d he
  have hsz : a.tmps.size <= 900000 + i := by rw [r.nt.1]; exact QhY r.nt.2 (Nat.le_add_right _ _)
  rw [Array.getD_eq_getD_getElem?, Array.getElem?_eq_none hsz, Option.getD_none, Hq, if_neg Wa, Nat.add_sub_cancel_left] at this
  exact ⟨this, r.wfF _ d he⟩
def AtCells (g : Gh) (w : World) (B off : Nat) (cells : List D) : Prop :=
 ∃ cs : List Value, cs.length = cells.length /\ RepL g cells cs /\ (∀ d ∈ cells, d.isCell = true) /\ ∀ j v, cs[j]? = some v -> w.cell? ⟨B, off + j, none⟩ = some v
theorem AtCells.nil (B off : Nat) : AtCells g w B off [] := ⟨[], rfl, trivial, by simp, by simp⟩
theorem AtCells.cons {B off : Nat} {d : D} {ds : List D} {x : Value} (hc : d.isCell = true) (hx : w.cell? ⟨B, off, none⟩ = some x) (hr : RepS g d x)
  (h : AtCells g w B (off + 1) ds) : AtCells g w B off (d :: ds) := by
 obtain ⟨cs, h1, h2, h3, h4⟩ := h
 refine ⟨x :: cs, by simp [h1], ⟨hr, h2⟩, by intro y hy; cases hy with | head => exact hc | tail _ hm => exact h3 y hm, fun j v hv => ?_⟩
 cases j with
 | zero => simp at hv; subst hv; exact hx
 | succ j => have := h4 j v (by simpa using hv); rw [show off + (j + 1) = off + 1 + j by omega]; exact this
theorem AtCells.tail {B off : Nat} {d : D} {ds : List D} (h : AtCells g w B off (d :: ds)) : AtCells g w B (off + 1) ds := by
 obtain ⟨cs, h1, h2, h3, h4⟩ := h
 cases cs with
 | nil => exact h2.elim
 | cons x cs =>
  refine ⟨cs, by simpa using h1, h2.2, fun y hy => h3 y (by simp [hy]), fun j v hv => ?_⟩
  have := h4 (j + 1) v (by simpa using hv)
  rw [show off + 1 + j = off + (j + 1) by omega]; exact this
theorem AtCells.drop {B : Nat} : ∀ {off : Nat} {ds : List D} (n : Nat), AtCells g w B off ds -> AtCells g w B (off + n) (ds.drop n)
 | _, _, 0, h => h
 | _, [], n + 1, _ => AtCells.nil _ _
 | off, d :: ds, n + 1, h => by
  have := AtCells.drop n h.tail
  rw [show off + (n + 1) = off + 1 + n by omega]; exact this
theorem AtCells.take {B : Nat} : ∀ {off : Nat} {ds : List D} (n : Nat), AtCells g w B off ds -> AtCells g w B off (ds.take n)
 | _, _, 0, _ => AtCells.nil _ _
 | _, [], n + 1, _ => AtCells.nil _ _
 | off, d :: ds, n + 1, h => by
  have ht := AtCells.take n h.tail
  obtain ⟨cs, h1, h2, h3, h4⟩ := h
  cases cs with
  | nil => exact h2.elim
  | cons x cs => exact AtCells.cons (h3 d Wc) (h4 0 x Wc) h2.1 ht
theorem Dl {B o : Nat} {c : Array Value} {e : TypeId} {f : Nat × Nat} {x : Value} (h : w.heap[B]? = some (.cells c e f)) (hx : c[o]? = some x) : w.cell? ⟨B, o, none⟩ = some x := by
 simp [World.cell?, h, hx]
theorem F5 (hk : KRel g.K w) (B : Nat) : ∀ (off : Nat) (ds : List D), RepCells g.K B off ds -> AtCells g w B off ds
 | off, [], _ => AtCells.nil B off
 | off, d :: ds, h => by
  simp only [RepCells] at h
  obtain ⟨⟨h1, x, h2, h3⟩, h4⟩ := h
  obtain ⟨c, e, f, h5, h6⟩ := hk B off x h2
  exact AtCells.cons h1 (Dl h5 h6) (RepS.of h3) (F5 hk B _ ds h4)
theorem F4 {B : Nat} {c : Array Value} {e : TypeId} {f : Nat × Nat} (h : w.heap[B]? = some (.cells c e f)) : ∀ (off : Nat) (ds : List D), CellsC g c off ds -> AtCells g w B off ds
 | off, [], _ => AtCells.nil B off
 | off, d :: ds, hc => by
  simp only [CellsC] at hc
  obtain ⟨⟨h1, x, h2, h3⟩, h4⟩ := hc
  exact AtCells.cons h1 (Dl h h2) h3 (F4 h _ ds h4)
theorem TO {K : Kn} {b esz : Nat} : ∀ {off : Nat} {rows : List (List D)} (i : Nat) {row : List D}, (∀ r ∈ rows, r.length = esz) -> RepRows K b off rows -> rows[i]? = some row -> RepCells K b (off + i * esz) row
 | _, [], _, _, _, _, h => by simp at h
 | off, r :: rs, 0, row, hl, hr, h => by
  simp only [RepRows] at hr
  simp at h; subst h; simpa using hr.1
 | off, r :: rs, i + 1, row, hl, hr, h => by
  simp only [RepRows] at hr
  have := TO (esz := esz) i (fun r hr => hl r (by simp [hr])) hr.2 (by simpa using h)
  rw [hl r Wc] at this
  rw [show off + (i + 1) * esz = off + esz + i * esz by rw [Nat.succ_mul]; omega]; exact this
theorem X8 {c : Array Value} {esz : Nat} : ∀ {off : Nat} {rows : List (List D)} (i : Nat) {row : List D}, (∀ r ∈ rows, r.length = esz) -> RowsC g c off rows -> rows[i]? = some row -> CellsC g c (off + i * esz) row
 | _, [], _, _, _, _, h => by simp at h
 | off, r :: rs, 0, row, hl, hr, h => by
  simp only [RowsC] at hr
  simp at h; subst h; simpa using hr.1
 | off, r :: rs, i + 1, row, hl, hr, h => by
  simp only [RowsC] at hr
  have := X8 (esz := esz) i (fun r hr => hl r (by simp [hr])) hr.2 (by simpa using h)
  rw [hl r Wc] at this
  rw [show off + (i + 1) * esz = off + esz + i * esz by rw [Nat.succ_mul]; omega]; exact this
def St.at (s : St) (d : D) (cells : List D) : Prop :=
 match d with
 | .ptr cs => cells = cs
 | .ref k i off => ∃ b row, lk s.H k = some b /\ b.rows[i]? = some row /\ cells = row.drop off
 | _ => False
theorem FF (r : Rel E g s a w) {d : D} {cells : List D} {v : Value} (hd : Rep g d v) (h : s.at d cells) :
  ∃ B off, v = .pointer (some ⟨B, off, none⟩) /\ AtCells g w B off cells /\ ∀ x ∈ cells, ∀ k ∈ x.sid, (lk s.H k).isSome = true := by
 cases d <;> simp only [St.at] at h
 case ptr cs =>
  subst h
  simp only [Rep, RepS, RepP] at hd
  obtain ⟨b, off, rfl, h2⟩ := hd
  refine ⟨b, off, rfl, F5 r.kr b off _ h2, ?_⟩
  have : ∀ (ds : List D) (o : Nat), RepCells g.K b o ds -> ∀ x ∈ ds, x.sid = [] := by
   intro ds
   induction ds with
   | nil => intro o _ x hx; cases hx
   | cons d ds ih =>
    intro o h x hx
    simp only [RepCells] at h
    cases hx with
    | head => obtain ⟨⟨_, y, _, h3⟩, _⟩ := h; cases d <;> first | rfl | (simp only [RepP] at h3)
    | tail _ hm => exact ih _ h.2 x hm
  intro x hx k hk
  rw [this _ _ h2 x hx] at hk; cases hk
 case ref k i off =>
  obtain ⟨b, row, h1, h2, rfl⟩ := h
  obtain ⟨B, esz, o, h3, rfl⟩ := hd
  obtain ⟨h4, _, h5⟩ := r.bx k b h1
  rcases h5 with ⟨h5, _⟩ | ⟨_, B', c, h6, h7, _, h8, _⟩
  ·rw [h5] at h2; simp at h2
  ·obtain ⟨h3', rfl⟩ := h3.resolve_right fun hg => hg.no h6
   rw [h3'] at h6; cases h6
   refine ⟨B, (g.σ k).2 + (i * b.esz + off), rfl, ?_, fun x hx j hj => r.wfB k b h1 row (List.mem_of_getElem? h2) x (List.mem_of_mem_drop hx) j hj⟩
   have := AtCells.drop off (F4 h7 _ _ (X8 i h4 h8 h2))
   rw [<- Nat.add_assoc]; exact this
theorem RepS.toRep {d : D} {v : Value} (h : RepS g d v) (hc : d.isCell = true) : Rep g d v := by
 cases d <;> first | exact h | (simp [D.isCell] at hc; done) | exact Rep.of h
theorem FQ {K : Kn} : ∀ {ds : List D} {vs : List Value}, RepVs K ds vs -> ds.flatMap D.sid = []
 | [], [], _ => rfl
 | d :: ds, v :: vs, h => by
  simp only [RepVs] at h
  rw [List.flatMap_cons, FQ h.2, List.append_nil]
  cases d <;> first | rfl | (have := h.1; simp only [RepP] at this)
 | [], _ :: _, h => by simp only [RepVs] at h
 | _ :: _, [], h => by simp only [RepVs] at h
theorem Gn {d : D} {v : Value} (h : RepS g d v) (hc : d.isCell = true) (hs : ∀ k ∈ d.sid, (lk s.H k).isSome = true) : Has s d := by
 intro k hk
 cases d <;> first | exact hs k hk | (simp [D.isCell] at hc; done) | skip
 case clo f caps =>
  simp only [RepS, RepP] at h
  obtain ⟨cs, _, h2⟩ := h
  simp only [D.ids] at hk
  rw [FQ h2] at hk; cases hk
def St.withBox (s : St) (dst : Option Nat) (bx : Option Box) : St :=
 match dst, bx with
 | some t, some b => { s with H := (t, b) :: s.H }
 | _, _ => s
def Good (P : Program) (E : Env) (s : St) (a : Act) (w : World) (o : Oper) (dst : Option Nat) (d : D) (bx : Option Box) : Prop :=
 ∃ v w' g', (execOp a.eval o).run P w = .ok (.value v) w' /\ Rel E g' (s.withBox dst bx) a w' /\ Rep g' d v /\ Has (s.withBox dst bx) d
theorem Good.of {P : Program} {o : Oper} {dst : Option Nat} {d : D} {v : Value} (r : Rel E g s a w) (h : (execOp a.eval o).run P w = .ok (.value v) w) (hv : Rep g d v) (hd : Has s d) :
  Good P E s a w o dst d none := by
 refine ⟨v, w, g, h, ?_, hv, ?_⟩ <;> cases dst <;> assumption
theorem Has.of_nil {d : D} (h : d.ids = []) : Has s d := fun k hk => by rw [h] at hk; cases hk
theorem Tq {P : Program} {o : Oper} {dst : Option Nat} {x : Operand} {x' : Opd} {d : D} (r : Rel E g s a w) (ho : o.op = .move x \/ o.op = .assign x) (hx : QG x = some x')
  (he : s.ev x' = some d) : Good P E s a w o dst d none := by
 obtain ⟨h1, h2⟩ := Zi r hx he
 refine Good.of r (v := a.eval x) ?_ h1 h2
 rcases ho with ho | ho <;> simp [execOp, ho]
theorem DN {P : Program} {o : Oper} {dst : Option Nat} {c x y : Operand} {c' x' y' : Opd} {d : D} {t : Bool} (r : Rel E g s a w) (ho : o.op = .pick c x y) (hc : QG c = some c') (hx : QG x = some x') (hy : QG y = some y')
  (h0 : s.ev c' = some (.bool t)) (he : s.ev (if t then x' else y') = some d) : Good P E s a w o dst d none := by
 have h1 := (Zi r hc h0).1
 simp only [Rep, RepS, RepP] at h1
 cases t
 ·obtain ⟨h3, h4⟩ := Zi r hy he
  exact Good.of r (v := a.eval y) (by simp [execOp, ho, h1, asBool]) h3 h4
 ·obtain ⟨h3, h4⟩ := Zi r hx he
  exact Good.of r (v := a.eval x) (by simp [execOp, ho, h1, asBool]) h3 h4
theorem RepL.len : ∀ {ds : List D} {vs : List Value}, RepL g ds vs -> vs.length = ds.length
 | [], [], _ => rfl
 | d :: ds, v :: vs, h => by simp [RepL.len h.2]
 | [], _ :: _, h => h.elim
 | _ :: _, [], h => h.elim
def D.cells : D -> Option (List D)
 | .agg cs => some cs
 | .undef => none
 | .top => none
 | .tup _ => none
 | .tpo _ _ => none
 | .clo f caps => if (caps.all fun d => !d.own) = true then some [.clo f caps] else none
 | d => some [d]
theorem Gi {d : D} {cs : List D} (hc : d.cells = some cs) : ∀ y ∈ cs, ∀ k ∈ y.sid, k ∈ d.ids := fun y hy k hk => by
 cases d <;> simp only [D.cells, QhI, reduceCtorEq] at hc
 case agg xs => subst hc; exact QhM.2 ⟨y, hy, hk⟩
 case clo f caps =>
  split at hc
  ·cases hc; simp at hy; subst hy; cases hk
  ·cases hc
 all_goals (subst hc; simp at hy; subst hy; exact hk)
theorem Gg {d : D} {cs : List D} {v : Value} (hc : d.cells = some cs) (h : Rep g d v) :
  ∃ vs, v.cells = List.toArray vs /\ RepL g cs vs /\ (∀ x ∈ cs, x.isCell = true) /\ ∀ x ∈ vs, x.oneCell' = true := by
 have one : ∀ {ds : List D} {vs : List Value}, RepL g ds vs -> (∀ x ∈ ds, x.isCell = true) -> ∀ x ∈ vs, x.oneCell' = true := by
  intro ds
  induction ds with
  | nil => intro vs h _ x hx; cases vs with
   | nil => cases hx
   | cons => exact h.elim
  | cons d ds ih =>
   intro vs h hcell x hx
   cases vs with
   | nil => exact h.elim
   | cons v vs =>
    cases hx with
    | head =>
     have hd := hcell d Wc
     have h1 := h.1
     cases d <;> first | exact RepP.cell h1 hd | (obtain ⟨_, _, rfl, _⟩ := h1; rfl) | (obtain ⟨_, _, _, _, rfl⟩ := h1; rfl) | (obtain ⟨_, _, _, _, _, rfl, _⟩ := h1; rfl)
    | tail _ hm => exact ih h.2 (fun y hy => hcell y (by simp [hy])) x hm
 cases d <;> simp only [D.cells, QhI, reduceCtorEq] at hc
 case agg xs =>
  subst hc
  obtain ⟨vs, rfl, h2, h3⟩ := h
  exact ⟨vs, rfl, h2, h3, one h2 h3⟩
 case clo f caps =>
  split at hc
  ·rename_i hp
   cases hc
   obtain ⟨cs, rfl, hl⟩ := h
   exact ⟨[_], rfl, ⟨⟨cs, rfl, hl.to_vs hp⟩, trivial⟩, by simp [D.isCell], by simp [Value.oneCell']⟩
  ·cases hc
 all_goals (subst hc)
 case osl k n =>
  have hv : v.oneCell' = true := by obtain ⟨_, _, rfl, _⟩ := h; rfl
  refine ⟨[v], ?_, ⟨h, trivial⟩, by simp [D.isCell], by simpa using hv⟩
  obtain ⟨_, _, rfl, _⟩ := h; rfl
 case osv k lo c n =>
  have hv : v.oneCell' = true := by obtain ⟨_, _, rfl, _⟩ := h; rfl
  refine ⟨[v], ?_, ⟨h, trivial⟩, by simp [D.isCell], by simpa using hv⟩
  obtain ⟨_, _, rfl, _⟩ := h; rfl
 case ref k i off =>
  have hv : v.oneCell' = true := by obtain ⟨_, _, _, _, rfl⟩ := h; rfl
  refine ⟨[v], ?_, ⟨h, trivial⟩, by simp [D.isCell], by simpa using hv⟩
  obtain ⟨_, _, _, _, rfl⟩ := h; rfl
 case clr f k ps =>
  have hv : v.oneCell' = true := by obtain ⟨_, _, _, _, _, rfl, _⟩ := h; rfl
  refine ⟨[v], ?_, ⟨h, trivial⟩, by simp [D.isCell], by simpa using hv⟩
  obtain ⟨_, _, _, _, _, rfl, _⟩ := h; rfl
 all_goals
  have hv : v.oneCell' = true := RepP.cell (K := g.K) h rfl
  refine ⟨[v], ?_, ⟨h, trivial⟩, by simp [D.isCell], by simpa using hv⟩
  cases v <;> first | rfl | (simp [Value.oneCell'] at hv)
end
end Go.Abs
namespace Go.Abs
open Go
section
variable {P : Program} {E : Env} {g : Gh} {s : St} {a : Act} {w : World} {o : Oper} {dst : Option Nat}
theorem add_lit (b o n : Nat) : Addr.add ⟨b, o, none⟩ n = ⟨b, o + n, none⟩ := by
 unfold Addr.add; split <;> simp_all
theorem TR {B off : Nat} {cells : List D} (h : AtCells g w B off cells) : ∃ cs : List Value, cs.length = cells.length /\ RepL g cells cs /\ (∀ d ∈ cells, d.isCell = true) /\
  (loadCells ⟨B, off, none⟩ cells.length).run P w = .ok cs.toArray w := by
 obtain ⟨cs, h1, h2, h3, h4⟩ := h
 refine ⟨cs, h1, h2, h3, ?_⟩
 rw [<- h1]
 exact run_loadCells_list w _ cs fun j v hv => by rw [add_lit]; exact h4 j v hv
def YY (P : Program) (t : TypeId) : Option Nat := (P.info? t).map (·.size)
def RI (P : Program) (t : TypeId) : Option Bool :=
 match P.underlying t with
 | some (.struct _) => some true
 | some (.array _ _) => some true
 | some _ => some false
 | none => none
theorem ZV {t : TypeId} {b : Bool} (h : RI P t = some b) : (isAgg t).run P w = .ok b w := by
 unfold RI at h
 unfold isAgg
 cases hu : P.underlying t with
 | none => simp [hu] at h
 | some d => cases d <;> simp [hu] at h <;> subst h <;> simp [underlying, hu]
theorem Zr {t n : Nat} (h : YY P t = some n) : (sizeOf t).run P w = .ok n w := by
 unfold YY at h
 cases hi : P.info? t with
 | none => simp [hi] at h
 | some i => simp [hi] at h; subst h; simp [sizeOf, typeInfo, hi]
theorem Rb {t : TypeId} {sz : Nat} {x : Operand} {x' : Opd} {d : D} {cells : List D} (r : Rel E g s a w) (ho : o.op = .load t x) (hx : QG x = some x')
  (ht : RI P t = some true) (hs : YY P t = some sz) (he : s.ev x' = some d) (hat : s.at d cells) (hl : sz <= cells.length) :
  Good P E s a w o dst (.agg (cells.take sz)) none := by
 obtain ⟨B, off, hv, hc, hid⟩ := FF r (Zi r hx he).1 hat
 obtain ⟨cs, h1, h2, h3, h4⟩ := TR (P := P) (hc.take sz)
 rw [List.length_take, Nat.min_eq_left hl] at h4
 refine Good.of r (v := .agg cs.toArray) ?_ ⟨cs, rfl, h2, h3⟩ ?_
 ·simp [execOp, ho, hv, Instr.loadAt, Instr.sureAddr, loadVar, ZV ht, Zr hs, h4]
 ·intro k hk
  simp only [D.ids] at hk
  obtain ⟨y, hy, hk⟩ := QhM.1 hk
  exact hid y (QhZ hy) k hk
theorem DI {t : TypeId} {x : Operand} {x' : Opd} {d d' : D} {cells : List D} (r : Rel E g s a w) (ho : o.op = .load t x) (hx : QG x = some x')
  (ht : RI P t = some false) (he : s.ev x' = some d) (hat : s.at d cells) (hl : cells.head? = some d') :
  Good P E s a w o dst d' none := by
 obtain ⟨B, off, hv, hc, hid⟩ := FF r (Zi r hx he).1 hat
 cases cells with
 | nil => simp at hl
 | cons y ys =>
  simp at hl; subst hl
  obtain ⟨cs, h1, h2, h3, h4⟩ := hc
  cases cs with
  | nil => exact h2.elim
  | cons c cs =>
   have hcell := h4 0 c Wc
   refine Good.of r (v := c) ?_ (h2.1.toRep (h3 _ Wc)) (Gn h2.1 (h3 _ Wc) fun k hk => hid _ Wc k hk)
   simp only [Nat.add_zero] at hcell
   simp [execOp, ho, hv, Instr.loadAt, Instr.sureAddr, loadVar, ZV ht, hcell]
def KM (P : Program) (t : TypeId) : Option (List D) :=
 match P.info? t with
 | some i => match i.zero with
  | some z => z.cells.toList.mapM Mf
  | none => none
 | none => none
theorem Mq {K : Kn} : ∀ {vs : List Value} {ds : List D}, vs.mapM Mf = some ds -> RepCs K ds vs /\ ∀ d ∈ ds, d.ids = [] /\ d.sid = []
 | [], ds, h => by simp at h; subst h; simp [RepCs]
 | v :: vs, ds, h => by
  simp only [List.mapM_cons, Option.bind_eq_bind, Option.bind_eq_some_iff, Option.pure_def, QhI] at h
  obtain ⟨d, h1, ds', h2, rfl⟩ := h
  obtain ⟨h3, h4⟩ := Mq (K := K) h2
  obtain ⟨h5, h6⟩ := KS h1 K
  have hcell : d.isCell = true /\ d.sid = [] := by
   unfold Mf at h1
   split at h1 <;> cases h1 <;> exact ⟨rfl, rfl⟩
  exact ⟨by simp only [RepCs]; exact ⟨⟨hcell.1, h5⟩, h3⟩, fun x hx => by cases hx with | head => exact ⟨h6, hcell.2⟩ | tail _ hm => exact h4 x hm⟩
theorem YI {t : TypeId} {ds : List D} (h : KM P t = some ds) (K : Kn) :
  ∃ i z, P.info? t = some i /\ i.zero = some z /\ RepCs K ds z.cells.toList /\ ∀ d ∈ ds, d.ids = [] /\ d.sid = [] := by
 unfold KM at h
 split at h
 ·rename_i i hi
  split at h
  ·rename_i z hz
   obtain ⟨h1, h2⟩ := Mq (K := K) h
   exact ⟨i, z, hi, hz, h1, h2⟩
  ·cases h
 ·cases h
theorem PQ (c : List Value) : ∀ (pre : List Value) (ds : List D) (vs : List Value), RepL g ds vs -> (∀ d ∈ ds, d.isCell = true) -> c = pre ++ vs -> CellsC g c.toArray pre.length ds
 | _, [], _, _, _, _ => by simp only [CellsC]
 | pre, d :: ds, [], h, _, _ => h.elim
 | pre, d :: ds, v :: vs, h, hc, e => by
  simp only [CellsC]
  refine ⟨⟨hc d Wc, v, by subst e; simp, h.1⟩, ?_⟩
  have := PQ c (pre ++ [v]) ds vs h.2 (fun x hx => hc x (by simp [hx])) (by simp [e])
  simpa using this
theorem CE {ds : List D} {vs : List Value} (h : RepL g ds vs) (hc : ∀ d ∈ ds, d.isCell = true) : RowsC g vs.toArray 0 [ds] := by
 simp only [RowsC, and_true]
 exact PQ vs [] ds vs h hc rfl
theorem Nv {t : Nat} {et : TypeId} {ds : List D} {vs : List Value} (r : Rel E g s a w) (hdst : dst = some t) (hn : lk s.H t = none) (h : RepL g ds vs) (hc : ∀ d ∈ ds, d.isCell = true)
  (hs : ∀ d ∈ ds, ∀ k ∈ d.sid, (lk s.H k).isSome = true) (hrun : (execOp a.eval o).run P w = .ok (.value (.pointer (some ⟨w.heap.size, 0, none⟩))) (w.alloc (.cells vs.toArray et))) :
  Good P E s a w o dst (.ref t 0 0) (some ⟨[ds], ds.length, et, ds.all fun d => d.sid.isEmpty⟩) := by
 obtain ⟨g', h1, h2, h3, h4, r'⟩ := r.alloc (b := ⟨[ds], ds.length, et, ds.all fun d => d.sid.isEmpty⟩) (c := vs.toArray) hn Wc
  (by intro hp row hr d hd; simp at hr hp; subst hr; exact hp d hd) (.inl Wc) (CE h hc) (by simpa using hs)
 subst hdst
 refine ⟨_, _, g', hrun, r', ?_, ?_⟩
 ·exact ⟨w.heap.size, ds.length, 0, .inl ⟨h2, by rw [h3]⟩, by simp⟩
 ·intro k hk
  simp [D.ids, D.sid] at hk; subst hk
  simp [St.withBox, Qx]
theorem Lm {t : Nat} {et : TypeId} {ds : List D} (r : Rel E g s a w) (ho : o.op = .alloc et) (hz : KM P et = some ds) (hdst : dst = some t) (hn : lk s.H t = none) :
  Good P E s a w o dst (.ref t 0 0) (some ⟨[ds], ds.length, et, ds.all fun d => d.sid.isEmpty⟩) := by
 obtain ⟨i, z, hi, hzz, h1, h2⟩ := YI hz g.K
 obtain ⟨h3, h4⟩ := RepL.of_cs (g := g) h1
 refine Nv r hdst hn h3 h4 (fun d hd k hk => by rw [(h2 d hd).2] at hk; cases hk) ?_
 simp [execOp, ho, Instr.alloc, zeroValue, typeInfo, hi, hzz, newVar, newRow]
theorem BZ {t : Nat} {et : TypeId} {x : Operand} {x' : Opd} {d : D} {ds : List D} (r : Rel E g s a w) (ho : o.op = .box et x) (hx : QG x = some x') (he : s.ev x' = some d) (hd : d.cells = some ds)
  (hdst : dst = some t) (hn : lk s.H t = none) :
  Good P E s a w o dst (.ref t 0 0) (some ⟨[ds], ds.length, et, ds.all fun d => d.sid.isEmpty⟩) := by
 obtain ⟨h1, h2⟩ := Zi r hx he
 obtain ⟨vs, h3, h4, h5, _⟩ := Gg hd h1
 refine Nv r hdst hn h4 h5 ?_ ?_
 ·intro y hy k hk
  exact h2 k (Gi hd y hy k hk)
 ·simp [execOp, ho, Instr.box, newVar, newRow, h3]
end
end Go.Abs
namespace Go.Abs
open Go
section
variable {P : Program} {E : Env} {g : Gh} {s : St} {a : Act} {w : World} {o : Oper} {dst : Option Nat}
theorem HA {t : TypeId} {x : Operand} {x' : Opd} {n off : Nat} {fields : Array Field} {f : Field} {sz : Nat} {d : D} (r : Rel E g s a w) (ho : o.op = .fieldAddr t x n) (hx : QG x = some x')
  (hu : P.underlying t = some (.struct fields)) (hf : fields[n]? = some f) (hs : YY P f.type = some sz) (hsz : sz ≠ 0) (hoff : f.offset = off) (he : s.ev x' = some d) :
  (∀ cells, d = .ptr cells -> off <= cells.length -> Good P E s a w o dst (.ptr (cells.drop off)) none) /\
  (∀ k i j, d = .ref k i j -> Good P E s a w o dst (.ref k i (j + off)) none) := by
 obtain ⟨h1, h2⟩ := Zi r hx he
 subst hoff
 have run : ∀ B j, a.eval x = .pointer (some ⟨B, j, none⟩) -> (execOp a.eval o).run P w = .ok (.value (.pointer (some ⟨B, j + f.offset, none⟩))) w := fun B j hv => by
  simp [execOp, ho, hv, Instr.fieldAt, underlying, hu, hf, Instr.sureAddr, fieldPlace, Zr hs, hsz, add_lit]
 constructor
 ·rintro cells rfl hl
  simp only [Rep, RepS, RepP] at h1
  obtain ⟨B, j, hv, hc⟩ := h1
  refine Good.of r (run B j hv) ?_ (Has.of_nil rfl)
  simp only [Rep, RepS, RepP]
  refine ⟨B, j + f.offset, rfl, ?_⟩
  clear run hv he h2 hf hs
  generalize f.offset = n at hl ⊢
  induction n generalizing cells j with
  | zero => exact hc
  | succ n ih =>
   cases cells with
   | nil => simp at hl
   | cons c cs =>
    simp only [RepCells] at hc
    have := ih cs (j + 1) hc.2 (by simpa using hl)
    rw [show j + (n + 1) = j + 1 + n by omega]; exact this
 ·rintro k i j rfl
  obtain ⟨B, esz, o1, h3, hv⟩ := h1
  exact Good.of r (run B _ hv) ⟨B, esz, o1, h3, by simp [Nat.add_assoc]⟩ h2
theorem N0 {t e : TypeId} {x i : Operand} {x' i' : Opd} {esz : Nat} {d : D} {k : IntKind} {n : Int} (r : Rel E g s a w) (ho : o.op = .indexAddr t x i) (hx : QG x = some x') (hi : QG i = some i')
  (hu : P.underlying t = some (.slice e)) (hs : YY P e = some esz) (he : s.ev x' = some d) (hn : s.ev i' = some (.int k n)) (h0 : 0 <= n) :
  (∀ rows row, d = .sl rows \/ d = .fsl rows -> rows[n.toNat]? = some row -> row.length = esz -> Good P E s a w o dst (.ptr row) none) /\
  (∀ j m b, d = .osl j m -> lk s.H j = some b -> m = b.rows.length -> n < m -> b.esz = esz -> Good P E s a w o dst (.ref j n.toNat 0) none) := by
 obtain ⟨h1, h2⟩ := Zi r hx he
 have hiv := (Zi r hi hn).1
 simp only [Rep, RepS, RepP] at hiv
 have run : ∀ B off len cap, a.eval x = .slice (some ⟨B, off, none⟩) len cap -> n < len -> (execOp a.eval o).run P w = .ok (.value (.pointer (some ⟨B, off + n.toNat * esz, none⟩))) w := fun B off len cap hv hl => by
  have hs' : (sizeOf e).run P w = .ok esz w := Zr hs
  simp [execOp, ho, hv, hiv, Instr.indexAt, asIntOf, underlying, hu, h0, hl, hs', add_lit]
 constructor
 ·intro rows row hd hrow hlen
  have hlt : n.toNat < rows.length := (List.getElem?_eq_some_iff.1 hrow).1
  have key : ∀ a0 cap, a.eval x = .slice a0 rows.length cap -> (rows = [] \/ ∃ b off esz, a0 = some ⟨b, off, none⟩ /\ (∀ r ∈ rows, r.length = esz) /\ RepRows g.K b off rows) -> Good P E s a w o dst (.ptr row) none := by
   intro a0 cap hv hr
   rcases hr with rfl | ⟨b, off, esz', rfl, hl, hr⟩
   ·simp at hrow
   ·have hee : esz' = esz := by rw [<- hlen, <- hl row (List.mem_of_getElem? hrow)]
    subst hee
    refine Good.of r (run b off _ cap hv Wa) ?_ (Has.of_nil rfl)
    simp only [Rep, RepS, RepP]
    exact ⟨b, _, rfl, TO n.toNat hl hr hrow⟩
  rcases hd with rfl | rfl
  ·simp only [Rep, RepS, RepP] at h1
   obtain ⟨a0, cap, hv, _, hr⟩ := h1
   exact key a0 cap hv hr
  ·simp only [Rep, RepS, RepP] at h1
   obtain ⟨a0, hv, hr⟩ := h1
   exact key a0 _ hv hr
 ·rintro j m b rfl hb hm hlt hee
  obtain ⟨a0, cap, hv, hcap, hh⟩ := h1
  rcases hh with ⟨rfl, _⟩ | ⟨B, esz', hB, rfl, _⟩ | hg
  ·omega
  rotate_left
  ·obtain ⟨_, _, h5⟩ := r.bx j b hb
   rcases h5 with ⟨h5, _⟩ | ⟨_, B', c, h6, _⟩
   ·rw [h5] at hm; simp at hm; omega
   ·exact (hg.no h6).elim
  ·have : esz' = esz := by
    obtain ⟨_, _, h5⟩ := r.bx j b hb
    rcases h5 with ⟨h5, _⟩ | ⟨_, B', c, h6, _⟩
    ·rw [h5] at hm; simp at hm; omega
    ·rw [hB] at h6; cases h6; exact hee
   subst this
   refine Good.of r (run B _ _ cap hv Wa) ⟨B, esz', (g.σ j).2, .inl ⟨hB, rfl⟩, by simp⟩ ?_
   intro k hk; simp [D.ids, D.sid] at hk; subst hk; simp [hb]
theorem MS {t e : TypeId} {x i : Operand} {x' i' : Opd} {len esz : Nat} {d : D} {k : IntKind} {n : Int} (r : Rel E g s a w) (ho : o.op = .indexAddr t x i) (hx : QG x = some x') (hi : QG i = some i')
  (hu : P.underlying t = some (.array len e)) (hs : YY P e = some esz) (he : s.ev x' = some d) (hn : s.ev i' = some (.int k n)) (h0 : 0 <= n) (h1n : n < len) :
  (∀ cells, d = .ptr cells -> n.toNat * esz <= cells.length -> Good P E s a w o dst (.ptr (cells.drop (n.toNat * esz))) none) /\
  (∀ j m off, d = .ref j m off -> Good P E s a w o dst (.ref j m (off + n.toNat * esz)) none) := by
 obtain ⟨h1, h2⟩ := Zi r hx he
 have hiv := (Zi r hi hn).1
 simp only [Rep, RepS, RepP] at hiv
 have run : ∀ B off, a.eval x = .pointer (some ⟨B, off, none⟩) -> (execOp a.eval o).run P w = .ok (.value (.pointer (some ⟨B, off + n.toNat * esz, none⟩))) w := fun B off hv => by
  have hs' : (sizeOf e).run P w = .ok esz w := Zr hs
  by_cases hl : len <= 1
  ·simp [execOp, ho, hv, hiv, Instr.indexAt, asIntOf, underlying, hu, h0, h1n, hs', add_lit, Instr.sureAddr, hl]
  ·simp [execOp, ho, hv, hiv, Instr.indexAt, asIntOf, underlying, hu, h0, h1n, hs', add_lit, Instr.sureAddr, hl]
 constructor
 ·rintro cells rfl hl
  simp only [Rep, RepS, RepP] at h1
  obtain ⟨B, j, hv, hc⟩ := h1
  refine Good.of r (run B j hv) ?_ (Has.of_nil rfl)
  simp only [Rep, RepS, RepP]
  refine ⟨B, j + n.toNat * esz, rfl, ?_⟩
  clear run hv he h2 hs hiv
  generalize n.toNat * esz = m at hl ⊢
  induction m generalizing cells j with
  | zero => exact hc
  | succ n ih =>
   cases cells with
   | nil => simp at hl
   | cons c cs =>
    simp only [RepCells] at hc
    have := ih cs (j + 1) hc.2 (by simpa using hl)
    rw [show j + (n + 1) = j + 1 + n by omega]; exact this
 ·rintro j m off rfl
  obtain ⟨B, bz, o1, h3, hv⟩ := h1
  exact Good.of r (run B _ hv) ⟨B, bz, o1, h3, by simp [Nat.add_assoc]⟩ h2
theorem MU {x : Operand} {x' : Opd} {d : D} (r : Rel E g s a w) (ho : o.op = .nilCheck x) (hx : QG x = some x') (he : s.ev x' = some d) (hd : (∃ cs, d = .ptr cs) \/ (∃ k i j, d = .ref k i j) \/ (∃ f cs, d = .clo f cs) \/ ∃ f k ps, d = .clr f k ps) :
  Good P E s a w o dst d none := by
 obtain ⟨h1, h2⟩ := Zi r hx he
 refine Good.of r (v := a.eval x) ?_ h1 h2
 rcases hd with ⟨cs, rfl⟩ | ⟨k, i, j, rfl⟩ | ⟨f, cs, rfl⟩ | ⟨f, k, ps, rfl⟩
 ·simp only [Rep, RepS, RepP] at h1
  obtain ⟨b, off, hv, _⟩ := h1
  simp [execOp, ho, hv]
 ·obtain ⟨B, esz, _, _, hv⟩ := h1
  simp [execOp, ho, hv]
 ·obtain ⟨cs', hv, _⟩ := h1
  simp [execOp, ho, hv]
 ·obtain ⟨_, _, _, _, _, hv, _⟩ := h1
  simp [execOp, ho, hv]
theorem Xa {K : Kn} {d : D} {v : Value} (h : RepP K d v) : d.ids = [] := by
 cases d
 case agg cs =>
  simp only [RepP] at h
  obtain ⟨vs, hv, h2⟩ := h
  simp only [D.ids]
  induction cs generalizing vs v with
  | nil => rfl
  | cons c cs ih =>
   cases vs with
   | nil => simp only [RepCs] at h2
   | cons v vs =>
    simp only [RepCs] at h2
    rw [List.flatMap_cons, ih (v := .agg vs.toArray) vs rfl h2.2, List.append_nil]
    cases c <;> first | rfl | (have := h2.1.2; simp only [RepP] at this)
 case tpo cs x =>
  simp only [RepP] at h
  obtain ⟨vs, u, hv, h2, h3⟩ := h
  simp only [D.ids]
  clear hv
  induction cs generalizing vs with
  | nil => rfl
  | cons c cs ih =>
   cases vs with
   | nil => simp only [RepCs] at h2
   | cons v vs =>
    simp only [RepCs] at h2
    rw [List.flatMap_cons, ih vs h2.2, List.append_nil]
    cases c <;> first | rfl | (have := h2.1.2; simp only [RepP] at this)
 case clo f cs =>
  simp only [RepP] at h
  obtain ⟨vs, _, h2⟩ := h
  exact FQ h2
 case osl => simp only [RepP] at h
 case osv => simp only [RepP] at h
 case ref => simp only [RepP] at h
 case clr => simp only [RepP] at h
 all_goals rfl
theorem Ra {x : Operand} {x' : Opd} {n : Nat} {ds : List D} {d : D} (r : Rel E g s a w) (ho : o.op = .extract x n) (hx : QG x = some x') (he : s.ev x' = some (.tup ds)) (hd : ds[n]? = some d) :
  Good P E s a w o dst d none := by
 have h1 := (Zi r hx he).1
 simp only [Rep, RepS, RepP] at h1
 obtain ⟨vs, hv, h3⟩ := h1
 have : ∀ {ds : List D} {vs : List Value} (n : Nat) {d : D}, RepVs g.K ds vs -> ds[n]? = some d -> ∃ v, vs[n]? = some v /\ RepP g.K d v := by
  intro ds
  induction ds with
  | nil => intro vs n d _ h; simp at h
  | cons x xs ih =>
   intro vs n d h hd
   cases vs with
   | nil => simp only [RepVs] at h
   | cons v vs =>
    simp only [RepVs] at h
    cases n with
    | zero => simp at hd; subst hd; exact ⟨v, by simp, h.1⟩
    | succ n => simpa using ih n h.2 (by simpa using hd)
 obtain ⟨v, h4, h5⟩ := this n h3 hd
 refine Good.of r (v := v) (by simp [execOp, ho, hv, Instr.extract, h4]) (Rep.of h5) ?_
 intro k hk
 rw [Xa h5] at hk; cases hk
def QeX : D -> Option (List D)
 | .tup cs => some cs
 | .tpo cs x => some [.agg cs, x]
 | _ => none
theorem MQ {x : Operand} {x' : Opd} {n : Nat} {p d : D} {ds : List D} (r : Rel E g s a w) (ho : o.op = .extract x n) (hx : QG x = some x') (he : s.ev x' = some p) (hp : QeX p = some ds) (hd : ds[n]? = some d) :
  Good P E s a w o dst d none := by
 cases p <;> simp only [QeX, QhI, reduceCtorEq] at hp
 ·subst hp; exact Ra r ho hx he hd
 ·rename_i cs z
  subst hp
  obtain ⟨h1, h2⟩ := Zi r hx he
  obtain ⟨vs, u, hv, h3, h4, h5⟩ := h1
  match n, hd with
  | 0, hd =>
   simp at hd; subst hd
   exact Good.of r (v := .agg vs.toArray) (by simp [execOp, ho, hv, Instr.extract]) ⟨vs, rfl, h3, h4⟩ fun k hk => h2 k hk
  | 1, hd =>
   simp at hd; subst hd
   exact Good.of r (v := u) (by simp [execOp, ho, hv, Instr.extract]) (Rep.of h5) fun k hk => by rw [Xa h5] at hk; cases hk
  | n + 2, hd => simp at hd
def Ht (op : BinOp) (k : IntKind) (x y : Int) : Int :=
 match op with
 | .and => k.wrap ((BitVec.ofInt k.bits x &&& BitVec.ofInt k.bits y).toNat : Int)
 | .or => k.wrap ((BitVec.ofInt k.bits x ||| BitVec.ofInt k.bits y).toNat : Int)
 | .xor => k.wrap ((BitVec.ofInt k.bits x ^^^ BitVec.ofInt k.bits y).toNat : Int)
 | _ => k.wrap ((BitVec.ofInt k.bits x &&& ~~~ (BitVec.ofInt k.bits y)).toNat : Int)
def QeQ (op : BinOp) (k : IntKind) (x y : Int) (d : D) : Prop :=
 match op with
 | .add => d = .int k (k.wrap (x + y))
 | .sub => d = .int k (k.wrap (x - y))
 | .mul => d = .int k (k.wrap (x * y))
 | .quo => y ≠ 0 /\ d = .int k (k.wrap (x.tdiv y))
 | .rem => y ≠ 0 /\ d = .int k (x.tmod y)
 | .and | .or | .xor | .andNot => d = .int k (Ht op k x y)
 | .shl => 0 <= y /\ d = .int k (k.wrap (x * 2 ^ min y.toNat k.bits))
 | .shr => 0 <= y /\ d = .int k (x.fdiv (2 ^ min y.toNat k.bits))
 | .eql => d = .bool (decide (x = y))
 | .neq => d = .bool (!decide (x = y))
 | .lss => d = .bool (decide (x < y))
 | .leq => d = .bool (decide (x <= y))
 | .gtr => d = .bool (decide (y < x))
 | .geq => d = .bool (decide (y <= x))
def MX (op : BinOp) : Bool := match op with | .shl | .shr => true | _ => false
theorem Sa {op : BinOp} {t : TypeId} {x y : Operand} {k k' : IntKind} {m n : Int} : (eqGuard op t x y (.int k m) (.int k' n)).run P w = .ok () w := by
 cases op <;> rfl
theorem Fm {op : BinOp} {t : TypeId} {x y : Operand} {m n : Bool} : (eqGuard op t x y (.bool m) (.bool n)).run P w = .ok () w := by
 cases op <;> rfl
theorem Sb {op : BinOp} {t : TypeId} {x y : Operand} {m n : ByteArray} : (eqGuard op t x y (.string m) (.string n)).run P w = .ok () w := by
 cases op <;> rfl
theorem B4 {op : BinOp} {t u : TypeId} {x y : Operand} {x' y' : Opd} {k k' : IntKind} {m n : Int} {d : D} (r : Rel E g s a w) (ho : o.op = .binOp op t x y u) (hx : QG x = some x') (hy : QG y = some y')
  (he : s.ev x' = some (.int k m)) (hf : s.ev y' = some (.int k' n)) (hk : MX op = true \/ k = k') (hd : QeQ op k m n d) : Good P E s a w o dst d none := by
 have h1 := (Zi r hx he).1
 have h2 := (Zi r hy hf).1
 simp only [Rep, RepS, RepP] at h1 h2
 have run : ∀ v, (binOp op t (.int k m) (.int k' n)).run P w = .ok v w -> (execOp a.eval o).run P w = .ok (.value v) w := fun v hv => by
  simp [execOp, ho, h1, h2, Sa, hv]
 have finI : ∀ z, d = .int k z -> (binOp op t (.int k m) (.int k' n)).run P w = .ok (.int k z) w -> Good P E s a w o dst d none := fun z hd hr => by
  subst hd; exact Good.of r (run _ hr) (Rep.of (by simp only [RepP])) (Has.of_nil rfl)
 have finB : ∀ z, d = .bool z -> (binOp op t (.int k m) (.int k' n)).run P w = .ok (.bool z) w -> Good P E s a w o dst d none := fun z hd hr => by
  subst hd; exact Good.of r (run _ hr) (Rep.of (by simp only [RepP])) (Has.of_nil rfl)
 cases op
 case shl => exact finI _ hd.2 (by simp [binOp, Op.shift, Int.not_lt.2 hd.1])
 case shr => exact finI _ hd.2 (by simp [binOp, Op.shift, Int.not_lt.2 hd.1])
 all_goals
  have hk : k = k' := by simpa [MX] using hk
  subst hk
 case quo => exact finI _ hd.2 (by simp [binOp, Op.intDiv, hd.1])
 case rem => exact finI _ hd.2 (by simp [binOp, Op.intDiv, hd.1])
 case add => exact finI _ hd (by simp [binOp, Op.intArith])
 case sub => exact finI _ hd (by simp [binOp, Op.intArith])
 case mul => exact finI _ hd (by simp [binOp, Op.intArith])
 case and => exact finI _ hd (by simp [binOp, Op.intBits, Ht])
 case or => exact finI _ hd (by simp [binOp, Op.intBits, Ht])
 case xor => exact finI _ hd (by simp [binOp, Op.intBits, Ht])
 case andNot => exact finI _ hd (by simp [binOp, Op.intBits, Ht])
 case eql => exact finB _ hd (by simp [binOp, Op.intCmp]; rfl)
 case neq => exact finB _ hd (by simp [binOp, Op.intCmp]; rfl)
 case lss => exact finB _ hd (by simp [binOp, Op.intCmp])
 case leq => exact finB _ hd (by simp [binOp, Op.intCmp])
 case gtr => exact finB _ hd (by simp [binOp, Op.intCmp])
 case geq => exact finB _ hd (by simp [binOp, Op.intCmp])
end
end Go.Abs
namespace Go.Abs
open Go
section
variable {P : Program} {E : Env} {g : Gh} {s : St} {a : Act} {w : World} {o : Oper} {dst : Option Nat}
theorem XZ {x : Operand} {x' : Opd} {k : IntKind} {n : Int} (r : Rel E g s a w) (hx : QG x = some x') (he : s.ev x' = some (.int k n)) : a.eval x = .int k n := by
 have := (Zi r hx he).1; simp only [Rep, RepS, RepP] at this; exact this
theorem FG {x : Operand} {x' : Opd} {n : Bool} (r : Rel E g s a w) (hx : QG x = some x') (he : s.ev x' = some (.bool n)) : a.eval x = .bool n := by
 have := (Zi r hx he).1; simp only [Rep, RepS, RepP] at this; exact this
theorem Pm {x : Operand} {x' : Opd} {n : List UInt8} (r : Rel E g s a w) (hx : QG x = some x') (he : s.ev x' = some (.str n)) : a.eval x = .string ⟨n.toArray⟩ := by
 have := (Zi r hx he).1; simp only [Rep, RepS, RepP] at this; exact this
theorem Good.int {k : IntKind} {n : Int} (r : Rel E g s a w) (h : (execOp a.eval o).run P w = .ok (.value (.int k n)) w) : Good P E s a w o dst (.int k n) none :=
 Good.of r h (Rep.of (by simp only [RepP])) (Has.of_nil rfl)
theorem Good.bool {n : Bool} (r : Rel E g s a w) (h : (execOp a.eval o).run P w = .ok (.value (.bool n)) w) : Good P E s a w o dst (.bool n) none :=
 Good.of r h (Rep.of (by simp only [RepP])) (Has.of_nil rfl)
theorem Good.str {n : List UInt8} (r : Rel E g s a w) (h : (execOp a.eval o).run P w = .ok (.value (.string ⟨n.toArray⟩)) w) : Good P E s a w o dst (.str n) none :=
 Good.of r h (Rep.of (by simp only [RepP])) (Has.of_nil rfl)
theorem P9 {op : BinOp} {t u : TypeId} {x y : Operand} {x' y' : Opd} {m n : Bool} (r : Rel E g s a w) (ho : o.op = .binOp op t x y u) (hx : QG x = some x') (hy : QG y = some y')
  (he : s.ev x' = some (.bool m)) (hf : s.ev y' = some (.bool n)) (hu : P.underlying t = some .bool) :
  (op = .eql -> Good P E s a w o dst (.bool (decide (m = n))) none) /\ (op = .neq -> Good P E s a w o dst (.bool (!decide (m = n))) none) := by
 have h1 := FG r hx he
 have h2 := FG r hy hf
 constructor
 ·rintro rfl
  refine Good.bool r ?_
  simp [execOp, ho, h1, h2, Fm, run_eql_bool w t m n hu]
  rfl
 ·rintro rfl
  refine Good.bool r ?_
  simp [execOp, ho, h1, h2, Fm, run_neq_bool w t m n hu]
  cases m <;> cases n <;> rfl
def QeR (op : BinOp) (x y : List UInt8) (d : D) : Prop :=
 match op with
 | .add => x.length + y.length <= 9223372036854775807 /\ d = .str (x ++ y)
 | .eql => d = .bool (decide (x = y))
 | .neq => d = .bool (!decide (x = y))
 | .lss => d = .bool (Op.bytesLess x y)
 | .leq => d = .bool (Op.bytesLess x y || decide (x = y))
 | .gtr => d = .bool (!(Op.bytesLess x y || decide (x = y)))
 | .geq => d = .bool (!Op.bytesLess x y)
 | _ => False
theorem DO {op : BinOp} {t u : TypeId} {x y : Operand} {x' y' : Opd} {m n : List UInt8} {d : D} (r : Rel E g s a w) (ho : o.op = .binOp op t x y u) (hx : QG x = some x') (hy : QG y = some y')
  (he : s.ev x' = some (.str m)) (hf : s.ev y' = some (.str n)) (hd : QeR op m n d) : Good P E s a w o dst d none := by
 have h1 := Pm r hx he
 have h2 := Pm r hy hf
 have run : ∀ v, (Op.stringOp op ⟨m.toArray⟩ ⟨n.toArray⟩).run P w = .ok v w -> (execOp a.eval o).run P w = .ok (.value v) w := fun v hv => by
  have hb : (binOp op t (.string ⟨m.toArray⟩) (.string ⟨n.toArray⟩)).run P w = .ok v w := by
   cases op <;> first | (simpa [binOp] using hv) | exact hd.elim
  simp [execOp, ho, h1, h2, Sb, hb]
 have hq : (m == n) = decide (m = n) := by rw [Bool.eq_iff_iff]; simp
 cases op <;> simp only [QeR] at hd
 case add =>
  obtain ⟨h0, rfl⟩ := hd
  refine Good.str r (run _ ?_)
  have hs : ¬ (9223372036854775807 < ((m.length : Int) + (n.length : Int))) := Wa
  have e1 : (ByteArray.mk m.toArray).size = m.length := by simp [ByteArray.size]
  have e2 : (ByteArray.mk n.toArray).size = n.length := by simp [ByteArray.size]
  have e3 : ByteArray.mk m.toArray ++ ByteArray.mk n.toArray = ByteArray.mk (m ++ n).toArray := by
   apply ByteArray.ext; simp
  simp [Op.stringOp, e1, e2, hs, e3]
 all_goals
  subst hd
  refine Good.bool r (run _ ?_)
  simp [Op.stringOp, hq]
theorem DP {op : UnOp} {t : TypeId} {x : Operand} {x' : Opd} (r : Rel E g s a w) (ho : o.op = .unOp op t x) (hx : QG x = some x') :
  (∀ b, op = .not -> s.ev x' = some (.bool b) -> Good P E s a w o dst (.bool (!b)) none) /\
  (∀ k n, op = .neg -> s.ev x' = some (.int k n) -> Good P E s a w o dst (.int k (k.wrap (0 - n))) none) := by
 constructor
 ·rintro b rfl he
  exact Good.bool r (by simp [execOp, ho, FG r hx he, Op.unary])
 ·rintro k n rfl he
  exact Good.int r (by simp [execOp, ho, XZ r hx he, Op.unary, Op.intArith])
theorem DH {t u : TypeId} {x : Operand} {x' : Opd} {k j : IntKind} {n : Int} {b : TypeDesc} (r : Rel E g s a w) (ho : o.op = .convert t u x) (hx : QG x = some x')
  (ht : P.underlying t = some b) (hu : P.underlying u = some (.int k)) (he : s.ev x' = some (.int j n)) : Good P E s a w o dst (.int k (k.wrap n)) none := by
 refine Good.int r ?_
 simp [execOp, ho, XZ r hx he, convert, underlying, ht, hu, Conv.intToInt]
theorem Tp {x : Operand} {x' : Opd} {ts : Array TypeId} {t : TypeId} {d : D} (r : Rel E g s a w) (ho : o.op = .call { callee := .builtin .len, args := #[x], argTypes := ts }) (hx : QG x = some x') (hts : ts[0]? = some t) (he : s.ev x' = some d) :
  (∀ rows e, P.underlying t = some (.slice e) -> d = .sl rows \/ d = .fsl rows -> Good P E s a w o dst (.int .i64 rows.length) none) /\
  (∀ k n e, P.underlying t = some (.slice e) -> d = .osl k n -> Good P E s a w o dst (.int .i64 n) none) /\
  (∀ l, P.underlying t = some .string -> d = .str l -> Good P E s a w o dst (.int .i64 l.length) none) := by
 have h1 := (Zi r hx he).1
 have run : ∀ v n, a.eval x = v -> (Builtin.len_ ts o.type #[v]).run P w = .ok (.int .i64 n) w -> (execOp a.eval o).run P w = .ok (.value (.int .i64 n)) w := fun v n hv h => by
  simp [execOp, ho, resolve, invoke, builtin, hv, h]
 refine ⟨?_, ?_, ?_⟩
 ·intro rows e hu hd
  have : ∃ a0 cap, a.eval x = .slice a0 rows.length cap := by
   rcases hd with rfl | rfl
   ·simp only [Rep, RepS, RepP] at h1; obtain ⟨a0, cap, hv, _⟩ := h1; exact ⟨a0, cap, hv⟩
   ·simp only [Rep, RepS, RepP] at h1; obtain ⟨a0, hv, _⟩ := h1; exact ⟨a0, _, hv⟩
  obtain ⟨a0, cap, hv⟩ := this
  exact Good.int r (run _ _ hv (by simp [Builtin.len_, hts, underlying, hu, goInt]))
 ·rintro k n e hu rfl
  obtain ⟨a0, cap, hv, _⟩ := h1
  exact Good.int r (run _ _ hv (by simp [Builtin.len_, hts, underlying, hu, goInt]))
 ·rintro l hu rfl
  simp only [Rep, RepS, RepP] at h1
  have e1 : (ByteArray.mk l.toArray).size = l.length := by simp [ByteArray.size]
  exact Good.int r (run _ _ h1 (by simp [Builtin.len_, hts, underlying, hu, goInt, e1]))
theorem B3 {x : Operand} {x' : Opd} {ts : Array TypeId} {t e : TypeId} {rows : List (List D)} (r : Rel E g s a w) (ho : o.op = .call { callee := .builtin .cap, args := #[x], argTypes := ts }) (hx : QG x = some x') (hts : ts[0]? = some t) (hu : P.underlying t = some (.slice e)) (he : s.ev x' = some (.fsl rows)) :
  Good P E s a w o dst (.int .i64 rows.length) none := by
 have h1 := (Zi r hx he).1
 have run : ∀ v n, a.eval x = v -> (Builtin.cap_ ts o.type #[v]).run P w = .ok (.int .i64 n) w -> (execOp a.eval o).run P w = .ok (.value (.int .i64 n)) w := fun v n hv h => by
  simp [execOp, ho, resolve, invoke, builtin, hv, h]
 simp only [Rep, RepS, RepP] at h1
 obtain ⟨a0, hv, _⟩ := h1
 exact Good.int r (run _ _ hv (by simp [Builtin.cap_, hts, underlying, hu, goInt]))
theorem B6 {x y : Operand} {x' y' : Opd} {ts : Array TypeId} {k j : IntKind} {m n : Int} (r : Rel E g s a w) (ho : o.op = .call { callee := .builtin .min, args := #[x, y], argTypes := ts }) (hx : QG x = some x') (hy : QG y = some y')
  (he : s.ev x' = some (.int k m)) (hf : s.ev y' = some (.int j n)) : Good P E s a w o dst (.int k (min m n)) none := by
 refine Good.int r ?_
 have : (if n < m then n else m) = min m n := Wa
 simp [execOp, ho, resolve, invoke, builtin, XZ r hx he, XZ r hy hf, run_min_int2, this]
theorem B5 {x y : Operand} {x' y' : Opd} {ts : Array TypeId} {k j : IntKind} {m n : Int} (r : Rel E g s a w) (ho : o.op = .call { callee := .builtin .max, args := #[x, y], argTypes := ts }) (hx : QG x = some x') (hy : QG y = some y')
  (he : s.ev x' = some (.int k m)) (hf : s.ev y' = some (.int j n)) : Good P E s a w o dst (.int k (max m n)) none := by
 refine Good.int r ?_
 have : (if n > m then n else m) = max m n := Wa
 simp [execOp, ho, resolve, invoke, builtin, XZ r hx he, XZ r hy hf, run_max_int2, this]
theorem MT {t : TypeId} {x i : Operand} {x' i' : Opd} {l : List UInt8} {k : IntKind} {n : Int} {c : UInt8} (r : Rel E g s a w) (ho : o.op = .index t x i) (hx : QG x = some x') (hi : QG i = some i')
  (hu : P.underlying t = some .string) (he : s.ev x' = some (.str l)) (hn : s.ev i' = some (.int k n)) (h0 : 0 <= n) (hc : l[n.toNat]? = some c) : Good P E s a w o dst (.int .u8 c.toNat) none := by
 refine Good.int r ?_
 have hg : (ByteArray.mk l.toArray)[n.toNat]? = some c := by
  have hlt := (List.getElem?_eq_some_iff.1 hc).1
  have hs : n.toNat < (ByteArray.mk l.toArray).size := by simpa [ByteArray.size] using hlt
  rw [ByteArray.getElem?_lt' _ _ hs]
  have : (ByteArray.mk l.toArray)[n.toNat] = l[n.toNat] := rfl
  rw [this, <- (List.getElem?_eq_some_iff.1 hc).2]
 simp [execOp, ho, Instr.index, Pm r hx he, XZ r hi hn, asIntOf, underlying, hu, h0, hg]
theorem Lp {t : TypeId} {x : Operand} {x' : Opd} {n off sz : Nat} {fields : Array Field} {f : Field} {cells : List D} {d : D} {b : Bool} (r : Rel E g s a w) (ho : o.op = .field t x n) (hx : QG x = some x')
  (hu : P.underlying t = some (.struct fields)) (hf : fields[n]? = some f) (hs : YY P f.type = some sz) (hb : RI P f.type = some b) (hoff : f.offset = off) (he : s.ev x' = some (.agg cells))
  (hd : if b then off + sz <= cells.length /\ d = .agg ((cells.drop off).take sz) else cells[off]? = some d) : Good P E s a w o dst d none := by
 obtain ⟨⟨cs, hv, hl, hc⟩, hid⟩ := Zi r hx he
 subst hoff
 cases b with
 | false =>
  simp only [QhN, if_false] at hd
  have : ∀ {ds : List D} {vs : List Value} (n : Nat) {d : D}, RepL g ds vs -> ds[n]? = some d -> ∃ v, vs[n]? = some v /\ RepS g d v := by
   intro ds
   induction ds with
   | nil => intro vs n d _ h; simp at h
   | cons x xs ih =>
    intro vs n d h hd
    cases vs with
    | nil => exact h.elim
    | cons v vs =>
     cases n with
     | zero => simp at hd; subst hd; exact ⟨v, by simp, h.1⟩
     | succ n => simpa using ih n h.2 (by simpa using hd)
  obtain ⟨v, h3, h4⟩ := this _ hl hd
  have hcd := hc d (List.mem_of_getElem? hd)
  refine Good.of r (v := v) ?_ (h4.toRep hcd) (Gn h4 hcd fun k hk => hid k (QhM.2 ⟨d, List.mem_of_getElem? hd, hk⟩))
  simp [execOp, ho, hv, Instr.field, underlying, hu, hf, part, ZV hb, asAgg, h3]
 | true =>
  simp only [if_true] at hd
  obtain ⟨hle, rfl⟩ := hd
  have hdrop : ∀ {ds : List D} {vs : List Value} (n : Nat), RepL g ds vs -> RepL g (ds.drop n) (vs.drop n) := by
   intro ds
   induction ds with
   | nil => intro vs n h; cases vs with
    | nil => simpa using h
    | cons => exact h.elim
   | cons x xs ih =>
    intro vs n h
    cases vs with
    | nil => exact h.elim
    | cons v vs => cases n with
     | zero => exact h
     | succ n => exact ih n h.2
  have htake : ∀ {ds : List D} {vs : List Value} (n : Nat), RepL g ds vs -> RepL g (ds.take n) (vs.take n) := by
   intro ds
   induction ds with
   | nil => intro vs n h; cases vs with
    | nil => simpa using h
    | cons => exact h.elim
   | cons x xs ih =>
    intro vs n h
    cases vs with
    | nil => exact h.elim
    | cons v vs => cases n with
     | zero => exact trivial
     | succ n => exact ⟨h.1, ih n h.2⟩
  refine Good.of r (v := .agg ((cs.drop f.offset).take sz).toArray) ?_ ⟨_, rfl, htake sz (hdrop f.offset hl), fun y hy => hc y (List.mem_of_mem_drop (QhZ hy))⟩ ?_
  ·simp [execOp, ho, hv, Instr.field, underlying, hu, hf, part, ZV hb, asAgg, Zr hs]
  ·intro k hk
   simp only [D.ids] at hk
   obtain ⟨y, hy, hk⟩ := QhM.1 hk
   exact hid k (QhM.2 ⟨y, List.mem_of_mem_drop (QhZ hy), hk⟩)
theorem MR {t e : TypeId} {x i : Operand} {x' i' : Opd} {len sz : Nat} {cells : List D} {d : D} {b : Bool} {k : IntKind} {n : Int} (r : Rel E g s a w) (ho : o.op = .index t x i) (hx : QG x = some x') (hi : QG i = some i')
  (hu : P.underlying t = some (.array len e)) (hs : YY P e = some sz) (hb : RI P e = some b) (he : s.ev x' = some (.agg cells)) (hn : s.ev i' = some (.int k n)) (h0 : 0 <= n) (h1n : n < len)
  (hd : if b then n.toNat * sz + sz <= cells.length /\ d = .agg ((cells.drop (n.toNat * sz)).take sz) else cells[n.toNat * sz]? = some d) : Good P E s a w o dst d none := by
 obtain ⟨⟨cs, hv, hl, hc⟩, hid⟩ := Zi r hx he
 have hiv := (Zi r hi hn).1
 simp only [Rep, RepS, RepP] at hiv
 cases b with
 | false =>
  simp only [QhN, if_false] at hd
  have : ∀ {ds : List D} {vs : List Value} (n : Nat) {d : D}, RepL g ds vs -> ds[n]? = some d -> ∃ v, vs[n]? = some v /\ RepS g d v := by
   intro ds
   induction ds with
   | nil => intro vs n d _ h; simp at h
   | cons x xs ih =>
    intro vs n d h hd
    cases vs with
    | nil => exact h.elim
    | cons v vs =>
     cases n with
     | zero => simp at hd; subst hd; exact ⟨v, by simp, h.1⟩
     | succ n => simpa using ih n h.2 (by simpa using hd)
  obtain ⟨v, h3, h4⟩ := this _ hl hd
  have hcd := hc d (List.mem_of_getElem? hd)
  refine Good.of r (v := v) ?_ (h4.toRep hcd) (Gn h4 hcd fun k hk => hid k (QhM.2 ⟨d, List.mem_of_getElem? hd, hk⟩))
  simp [execOp, ho, hv, hiv, Instr.index, underlying, hu, part, ZV hb, Zr hs, asIntOf, h0, h1n, h3]
 | true =>
  simp only [if_true] at hd
  obtain ⟨hle, rfl⟩ := hd
  have hdrop : ∀ {ds : List D} {vs : List Value} (n : Nat), RepL g ds vs -> RepL g (ds.drop n) (vs.drop n) := by
   intro ds
   induction ds with
   | nil => intro vs n h; cases vs with
    | nil => simpa using h
    | cons => exact h.elim
   | cons x xs ih =>
    intro vs n h
    cases vs with
    | nil => exact h.elim
    | cons v vs => cases n with
     | zero => exact h
     | succ n => exact ih n h.2
  have htake : ∀ {ds : List D} {vs : List Value} (n : Nat), RepL g ds vs -> RepL g (ds.take n) (vs.take n) := by
   intro ds
   induction ds with
   | nil => intro vs n h; cases vs with
    | nil => simpa using h
    | cons => exact h.elim
   | cons x xs ih =>
    intro vs n h
    cases vs with
    | nil => exact h.elim
    | cons v vs => cases n with
     | zero => exact trivial
     | succ n => exact ⟨h.1, ih n h.2⟩
  refine Good.of r (v := .agg ((cs.drop (n.toNat * sz)).take sz).toArray) ?_ ⟨_, rfl, htake sz (hdrop _ hl), fun y hy => hc y (List.mem_of_mem_drop (QhZ hy))⟩ ?_
  ·simp [execOp, ho, hv, hiv, Instr.index, underlying, hu, part, ZV hb, Zr hs, asIntOf, h0, h1n]
  ·intro k hk
   simp only [D.ids] at hk
   obtain ⟨y, hy, hk⟩ := QhM.1 hk
   exact hid k (QhM.2 ⟨y, List.mem_of_mem_drop (QhZ hy), hk⟩)
end
end Go.Abs
namespace Go.Abs
open Go
section
variable {P : Program} {E : Env} {g : Gh} {s : St} {a : Act} {w : World} {o : Oper} {dst : Option Nat}
/-! ### Building a struct's value -/
theorem Nq (off : Nat) : ∀ (vs : List Value) (j : Nat) (cells : Array Value) (pre mid post : List Value), cells.toList = pre ++ mid ++ post -> pre.length = off + j -> mid.length = vs.length ->
  ((vs.zipIdx j).foldl (fun cs (p : Value × Nat) => cs.setIfInBounds (off + p.2) p.1) cells).toList = pre ++ vs ++ post
 | [], j, cells, pre, mid, post, h, _, hm => by
  have : mid = [] := List.eq_nil_of_length_eq_zero (by simpa using hm)
  subst this; simpa using h
 | v :: vs, j, cells, pre, [], post, _, _, hm => by simp at hm
 | v :: vs, j, cells, pre, m :: mid, post, h, hp, hm => by
  simp only [List.zipIdx_cons, List.foldl_cons]
  rw [Nq off vs (j + 1) (cells.setIfInBounds (off + j) v) (pre ++ [v]) mid post ?_ (by simp [hp]; omega) (by simpa using hm)]
  ·simp
  ·rw [Array.toList_setIfInBounds, h, <- hp]
   simp
theorem _root_.We {p : Prop} (h : p := by simp; omega) : p := h
theorem BY (off : Nat) (vs : List Value) (j : Nat) (cells : Array Value) (h : off + j + vs.length <= cells.size) :
  ((vs.zipIdx j).foldl (fun cs (p : Value × Nat) => cs.setIfInBounds (off + p.2) p.1) cells).toList = cells.toList.take (off + j) ++ vs ++ cells.toList.drop (off + j + vs.length) := by
 refine Nq off vs j cells _ ((cells.toList.drop (off + j)).take vs.length) _ ?_ We We
 have e : cells.toList.drop (off + j + vs.length) = (cells.toList.drop (off + j)).drop vs.length := by rw [List.drop_drop]
 rw [List.append_assoc, e, List.take_append_drop, List.take_append_drop]
def P3 : List D -> List (Nat × Nat × D) -> Option (List D)
 | ds, [] => some ds
 | ds, (off, size, d) :: r =>
  match d.cells with
  | some cs => if cs.length = size /\ off + size <= ds.length then P3 (ds.take off ++ cs ++ ds.drop (off + size)) r else none
  | none => none
theorem RepL.append : ∀ {xs ys : List D} {us vs : List Value}, RepL g xs us -> RepL g ys vs -> RepL g (xs ++ ys) (us ++ vs)
 | [], _, [], _, _, h => h
 | _ :: _, _, _ :: _, _, h, h' => ⟨h.1, RepL.append h.2 h'⟩
 | [], _, _ :: _, _, h, _ => h.elim
 | _ :: _, _, [], _, h, _ => h.elim
theorem RepL.drop : ∀ {ds : List D} {vs : List Value} (n : Nat), RepL g ds vs -> RepL g (ds.drop n) (vs.drop n)
 | [], [], n, h => by simpa using h
 | _ :: _, _ :: _, 0, h => h
 | _ :: _, _ :: _, n + 1, h => RepL.drop n h.2
 | [], _ :: _, _, h => h.elim
 | _ :: _, [], _, h => h.elim
theorem RepL.take : ∀ {ds : List D} {vs : List Value} (n : Nat), RepL g ds vs -> RepL g (ds.take n) (vs.take n)
 | [], [], n, h => by simpa using h
 | _ :: _, _ :: _, 0, _ => trivial
 | _ :: _, _ :: _, n + 1, h => ⟨h.1, RepL.take n h.2⟩
 | [], _ :: _, _, h => h.elim
 | _ :: _, [], _, h => h.elim
def XU (s : St) : List (Nat × Nat × Opd) -> Option (List (Nat × Nat × D))
 | [] => some []
 | (off, size, x) :: r => match s.ev x, XU s r with
  | some d, some ds => some ((off, size, d) :: ds)
  | _, _ => none
def Pc (P : Program) (t : TypeId) : Option (Nat -> Option (Nat × Nat)) :=
 match P.underlying t with
 | some (.array _ e) => match P.info? e with
  | some ie => some fun i => some (i * ie.size, ie.size)
  | none => none
 | some (.struct fields) => match fields.toList.mapM (fun f => (P.info? f.type).map fun i => (f.offset, i.size)) with
  | some places => some fun i => places.toArray[i]?
  | none => none
 | _ => none
def YV (place : Nat -> Option (Nat × Nat)) : List (Nat × Operand) -> Option (List (Nat × Nat × Opd))
 | [] => some []
 | (i, x) :: r => match place i, QG x, YV place r with
  | some (off, size), some x', some r' => some ((off, size, x') :: r')
  | _, _, _ => none
theorem Mk (r : Rel E g s a w) (place : Nat -> Option (Nat × Nat)) : ∀ (ps : List (Nat × Operand)) (ps' : List (Nat × Nat × Opd)) (qs : List (Nat × Nat × D)) (cells : Array Value) (ds ds' : List D),
  YV place ps = some ps' -> XU s ps' = some qs -> RepL g ds cells.toList -> (∀ d ∈ ds, d.isCell = true /\ ∀ k ∈ d.sid, (lk s.H k).isSome = true) -> P3 ds qs = some ds' ->
  ∃ cells', Instr.fill place cells (ps.map fun (i, x) => (i, a.eval x)) = some cells' /\ RepL g ds' cells'.toList /\ (∀ d ∈ ds', d.isCell = true /\ ∀ k ∈ d.sid, (lk s.H k).isSome = true)
 | [], ps', qs, cells, ds, ds', h1, h2, h3, h4, h5 => by
  simp only [YV, QhI] at h1; subst h1
  simp only [XU, QhI] at h2; subst h2
  simp only [P3, QhI] at h5; subst h5
  exact ⟨cells, rfl, h3, h4⟩
 | (i, x) :: ps, ps', qs, cells, ds, ds', h1, h2, h3, h4, h5 => by
  simp only [YV] at h1
  split at h1
  ·rename_i off size x' r' e1 e2 e3
   cases h1
   simp only [XU] at h2
   split at h2
   ·rename_i d ds0 f1 f2
    cases h2
    simp only [P3] at h5
    split at h5
    ·rename_i cs hcs
     split at h5
     ·rename_i hlen
      obtain ⟨g1, g2⟩ := Zi r e2 f1
      obtain ⟨vs, k1, k2, k3, _⟩ := Gg hcs g1
      have hvl : vs.length = size := by rw [k2.len]; exact hlen.1
      have hcl : cells.toList.length = ds.length := h3.len
      have hsid : ∀ y ∈ cs, ∀ k ∈ y.sid, (lk s.H k).isSome = true := by
       intro y hy k hk
       exact g2 k (Gi hcs y hy k hk)
      have hfold : ((a.eval x).cells.zipIdx.foldl (fun cs (p : Value × Nat) => cs.setIfInBounds (off + p.2) p.1) cells).toList = cells.toList.take off ++ vs ++ cells.toList.drop (off + size) := by
       have := BY off vs 0 cells (by simp at hcl; omega)
       rw [k1, <- Array.foldl_toList]
       simpa [hvl] using this
      have hrep : RepL g (ds.take off ++ cs ++ ds.drop (off + size)) ((a.eval x).cells.zipIdx.foldl (fun cs (p : Value × Nat) => cs.setIfInBounds (off + p.2) p.1) cells).toList := by
       rw [hfold]; exact ((h3.take off).append k2).append (h3.drop (off + size))
      obtain ⟨cells', m1, m2, m3⟩ := Mk r place ps r' ds0 _ _ ds' e3 f2 hrep (fun y hy => by
       rcases QhQ.1 hy with hy | hy
       ·rcases QhQ.1 hy with hy | hy
        ·exact h4 y (QhZ hy)
        ·exact ⟨k3 y hy, hsid y hy⟩
       ·exact h4 y (List.mem_of_mem_drop hy)) h5
      refine ⟨cells', ?_, m2, m3⟩
      have hsz : (a.eval x).cells.size = size := by rw [k1]; simpa using hvl
      have hb : ¬ (off + (a.eval x).cells.size > cells.size) := by rw [hsz]; simp at hcl; omega
      simp only [List.map_cons, Instr.fill, e1, hsz, ne_eq, not_true, decide_false, Bool.false_or]
      rw [hsz] at hb
      simp only [hb, decide_false, QhN, if_false]
      exact m1
     ·cases h5
    ·cases h5
   ·cases h2
  ·cases h1
theorem Ln {t : TypeId} {parts : Array (Nat × Operand)} {parts' : List (Nat × Nat × Opd)} {place : Nat -> Option (Nat × Nat)} {zero ds' : List D} {qs : List (Nat × Nat × D)} (r : Rel E g s a w) (ho : o.op = .build t parts)
  (hz : KM P t = some zero) (hp : Pc P t = some place) (hpp : YV place parts.toList = some parts') (he : XU s parts' = some qs) (hf : P3 zero qs = some ds') : Good P E s a w o dst (.agg ds') none := by
 obtain ⟨it, z, hi, hzz, h1, h2⟩ := YI hz g.K
 obtain ⟨h3, h4⟩ := RepL.of_cs (g := g) h1
 obtain ⟨cells', m1, m2, m3⟩ := Mk r place parts.toList parts' qs z.cells zero ds' hpp he h3 (fun d hd => ⟨h4 d hd, fun k hk => by rw [(h2 d hd).2] at hk; cases hk⟩) hf
 have hbuilt : P.built t (parts.map fun (i, x) => (i, a.eval x)).toList = some cells' := by
  rw [Array.toList_map]
  unfold Pc at hp
  unfold Program.built
  cases hu : P.underlying t with
  | none => simp [hu] at hp
  | some d =>
   cases d <;> simp only [hu, reduceCtorEq] at hp
   case array n e =>
    cases hie : P.info? e with
    | none => simp [hie] at hp
    | some ie => simp only [hie, QhI] at hp; subst hp; simp only [hi, hzz, hie]; exact m1
   case struct fields =>
    cases hm : fields.toList.mapM (fun f => (P.info? f.type).map fun i => (f.offset, i.size)) with
    | none => simp [hm] at hp
    | some places => simp only [hm, QhI] at hp; subst hp; simp only [hi, hzz, hm]; exact m1
 refine Good.of r (v := .agg cells') ?_ ⟨cells'.toList, by simp, m2, fun d hd => (m3 d hd).1⟩ ?_
 ·simp [execOp, ho, run_build w t _ cells' hbuilt]
 ·intro k hk
  simp only [D.ids] at hk
  obtain ⟨y, hy, hk⟩ := QhM.1 hk
  exact (m3 y hy).2 k hk
end
end Go.Abs
namespace Go.Abs
open Go
section
variable {P : Program} {E : Env} {g : Gh} {s : St} {a : Act} {w : World} {o : Oper} {dst : Option Nat}
theorem Gf {c : Array Value} : ∀ {off : Nat} {ds : List D}, (∀ j d, ds[j]? = some d -> d.isCell = true /\ ∃ x, c[off + j]? = some x /\ RepS g d x) -> CellsC g c off ds
 | _, [], _ => by simp only [CellsC]
 | off, d :: ds, h => by
  simp only [CellsC]
  refine ⟨by simpa using h 0 d Wc, Gf fun j d' hd => ?_⟩
  have := h (j + 1) d' (by simpa using hd)
  rw [show off + 1 + j = off + (j + 1) by omega]; exact this
theorem TN {c : Array Value} {esz : Nat} : ∀ {off : Nat} {rows : List (List D)}, (∀ r ∈ rows, r.length = esz) -> (∀ i row, rows[i]? = some row -> CellsC g c (off + i * esz) row) -> RowsC g c off rows
 | _, [], _, _ => by simp only [RowsC]
 | off, r :: rs, hl, h => by
  simp only [RowsC]
  refine ⟨by simpa using h 0 r Wc, ?_⟩
  rw [hl r Wc]
  refine TN (fun r hr => hl r (by simp [hr])) fun i row hi => ?_
  have := h (i + 1) row (by simpa using hi)
  rw [show off + esz + i * esz = off + (i + 1) * esz by rw [Nat.succ_mul]; omega]; exact this
theorem JV {c : Array Value} {post : List Value} : ∀ (pre : List Value) (rows : List (List D)) (vs : List Value), RepL g rows.flatten vs -> (∀ r ∈ rows, ∀ d ∈ r, d.isCell = true) -> c = (pre ++ vs ++ post).toArray -> RowsC g c pre.length rows
 | _, [], _, _, _, _ => by simp only [RowsC]
 | pre, r :: rs, vs, h, hc, e => by
  simp only [RowsC]
  rw [List.flatten_cons] at h
  have h1 := h.take r.length
  have h2 := h.drop r.length
  rw [List.take_left' rfl] at h1
  rw [List.drop_left' rfl] at h2
  have hl := h1.len
  constructor
  ·refine Gf fun j d hd => ⟨hc r Wc d (List.mem_of_getElem? hd), ?_⟩
   have : ∀ {ds : List D} {vs : List Value} (n : Nat) {d : D}, RepL g ds vs -> ds[n]? = some d -> ∃ v, vs[n]? = some v /\ RepS g d v := by
    intro ds
    induction ds with
    | nil => intro vs n d _ h; simp at h
    | cons x xs ih =>
     intro vs n d h hd
     cases vs with
     | nil => exact h.elim
     | cons v vs =>
      cases n with
      | zero => simp at hd; subst hd; exact ⟨v, by simp, h.1⟩
      | succ n => simpa using ih n h.2 (by simpa using hd)
   obtain ⟨v, hv, hr⟩ := this j h1 hd
   refine ⟨v, ?_, hr⟩
   have hj : j < r.length := (List.getElem?_eq_some_iff.1 hd).1
   rw [List.getElem?_take_of_lt hj] at hv
   subst e
   rw [List.getElem?_toArray, List.append_assoc, List.getElem?_append_right Wa, Nat.add_sub_cancel_left, List.getElem?_append_left (List.getElem?_eq_some_iff.1 hv).1]
   exact hv
  ·have := JV (c := c) (post := post) (pre ++ vs.take r.length) rs (vs.drop r.length) h2 (fun r hr => hc r (by simp [hr])) (by subst e; simp [List.append_assoc])
   simpa [hl] using this
theorem Ju {B : Nat} : ∀ {off : Nat} {xs ys : List D}, AtCells g w B off xs -> AtCells g w B (off + xs.length) ys -> AtCells g w B off (xs ++ ys)
 | _, [], _, _, h => h
 | off, x :: xs, ys, h, h' => by
  have ht := Ju h.tail (by rw [show off + 1 + xs.length = off + (x :: xs).length by simp; omega]; exact h')
  obtain ⟨cs, h1, h2, h3, h4⟩ := h
  cases cs with
  | nil => exact h2.elim
  | cons c cs => exact AtCells.cons (h3 x Wc) (h4 0 c Wc) h2.1 ht
theorem XB (hk : KRel g.K w) (B : Nat) : ∀ (off : Nat) (rows : List (List D)), RepRows g.K B off rows -> AtCells g w B off rows.flatten
 | off, [], _ => AtCells.nil B off
 | off, r :: rs, h => by
  simp only [RepRows] at h
  exact Ju (F5 hk B off r h.1) (XB hk B _ rs h.2)
theorem JZ {B : Nat} {c : Array Value} {e : TypeId} {f : Nat × Nat} (h : w.heap[B]? = some (.cells c e f)) : ∀ (off : Nat) (rows : List (List D)), RowsC g c off rows -> AtCells g w B off rows.flatten
 | off, [], _ => AtCells.nil B off
 | off, r :: rs, hc => by
  simp only [RowsC] at hc
  exact Ju (F4 h off r hc.1) (JZ h _ rs hc.2)
theorem NH {K : Kn} {b : Nat} : ∀ {off : Nat} {ds : List D}, RepCells K b off ds -> ∀ d ∈ ds, d.sid = []
 | _, [], _, d, hd => by cases hd
 | off, x :: xs, h, d, hd => by
  simp only [RepCells] at h
  cases hd with
  | head => obtain ⟨⟨_, y, _, h3⟩, _⟩ := h; cases x <;> first | rfl | (simp only [RepP] at h3)
  | tail _ hm => exact NH h.2 d hm
theorem XM {K : Kn} {b : Nat} : ∀ {off : Nat} {rows : List (List D)}, RepRows K b off rows -> ∀ r ∈ rows, ∀ d ∈ r, d.sid = []
 | _, [], _, r, hr, _, _ => by cases hr
 | off, x :: xs, h, r, hr, d, hd => by
  simp only [RepRows] at h
  cases hr with
  | head => exact NH h.1 d hd
  | tail _ hm => exact XM h.2 r hm d hd
def St.src (s : St) (esz : Nat) (d : D) (rows : List (List D)) (pr : Bool) : Prop :=
 match d with
 | .sl rs => rows = rs /\ (∀ r ∈ rs, r.length = esz) /\ pr = true
 | .fsl rs => rows = rs /\ (∀ r ∈ rs, r.length = esz) /\ pr = true
 | .osl k n => ∃ b, lk s.H k = some b /\ n = b.rows.length /\ b.esz = esz /\ rows = b.rows /\ pr = b.pr
 | _ => False
theorem GL (r : Rel E g s a w) {d : D} {v : Value} {esz : Nat} {rows : List (List D)} {pr : Bool} (hv : Rep g d v) (h : s.src esz d rows pr) :
  ∃ a0 cap, v = .slice a0 rows.length cap /\ rows.length <= cap /\ (rows = [] \/ ∃ B off, a0 = some ⟨B, off, none⟩ /\ AtCells g w B off rows.flatten) /\ (∀ r ∈ rows, r.length = esz) /\
   (∀ r ∈ rows, ∀ d ∈ r, ∀ k ∈ d.sid, (lk s.H k).isSome = true) /\ (pr = true -> ∀ r ∈ rows, ∀ d ∈ r, d.sid = []) /\ (∀ r ∈ rows, ∀ d ∈ r, d.isCell = true) := by
 have cellsOf : ∀ {B off : Nat}, AtCells g w B off rows.flatten -> ∀ r ∈ rows, ∀ d ∈ r, d.isCell = true := fun ⟨_, _, _, h3, _⟩ r hr d hd => h3 d (List.mem_flatten.2 ⟨r, hr, hd⟩)
 cases d <;> simp only [St.src] at h
 case sl rs =>
  obtain ⟨rfl, h1, rfl⟩ := h
  simp only [Rep, RepS, RepP] at hv
  obtain ⟨a0, cap, rfl, h2, h3⟩ := hv
  rcases h3 with rfl | ⟨b, off, e, rfl, h4, h5⟩
  ·exact ⟨a0, cap, rfl, h2, .inl rfl, by simp, by simp, by simp, by simp⟩
  ·have hat := XB r.kr b off rows h5
   exact ⟨_, cap, rfl, h2, .inr ⟨b, off, rfl, hat⟩, h1, (fun r0 hr d hd k hk => by rw [XM h5 r0 hr d hd] at hk; cases hk), fun _ => XM h5, cellsOf hat⟩
 case fsl rs =>
  obtain ⟨rfl, h1, rfl⟩ := h
  simp only [Rep, RepS, RepP] at hv
  obtain ⟨a0, rfl, h3⟩ := hv
  rcases h3 with rfl | ⟨b, off, e, rfl, h4, h5⟩
  ·exact ⟨a0, _, rfl, Nat.le_refl _, .inl rfl, by simp, by simp, by simp, by simp⟩
  ·have hat := XB r.kr b off rows h5
   exact ⟨_, _, rfl, Nat.le_refl _, .inr ⟨b, off, rfl, hat⟩, h1, (fun r0 hr d hd k hk => by rw [XM h5 r0 hr d hd] at hk; cases hk), fun _ => XM h5, cellsOf hat⟩
 case osl k n =>
  obtain ⟨b, h1, rfl, rfl, rfl, rfl⟩ := h
  obtain ⟨a0, cap, rfl, h2, h3⟩ := hv
  obtain ⟨h4, h5, h6⟩ := r.bx k b h1
  rcases h3 with ⟨h0, _⟩ | ⟨B, esz, hB, rfl, _⟩ | hg
  ·have : b.rows = [] := List.eq_nil_of_length_eq_zero h0
   refine ⟨a0, cap, rfl, h2, .inl this, h4, r.wfB k b h1, h5, by rw [this]; simp⟩
  rotate_left
  ·rcases h6 with ⟨h6, _⟩ | ⟨_, B', c, h7, _⟩
   ·exact ⟨a0, cap, rfl, h2, .inl h6, h4, r.wfB k b h1, h5, by rw [h6]; simp⟩
   ·exact (hg.no h7).elim
  ·rcases h6 with ⟨h6, _⟩ | ⟨_, B', c, h7, h8, _, h9, _⟩
   ·exact ⟨_, cap, rfl, h2, .inl h6, h4, r.wfB k b h1, h5, by rw [h6]; simp⟩
   ·rw [hB] at h7; cases h7
    have hat := JZ h8 _ b.rows h9
    exact ⟨_, cap, rfl, h2, .inr ⟨B, _, rfl, hat⟩, h4, r.wfB k b h1, h5, cellsOf hat⟩
theorem XF {t n : Nat} {esz : Nat} {et : TypeId} {rows : List (List D)} {pr : Bool} {vs post : List Value} {cap : Nat} {w' : World} (hw : w'.heap = w.heap) (r : Rel E g s a w) (hdst : dst = some t) (hn : lk s.H t = none) (hlen : n = rows.length) (h : RepL g rows.flatten vs)
  (hl : ∀ r ∈ rows, r.length = esz) (hc : ∀ r ∈ rows, ∀ d ∈ r, d.isCell = true) (hid : ∀ r ∈ rows, ∀ d ∈ r, ∀ k ∈ d.sid, (lk s.H k).isSome = true) (hpr : pr = true -> ∀ r ∈ rows, ∀ d ∈ r, d.sid = [])
  (hcap : n <= cap) (hcs : n ≠ 0 -> cap * esz <= (vs ++ post).length) (h0 : n = 0 -> cap = 0)
  (hrun : (execOp a.eval o).run P w = .ok (.value (.slice (some ⟨w.heap.size, 0, none⟩) n cap)) (w'.alloc (.cells (vs ++ post).toArray et))) (hfx : SameFx w w' := by exact ⟨rfl, rfl, rfl⟩) :
  Good P E s a w o dst (.osl t n) (some ⟨rows, esz, et, pr⟩) := by
 subst hdst
 subst hlen
 have r0 := r.heap hw hfx
 have hsz : w'.heap.size = w.heap.size := by rw [hw]
 by_cases he : rows = []
 ·subst he
  have r1 : Rel E g s a (w'.alloc (.cells (vs ++ post).toArray et)) := r0.move (fun _ _ => rfl) (fun _ _ => ⟨rfl, rfl⟩)
   (fun i o x e => by
    obtain ⟨c', e', f, h1, h2⟩ := r0.kr i o x e
    exact ⟨c', e', f, (heap_alloc_old w' _ i (r0.kr.lt e)).trans h1, h2⟩)
   (fun b hb => heap_alloc_old w' _ b hb) Wc
  obtain ⟨g', h1, h2, r3⟩ := r1.allocEmptyP (t := t) (esz := esz) (et := et) pr hn
  refine ⟨_, _, g', hrun, r3, ⟨_, cap, rfl, hcap, .inl ⟨rfl, h0 rfl⟩⟩, fun k hk => ?_⟩
  simp [D.ids, D.sid] at hk; subst hk; simp [St.withBox, Qx]
 ·obtain ⟨g', h1, h2, h3, h4, r'⟩ := r0.alloc (t := t) (b := ⟨rows, esz, et, pr⟩) (c := (vs ++ post).toArray) hn hl hpr (.inl he)
   (JV (post := post) [] rows vs h hc Wc) hid
  have hn0 : rows.length ≠ 0 := fun h => he (List.eq_nil_of_length_eq_zero h)
  refine ⟨_, _, g', hrun, r', ⟨_, cap, rfl, hcap, .inr (.inl ⟨w.heap.size, esz, by rw [h2, hsz], by rw [h3], by rw [h3]; simpa using hcs hn0⟩)⟩, fun k hk => ?_⟩
  simp [D.ids, D.sid] at hk; subst hk; simp [St.withBox, Qx]
theorem Qar {d : D} (h : d.sid = []) : d.own = false := by cases d <;> first | rfl | (simp [D.sid] at h)
theorem Md {K' : Kn} {B : Nat} {c : Array Value} (hle : g.K.le K') (hc : ∀ o x, c[o]? = some x -> K' B o = some x) : ∀ {off : Nat} {ds : List D}, CellsC g c off ds -> (∀ d ∈ ds, d.sid = []) -> RepCells K' B off ds
 | _, [], _, _ => by simp only [RepCells]
 | off, d :: ds, h, hs => by
  simp only [CellsC] at h
  simp only [RepCells]
  obtain ⟨⟨h1, x, h2, h3⟩, h4⟩ := h
  exact ⟨⟨h1, x, hc _ _ h2, RepP.mono hle _ _ (h3.toP (Qar (hs d Wc)))⟩, Md hle hc h4 fun y hy => hs y (by simp [hy])⟩
theorem RD {K' : Kn} {B : Nat} {c : Array Value} (hle : g.K.le K') (hc : ∀ o x, c[o]? = some x -> K' B o = some x) : ∀ {off : Nat} {rs : List (List D)}, RowsC g c off rs -> (∀ r ∈ rs, ∀ d ∈ r, d.sid = []) -> RepRows K' B off rs
 | _, [], _, _ => by simp only [RepRows]
 | off, r :: rs, h, hs => by
  simp only [RowsC] at h
  simp only [RepRows]
  exact ⟨Md hle hc h.1 (hs r Wc), RD hle hc h.2 fun y hy => hs y (by simp [hy])⟩
theorem N2 {n : Nat} {esz : Nat} {et : TypeId} {rows : List (List D)} {vs : List Value} {w' : World} (hw : w'.heap = w.heap) (r : Rel E g s a w) (hlen : n = rows.length) (h : RepL g rows.flatten vs)
  (hl : ∀ r ∈ rows, r.length = esz) (hc : ∀ r ∈ rows, ∀ d ∈ r, d.isCell = true) (hpr : ∀ r ∈ rows, ∀ d ∈ r, d.sid = [])
  (hrun : (execOp a.eval o).run P w = .ok (.value (.slice (some ⟨w.heap.size, 0, none⟩) n n)) (w'.alloc (.cells (vs ++ []).toArray et))) (hfx : SameFx w w' := by exact ⟨rfl, rfl, rfl⟩) :
  Good P E s a w o dst (.fsl rows) none := by
 subst hlen
 have r0 := r.heap hw hfx
 have hsz : w'.heap.size = w.heap.size := by rw [hw]
 let K' : Kn := fun b o => if b = w.heap.size then (vs ++ []).toArray[o]? else g.K b o
 have hle : g.K.le K' := fun b o x hx => by
  have := r.kr.lt hx
  simp only [K']; rw [if_neg Wa]; exact hx
 have r1 : Rel E { g with K := K' } s a (w'.alloc (.cells (vs ++ []).toArray et)) := r0.move (fun b hb => by funext o; simp only [K']; rw [if_neg Wa]) (fun _ _ => ⟨rfl, rfl⟩)
  (fun i o x e => by
   simp only [K'] at e
   split at e
   ·rename_i hi
    subst hi
    refine ⟨(vs ++ []).toArray, et, (0, 0), ?_, e⟩
    rw [<- hsz]; exact heap_alloc_new w' _
   ·obtain ⟨c', e', f, h1, h2⟩ := r0.kr i o x e
    exact ⟨c', e', f, (heap_alloc_old w' _ i (r0.kr.lt e)).trans h1, h2⟩)
  (fun b hb => heap_alloc_old w' _ b hb) Wc
 have hrep : RepP K' (.fsl rows) (.slice (some ⟨w.heap.size, 0, none⟩) rows.length rows.length) := by
  simp only [RepP]
  refine ⟨_, rfl, .inr ⟨w.heap.size, 0, esz, rfl, hl, ?_⟩⟩
  exact RD (g := g) (c := (vs ++ []).toArray) hle (fun o x hx => (if_pos rfl).trans hx) (JV (post := []) [] rows vs h hc Wc) hpr
 refine ⟨_, _, { g with K := K' }, hrun, by cases dst <;> exact r1, Rep.of hrep, Has.of_nil rfl⟩
end
end Go.Abs
namespace Go.Abs
open Go
section
variable {P : Program} {E : Env} {g : Gh} {s : St} {a : Act} {w : World} {o : Oper} {dst : Option Nat}
/-! ### buildSlice -/
def XV (s : St) (esz : Nat) : List Opd -> Option (List (List D))
 | [] => some []
 | x :: r => match s.ev x, XV s esz r with
  | some d, some ds => match d.cells with
   | some cs => if cs.length = esz then some (cs :: ds) else none
   | none => none
  | _, _ => none
def Yv : Nat -> List (Nat × Operand) -> Option (List Opd)
 | _, [] => some []
 | k, (i, x) :: r => if i = k then match QG x, Yv (k + 1) r with
   | some x', some r' => some (x' :: r')
   | _, _ => none
  else none
theorem Sd (r : Rel E g s a w) (esz : Nat) : ∀ (ps : List (Nat × Operand)) (k : Nat) (ps' : List Opd) (rows : List (List D)) (cells : Array Value) (done rest : List Value),
  Yv k ps = some ps' -> XV s esz ps' = some rows -> cells.toList = done ++ rest -> done.length = k * esz -> rest.length = ps.length * esz ->
  ∃ cells' vs, Instr.fill (fun i => some (i * esz, esz)) cells (ps.map fun (i, x) => (i, a.eval x)) = some cells' /\ cells'.toList = done ++ vs /\ RepL g rows.flatten vs /\
   (∀ r ∈ rows, r.length = esz) /\ (∀ r ∈ rows, ∀ d ∈ r, d.isCell = true) /\ (∀ r ∈ rows, ∀ d ∈ r, ∀ k ∈ d.sid, (lk s.H k).isSome = true) /\ rows.length = ps.length
 | [], k, ps', rows, cells, done, rest, h1, h2, h3, h4, h5 => by
  simp only [Yv, QhI] at h1; subst h1
  simp only [XV, QhI] at h2; subst h2
  have : rest = [] := List.eq_nil_of_length_eq_zero (by simpa using h5)
  subst this
  exact ⟨cells, [], rfl, h3, trivial, by simp, by simp, by simp, rfl⟩
 | (i, x) :: ps, k, ps', rows, cells, done, rest, h1, h2, h3, h4, h5 => by
  simp only [Yv] at h1
  split at h1
  ·rename_i hik; subst hik
   split at h1
   ·rename_i x' r' e1 e2
    cases h1
    simp only [XV] at h2
    split at h2
    ·rename_i d ds f1 f2
     split at h2
     ·rename_i cs hcs
      split at h2
      ·rename_i hlen
       cases h2
       obtain ⟨g1, g2⟩ := Zi r e1 f1
       obtain ⟨vs, k1, k2, k3, _⟩ := Gg hcs g1
       have hvl : vs.length = esz := by rw [k2.len]; exact hlen
       have hsid : ∀ y ∈ cs, ∀ k ∈ y.sid, (lk s.H k).isSome = true := by
        intro y hy k hk
        exact g2 k (Gi hcs y hy k hk)
       have hrl : rest.length = esz + ps.length * esz := by rw [h5]; simp [Nat.succ_mul]; omega
       have hsize : cells.size = i * esz + rest.length := by
        have := congrArg List.length h3; simp at this; omega
       have hfold : ((a.eval x).cells.zipIdx.foldl (fun cs (p : Value × Nat) => cs.setIfInBounds (i * esz + p.2) p.1) cells).toList = (done ++ vs) ++ rest.drop esz := by
        rw [k1, <- Array.foldl_toList]
        have := Nq (i * esz) vs 0 cells done (rest.take esz) (rest.drop esz) (by rw [h3, List.append_assoc, List.take_append_drop]) (by simpa using h4) We
        simpa using this
       obtain ⟨cells', vs', m1, m2, m3, m4, m5, m6, m7⟩ := Sd r esz ps (i + 1) r' ds _ (done ++ vs) (rest.drop esz) e2 f2 hfold (by simp [h4, hvl, Nat.succ_mul]) We
       refine ⟨cells', vs ++ vs', ?_, by rw [m2, List.append_assoc], ?_, ?_, ?_, ?_, by simp [m7]⟩
       ·have hsz : (a.eval x).cells.size = esz := by rw [k1]; simpa using hvl
        have hb : ¬ (i * esz + esz > cells.size) := Wa
        simp only [List.map_cons, Instr.fill, hsz, ne_eq, not_true, decide_false, Bool.false_or]
        simp only [hb, decide_false, QhN, if_false]
        exact m1
       ·rw [List.flatten_cons]; exact k2.append m3
       ·intro r0 hr; cases hr with | head => exact hlen | tail _ hm => exact m4 r0 hm
       ·intro r0 hr; cases hr with | head => exact k3 | tail _ hm => exact m5 r0 hm
       ·intro r0 hr; cases hr with | head => exact hsid | tail _ hm => exact m6 r0 hm
      ·cases h2
     ·cases h2
    ·cases h2
   ·cases h1
  ·cases h1
theorem Nu {t n e esz : Nat} {st : TypeId} {parts : Array (Nat × Operand)} {parts' : List Opd} {rows : List (List D)} (r : Rel E g s a w) (ho : o.op = .buildSlice st n parts) (hu : P.underlying st = some (.slice e))
  (hs : YY P e = some esz) (hz : (KM P e).isSome = true) (hb : n * esz <= 2 ^ 24) (hn0 : n = parts.toList.length) (hpp : Yv 0 parts.toList = some parts') (he : XV s esz parts' = some rows) (hdst : dst = some t) (hn : lk s.H t = none) :
  Good P E s a w o dst (.osl t n) (some ⟨rows, esz, e, rows.all fun r => r.all fun d => d.sid.isEmpty⟩) := by
 obtain ⟨zd, hz⟩ := QhL.1 hz
 obtain ⟨i, z, hi, hzz, _, _⟩ := YI hz g.K
 have hsz : i.size = esz := by simp [YY, hi] at hs; exact hs
 obtain ⟨cells', vs, m1, m2, m3, m4, m5, m6, m7⟩ := Sd r esz parts.toList 0 parts' rows ((Array.range (n * esz)).map (z.cells[· % z.cells.size]!)) [] ((Array.range (n * esz)).map (z.cells[· % z.cells.size]!)).toList hpp he Wc Wc (by simp [hn0])
 have m1' : Instr.fill (fun i => some (i * esz, esz)) ((Array.range (n * esz)).map (z.cells[· % z.cells.size]!)) (parts.map fun (i, x) => (i, a.eval x)).toList = some cells' := by
  rw [Array.toList_map]; exact m1
 have hc : cells' = (vs ++ []).toArray := by apply Array.ext'; simpa using m2
 have hlv : vs.length = n * esz := by
  rw [m3.len]
  have : ∀ (l : List (List D)), (∀ r ∈ l, r.length = esz) -> l.flatten.length = l.length * esz := by
   intro l
   induction l with
   | nil => intro _; simp
   | cons x xs ih => intro h; simp [h x Wc, Nat.succ_mul]; have := ih fun r hr => h r (by simp [hr]); simp at this; omega
  rw [this rows m4, m7, hn0]
 refine XF (w' := w) (vs := vs) (post := []) (cap := n) rfl r hdst hn (by rw [m7, hn0]) m3 m4 m5 m6 ?_ (Nat.le_refl _) (fun _ => by simp [hlv]) (fun h => h) ?_
 ·intro h r0 hr d hd
  simp only [QhP] at h
  simpa using h r0 hr d hd
 ·have hnb : ¬ (16777216 < n * esz) := Wa
  by_cases h0 : n * esz = 0
  ·have hr0 : Array.range (n * esz) = #[] := by rw [h0]; rfl
   rw [hr0] at m1'
   simp only [Array.map_empty] at m1'
   simp [execOp, ho, Instr.buildSlice, underlying, hu, Zr hs, h0, newRow]
   simp only [Array.range_zero', Array.map_empty]
   have m1'' := m1'
   rw [Array.toList_map] at m1''
   rw [m1'']
   simp [hc]
  ·have m1'' := m1'
   rw [Array.toList_map] at m1''
   simp [execOp, ho, Instr.buildSlice, underlying, hu, Zr hs, h0, hnb, zeroValue, typeInfo, hi, hzz, newRow, m1'', hc]
theorem Fz {n e esz : Nat} {st : TypeId} {parts : Array (Nat × Operand)} {parts' : List Opd} {rows : List (List D)} (r : Rel E g s a w) (ho : o.op = .buildSlice st n parts) (hu : P.underlying st = some (.slice e))
  (hs : YY P e = some esz) (hz : (KM P e).isSome = true) (hb : n * esz <= 2 ^ 24) (hn0 : n = parts.toList.length) (hpp : Yv 0 parts.toList = some parts') (he : XV s esz parts' = some rows) (hpure : (rows.all fun r => r.all fun d => d.sid.isEmpty) = true) :
  Good P E s a w o dst (.fsl rows) none := by
 obtain ⟨zd, hz⟩ := QhL.1 hz
 obtain ⟨i, z, hi, hzz, _, _⟩ := YI hz g.K
 have hsz : i.size = esz := by simp [YY, hi] at hs; exact hs
 obtain ⟨cells', vs, m1, m2, m3, m4, m5, m6, m7⟩ := Sd r esz parts.toList 0 parts' rows ((Array.range (n * esz)).map (z.cells[· % z.cells.size]!)) [] ((Array.range (n * esz)).map (z.cells[· % z.cells.size]!)).toList hpp he Wc Wc (by simp [hn0])
 have m1' : Instr.fill (fun i => some (i * esz, esz)) ((Array.range (n * esz)).map (z.cells[· % z.cells.size]!)) (parts.map fun (i, x) => (i, a.eval x)).toList = some cells' := by
  rw [Array.toList_map]; exact m1
 have hc : cells' = (vs ++ []).toArray := by apply Array.ext'; simpa using m2
 have hlv : vs.length = n * esz := by
  rw [m3.len]
  have : ∀ (l : List (List D)), (∀ r ∈ l, r.length = esz) -> l.flatten.length = l.length * esz := by
   intro l
   induction l with
   | nil => intro _; simp
   | cons x xs ih => intro h; simp [h x Wc, Nat.succ_mul]; have := ih fun r hr => h r (by simp [hr]); simp at this; omega
  rw [this rows m4, m7, hn0]
 refine N2 (n := n) (et := e) (w' := w) (vs := vs) rfl r (by rw [m7, hn0]) m3 m4 m5 (fun r0 hr d hd => by simpa using QhP.1 (QhP.1 hpure r0 hr) d hd) ?_
 ·have hnb : ¬ (16777216 < n * esz) := Wa
  by_cases h0 : n * esz = 0
  ·have hr0 : Array.range (n * esz) = #[] := by rw [h0]; rfl
   rw [hr0] at m1'
   simp only [Array.map_empty] at m1'
   simp [execOp, ho, Instr.buildSlice, underlying, hu, Zr hs, h0, newRow]
   simp only [Array.range_zero', Array.map_empty]
   have m1'' := m1'
   rw [Array.toList_map] at m1''
   rw [m1'']
   simp [hc]
  ·have m1'' := m1'
   rw [Array.toList_map] at m1''
   simp [execOp, ho, Instr.buildSlice, underlying, hu, Zr hs, h0, hnb, zeroValue, typeInfo, hi, hzz, newRow, m1'', hc]
end
end Go.Abs
namespace Go.Abs
open Go
section
variable {P : Program} {E : Env} {g : Gh} {s : St} {a : Act} {w : World} {o : Oper} {dst : Option Nat}
theorem Gl {esz : Nat} : ∀ {l : List (List D)}, (∀ r ∈ l, r.length = esz) -> l.flatten.length = l.length * esz
 | [], _ => by simp
 | x :: xs, h => by
  rw [List.flatten_cons, List.length_append, h x Wc, Gl fun r hr => h r (by simp [hr]), List.length_cons, Nat.succ_mul]; omega
theorem Jg {B off : Nat} {cells : List D} (h : AtCells g w B off cells) : ∃ cs : List Value, cs.length = cells.length /\ RepL g cells cs /\ ∀ j v, cs[j]? = some v -> w.cell? ((⟨B, off, none⟩ : Addr).add j) = some v := by
 obtain ⟨cs, h1, h2, _, h4⟩ := h
 exact ⟨cs, h1, h2, fun j v hv => by rw [add_lit]; exact h4 j v hv⟩
theorem Nt {t esz et bytes : Nat} {st ty : TypeId} {x y : Operand} {x' y' : Opd} {rows ys : List (List D)} {pr : Bool} {zd : List D} {i : TypeInfo} {d : D} (r : Rel E g s a w)
  (ho : o.op = .call { callee := .builtin .append, args := #[x, y], argTypes := #[st, st] }) (hty : o.type = ty) (hx : QG x = some x') (hy : QG y = some y')
  (hu : P.underlying st = some (.slice et)) (hi : P.info? et = some i) (hsz : i.size = esz) (hby : i.bytes = bytes) (hz : KM P et = some zd) (hzl : zd.length = esz)
  (he : s.ev x' = some (.fsl rows)) (hf : s.ev y' = some d) (hsrc : s.src esz d ys pr) (hne : rows = [] \/ ys ≠ []) (hl : ∀ r ∈ rows, r.length = esz) (hb : (rows.length + ys.length) * bytes <= 140737488355328) (hm : rows.length + ys.length <= 4611686018427387904)
  (hdst : dst = some t) (hn : lk s.H t = none) :
  Good P E s a w o dst (.osl t (rows.length + ys.length)) (some ⟨rows ++ ys, esz, et, pr⟩) := by
 have h1 := (Zi r hx he).1
 simp only [Rep, RepS, RepP] at h1
 obtain ⟨a1, hxv, hrep⟩ := h1
 obtain ⟨a0, cap, hyv, hcap, hat, hly, hidy, hpry, hcy⟩ := GL r (Zi r hy hf).1 hsrc
 obtain ⟨i', z, hi', hzz, hzr, _⟩ := YI hz g.K
 rw [hi] at hi'; cases hi'
 have hzc : z.cells.size = esz := by
  have := (RepL.of_cs (g := g) hzr).1.len
  simp at this; rw [this, hzl]
 have run : ∀ v w', (Builtin.append_ #[st, st] ty #[a.eval x, a.eval y]).run P w = .ok v w' -> (execOp a.eval o).run P w = .ok (.value v) w' := fun v w' h => by
  simp [execOp, ho, hty, resolve, invoke, builtin, h]
 subst hsz
 subst hby
 by_cases hys : ys = []
 ·subst hys
  have hr : rows = [] := hne.resolve_right Wc
  subst hr
  -- nothing at all
  have hres : (execOp a.eval o).run P w = .ok (.value (.slice a1 0 0)) w := by
   refine run _ _ ?_
   rw [hxv, hyv]
   have hfc : (Builtin.firstCells i.size 0 (.slice a0 0 cap)).run P w = .ok #[] w := by
    cases a0 with
    | none => rfl
    | some b => simp [Builtin.firstCells, loadCells, loadCellsFrom]
   cases a1 with
   | none => simp [Builtin.append_, underlying, hu, sizeOf, typeInfo, hi, Builtin.lenOf, hfc]
   | some b => simp [Builtin.append_, underlying, hu, sizeOf, typeInfo, hi, Builtin.lenOf, hfc, storeCells]
  subst hdst
  obtain ⟨g', h1, h2, r2⟩ := r.allocEmptyP (t := t) (esz := i.size) (et := et) pr hn
  refine ⟨_, w, g', hres, ?_, ⟨a1, 0, rfl, Nat.le_refl _, .inl ⟨rfl, rfl⟩⟩, fun k hk => ?_⟩
  ·simpa only [St.withBox, List.append_nil] using r2
  ·simp [D.ids, D.sid] at hk; subst hk; simp [St.withBox, Qx]
 ·-- a new block
  have hyl : 0 < ys.length := List.length_pos_iff.2 hys
  obtain ⟨B, off, rfl, hat2⟩ := hat.resolve_left hys
  obtain ⟨ns, hn1, hn2, hn3⟩ := Jg hat2
  have hnl : ns.length = ys.length * i.size := by rw [hn1, Gl hly]
  have olds : ∃ os : List Value, RepL g rows.flatten os /\ os.length = rows.length * i.size /\ (∀ r ∈ rows, ∀ d ∈ r, d.isCell = true) /\ (∀ r ∈ rows, ∀ d ∈ r, d.sid = []) /\
    (Builtin.append_ #[st, st] ty #[a.eval x, a.eval y]).run P w = .ok (.slice (some ⟨w.heap.size, 0, none⟩) (rows.length + ys.length) (grownCap w (rows.length + ys.length) rows.length et))
     (w.drew.alloc (.cells (os.toArray ++ ns.toArray ++ Builtin.zeroCells z.cells (grownCap w (rows.length + ys.length) rows.length et - (rows.length + ys.length))) et)) := by
   rw [hxv, hyv]
   rcases hrep with rfl | ⟨b, off', e, rfl, h4, h5⟩
   ·refine ⟨[], trivial, by simp, by simp, by simp, ?_⟩
    cases a1 with
    | none =>
     have := run_append_nil (P := P) w st ty et i z hu hi hzz ⟨B, off, none⟩ ys.length cap ns hnl hn3 hyl Wa (by simp at hb; omega)
     simpa using this
    | some b =>
     have := run_append_grow (P := P) w st ty et i z hu hi hzz b 0 0 [] Wc Wc ⟨B, off, none⟩ ys.length cap ns hnl hn3 Wa Wa (growslice_fits Wa (by simpa using hb))
     simpa using this
   ·have hatx := XB r.kr b off' rows h5
    obtain ⟨os, ho1, ho2, ho3⟩ := Jg hatx
    have hol : os.length = rows.length * i.size := by rw [ho1, Gl hl]
    refine ⟨os, ho2, hol, fun r0 hr d hd => hatx.choose_spec.2.2.1 d (List.mem_flatten.2 ⟨r0, hr, hd⟩), XM h5, ?_⟩
    exact run_append_grow (P := P) w st ty et i z hu hi hzz ⟨b, off', none⟩ rows.length rows.length os hol ho3 ⟨B, off, none⟩ ys.length cap ns hnl hn3 Wa Wa (growslice_fits Wa hb)
  obtain ⟨os, o1, o2, o3, o4, hr⟩ := olds
  have hge := grownCap_ge w (rows.length + ys.length) rows.length et
  refine XF (w' := w.drew) (vs := os ++ ns) (post := (Builtin.zeroCells z.cells (grownCap w (rows.length + ys.length) rows.length et - (rows.length + ys.length))).toList) (cap := grownCap w (rows.length + ys.length) rows.length et) rfl r hdst hn Wc
   (by rw [List.flatten_append]; exact o1.append hn2) ?_ ?_ ?_ ?_ hge ?_ (fun h => Wa) ?_
  ·intro r0 hr; rcases QhQ.1 hr with hr | hr
   ·exact hl r0 hr
   ·exact hly r0 hr
  ·intro r0 hr; rcases QhQ.1 hr with hr | hr
   ·exact o3 r0 hr
   ·exact hcy r0 hr
  ·intro r0 hr d hd k hk; rcases QhQ.1 hr with hr | hr
   ·rw [o4 r0 hr d hd] at hk; cases hk
   ·exact hidy r0 hr d hd k hk
  ·intro hp r0 hr d hd; rcases QhQ.1 hr with hr | hr
   ·exact o4 r0 hr d hd
   ·exact hpry hp r0 hr d hd
  ·intro _
   simp only [List.length_append, o2, hnl, Array.length_toList, size_zeroCells, hzc]
   rw [<- Nat.add_mul, <- Nat.add_mul, Nat.add_sub_cancel' hge]
   exact Nat.le_refl _
  ·rw [run _ _ hr]
   congr 2
   rw [show (os ++ ns ++ (Builtin.zeroCells z.cells (grownCap w (rows.length + ys.length) rows.length et - (rows.length + ys.length))).toList).toArray = os.toArray ++ ns.toArray ++ Builtin.zeroCells z.cells (grownCap w (rows.length + ys.length) rows.length et - (rows.length + ys.length)) from by
    apply Array.ext'; simp]
theorem D9 {esz : Nat} {z : Value} {zd : List D} (hzL : RepL g zd z.cells.toList) (hzc : z.cells.size = esz) : (∀ n, RepL g (List.replicate n zd).flatten (List.replicate n z.cells.toList).flatten) /\ (∀ n, ((List.replicate n z.cells.toList).flatten ++ ([] : List Value)).length = n * esz) /\ ∀ n, (madeCells z.cells (n * esz)).toList = (List.replicate n z.cells.toList).flatten := by
 have hflat : ∀ n, RepL g (List.replicate n zd).flatten (List.replicate n z.cells.toList).flatten := by
  intro n
  induction n with
  | zero => exact trivial
  | succ n ih => rw [List.replicate_succ, List.replicate_succ, List.flatten_cons, List.flatten_cons]; exact hzL.append ih
 have hlen0 : ∀ n, ((List.replicate n z.cells.toList).flatten ++ ([] : List Value)).length = n * esz := by
  intro n
  rw [List.append_nil, List.length_flatten, List.map_replicate, List.sum_replicate_nat, Array.length_toList, hzc]
 have hmade : ∀ n, (madeCells z.cells (n * esz)).toList = (List.replicate n z.cells.toList).flatten := by
  intro n
  have hlen : ∀ n, (List.replicate n z.cells.toList).flatten.length = n * esz := by
   intro n; simpa using hlen0 n
  apply List.ext_getElem?
  intro j
  by_cases hj : j < n * esz
  ·have hp : 0 < esz := by
    rcases Nat.eq_zero_or_pos esz with h | h
    ·rw [h] at hj; simp at hj
    ·exact h
   simp only [madeCells, Array.toList_map, List.getElem?_map, Array.toList_range, List.getElem?_range hj, Option.map_some, hzc]
   have hjm : j % esz < z.cells.size := by rw [hzc]; exact Nat.mod_lt _ hp
   rw [getElem!_pos z.cells _ hjm]
   have : ∀ n j, j < n * esz -> (List.replicate n z.cells.toList).flatten[j]? = some (z.cells[j % esz]'(by rw [hzc]; exact Nat.mod_lt _ hp)) := by
    intro n
    induction n with
    | zero => intro j h; simp at h
    | succ n ih =>
     intro j h
     rw [List.replicate_succ, List.flatten_cons]
     by_cases hlt : j < esz
     ·rw [List.getElem?_append_left (by simpa [hzc] using hlt)]
      simp only [Nat.mod_eq_of_lt hlt]
      rw [Array.getElem?_toList]
      simp [hzc, hlt]
     ·rw [List.getElem?_append_right (by simpa [hzc] using hlt)]
      have e : j - z.cells.toList.length = j - esz := by simp [hzc]
      rw [e, ih (j - esz) (by rw [Nat.succ_mul] at h; omega)]
      congr 2
      exact (Nat.mod_eq_sub_mod Wa).symm
   rw [this n j hj]
  ·rw [List.getElem?_eq_none (by simp [madeCells]; omega), List.getElem?_eq_none (by rw [hlen]; omega)]
 exact ⟨hflat, hlen0, hmade⟩
theorem N1 {t esz et bytes : Nat} {st : TypeId} {x y : Operand} {x' y' : Opd} {zd : List D} {i : TypeInfo} {kx ky : IntKind} {n : Nat} (r : Rel E g s a w)
  (ho : o.op = .makeSlice st x y) (hx : QG x = some x') (hy : QG y = some y')
  (hu : P.underlying st = some (.slice et)) (hi : P.info? et = some i) (hsz : i.size = esz) (hby : i.bytes = bytes) (hz : KM P et = some zd) (hzl : zd.length = esz)
  (he : s.ev x' = some (.int kx n)) (hf : s.ev y' = some (.int ky n)) (hb : n * bytes <= 281474976710656) (hm : n <= 4611686018427387904) (hdst : dst = some t) (hn : lk s.H t = none) :
  Good P E s a w o dst (.osl t n) (some ⟨List.replicate n zd, esz, et, true⟩) := by
 obtain ⟨i', z, hi', hzz, hzr, hzid⟩ := YI hz g.K
 rw [hi] at hi'; cases hi'
 obtain ⟨hzL, hzcell⟩ := RepL.of_cs (g := g) hzr
 have hzc : z.cells.size = esz := by have := hzL.len; simp at this; rw [this, hzl]
 subst hsz; subst hby
 have hrun := run_make (P := P) w st et i z hu hi hzz kx ky n n Wa (Int.le_refl _) (by have h := Int.ofNat_le.2 hb; rw [Int.natCast_mul] at h; rw [Int.mul_comm]; exact h) Wa
 have hflat : ∀ n, RepL g (List.replicate n zd).flatten (List.replicate n z.cells.toList).flatten := by
  intro n
  induction n with
  | zero => exact trivial
  | succ n ih => rw [List.replicate_succ, List.replicate_succ, List.flatten_cons, List.flatten_cons]; exact hzL.append ih
 have hlen0 : ∀ n, ((List.replicate n z.cells.toList).flatten ++ ([] : List Value)).length = n * i.size := by
  intro n
  rw [List.append_nil, List.length_flatten, List.map_replicate, List.sum_replicate_nat, Array.length_toList, hzc]
 have hmade : ∀ n, (madeCells z.cells (n * i.size)).toList = (List.replicate n z.cells.toList).flatten := by
  intro n
  have hlen : ∀ n, (List.replicate n z.cells.toList).flatten.length = n * i.size := by
   intro n; simpa using hlen0 n
  apply List.ext_getElem?
  intro j
  by_cases hj : j < n * i.size
  ·have hp : 0 < i.size := by
    rcases Nat.eq_zero_or_pos i.size with h | h
    ·rw [h] at hj; simp at hj
    ·exact h
   simp only [madeCells, Array.toList_map, List.getElem?_map, Array.toList_range, List.getElem?_range hj, Option.map_some, hzc]
   have hjm : j % i.size < z.cells.size := by rw [hzc]; exact Nat.mod_lt _ hp
   rw [getElem!_pos z.cells _ hjm]
   have : ∀ n j, j < n * i.size -> (List.replicate n z.cells.toList).flatten[j]? = some (z.cells[j % i.size]'(by rw [hzc]; exact Nat.mod_lt _ hp)) := by
    intro n
    induction n with
    | zero => intro j h; simp at h
    | succ n ih =>
     intro j h
     rw [List.replicate_succ, List.flatten_cons]
     by_cases hlt : j < i.size
     ·rw [List.getElem?_append_left (by simpa [hzc] using hlt)]
      simp only [Nat.mod_eq_of_lt hlt]
      rw [Array.getElem?_toList]
      simp [hzc, hlt]
     ·rw [List.getElem?_append_right (by simpa [hzc] using hlt)]
      have e : j - z.cells.toList.length = j - i.size := by simp [hzc]
      rw [e, ih (j - i.size) (by rw [Nat.succ_mul] at h; omega)]
      congr 2
      exact (Nat.mod_eq_sub_mod Wa).symm
   rw [this n j hj]
  ·rw [List.getElem?_eq_none (by simp [madeCells]; omega), List.getElem?_eq_none (by rw [hlen]; omega)]
 refine XF (w' := w) (vs := (List.replicate n z.cells.toList).flatten) (post := []) (cap := n) rfl r hdst hn Wc (hflat n) ?_ ?_ ?_ ?_ (Nat.le_refl _) (fun _ => Nat.le_of_eq (hlen0 n).symm) (fun h => h) ?_
 ·intro r0 hr; rw [List.mem_replicate] at hr; rw [hr.2]; exact hzl
 ·intro r0 hr d hd; rw [List.mem_replicate] at hr; rw [hr.2] at hd; exact hzcell d hd
 ·intro r0 hr d hd k hk; rw [List.mem_replicate] at hr; rw [hr.2] at hd; rw [(hzid d hd).2] at hk; cases hk
 ·intro _ r0 hr d hd; rw [List.mem_replicate] at hr; rw [hr.2] at hd; exact (hzid d hd).2
 ·have e : ((List.replicate n z.cells.toList).flatten ++ []).toArray = madeCells z.cells (n * i.size) := by
   apply Array.ext'; rw [hmade n]; simp
  rw [e]
  simp only [Int.toNat_natCast] at hrun
  simp [execOp, ho, XZ r hx he, XZ r hy hf, hrun]
theorem DG {t esz et bytes : Nat} {st it ty : TypeId} {x y : Operand} {x' y' : Opd} {zd : List D} {i : TypeInfo} {kt ky : IntKind} {n : Nat} (r : Rel E g s a w)
  (ho : o.op = .call { callee := .builtin .append, args := #[x, y], argTypes := #[st, it] }) (hty : o.type = ty) (hx : QG x = some x') (hy : QG y = some y')
  (hu : P.underlying st = some (.slice et)) (hit : P.underlying it = some (.int kt)) (hi : P.info? et = some i) (hsz : i.size = esz) (hby : i.bytes = bytes) (hz : KM P et = some zd) (hzl : zd.length = esz)
  (he : s.ev x' = some (.fsl [])) (hf : s.ev y' = some (.int ky n)) (h0 : 0 < n) (hb : n * bytes <= 140737488355328) (hm : n <= 4611686018427387904) (hdst : dst = some t) (hn : lk s.H t = none) :
  Good P E s a w o dst (.osl t n) (some ⟨List.replicate n zd, esz, et, true⟩) := by
 obtain ⟨i', z, hi', hzz, hzr, hzid⟩ := YI hz g.K
 rw [hi] at hi'; cases hi'
 obtain ⟨hzL, hzcell⟩ := RepL.of_cs (g := g) hzr
 have hzc : z.cells.size = esz := by have := hzL.len; simp at this; rw [this, hzl]
 obtain ⟨hflat, hlen0, hmade⟩ := D9 hzL hzc
 subst hsz; subst hby
 have hxv := (Zi r hx he).1
 simp only [Rep, RepS, RepP] at hxv
 obtain ⟨a1, hxv, _⟩ := hxv
 have hyv := XZ r hy hf
 have hge := grownCap_ge w n 0 et
 have hzc2 : ∀ m, (Builtin.zeroCells z.cells m).toList = (List.replicate m z.cells.toList).flatten := fun m => by
  rw [<- hmade]; unfold Builtin.zeroCells madeCells; rw [hzc]
 have hwrap : IntKind.i64.wrap ((n : Nat) : Int) = (n : Int) := by
  unfold IntKind.wrap
  simp only [IntKind.bits, IntKind.signed, Bool.true_and]
  split
  ·rename_i h
   have := of_decide_eq_true h
   omega
  ·omega
 have hfc : (Builtin.firstCells i.size 0 (.slice a1 0 0)).run P w.drew = .ok #[] w.drew := by
  cases a1 with
  | none => rfl
  | some b => simp [Builtin.firstCells, loadCells, loadCellsFrom]
 have h63' : ¬ (9223372036854775807 < (n : Int)) := Wa
 have hne : n ≠ 0 := Wa
 have h48 : ¬ (281474976710656 < n * i.bytes) := Wa
 have h48i : ¬ (281474976710656 < (n : Int) * (i.bytes : Int)) := Wa
 have hns : Builtin.nextslicecap n 0 = n := nextslicecap_zero h0
 have hng : ¬ ((n : Int) < 0) := Wa
 have hrun : (execOp a.eval o).run P w = .ok (.value (.slice (some ⟨w.heap.size, 0, none⟩) n (grownCap w n 0 et))) (w.drew.alloc (.cells ((List.replicate n z.cells.toList).flatten ++ (List.replicate (grownCap w n 0 et - n) z.cells.toList).flatten).toArray et)) := by
  have e1 : (Builtin.append_ #[st, it] ty #[.slice a1 0 0, .int ky n]).run P w = .ok (.slice (some ⟨w.heap.size, 0, none⟩) n (grownCap w n 0 et)) (w.drew.alloc (.cells (Builtin.zeroCells z.cells n ++ Builtin.zeroCells z.cells (grownCap w n 0 et - n)) et)) := by
   by_cases hns0 : n * i.size = 0
   ·have e0 : Builtin.zeroCells z.cells n = #[] := by unfold Builtin.zeroCells; rw [hzc, hns0]; simp
    simp [Builtin.append_, run_underlying hu, run_underlying hit, sizeOf, typeInfo, zeroValue, hi, hzz, asInt, asIntOf, hwrap, hng, hne, h63', h48, h48i, hns, hfc, Question.forced, newRow, grownCap, e0, hns0]
   ·simp [Builtin.append_, run_underlying hu, run_underlying hit, sizeOf, typeInfo, zeroValue, hi, hzz, asInt, asIntOf, hwrap, hng, hne, h63', h48, h48i, hns, hfc, Question.forced, newRow, grownCap, hns0]
  have e2 : (Builtin.zeroCells z.cells n ++ Builtin.zeroCells z.cells (grownCap w n 0 et - n)) = ((List.replicate n z.cells.toList).flatten ++ (List.replicate (grownCap w n 0 et - n) z.cells.toList).flatten).toArray := by
   apply Array.ext'; rw [Array.toList_append, hzc2, hzc2]
  rw [<- e2]
  simp [execOp, ho, hty, resolve, invoke, builtin, hxv, hyv, e1]
 refine XF (w' := w.drew) (vs := (List.replicate n z.cells.toList).flatten) (post := (List.replicate (grownCap w n 0 et - n) z.cells.toList).flatten) (cap := grownCap w n 0 et) rfl r hdst hn Wc (hflat n) ?_ ?_ ?_ ?_ hge ?_ (fun h => Wa) hrun
 ·intro r0 hr; rw [List.mem_replicate] at hr; rw [hr.2]; exact hzl
 ·intro r0 hr d hd; rw [List.mem_replicate] at hr; rw [hr.2] at hd; exact hzcell d hd
 ·intro r0 hr d hd k hk; rw [List.mem_replicate] at hr; rw [hr.2] at hd; rw [(hzid d hd).2] at hk; cases hk
 ·intro _ r0 hr d hd
  rw [List.mem_replicate] at hr; rw [hr.2] at hd; exact (hzid d hd).2
 ·intro _
  have q1 := hlen0 n
  have q2 := hlen0 (grownCap w n 0 et - n)
  simp only [List.append_nil] at q1 q2
  rw [List.length_append, q1, q2, <- Nat.add_mul, Nat.add_sub_cancel' hge]
  exact Nat.le_refl _
end
end Go.Abs
namespace Go.Abs
open Go
section
variable {P : Program} {E : Env} {g : Gh} {s : St} {a : Act} {w : World} {o : Oper} {dst : Option Nat}
def St.bd (s : St) (x : Option Opd) (dflt n : Nat) : Prop :=
 match x with
 | none => n = dflt
 | some y => ∃ k m, s.ev y = some (.int k m) /\ 0 <= m /\ n = m.toNat
def ZC : Option Operand -> Option (Option Opd)
 | none => some none
 | some x => (QG x).map some
theorem MI (r : Rel E g s a w) {x : Option Operand} {x' : Option Opd} (hx : ZC x = some x') {dflt n : Nat} (h : s.bd x' dflt n) :
  (x = none /\ n = dflt) \/ ∃ y k m, x = some y /\ a.eval y = .int k m /\ 0 <= m /\ n = m.toNat := by
 cases x with
 | none => simp only [ZC, QhI] at hx; subst hx; exact .inl ⟨rfl, h⟩
 | some y =>
  simp only [ZC, QhF] at hx
  obtain ⟨y', h1, rfl⟩ := hx
  obtain ⟨k, m, h2, h3, h4⟩ := h
  exact .inr ⟨y, k, m, rfl, XZ r h1 h2, h3, h4⟩
theorem XN (r : Rel E g s a w) {lo hi mx : Option Operand} {lo' hi' mx' : Option Opd} (hlo : ZC lo = some lo') (hhi : ZC hi = some hi') (hmx : ZC mx = some mx') {isS : Bool} {len cap l h m : Nat}
  (bl : s.bd lo' 0 l) (bh : s.bd hi' len h) (bm : s.bd mx' cap m) (h1 : l <= h) (h2 : h <= m) (h3 : m <= cap) (hmh : mx'.isSome = true -> hi'.isSome = true) :
  (Instr.sliceBounds isS len cap (lo.map a.eval) (hi.map a.eval) (mx.map a.eval)).run P w = .ok (l, h, m) w := by
 have hmh' : mx.isSome = true -> hi.isSome = true := by
  cases mx with
  | none => simp
  | some y =>
   intro _
   simp only [ZC, QhF] at hmx
   obtain ⟨y', _, rfl⟩ := hmx
   have := hmh rfl
   cases hi with
   | none => simp only [ZC, QhI] at hhi; subst hhi; simp at this
   | some => rfl
 rcases MI r hlo bl with ⟨rfl, el⟩ | ⟨y1, k1, m1, rfl, e1, p1, el⟩ <;> rcases MI r hhi bh with ⟨rfl, eh⟩ | ⟨y2, k2, m2, rfl, e2, p2, eh⟩ <;> rcases MI r hmx bm with ⟨rfl, em⟩ | ⟨y3, k3, m3, rfl, e3, p3, em⟩
 ·subst el; subst eh; subst em; simp [Instr.sliceBounds]
 ·simp at hmh'
 ·subst el; subst eh; subst em
  have b2 := fun c => run_sliceBound (P := P) w k2 m2 m c p2 Wa
  simp [Instr.sliceBounds, e2, b2]
 ·subst el; subst eh; subst em
  have b3 := fun c => run_sliceBound (P := P) w k3 m3 cap c p3 Wa
  have b2 := fun c => run_sliceBound (P := P) w k2 m2 m3.toNat c p2 Wa
  simp [Instr.sliceBounds, e2, e3, b2, b3]
 ·subst el; subst eh; subst em
  have b1 := fun c => run_sliceBound (P := P) w k1 m1 h c p1 Wa
  simp [Instr.sliceBounds, e1, b1]
 ·simp at hmh'
 ·subst el; subst eh; subst em
  have b2 := fun c => run_sliceBound (P := P) w k2 m2 m c p2 Wa
  have b1 := fun c => run_sliceBound (P := P) w k1 m1 m2.toNat c p1 Wa
  simp [Instr.sliceBounds, e1, e2, b1, b2]
 ·subst el; subst eh; subst em
  have b3 := fun c => run_sliceBound (P := P) w k3 m3 cap c p3 Wa
  have b2 := fun c => run_sliceBound (P := P) w k2 m2 m3.toNat c p2 Wa
  have b1 := fun c => run_sliceBound (P := P) w k1 m1 m2.toNat c p1 Wa
  simp [Instr.sliceBounds, e1, e2, e3, b1, b2, b3]
theorem NS {K : Kn} {b : Nat} : ∀ {off : Nat} {rows : List (List D)} (n : Nat), RepRows K b off rows -> RepRows K b off (rows.take n)
 | _, _, 0, _ => by simp only [List.take_zero, RepRows]
 | _, [], _ + 1, _ => by simp only [List.take_nil, RepRows]
 | off, r :: rs, n + 1, h => by
  simp only [RepRows, List.take_succ_cons] at h ⊢
  exact ⟨h.1, NS n h.2⟩
theorem NR {K : Kn} {b esz : Nat} : ∀ {off : Nat} {rows : List (List D)} (n : Nat), (∀ r ∈ rows, r.length = esz) -> n <= rows.length -> RepRows K b off rows -> RepRows K b (off + n * esz) (rows.drop n)
 | off, rows, 0, _, _, h => by simpa using h
 | _, [], n + 1, _, hn, _ => by simp at hn
 | off, r :: rs, n + 1, hl, hn, h => by
  simp only [RepRows] at h
  have := NR (esz := esz) n (fun r hr => hl r (by simp [hr])) (by simpa using hn) h.2
  rw [hl r Wc] at this
  rw [show off + (n + 1) * esz = off + esz + n * esz by rw [Nat.succ_mul]; omega]; exact this
theorem Ml {st et : TypeId} {esz : Nat} {x : Operand} {lo hi mx : Option Operand} {x' : Opd} {lo' hi' mx' : Option Opd} {rows : List (List D)} {l h m : Nat} {d : D} (r : Rel E g s a w)
  (ho : o.op = .slice st x lo hi mx) (hx : QG x = some x') (hlo : ZC lo = some lo') (hhi : ZC hi = some hi') (hmx : ZC mx = some mx') (hu : P.underlying st = some (.slice et)) (hs : YY P et = some esz)
  (he : s.ev x' = some d) (hd : d = .sl rows \/ d = .fsl rows) (bl : s.bd lo' 0 l) (bh : s.bd hi' rows.length h) (h1 : l <= h) (h2 : h <= rows.length) (hl : ∀ r ∈ rows, r.length = esz) :
  (mx' = none -> Good P E s a w o dst (.sl ((rows.take h).drop l)) none) /\
  (s.bd mx' 0 m -> mx'.isSome = true -> hi'.isSome = true -> m = h -> Good P E s a w o dst (.fsl ((rows.take h).drop l)) none) := by
 have hv := (Zi r hx he).1
 have base : ∃ a0 cap, a.eval x = .slice a0 rows.length cap /\ rows.length <= cap /\ (rows = [] \/ ∃ b off, a0 = some ⟨b, off, none⟩ /\ RepRows g.K b off rows) := by
  rcases hd with rfl | rfl
  ·simp only [Rep, RepS, RepP] at hv
   obtain ⟨a0, cap, hv, h3, h4⟩ := hv
   exact ⟨a0, cap, hv, h3, h4.imp id fun ⟨b, off, e, q1, _, q2⟩ => ⟨b, off, q1, q2⟩⟩
  ·simp only [Rep, RepS, RepP] at hv
   obtain ⟨a0, hv, h4⟩ := hv
   exact ⟨a0, _, hv, Nat.le_refl _, h4.imp id fun ⟨b, off, e, q1, _, q2⟩ => ⟨b, off, q1, q2⟩⟩
 obtain ⟨a0, cap, hv, hcap, hrep⟩ := base
 have run : ∀ m, (Instr.sliceBounds true rows.length cap (lo.map a.eval) (hi.map a.eval) (mx.map a.eval)).run P w = .ok (l, h, m) w ->
   (execOp a.eval o).run P w = .ok (.value (.slice (if m = l then a0 else a0.map (·.add (l * esz))) (h - l) (m - l))) w := fun m hb => by
  simp [execOp, ho, hv, Instr.sliceAt, Instr.slice, underlying, hu, hb, Zr hs]
 have hlen : ((rows.take h).drop l).length = h - l := by simp; omega
 constructor
 ·rintro rfl
  refine Good.of r (run cap (XN r hlo hhi hmx bl bh rfl h1 Wa (Nat.le_refl _) Wc)) ?_ (Has.of_nil rfl)
  simp only [Rep, RepS, RepP]
  refine ⟨_, cap - l, by rw [hlen], Wa, ?_⟩
  by_cases hlh : l = h
  ·exact .inl (by subst hlh; simp)
  ·rcases hrep with rfl | ⟨b', off', rfl, hr⟩
   ·simp at h2; omega
   ·refine .inr ⟨b', off' + l * esz, esz, by rw [if_neg Wa]; simp [add_lit], fun r hr => hl r (QhZ (List.mem_of_mem_drop hr)), ?_⟩
    exact NR l (fun r hr => hl r (QhZ hr)) We (NS h hr)
 ·intro bm hms hhs hmh
  subst hmh
  have bm' : s.bd mx' cap m := by
   cases mx' with
   | none => simp at hms
   | some => exact bm
  refine Good.of r (run m (XN r hlo hhi hmx bl bh bm' h1 (Nat.le_refl _) Wa (fun _ => hhs))) ?_ (Has.of_nil rfl)
  simp only [Rep, RepS, RepP]
  refine ⟨_, by rw [hlen], ?_⟩
  by_cases hlh : l = m
  ·exact .inl (by subst hlh; simp)
  ·rcases hrep with rfl | ⟨b', off', rfl, hr⟩
   ·simp at h2; omega
   ·refine .inr ⟨b', off' + l * esz, esz, by rw [if_neg Wa]; simp [add_lit], fun r hr => hl r (QhZ (List.mem_of_mem_drop hr)), ?_⟩
    exact NR l (fun r hr => hl r (QhZ hr)) We (NS m hr)
theorem Sk {st et : TypeId} {esz : Nat} {x : Operand} {lo hi mx : Option Operand} {x' : Opd} {lo' hi' mx' : Option Opd} {rows : List (List D)} (r : Rel E g s a w)
  (ho : o.op = .slice st x lo hi mx) (hx : QG x = some x') (hlo : ZC lo = some lo') (hhi : ZC hi = some hi') (hmx : ZC mx = some mx') (hu : P.underlying st = some (.slice et)) (hs : YY P et = some esz)
  (he : s.ev x' = some (.fsl rows)) (bl : s.bd lo' 0 0) (bh : s.bd hi' rows.length rows.length) (hm : mx' = none) : Good P E s a w o dst (.fsl rows) none := by
 have hv := (Zi r hx he).1
 simp only [Rep, RepS, RepP] at hv
 obtain ⟨a0, hv, h4⟩ := hv
 subst hm
 have hb := XN (P := P) r (isS := true) (cap := rows.length) hlo hhi hmx bl bh rfl (QhR _) (Nat.le_refl _) (Nat.le_refl _) Wc
 have run : (execOp a.eval o).run P w = .ok (.value (.slice (if rows.length = 0 then a0 else a0.map (·.add (0 * esz))) rows.length rows.length)) w := by
  simp [execOp, ho, hv, Instr.sliceAt, Instr.slice, underlying, hu, hb, Zr hs]
 refine Good.of r run ?_ (Has.of_nil rfl)
 simp only [Rep, RepS, RepP]
 refine ⟨_, rfl, h4.imp id ?_⟩
 rintro ⟨b, off, e, rfl, q1, q2⟩
 refine ⟨b, off, e, ?_, q1, q2⟩
 split
 ·rfl
 ·simp [add_lit]
theorem Sl {st et : TypeId} {esz k n m : Nat} {x : Operand} {lo hi mx : Option Operand} {x' : Opd} {lo' hi' mx' : Option Opd} (r : Rel E g s a w)
  (ho : o.op = .slice st x lo hi mx) (hx : QG x = some x') (hlo : ZC lo = some lo') (hhi : ZC hi = some hi') (hmx : ZC mx = some mx') (hu : P.underlying st = some (.slice et)) (hs : YY P et = some esz)
  (he : s.ev x' = some (.osl k n)) (bl : s.bd lo' 0 0) (bh : s.bd hi' n m) (hmn : m <= n) (hm : mx' = none) : Good P E s a w o dst (.osl k m) none := by
 obtain ⟨⟨a0, cap, hv, hc, h4⟩, hid⟩ := Zi r hx he
 subst hm
 have hb := XN (P := P) r (isS := true) (cap := cap) hlo hhi hmx bl bh rfl (QhR _) (QhY hmn hc) (Nat.le_refl _) Wc
 have run : (execOp a.eval o).run P w = .ok (.value (.slice (if cap = 0 then a0 else a0.map (·.add (0 * esz))) m cap)) w := by
  simp [execOp, ho, hv, Instr.sliceAt, Instr.slice, underlying, hu, hb, Zr hs]
 refine Good.of r run ⟨_, cap, rfl, QhY hmn hc, ?_⟩ (fun j hj => hid j hj)
 rcases h4 with ⟨h, h2⟩ | ⟨B, esz', h1, rfl, h3⟩ | hg
 ·exact .inl ⟨Wa, h2⟩
 ·refine .inr (.inl ⟨B, esz', h1, ?_, h3⟩)
  split
  ·rfl
  ·simp [add_lit]
 ·exact .inr (.inr hg)
theorem Sn {st et : TypeId} {esz k n l : Nat} {x : Operand} {lo hi mx : Option Operand} {x' : Opd} {lo' hi' mx' : Option Opd} (r : Rel E g s a w)
  (ho : o.op = .slice st x lo hi mx) (hx : QG x = some x') (hlo : ZC lo = some lo') (hhi : ZC hi = some hi') (hmx : ZC mx = some mx') (hu : P.underlying st = some (.slice et)) (hs : YY P et = some esz)
  (he : s.ev x' = some (.osl k n)) (bl : s.bd lo' 0 l) (bh : s.bd hi' n n) (hln : l <= n) (hm : mx' = none) : Good P E s a w o dst (.osv k l (l * esz) (n - l)) none := by
 obtain ⟨⟨a0, cap, hv, hc, h4⟩, hid⟩ := Zi r hx he
 subst hm
 have hb := XN (P := P) r (isS := true) (cap := cap) hlo hhi hmx bl bh rfl hln hc (Nat.le_refl _) Wc
 have run : (execOp a.eval o).run P w = .ok (.value (.slice (if cap - l = 0 then a0 else a0.map (·.add (l * esz))) (n - l) (cap - l))) w := by
  simp [execOp, ho, hv, Instr.sliceAt, Instr.slice, underlying, hu, hb, Zr hs]
  split <;> split <;> first | rfl | omega
 refine Good.of r run ⟨_, cap - l, rfl, Wa, ?_⟩ (fun j hj => hid j hj)
 by_cases hz : cap - l = 0
 ·exact .inl ⟨Wa, hz⟩
 ·rw [if_neg hz]
  rcases h4 with ⟨h, h2⟩ | ⟨B, esz', h1, rfl, h3⟩ | hg
  ·omega
  ·refine .inr (.inl ⟨B, esz', h1, ?_, by rw [show l + (cap - l) = cap by omega]; exact h3⟩)
   simp [add_lit]
  ·exact .inr (.inr hg)
theorem MV {st : TypeId} {x : Operand} {lo hi : Option Operand} {x' : Opd} {lo' hi' : Option Opd} {c : List UInt8} {l h : Nat} (r : Rel E g s a w)
  (ho : o.op = .slice st x lo hi none) (hx : QG x = some x') (hlo : ZC lo = some lo') (hhi : ZC hi = some hi') (hu : P.underlying st = some .string)
  (he : s.ev x' = some (.str c)) (bl : s.bd lo' 0 l) (bh : s.bd hi' c.length h) (h1 : l <= h) (h2 : h <= c.length) : Good P E s a w o dst (.str ((c.take h).drop l)) none := by
 refine Good.str r ?_
 have hsz : (ByteArray.mk c.toArray).size = c.length := by simp [ByteArray.size]
 have hb := XN (P := P) (isS := false) (mx := none) (mx' := none) (cap := c.length) (m := c.length) r hlo hhi rfl bl bh rfl h1 h2 (Nat.le_refl _) Wc
 have hex : (ByteArray.mk c.toArray).extract l h = ByteArray.mk ((c.take h).drop l).toArray := by
  apply ByteArray.ext
  simp [ByteArray.data_extract]
  rw [List.drop_take]
 simp only [Option.map_none] at hb
 simp [execOp, ho, Pm r hx he, Instr.sliceAt, Instr.slice, underlying, hu, hsz, hb, hex]
end
end Go.Abs
namespace Go.Abs
open Go
section
variable {P : Program} {E : Env} {g : Gh} {s : St} {a : Act} {w : World} {o : Oper} {dst : Option Nat}
theorem Rel.setBox {k B : Nat} {b b' : Box} {c c' : Array Value} {w' : World} (r : Rel E g s a w) (hb : lk s.H k = some b) (hβ : g.β k = some (B, b.esz)) (_hB : w.heap[B]? = some (.cells c b.et (0, 0)))
    (hcs : c'.size = c.size) (hσ : c.size = (g.σ k).1) (hK : ∀ o, g.K B o = none) (hown : E.B0 <= B \/ E.fo B) (he : b'.esz = b.esz) (hB' : w'.heap[B]? = some (.cells c' b'.et (0, 0))) (hoth : ∀ i, i ≠ B -> w'.heap[i]? = w.heap[i]?) (hsz : w'.heap.size = w.heap.size)
    (hrow : ∀ r ∈ b'.rows, r.length = b'.esz) (hpr : b'.pr = true -> ∀ r ∈ b'.rows, ∀ d ∈ r, d.sid = []) (hne : b'.rows ≠ [] \/ b'.esz ≠ 0) (hc : RowsC g c' (g.σ k).2 b'.rows)
    (hid : ∀ r ∈ b'.rows, ∀ d ∈ r, ∀ j ∈ d.sid, (lk s.H j).isSome = true) (hfx : SameFx w w' := by exact ⟨rfl, rfl, rfl⟩) : Rel E g { s with H := (k, b') :: s.H } a w' := by
  have hsome : ∀ j, (lk ((k, b') :: s.H) j).isSome = (lk s.H j).isSome := fun j => by
    rw [Qx]; split
    · rename_i e; subst e; simp [hb]
    · rfl
  have hlt : ∀ j b1 B1 e1, lk s.H j = some b1 -> j ≠ k -> g.β j = some (B1, e1) -> B1 ≠ B := fun j b1 B1 e1 h1 h2 h3 h4 => by
    subst h4; exact h2 (r.inj j k b1 b B1 _ _ h1 hb h3 hβ)
  refine ⟨r.nt, r.df.of rfl (fun D hD => by
    by_cases e : D = B
    · subst e; unfold XT at hD; rw [_hB] at hD; cases hD
    · exact (hoth D e).trans hD), r.fr, fun t d h j hj => (hsome j).trans (r.wfF t d h j hj), fun j b1 h i hi => ?_, fun j b1 h => ?_, fun j j' b1 b2 B1 e e' h1 h2 h3 h4 => ?_, ?_, ⟨by rw [hsz]; exact r.ext.1, fun i hi hf => ?_, r.ext.2.2.trans hfx⟩, r.kx, fun k hk => let ⟨h1, h2, h3, h4⟩ := r.kp k hk; ⟨h1, h2, h3, (hsome k).trans h4⟩⟩
  · rw [Qx] at h
    rw [hsome]
    split at h
    · cases h
      simp only [Box.ids] at hi
      split at hi
      · cases hi
      · obtain ⟨r0, hr, hi⟩ := QhM.1 hi
        obtain ⟨d, hd, hi⟩ := QhM.1 hi
        exact hid r0 hr d hd i hi
    · exact r.wfH j b1 h i hi
  · rw [Qx] at h
    split at h
    · rename_i e; cases h; subst e
      exact ⟨hrow, hpr, .inr ⟨hne, B, c', by rw [he]; exact hβ, hB', hcs.trans hσ, hc, hK, hown⟩⟩
    · rename_i e
      obtain ⟨h1, h2, h3⟩ := r.bx j b1 h
      refine ⟨h1, h2, h3.imp (fun ⟨x, y⟩ => ⟨x, y.imp id fun ⟨i1, i2, i3, sv, p, B1, i4, i5, i6, i7, i8⟩ => ⟨i1, i2, i3, sv, p, B1, i4, i5, (hoth B1 (hlt j b1 B1 _ h (Ne.symm e) i5)).trans i6, i7, i8⟩⟩) ?_⟩
      rintro ⟨h4, B1, c1, h5, h6, h7⟩
      exact ⟨h4, B1, c1, h5, (hoth B1 (hlt j b1 B1 _ h (Ne.symm e) h5)).trans h6, h7⟩
  · have key : ∀ j b1, lk ((k, b') :: s.H) j = some b1 -> ∃ b2, lk s.H j = some b2 := fun j b1 h => by
      have := hsome j
      rw [h] at this
      exact QhL.1 this.symm
    obtain ⟨b3, h5⟩ := key j b1 h1
    obtain ⟨b4, h6⟩ := key j' b2 h2
    exact r.inj j j' b3 b4 B1 e e' h5 h6 h3 h4
  · intro i q x hx
    obtain ⟨c1, e1, f1, h1, h2⟩ := r.kr i q x hx
    have : i ≠ B := fun e => by subst e; rw [hK] at hx; cases hx
    exact ⟨c1, e1, f1, (hoth i this).trans h1, h2⟩
  · have : i ≠ B := fun e => by
      subst e
      rcases hown with h | h
      · omega
      · exact hf h
    exact (hoth i this).trans (r.ext.2.1 i hi hf)
theorem Ks {c : Array Value} : ∀ {off : Nat} {ds : List D}, CellsC g c off ds -> ∀ j d, ds[j]? = some d -> d.isCell = true /\ ∃ x, c[off + j]? = some x /\ RepS g d x
  | _, [], _, j, d, h => by simp at h
  | off, x :: xs, h, j, d, hd => by
    simp only [CellsC] at h
    cases j with
    | zero => simp at hd; subst hd; simpa using h.1
    | succ j =>
      have := Ks h.2 j d (by simpa using hd)
      rw [show off + (j + 1) = off + 1 + j by omega]; exact this
theorem CD {c : Array Value} {esz : Nat} : ∀ {off : Nat} {rows : List (List D)}, (∀ r ∈ rows, r.length = esz) -> RowsC g c off rows -> rows ≠ [] -> esz ≠ 0 -> off + rows.length * esz <= c.size := by
  intro off rows hl h hne h0
  have hn : rows.length - 1 < rows.length := by have := List.length_pos_iff.2 hne; omega
  have hrow := List.getElem?_eq_getElem hn
  have h1 := X8 (esz := esz) (rows.length - 1) hl h hrow
  have h2 := hl _ (List.mem_of_getElem? hrow)
  have h3 : (rows[rows.length - 1])[esz - 1]? = some ((rows[rows.length - 1])[esz - 1]'Wa) := List.getElem?_eq_getElem Wa
  obtain ⟨_, x, h4, _⟩ := Ks h1 _ _ h3
  have h5 := (Array.getElem?_eq_some_iff.1 h4).1
  have h6 : (rows.length - 1) * esz + esz = rows.length * esz := by
    rw [<- Nat.succ_mul]; congr 1; omega
  omega
theorem Qd8 {i i' esz j o : Nat} (hii : i ≠ i') (hj : j < esz) (_ho : o < esz) : i * esz + j ≠ i' * esz + o := by
  intro h
  rcases Nat.lt_or_gt_of_ne hii with hlt | hlt
  · have := Nat.mul_le_mul_right esz (show i + 1 <= i' from hlt)
    rw [Nat.succ_mul] at this; omega
  · have := Nat.mul_le_mul_right esz (show i' + 1 <= i from hlt)
    rw [Nat.succ_mul] at this; omega
def setRow (row : List D) (off : Nat) (cells : List D) : List D := row.take off ++ cells ++ row.drop (off + cells.length)
def Fg (P : Program) (E : Env) (a : Act) (w : World) (o : Oper) (s' : St) (d : D) : Prop :=
  ∃ n w' g', (execOp a.eval o).run P w = .ok n w' /\ Rel E g' s' a w' /\ Has s' d /\ ((n = .skip /\ d = .undef) \/ ∃ u, n = .value u /\ Rep g' d u)
theorem Ls {t : TypeId} {sz : Nat} {x y : Operand} {x' y' : Opd} {k i off : Nat} {b : Box} {row cells : List D} {d : D} (r : Rel E g s a w) (ho : o.op = .store t x y) (hx : QG x = some x') (hy : QG y = some y')
    (hs : YY P t = some sz) (he : s.ev x' = some (.ref k i off)) (hb : lk s.H k = some b) (hrow : b.rows[i]? = some row) (hf : s.ev y' = some d) (hd : d.cells = some cells) (hl : cells.length = sz) (hfit : off + sz <= row.length) (h0 : sz ≠ 0) :
    Fg P E a w o { s with H := (k, { b with rows := b.rows.set i (setRow row off cells), pr := b.pr && cells.all fun d => d.sid.isEmpty }) :: s.H } .undef := by
  obtain ⟨B, esz, z, hβ, hxv⟩ := (Zi r hx he).1
  obtain ⟨hyv, hyid⟩ := Zi r hy hf
  obtain ⟨vs, v1, v2, v3, v4⟩ := Gg hd hyv
  obtain ⟨hrl, hpr, hbx⟩ := r.bx k b hb
  have hne : b.rows ≠ [] := by rintro h; rw [h] at hrow; simp at hrow
  obtain ⟨_, B', c, h3, h4, h5, h6, h7, h8⟩ := hbx.resolve_left fun h => hne h.1
  clear hbx
  obtain ⟨hβ, hz⟩ := hβ.resolve_right fun hg => hg.no h3
  rw [hβ] at h3; cases h3
  rw [<- hz] at h6
  have hil : i < b.rows.length := (List.getElem?_eq_some_iff.1 hrow).1
  have hrowl : row.length = b.esz := hrl row (List.mem_of_getElem? hrow)
  have hvl : vs.length = sz := by rw [v2.len]; exact hl
  have hcs := CD hrl h6 hne Wa
  have hbound : (z + (i * b.esz + off)) + vs.length <= c.size := by
    have := Nat.mul_le_mul_right b.esz (show i + 1 <= b.rows.length from hil)
    rw [Nat.succ_mul] at this; omega
  have hst := run_storeCells_at P B (z + (i * b.esz + off)) b.et vs 0 c w h4 Wa v4
  simp only [Nat.add_zero] at hst
  have hsid : ∀ y ∈ cells, ∀ j ∈ y.sid, (lk s.H j).isSome = true := by
    intro y hy j hj
    exact hyid j (Gi hd y hy j hj)
  have hlist : (c.toList.take (z + (i * b.esz + off)) ++ vs ++ c.toList.drop ((z + (i * b.esz + off)) + vs.length)).length = c.size := by
    simp only [List.length_append, List.length_take, List.length_drop, Array.length_toList]; omega
  have hget : ∀ p, (c.toList.take (z + (i * b.esz + off)) ++ vs ++ c.toList.drop ((z + (i * b.esz + off)) + vs.length))[p]? =
      if p < (z + (i * b.esz + off)) then c[p]? else if p < (z + (i * b.esz + off)) + sz then vs[p - (z + (i * b.esz + off))]? else c[p]? := by
    intro p
    have ht : (c.toList.take (z + (i * b.esz + off))).length = (z + (i * b.esz + off)) := by simp; omega
    by_cases h1 : p < (z + (i * b.esz + off))
    · rw [if_pos h1, List.append_assoc, List.getElem?_append_left Wa, List.getElem?_take_of_lt h1, Array.getElem?_toList]
    · rw [if_neg h1, List.append_assoc, List.getElem?_append_right Wa, ht]
      by_cases h2 : p < (z + (i * b.esz + off)) + sz
      · rw [if_pos h2, List.getElem?_append_left Wa]
      · rw [if_neg h2, List.getElem?_append_right Wa, List.getElem?_drop, Array.getElem?_toList]
        congr 1; omega
  have hrepl : ∀ {ds : List D} {vs : List Value} (n : Nat) {d : D}, RepL g ds vs -> ds[n]? = some d -> ∃ v, vs[n]? = some v /\ RepS g d v := by
    intro ds
    induction ds with
    | nil => intro vs n d _ h; simp at h
    | cons x xs ih =>
      intro vs n d h hd
      cases vs with
      | nil => exact h.elim
      | cons v vs =>
        cases n with
        | zero => simp at hd; subst hd; exact ⟨v, by simp, h.1⟩
        | succ n => simpa using ih n h.2 (by simpa using hd)
  have hset : (setRow row off cells).length = b.esz := by simp [setRow]; omega
  have hrows : ∀ r ∈ b.rows.set i (setRow row off cells), r.length = b.esz := fun r0 hr => by
    rcases List.mem_or_eq_of_mem_set hr with h | h
    · exact hrl r0 h
    · rw [h]; exact hset
  have hnew : RowsC g (c.toList.take (z + (i * b.esz + off)) ++ vs ++ c.toList.drop ((z + (i * b.esz + off)) + vs.length)).toArray z (b.rows.set i (setRow row off cells)) := by
    refine TN hrows fun i' row' hi' => Gf fun j d' hd' => ?_
    have hjl : j < b.esz := by
      have h1 := (List.getElem?_eq_some_iff.1 hd').1
      rw [hrows row' (List.mem_of_getElem? hi')] at h1; exact h1
    rw [List.getElem?_toArray, hget]
    by_cases hii : i' = i
    · subst hii
      rw [List.getElem?_set_self hil] at hi'
      cases hi'
      have hold := Ks (X8 i' hrl h6 hrow)
      have htl : (row.take off).length = off := by simp; omega
      by_cases h1 : j < off
      · rw [if_pos Wa]
        refine hold j d' ?_
        rw [setRow, List.append_assoc, List.getElem?_append_left Wa, List.getElem?_take_of_lt h1] at hd'; exact hd'
      · rw [if_neg Wa]
        rw [setRow, List.append_assoc, List.getElem?_append_right Wa, htl] at hd'
        by_cases h2 : j < off + sz
        · rw [if_pos Wa]
          rw [List.getElem?_append_left Wa] at hd'
          obtain ⟨u, q1, q2⟩ := hrepl _ v2 hd'
          refine ⟨v3 d' (List.mem_of_getElem? hd'), u, ?_, q2⟩
          rw [show z + i' * b.esz + j - (z + (i' * b.esz + off)) = j - off by omega]; exact q1
        · rw [if_neg Wa]
          refine hold j d' ?_
          rw [List.getElem?_append_right Wa, List.getElem?_drop] at hd'
          rw [show off + cells.length + (j - off - cells.length) = j by omega] at hd'; exact hd'
    · rw [List.getElem?_set_ne (Ne.symm hii)] at hi'
      have hold := Ks (X8 i' hrl h6 hi') j d' hd'
      have hlt : ¬ (z + i' * b.esz + j >= (z + (i * b.esz + off)) /\ z + i' * b.esz + j < (z + (i * b.esz + off)) + sz) := by
        rintro ⟨q1, q2⟩
        exact Qd8 (o := i' * b.esz + j - i * b.esz) hii hjl Wa Wa
      by_cases h1 : z + i' * b.esz + j < (z + (i * b.esz + off))
      · rw [if_pos h1]; exact hold
      · rw [if_neg h1, if_neg Wa]; exact hold
  refine ⟨.skip, _, g, ?_, r.setBox (b' := { b with rows := b.rows.set i (setRow row off cells), pr := b.pr && cells.all fun d => d.sid.isEmpty })
    (c' := (c.toList.take (z + (i * b.esz + off)) ++ vs ++ c.toList.drop ((z + (i * b.esz + off)) + vs.length)).toArray) hb hβ h4 (by simpa using hlist) h5 h7 h8 rfl (setRow_heap w B c _ b.et (0, 0) h4) (fun i hi => setRow_other w B i _ hi) Wc hrows ?_ ?_ (by rw [<- hz]; exact hnew) ?_, Has.of_nil rfl, .inl ⟨rfl, rfl⟩⟩
  · have hsz' : (a.eval y).cells.size = sz := by rw [v1]; simpa using hvl
    have e1 : (a.eval y).cells.toList = vs := by rw [v1]
    simp [execOp, ho, hxv, Instr.storeAt, Instr.sureAddr, storeVar, Zr hs, hsz', e1, hst]
  · intro hp r0 hr d0 hd0
    simp only [QhJ, QhP] at hp
    rcases List.mem_or_eq_of_mem_set hr with h | h
    · exact hpr hp.1 r0 h d0 hd0
    · subst h
      simp only [setRow, QhQ] at hd0
      rcases hd0 with (h | h) | h
      · exact hpr hp.1 row (List.mem_of_getElem? hrow) d0 (QhZ h)
      · simpa using hp.2 d0 h
      · exact hpr hp.1 row (List.mem_of_getElem? hrow) d0 (List.mem_of_mem_drop h)
  · refine .inl fun h => ?_
    have := congrArg List.length h
    simp at this
    exact hne this
  · intro r0 hr d0 hd0 j hj
    rcases List.mem_or_eq_of_mem_set hr with h | h
    · exact r.wfB k b hb r0 h d0 hd0 j hj
    · subst h
      simp only [setRow, QhQ] at hd0
      rcases hd0 with (h | h) | h
      · exact r.wfB k b hb row (List.mem_of_getElem? hrow) d0 (QhZ h) j hj
      · exact hsid d0 h j hj
      · exact r.wfB k b hb row (List.mem_of_getElem? hrow) d0 (List.mem_of_mem_drop h) j hj
theorem Rel.allocIter {t : Nat} {l : List UInt8} (r : Rel E g s a w) (hn : lk s.H t = none) :
    ∃ g', g'.K = g.K /\ g'.β t = some (w.heap.size, 0) /\ (g'.σ t).2 = 0 /\ Rel E g' { s with H := (t, ⟨[], 0, Zq l 0, false⟩) :: s.H } a (w.alloc (.stringIter ⟨l.toArray⟩ 0)) := by
  refine ⟨{ K := g.K, β := fun k => if k = t then some (w.heap.size, 0) else g.β k, σ := fun k => if k = t then (0, 0) else g.σ k }, rfl, by simp, by simp, ?_⟩
  have hnt : ∀ k, (lk s.H k).isSome = true -> k ≠ t := fun k hk e => by subst e; simp [hn] at hk
  have hold : ∀ i, i < w.heap.size -> (w.alloc (.stringIter ⟨l.toArray⟩ 0)).heap[i]? = w.heap[i]? := fun i hi => by
    simp only [World.alloc, Array.getElem?_push]; rw [if_neg Wa]
  have hKn : ∀ o, g.K w.heap.size o = none := fun o => by
    cases h : g.K w.heap.size o with
    | none => rfl
    | some x => exact absurd (r.kr.lt h) (Nat.lt_irrefl _)
  have hkr : KRel g.K (w.alloc (.stringIter ⟨l.toArray⟩ 0)) := fun i o x e => by
    obtain ⟨c', e', f, h1, h2⟩ := r.kr i o x e
    exact ⟨c', e', f, (hold i (r.kr.lt e)).trans h1, h2⟩
  have r' : Rel E { K := g.K, β := fun k => if k = t then some (w.heap.size, 0) else g.β k, σ := fun k => if k = t then (0, 0) else g.σ k } s a (w.alloc (.stringIter ⟨l.toArray⟩ 0)) :=
    r.move (fun _ _ => rfl) (fun k hk => by simp [hnt k hk]) hkr hold Wc
  have hsome : ∀ (b : Box) k, (lk s.H k).isSome = true -> (lk ((t, b) :: s.H) k).isSome = true := fun b k hk => by
    rw [Qx]; split <;> simp_all
  refine ⟨r'.nt, r'.df, r'.fr, fun u d h k hk => hsome _ k (r.wfF u d h k hk), fun k b' h j hj => ?_, fun k b' h => ?_, fun k k' b1 b2 B e e' h1 h2 h3 h4 => ?_, r'.kr, r'.ext, r'.kx, fun k hk => let ⟨h1, h2, h3, h4⟩ := r'.kp k hk; ⟨h1, h2, h3, hsome _ k h4⟩⟩
  · rw [Qx] at h
    split at h
    · cases h; simp [Box.ids] at hj
    · exact hsome _ j (r.wfH k b' h j hj)
  · rw [Qx] at h
    split at h
    · rename_i e
      cases h; subst e
      exact ⟨by simp, by simp, .inl ⟨rfl, .inr ⟨rfl, rfl, rfl, l, 0, w.heap.size, rfl, by simp, heap_alloc_new w _, hKn, .inl r.ext.1, by simp⟩⟩⟩
    · exact r'.bx k b' h
  · have hlt : ∀ k b e, lk s.H k = some b -> g.β k = some (B, e) -> B < w.heap.size := fun k b e h hb => by
      obtain ⟨_, _, h2⟩ := r.bx k b h
      rcases h2 with ⟨_, ⟨h2, _⟩ | ⟨_, _, _, _, _, B', _, h3, h4, _⟩⟩ | ⟨_, B', c', h3, h4, _⟩
      · rw [h2] at hb; cases hb
      · rw [h3] at hb; cases hb; exact (Array.getElem?_eq_some_iff.1 h4).1
      · rw [h3] at hb; cases hb; exact (Array.getElem?_eq_some_iff.1 h4).1
    rw [Qx] at h1 h2
    simp only at h3 h4
    split at h1 <;> split at h2
    · rename_i e1 e2; exact e1.symm.trans e2
    · rename_i e1 e2
      rw [if_pos e1.symm] at h3; rw [if_neg (Ne.symm e2)] at h4; cases h3
      exact absurd (hlt k' b2 _ h2 h4) (Nat.lt_irrefl _)
    · rename_i e1 e2
      rw [if_neg (Ne.symm e1)] at h3; rw [if_pos e2.symm] at h4; cases h4
      exact absurd (hlt k b1 _ h1 h3) (Nat.lt_irrefl _)
    · rename_i e1 e2
      rw [if_neg (Ne.symm e1)] at h3; rw [if_neg (Ne.symm e2)] at h4
      exact r.inj k k' b1 b2 B e e' h1 h2 h3 h4
theorem Rel.setIter {k p q : Nat} {l : List UInt8} {B e : Nat} (r : Rel E g s a w) (hb : lk s.H k = some ⟨[], 0, Zq l p, false⟩) (hβ : g.β k = some (B, e)) :
    w.heap[B]? = some (.stringIter ⟨l.toArray⟩ p) /\ (g.σ k).2 = 0 /\ Rel E g { s with H := (k, ⟨[], 0, Zq l q, false⟩) :: s.H } a { w with heap := w.heap.setIfInBounds B (.stringIter ⟨l.toArray⟩ q) } := by
  obtain ⟨_, _, h3⟩ := r.bx k _ hb
  rcases h3 with ⟨_, ⟨h3, _⟩ | ⟨_, _, _, l', p', B', i1, i2, i3, i4, i5⟩⟩ | ⟨h, _⟩
  · rw [h3] at hβ; cases hβ
  rotate_left
  · exact (h.elim (fun h => h rfl) (fun h => h rfl)).elim
  obtain ⟨rfl, rfl⟩ := Fp i1
  rw [hβ] at i2
  simp only [QhI, Prod.mk.injEq] at i2
  obtain ⟨rfl, rfl⟩ := i2
  refine ⟨i3, i5.2, ?_⟩
  have hlt : B < w.heap.size := (Array.getElem?_eq_some_iff.1 i3).1
  have hoth : ∀ i, i ≠ B -> (w.heap.setIfInBounds B (.stringIter ⟨l.toArray⟩ q))[i]? = w.heap[i]? := fun i hi => Array.getElem?_setIfInBounds_ne (Ne.symm hi)
  have hnew : (w.heap.setIfInBounds B (.stringIter ⟨l.toArray⟩ q))[B]? = some (.stringIter ⟨l.toArray⟩ q) := by simp [hlt]
  have hsome : ∀ (b : Box) j, (lk ((k, b) :: s.H) j).isSome = (lk s.H j).isSome := fun b j => by
    rw [Qx]; split
    · rename_i e; subst e; simp [hb]
    · rfl
  have hne : ∀ j b1 B1 e1, lk s.H j = some b1 -> j ≠ k -> g.β j = some (B1, e1) -> B1 ≠ B := fun j b1 B1 e1 h1 h2 h3 h4 => by
    subst h4; exact h2 (r.inj j k b1 _ B1 _ _ h1 hb h3 hβ)
  refine ⟨r.nt, r.df.of rfl (fun D hD => by
    by_cases e : D = B
    · subst e; unfold XT at hD; rw [i3] at hD; cases hD
    · exact (hoth D e).trans hD), r.fr, fun t d h j hj => (hsome _ j).trans (r.wfF t d h j hj), fun j b1 h i hi => ?_, fun j b1 h => ?_, fun j j' b1 b2 B1 e e' h1 h2 h3 h4 => ?_, ?_, ⟨by simpa using r.ext.1, fun i hi hf => ?_, r.ext.2.2.trans ⟨rfl, rfl, rfl⟩⟩, r.kx, fun k hk => let ⟨h1, h2, h3, h4⟩ := r.kp k hk; ⟨h1, h2, h3, (hsome _ k).trans h4⟩⟩
  · rw [Qx] at h
    rw [hsome]
    split at h
    · cases h; simp [Box.ids] at hi
    · exact r.wfH j b1 h i hi
  · rw [Qx] at h
    split at h
    · rename_i e; cases h; subst e
      exact ⟨by simp, by simp, .inl ⟨rfl, .inr ⟨rfl, rfl, rfl, l, q, B, rfl, hβ, hnew, i4, i5⟩⟩⟩
    · rename_i e
      obtain ⟨h1, h2, h3⟩ := r.bx j b1 h
      refine ⟨h1, h2, h3.imp (fun ⟨x, y⟩ => ⟨x, y.imp id fun ⟨i1, i2, i3, sv, p, B1, i4, i5, i6, i7, i8⟩ => ⟨i1, i2, i3, sv, p, B1, i4, i5, (hoth B1 (hne j b1 B1 _ h (Ne.symm e) i5)).trans i6, i7, i8⟩⟩) ?_⟩
      rintro ⟨h4, B1, c1, h5, h6, h7⟩
      exact ⟨h4, B1, c1, h5, (hoth B1 (hne j b1 B1 _ h (Ne.symm e) h5)).trans h6, h7⟩
  · have key : ∀ j b1, lk ((k, (⟨[], 0, Zq l q, false⟩ : Box)) :: s.H) j = some b1 -> ∃ b2, lk s.H j = some b2 := fun j b1 h => by
      have := hsome ⟨[], 0, Zq l q, false⟩ j
      rw [h] at this
      exact QhL.1 this.symm
    obtain ⟨b3, h5⟩ := key j b1 h1
    obtain ⟨b4, h6⟩ := key j' b2 h2
    exact r.inj j j' b3 b4 B1 e e' h5 h6 h3 h4
  · intro i o x hx
    obtain ⟨c1, e1, f1, h1, h2⟩ := r.kr i o x hx
    have : i ≠ B := fun e => by subst e; rw [i4] at hx; cases hx
    exact ⟨c1, e1, f1, (hoth i this).trans h1, h2⟩
  · exact (hoth i (fun h => by subst h; rcases i5.1 with h | h; · omega
                               · exact hf h)).trans (r.ext.2.1 i hi hf)
theorem Lr {t : TypeId} {x : Operand} {x' : Opd} {l : List UInt8} {u : Nat} (r : Rel E g s a w) (ho : o.op = .range t x) (hx : QG x = some x') (hu : P.underlying t = some .string) (he : s.ev x' = some (.str l))
    (hdst : dst = some u) (hn : lk s.H u = none) : Good P E s a w o dst (.ref u 0 0) (some ⟨[], 0, Zq l 0, false⟩) := by
  have h1 := (Zi r hx he).1
  simp only [Rep, RepS, RepP] at h1
  subst hdst
  obtain ⟨g', e1, e2, e3, r'⟩ := r.allocIter (t := u) (l := l) hn
  refine ⟨.pointer (some ⟨w.heap.size, 0, none⟩), w.alloc (.stringIter ⟨l.toArray⟩ 0), g', ?_, r', ⟨w.heap.size, 0, 0, .inl ⟨e2, e3.symm⟩, by simp⟩, fun k hk => ?_⟩
  · simp [execOp, ho, h1, run_range_string w t _ hu, World.iter]
  · simp [D.ids, D.sid] at hk; subst hk; simp [St.withBox, Qx]
theorem Gq {k p : Nat} {l : List UInt8} (r : Rel E g s a w) (hb : lk s.H k = some ⟨[], 0, Zq l p, false⟩) : ¬ g.gone k := fun hg => by
  obtain ⟨_, _, h3⟩ := r.bx k _ hb
  rcases h3 with ⟨_, ⟨_, h3⟩ | ⟨_, _, _, l', p', B', i1, i2, _⟩⟩ | ⟨h, _⟩
  · have := congrArg Box.pr (h3.1 hg.2)
    cases this
  · exact hg.no i2
  · exact (h.elim (fun h => h rfl) (fun h => h rfl)).elim
theorem DK {x : Operand} {x' : Opd} {k p c n : Nat} {l : List UInt8} (r : Rel E g s a w) (ho : o.op = .next x true) (hx : QG x = some x') (he : s.ev x' = some (.ref k 0 0)) (hb : lk s.H k = some ⟨[], 0, Zq l p, false⟩)
    (hp : p < l.length) (hd : Utf8.decode ⟨l.toArray⟩ p = (c, n)) :
    Fg P E a w o { s with H := (k, ⟨[], 0, Zq l (p + n), false⟩) :: s.H } (.tup [.bool true, .int .i64 p, .int .i32 c]) := by
  obtain ⟨B, esz, z, hβ, hv⟩ := (Zi r hx he).1
  obtain ⟨hβ, hz⟩ := hβ.resolve_right (Gq r hb)
  obtain ⟨hw, h0, r'⟩ := r.setIter (q := p + n) hb hβ
  rw [h0] at hz; subst hz
  refine ⟨.value (.tuple #[.bool true, .int .i64 p, .int .i32 c]), _, g, ?_, r', Has.of_nil rfl, .inr ⟨_, rfl, ?_⟩⟩
  · have hs : p < (ByteArray.mk l.toArray).size := by simpa [ByteArray.size] using hp
    simp [execOp, ho, hv, Instr.next, getObj, setObj, Sem.run_bind, Sem.run, hw, Result.andThen, hs, hd, goInt]
  · exact Rep.of (by simp only [RepP]; exact ⟨[.bool true, .int .i64 p, .int .i32 c], rfl, by simp only [RepVs, RepP, and_self]⟩)
theorem Rd {x : Operand} {x' : Opd} {k p : Nat} {l : List UInt8} (r : Rel E g s a w) (ho : o.op = .next x true) (hx : QG x = some x') (he : s.ev x' = some (.ref k 0 0)) (hb : lk s.H k = some ⟨[], 0, Zq l p, false⟩)
    (hp : ¬ p < l.length) : Fg P E a w o s (.tup [.bool false]) := by
  obtain ⟨B, esz, z, hβ, hv⟩ := (Zi r hx he).1
  obtain ⟨hβ, hz⟩ := hβ.resolve_right (Gq r hb)
  obtain ⟨hw, h0, _⟩ := r.setIter (q := 0) hb hβ
  rw [h0] at hz; subst hz
  refine ⟨.value (.tuple #[.bool false]), w, g, ?_, r, Has.of_nil rfl, .inr ⟨_, rfl, ?_⟩⟩
  · have hs : ¬ p < (ByteArray.mk l.toArray).size := by simpa [ByteArray.size] using hp
    simp [execOp, ho, hv, Instr.next, getObj, Sem.run_bind, Sem.run, hw, Result.andThen, hs]
  · exact Rep.of (by simp only [RepP]; exact ⟨[.bool false], rfl, by simp only [RepVs, RepP, and_self]⟩)
end
end Go.Abs
namespace Go.Abs
open Go
def D.scrub (k : Nat) : D -> D
 | .osl j n => if j = k then .top else .osl j n
 | .osv j lo c n => if j = k then .top else .osv j lo c n
 | .ref j i o => if j = k then .top else .ref j i o
 | .clr f j ps => if j = k then .top else .clr f j ps
 | .agg cs => if k ∈ cs.flatMap D.sid then .top else .agg cs
 | .clo f cs => if k ∈ cs.flatMap D.sid then .top else .clo f cs
 | .tpo cs x => if k ∈ cs.flatMap D.sid then .top else .tpo cs x
 | d => d
def D.scrubC (k : Nat) : D -> D
 | .osl j n => if j = k then .junk else .osl j n
 | .osv j lo c n => if j = k then .junk else .osv j lo c n
 | .ref j i o => if j = k then .junk else .ref j i o
 | .clr f j ps => if j = k then .junk else .clr f j ps
 | d => d
def Box.scrub (k : Nat) (b : Box) : Box := if b.pr then b else { b with rows := b.rows.map fun r => r.map (D.scrubC k) }
theorem Box.scrub_gone (k : Nat) (b : Box) : b.scrub k = ZQ ↔ b = ZQ := by
 obtain ⟨rows, esz, et, pr⟩ := b
 unfold Box.scrub
 cases pr
 ·constructor
  ·intro h; have := congrArg Box.pr h; cases this
  ·intro h; have := congrArg Box.pr h; cases this
 ·simp
def St.scrub (k : Nat) (s : St) : St := { fr := s.fr.map fun p => (p.1, p.2.scrub k), H := s.H.map fun p => (p.1, p.2.scrub k) }
def rem {α : Type} (k : Nat) : List (Nat × α) -> List (Nat × α)
 | [] => []
 | (j, v) :: r => if j = k then rem k r else (j, v) :: rem k r
theorem Yd {α β : Type} (f : α -> β) : ∀ (l : List (Nat × α)) (t : Nat), lk (l.map fun p => (p.1, f p.2)) t = (lk l t).map f
 | [], _ => rfl
 | (k, v) :: r, t => by
  simp only [List.map_cons, Qx]
  split
  ·rfl
  ·exact Yd f r t
theorem Gu {α : Type} (k : Nat) : ∀ (l : List (Nat × α)) (t : Nat), lk (rem k l) t = if t = k then none else lk l t
 | [], t => by simp [rem, lk]
 | (j, v) :: r, t => by
  simp only [rem]
  by_cases h : j = k
  ·rw [if_pos h, Gu k r t, Qx]
   subst h
   by_cases h2 : t = j
   ·rw [if_pos h2, if_pos h2]
   ·rw [if_neg h2, if_neg h2, if_neg (Ne.symm h2)]
  ·rw [if_neg h, Qx, Qx, Gu k r t]
   by_cases h2 : j = t
   ·rw [if_pos h2, if_pos h2, if_neg Wa]
   ·rw [if_neg h2, if_neg h2]
theorem RH {k : Nat} {d : D} {j : Nat} (h : j ∈ (d.scrub k).ids) : j ∈ d.ids /\ j ≠ k := by
 cases d <;> simp only [D.scrub] at h <;> try (simp [D.ids, D.sid] at h; done)
 case osl i n => split at h <;> simp [D.ids, D.sid] at h ⊢; omega
 case osv i lo c n => split at h <;> simp [D.ids, D.sid] at h ⊢; omega
 case ref i n o => split at h <;> simp [D.ids, D.sid] at h ⊢; omega
 case clr f i ps => split at h <;> simp [D.ids, D.sid] at h ⊢; omega
 case agg cs =>
  split at h
  ·simp [D.ids, D.sid] at h
  ·rename_i hn; exact ⟨h, fun e => hn (e ▸ h)⟩
 case clo f cs =>
  split at h
  ·simp [D.ids, D.sid] at h
  ·rename_i hn; exact ⟨h, fun e => hn (e ▸ h)⟩
 case tpo cs x =>
  split at h
  ·simp [D.ids, D.sid] at h
  ·rename_i hn; exact ⟨h, fun e => hn (e ▸ h)⟩
theorem LD {k : Nat} {d : D} {j : Nat} (h : j ∈ (d.scrubC k).sid) : j ∈ d.sid /\ j ≠ k := by
 cases d <;> simp only [D.scrubC] at h <;> try (simp [D.sid] at h; done)
 case osl i n => split at h <;> simp [D.sid] at h ⊢; omega
 case osv i lo c n => split at h <;> simp [D.sid] at h ⊢; omega
 case ref i n o => split at h <;> simp [D.sid] at h ⊢; omega
 case clr f i ps => split at h <;> simp [D.sid] at h ⊢; omega
section
variable {P : Program} {E : Env} {g : Gh} {s : St} {a : Act} {w : World} {o : Oper} {dst : Option Nat}
theorem Rep.scrub {d : D} {v : Value} (h : Rep g d v) (k : Nat) : Rep g (d.scrub k) v := by
 have top : Rep g .top v := by simp only [Rep, RepS, RepP]
 cases d <;> simp only [D.scrub] <;> try exact h
 all_goals (split <;> first | exact top | exact h)
theorem RepS.scrubC {d : D} {v : Value} (h : RepS g d v) (k : Nat) : RepS g (d.scrubC k) v := by
 cases d <;> simp only [D.scrubC] <;> try exact h
 case osl j n =>
  split
  ·obtain ⟨_, _, rfl, _⟩ := h; simp only [RepS, RepP]; rfl
  ·exact h
 case osv j lo c n =>
  split
  ·obtain ⟨_, _, rfl, _⟩ := h; simp only [RepS, RepP]; rfl
  ·exact h
 case ref j i o =>
  split
  ·obtain ⟨_, _, _, _, rfl⟩ := h; simp only [RepS, RepP]; rfl
  ·exact h
 case clr f j ps =>
  split
  ·obtain ⟨_, _, _, _, _, rfl, _⟩ := h; simp only [RepS, RepP]; rfl
  ·exact h
theorem SE {d : D} (h : d.isCell = true) (k : Nat) : (d.scrubC k).isCell = true := by
 cases d <;> simp only [D.scrubC] <;> try exact h
 all_goals (split <;> rfl)
theorem CellsC.scrub {c : Array Value} (k : Nat) : ∀ {off : Nat} {ds : List D}, CellsC g c off ds -> CellsC g c off (ds.map (D.scrubC k))
 | _, [], _ => by simp only [List.map_nil, CellsC]
 | off, d :: ds, h => by
  simp only [List.map_cons, CellsC] at h ⊢
  obtain ⟨⟨h1, x, h2, h3⟩, h4⟩ := h
  exact ⟨⟨SE h1 k, x, h2, h3.scrubC k⟩, CellsC.scrub k h4⟩
theorem RowsC.scrub {c : Array Value} (k : Nat) : ∀ {off : Nat} {rs : List (List D)}, RowsC g c off rs -> RowsC g c off (rs.map fun r => r.map (D.scrubC k))
 | _, [], _ => by simp only [List.map_nil, RowsC]
 | off, r :: rs, h => by
  simp only [List.map_cons, RowsC, List.length_map] at h ⊢
  exact ⟨h.1.scrub k, RowsC.scrub k h.2⟩
theorem Box.scrub_esz (k : Nat) (b : Box) : (b.scrub k).esz = b.esz /\ (b.scrub k).et = b.et /\ ((b.scrub k).rows = [] ↔ b.rows = []) /\ (b.scrub k).pr = b.pr := by
 unfold Box.scrub; split <;> simp
theorem H4 {k : Nat} {b : Box} {j : Nat} (hj : j ∈ (b.scrub k).ids) : j ∈ b.ids /\ j ≠ k := by
 unfold Box.scrub at hj
 cases hp : b.pr with
 | true => simp [hp, Box.ids] at hj
 | false =>
  simp only [hp, QhN, if_false, Box.ids] at hj
  simp only [Box.ids, hp, QhN, if_false]
  obtain ⟨r0, hr, hj⟩ := QhM.1 hj
  obtain ⟨r1, hr1, rfl⟩ := QhT.1 hr
  obtain ⟨d, hd, hj⟩ := QhM.1 hj
  obtain ⟨d1, hd1, rfl⟩ := QhT.1 hd
  obtain ⟨q1, q2⟩ := LD hj
  exact ⟨QhM.2 ⟨r1, hr1, QhM.2 ⟨d1, hd1, q1⟩⟩, q2⟩
def St.without (k : Nat) (s : St) : St := { fr := (s.scrub k).fr, H := rem k (s.scrub k).H }
theorem K1 (k : Nat) (s : St) (j : Nat) : lk (s.without k).H j = if j = k then none else (lk s.H j).map (Box.scrub k) := by
 simp only [St.without, Gu, St.scrub, Yd]
theorem Rel.without (r : Rel E g s a w) (k : Nat) (hk0 : k < 1000000) : Rel E g (s.without k) a w := by
 have hsome : ∀ j, j ≠ k -> (lk (s.without k).H j).isSome = (lk s.H j).isSome := fun j hj => by
  rw [K1, if_neg hj, QhX]
 have key : ∀ j b, lk (s.without k).H j = some b -> j ≠ k /\ ∃ b0, lk s.H j = some b0 /\ b = b0.scrub k := fun j b h => by
  rw [K1] at h
  split at h
  ·cases h
  ·rename_i hj
   obtain ⟨b0, h1, h2⟩ := QhF.1 h
   exact ⟨hj, b0, h1, h2.symm⟩
 refine ⟨r.nt, r.df, fun t d h => ?_, fun t d h j hj => ?_, fun j b h i hi => ?_, fun j b h => ?_, fun j j' b b' B e e' h1 h2 => ?_, r.kr, r.ext, r.kx, fun j hj => let ⟨h1, h2, h3, h4⟩ := r.kp j hj; ⟨h1, h2, h3, (hsome j Wa).trans h4⟩⟩
 ·simp only [St.without, St.scrub, Yd] at h
  obtain ⟨d0, h1, rfl⟩ := QhF.1 h
  exact (r.fr t d0 h1).scrub k
 ·simp only [St.without, St.scrub, Yd] at h
  obtain ⟨d0, h1, rfl⟩ := QhF.1 h
  obtain ⟨q1, q2⟩ := RH hj
  rw [hsome j q2]; exact r.wfF t d0 h1 j q1
 ·obtain ⟨_, b0, h1, rfl⟩ := key j b h
  obtain ⟨q1, q2⟩ := H4 hi
  rw [hsome i q2]; exact r.wfH j b0 h1 i q1
 ·obtain ⟨_, b0, h1, rfl⟩ := key j b h
  obtain ⟨q1, q2, q3⟩ := r.bx j b0 h1
  obtain ⟨e1, e2, e3, e4⟩ := Box.scrub_esz k b0
  refine ⟨?_, ?_, ?_⟩
  ·unfold Box.scrub
   split
   ·exact q1
   ·intro r0 hr
    obtain ⟨r1, hr1, rfl⟩ := QhT.1 hr
    simpa using q1 r1 hr1
  ·intro hp
   rw [e4] at hp
   unfold Box.scrub
   rw [if_pos hp]; exact q2 hp
  ·rcases q3 with ⟨q3, q4⟩ | ⟨q3, B, c, q4, q5, q6, q7, q8⟩
   ·exact .inl ⟨e3.2 q3, q4.imp (fun ⟨y, z⟩ => ⟨y, z.trans (Box.scrub_gone k b0).symm⟩) fun ⟨i1, i2, i3, sv, p, B, i4, i5⟩ => ⟨e3.2 i1, by rw [e1]; exact i2, by rw [e4]; exact i3, sv, p, B, by rw [e2]; exact i4, i5⟩⟩
   ·refine .inr ⟨q3.imp (fun q h => q (e3.1 h)) (fun q => by rw [e1]; exact q), B, c, by rw [e1]; exact q4, by rw [e2]; exact q5, q6, ?_, q8⟩
    unfold Box.scrub
    split
    ·exact q7
    ·exact q7.scrub k
 ·obtain ⟨_, b0, q1, _⟩ := key j b h1
  obtain ⟨_, b0', q2, _⟩ := key j' b' h2
  exact r.inj j j' b0 b0' B e e' q1 q2
end
end Go.Abs
namespace Go.Abs
open Go
section
variable {P : Program} {E : Env} {g : Gh} {s : St} {a : Act} {w : World} {o : Oper} {dst : Option Nat}
theorem Rel.congrH {s' : St} (r : Rel E g s a w) (hf : s'.fr = s.fr) (hH : ∀ k, lk s'.H k = lk s.H k) : Rel E g s' a w :=
 ⟨r.nt, r.df, fun t d h => r.fr t d (hf ▸ h), fun t d h k hk => by rw [hH]; exact r.wfF t d (hf ▸ h) k hk, fun k b h j hj => by rw [hH]; exact r.wfH k b (by rw [<- hH]; exact h) j hj,
  fun k b h => r.bx k b (by rw [<- hH]; exact h), fun k k' b b' B e e' h1 h2 => r.inj k k' b b' B e e' (by rw [<- hH]; exact h1) (by rw [<- hH]; exact h2), r.kr, r.ext, r.kx, fun j hj => let ⟨h1, h2, h3, h4⟩ := r.kp j hj; ⟨h1, h2, h3, by rw [hH]; exact h4⟩⟩
theorem FC (t ty e : TypeId) (i : TypeInfo) (ht : P.underlying t = some (.slice e)) (hi : P.info? e = some i)
  (g z sLen sCap : Nat) (cur : Array Value) (hg : w.heap[g]? = some (.cells cur e (0, 0)))
  (a : Addr) (m c : Nat) (news : List Value) (hl : news.length = m * i.size) (hnews : ∀ j u, news[j]? = some u -> w.cell? (a.add j) = some u) (h1 : ∀ u ∈ news, u.oneCell' = true)
  (hroom : sLen + m <= sCap) (hfit : z + sLen * i.size + news.length <= cur.size) :
  (Builtin.append_ #[t, t] ty #[.slice (some ⟨g, z, none⟩) sLen sCap, .slice (some a) m c]).run P w =
   .ok (.slice (some ⟨g, z, none⟩) (sLen + m) sCap) (w.setRow g (cur.toList.take (z + sLen * i.size) ++ news ++ cur.toList.drop (z + sLen * i.size + news.length)).toArray) := by
 have hf := run_firstCells_some (P := P) w i.size m a m c news hl hnews
 have hst := run_storeCells_at P g (z + sLen * i.size) e news 0 cur w hg (by simpa using hfit) h1
 simp only [Nat.add_zero] at hst
 simp [Builtin.append_, run_underlying ht, sizeOf, typeInfo, hi, Builtin.lenOf, hroom, hf, Addr.add_lit, hst]
theorem Ns {k n esz et bytes : Nat} {st ty : TypeId} {x y : Operand} {x' y' : Opd} {b : Box} {ys : List (List D)} {pr : Bool} {zd : List D} {i : TypeInfo} {d : D} (r : Rel E g s a w)
  (ho : o.op = .call { callee := .builtin .append, args := #[x, y], argTypes := #[st, st] }) (hty : o.type = ty) (hx : QG x = some x') (hy : QG y = some y')
  (hu : P.underlying st = some (.slice et)) (hi : P.info? et = some i) (hsz : i.size = esz) (hby : i.bytes = bytes) (hz : KM P et = some zd) (hzl : zd.length = esz) (hes : esz ≠ 0)
  (he : s.ev x' = some (.osl k n)) (hk0 : k < 1000000) (hb : lk s.H k = some b) (hn : n = b.rows.length) (hbe : b.esz = esz) (hbt : b.et = et) (hself : (b.pr && pr) = true \/ ∀ r0 ∈ b.rows ++ ys, ∀ d ∈ r0, k ∉ d.sid)
  (hf : s.ev y' = some d) (hsrc : s.src esz d ys pr) (hbytes : (n + ys.length) * bytes <= 140737488355328) (hm : n + ys.length <= 4611686018427387904) :
  Fg P E a w o { fr := (s.scrub k).fr, H := (k, ⟨b.rows ++ ys, esz, et, b.pr && pr⟩) :: (s.scrub k).H } (.osl k (n + ys.length)) := by
 obtain ⟨a1, cap, hxv, hncap, hh⟩ := (Zi r hx he).1
 obtain ⟨a0, cap0, hyv, hcap0, hat, hly, hidy, hpry, hcy⟩ := GL r (Zi r hy hf).1 hsrc
 obtain ⟨i', z0, hi', hzz, hzr, _⟩ := YI hz g.K
 rw [hi] at hi'; cases hi'
 have hzc : z0.cells.size = esz := by
  have := (RepL.of_cs (g := g) hzr).1.len
  simp at this; rw [this, hzl]
 have run : ∀ v w', (Builtin.append_ #[st, st] ty #[a.eval x, a.eval y]).run P w = .ok v w' -> (execOp a.eval o).run P w = .ok (.value v) w' := fun v w' h => by
  simp [execOp, ho, hty, resolve, invoke, builtin, h]
 obtain ⟨hrl, hpr, hbx⟩ := r.bx k b hb
 subst hn
 rw [hbe] at hrl
 have hall : ∀ r0 ∈ b.rows ++ ys, r0.length = esz := fun r0 hr => by
  rcases QhQ.1 hr with hr | hr
  ·exact hrl r0 hr
  ·exact hly r0 hr
 have hsid : (b.pr && pr) = true -> ∀ r0 ∈ b.rows ++ ys, ∀ d ∈ r0, d.sid = [] := fun hp r0 hr d hd => by
  rw [QhJ] at hp
  rcases QhQ.1 hr with hr | hr
  ·exact hpr hp.1 r0 hr d hd
  ·exact hpry hp.2 r0 hr d hd
 have hids : ∀ r0 ∈ b.rows ++ ys, ∀ d ∈ r0, ∀ j ∈ d.sid, (lk s.H j).isSome = true /\ j ≠ k := fun r0 hr d hd j hj => by
  refine ⟨?_, ?_⟩
  ·rcases QhQ.1 hr with hr | hr
   ·exact r.wfB k b hb r0 hr d hd j hj
   ·exact hidy r0 hr d hd j hj
  ·rintro rfl
   rcases hself with h | h
   ·rw [hsid h r0 hr d hd] at hj; cases hj
   ·exact h r0 hr d hd hj
 have hidw : ∀ r0 ∈ b.rows ++ ys, ∀ d ∈ r0, ∀ j ∈ d.sid, (lk (s.without k).H j).isSome = true := fun r0 hr d hd j hj => by
  obtain ⟨q1, q2⟩ := hids r0 hr d hd j hj
  rw [K1, if_neg q2, QhX]; exact q1
 have hlkEq : ∀ (b' : Box) j, lk ((k, b') :: (s.scrub k).H) j = lk ((k, b') :: rem k (s.scrub k).H) j := fun b' j => by
  rw [Qx, Qx]
  by_cases h : k = j
  ·rw [if_pos h, if_pos h]
  ·rw [if_neg h, if_neg h, Gu, if_neg (Ne.symm h)]
 have hhas : ∀ b', Has { fr := (s.scrub k).fr, H := (k, b') :: (s.scrub k).H } (.osl k (b.rows.length + ys.length)) := fun b' j hj => by
  simp [D.ids, D.sid] at hj; subst hj; simp [Qx]
 have hwn : lk (s.without k).H k = none := by rw [K1, if_pos rfl]
 have rw0 := r.without k hk0
 -- the new block
 have grow : ∀ (os ns : List Value) (old : Nat), RepL g b.rows.flatten os -> RepL g ys.flatten ns -> (∀ r0 ∈ b.rows, ∀ d ∈ r0, d.isCell = true) -> os.length = b.rows.length * esz -> ns.length = ys.length * esz -> b.rows ++ ys ≠ [] ->
   (Builtin.append_ #[st, st] ty #[a.eval x, a.eval y]).run P w = .ok (.slice (some ⟨w.heap.size, 0, none⟩) (b.rows.length + ys.length) (grownCap w (b.rows.length + ys.length) old et))
     (w.drew.alloc (.cells (os.toArray ++ ns.toArray ++ Builtin.zeroCells z0.cells (grownCap w (b.rows.length + ys.length) old et - (b.rows.length + ys.length))) et)) ->
   Fg P E a w o { fr := (s.scrub k).fr, H := (k, ⟨b.rows ++ ys, esz, et, b.pr && pr⟩) :: (s.scrub k).H } (.osl k (b.rows.length + ys.length)) := by
  intro os ns old h1 h2 h3 h4 h5 h6 hr
  have hge := grownCap_ge w (b.rows.length + ys.length) old et
  have hc : RowsC g (os.toArray ++ ns.toArray ++ Builtin.zeroCells z0.cells (grownCap w (b.rows.length + ys.length) old et - (b.rows.length + ys.length))) 0 (b.rows ++ ys) := by
   have := JV (g := g) (c := os.toArray ++ ns.toArray ++ Builtin.zeroCells z0.cells (grownCap w (b.rows.length + ys.length) old et - (b.rows.length + ys.length)))
    (post := (Builtin.zeroCells z0.cells (grownCap w (b.rows.length + ys.length) old et - (b.rows.length + ys.length))).toList) [] (b.rows ++ ys) (os ++ ns) (by rw [List.flatten_append]; exact h1.append h2)
    (fun r0 hr => (QhQ.1 hr).elim (h3 r0) (hcy r0)) (by apply Array.ext'; simp)
   simpa using this
  obtain ⟨g', q1, q2, q3, q4, r'⟩ := (rw0.heap (w' := w.drew) rfl).alloc (t := k) (b := ⟨b.rows ++ ys, esz, et, b.pr && pr⟩) hwn hall hsid (.inl h6) hc hidw
  refine ⟨_, _, g', run _ _ hr, r'.congrH rfl (hlkEq _), hhas _, .inr ⟨_, rfl, ⟨_, _, rfl, hge, .inr (.inl ⟨w.heap.size, esz, q2, by rw [q3], ?_⟩)⟩⟩⟩
  rw [q3]
  simp only [Nat.zero_add, Array.size_append, List.size_toArray, h4, h5, size_zeroCells, hzc]
  rw [<- Nat.add_mul, <- Nat.add_mul, Nat.add_sub_cancel' hge]
  exact Nat.le_refl _
 have srcRead : ys ≠ [] -> ∃ B off ns, a0 = some ⟨B, off, none⟩ /\ ns.length = ys.length * esz /\ RepL g ys.flatten ns /\ ∀ j v, ns[j]? = some v -> w.cell? ((⟨B, off, none⟩ : Addr).add j) = some v := fun hys => by
  obtain ⟨B, off, e1, hat2⟩ := hat.resolve_left hys
  obtain ⟨ns, n1, n2, n3⟩ := Jg hat2
  exact ⟨B, off, ns, e1, by rw [n1, Gl hly], n2, n3⟩
 subst hsz
 subst hby
 replace hh : (b.rows.length = 0 /\ cap = 0) \/ (∃ B esz, g.β k = some (B, esz) /\ a1 = some ⟨B, (g.σ k).2, none⟩ /\ (g.σ k).2 + cap * esz <= (g.σ k).1) := by
  rcases hh with hh | hh | hg
  ·exact .inl hh
  ·exact .inr hh
  ·rcases hbx with ⟨_, ⟨_, h3⟩ | ⟨_, _, _, l', p', B', i1, i2, _⟩⟩ | ⟨_, _, _, h, _⟩
   ·have := congrArg Box.esz (h3.1 hg.2)
    rw [hbe] at this; exact absurd this hes
   ·exact (hg.no i2).elim
   ·exact (hg.no h).elim
 rcases hh with ⟨h0, rfl⟩ | ⟨B, esz', hβ, rfl, hσ⟩
 ·-- nothing there yet
  have hbr : b.rows = [] := List.eq_nil_of_length_eq_zero h0
  by_cases hys : ys = []
  ·subst hys
   have hres : (execOp a.eval o).run P w = .ok (.value (.slice a1 0 0)) w := by
    refine run _ _ ?_
    rw [hxv, hyv, h0]
    have hfc : (Builtin.firstCells i.size 0 (.slice a0 0 cap0)).run P w = .ok #[] w := by
     cases a0 with
     | none => rfl
     | some b => simp [Builtin.firstCells, loadCells, loadCellsFrom]
    cases a1 with
    | none => simp [Builtin.append_, underlying, hu, sizeOf, typeInfo, hi, Builtin.lenOf, hfc]
    | some b => simp [Builtin.append_, underlying, hu, sizeOf, typeInfo, hi, Builtin.lenOf, hfc, storeCells]
   obtain ⟨g', q1, q2, r2⟩ := rw0.allocEmptyP (t := k) (esz := i.size) (et := et) (b.pr && pr) hwn
   refine ⟨_, w, g', hres, r2.congrH rfl ?_, hhas _, .inr ⟨_, rfl, ⟨a1, 0, by simp [h0], by simp [h0], .inl ⟨by simp [h0], rfl⟩⟩⟩⟩
   intro j
   simp only [hbr, List.append_nil]
   exact hlkEq _ j
  ·obtain ⟨B, off, ns, e1, n1, n2, n3⟩ := srcRead hys
   subst e1
   have hyl : 0 < ys.length := List.length_pos_iff.2 hys
   refine grow [] ns 0 (by rw [hbr]; trivial) n2 (by rw [hbr]; simp) (by rw [h0]; simp) n1 (by simp [hys]) ?_
   rw [hxv, hyv, h0]
   cases a1 with
   | none =>
    have := run_append_nil (P := P) w st ty et i z0 hu hi hzz ⟨B, off, none⟩ ys.length cap0 ns n1 n3 hyl Wa (by rw [h0] at hbytes; simp at hbytes; omega)
    simpa using this
   | some b1 =>
    have := run_append_grow (P := P) w st ty et i z0 hu hi hzz b1 0 0 [] Wc Wc ⟨B, off, none⟩ ys.length cap0 ns n1 n3 Wa Wa (growslice_fits Wa (by rw [h0] at hbytes; simpa using hbytes))
    simpa using this
 ·obtain ⟨_, B', c, k1, k2, k3, k4, k5, k6⟩ := hbx.resolve_left (by
   rintro ⟨_, ⟨h, _⟩ | ⟨_, h, _⟩⟩
   ·rw [h] at hβ; cases hβ
   ·rw [hbe] at h; exact hes h)
  rw [hβ] at k1
  simp only [QhI, Prod.mk.injEq] at k1
  obtain ⟨rfl, e2⟩ := k1
  rw [hbe] at e2
  subst e2
  rw [hbt] at k2
  obtain ⟨z, hz⟩ : ∃ z, z = (g.σ k).2 := ⟨_, rfl⟩
  rw [<- hz] at k4 hσ hxv
  have hatx := JZ k2 z b.rows k4
  obtain ⟨os, o1, o2, o3⟩ := Jg hatx
  have hol : os.length = b.rows.length * i.size := by rw [o1, Gl hrl]
  have hcx : ∀ r0 ∈ b.rows, ∀ d ∈ r0, d.isCell = true := fun r0 hr d hd => hatx.choose_spec.2.2.1 d (List.mem_flatten.2 ⟨r0, hr, hd⟩)
  by_cases hroom : b.rows.length + ys.length <= cap
  ·-- in place
   have hfit : z + (b.rows.length + ys.length) * i.size <= c.size := by rw [k3]; exact QhY (Nat.add_le_add_left (Nat.mul_le_mul_right _ hroom) z) hσ
   have inplace : ∃ ns : List Value, RepL g ys.flatten ns /\ ns.length = ys.length * i.size /\ (Builtin.append_ #[st, st] ty #[a.eval x, a.eval y]).run P w = .ok (.slice (some ⟨B, z, none⟩) (b.rows.length + ys.length) cap)
     (w.setRow B (c.toList.take (z + b.rows.length * i.size) ++ ns ++ c.toList.drop (z + b.rows.length * i.size + ns.length)).toArray) := by
    rw [hxv, hyv]
    by_cases hys : ys = []
    ·subst hys
     refine ⟨[], trivial, by simp, ?_⟩
     have hfc : (Builtin.firstCells i.size 0 (.slice a0 0 cap0)).run P w = .ok #[] w := by
      cases a0 with
      | none => rfl
      | some b => simp [Builtin.firstCells, loadCells, loadCellsFrom]
     have hself := setRow_self w B c et (0, 0) k2
     have e3 : (c.toList.take (z + b.rows.length * i.size) ++ [] ++ c.toList.drop (z + b.rows.length * i.size + ([] : List Value).length)).toArray = c := by simp
     rw [e3, hself]
     have hroom' : b.rows.length <= cap := by simpa using hroom
     simp [Builtin.append_, underlying, hu, sizeOf, typeInfo, hi, Builtin.lenOf, hfc, storeCells, hroom']
    ·obtain ⟨B2, off, ns, e1, n1, n2, n3⟩ := srcRead hys
     subst e1
     have hone : ∀ u ∈ ns, u.oneCell' = true := by
      have : ∀ {ds : List D} {vs : List Value}, RepL g ds vs -> (∀ d ∈ ds, d.isCell = true) -> ∀ u ∈ vs, u.oneCell' = true := by
       intro ds
       induction ds with
       | nil => intro vs h _ u hu; cases vs with
        | nil => cases hu
        | cons => exact h.elim
       | cons d ds ih =>
        intro vs h hc u hu
        cases vs with
        | nil => exact h.elim
        | cons v vs =>
         cases hu with
         | head =>
          have hd := hc d Wc
          have h1 := h.1
          cases d <;> first | exact RepP.cell h1 hd | (obtain ⟨_, _, rfl, _⟩ := h1; rfl) | (obtain ⟨_, _, _, _, rfl⟩ := h1; rfl) | (obtain ⟨_, _, _, _, _, rfl, _⟩ := h1; rfl)
         | tail _ hm => exact ih h.2 (fun y hy => hc y (by simp [hy])) u hm
      exact this n2 (fun d hd => by obtain ⟨r0, hr, hd⟩ := List.mem_flatten.1 hd; exact hcy r0 hr d hd)
     exact ⟨ns, n2, n1, FC (P := P) (w := w) st ty et i hu hi B z b.rows.length cap c k2 ⟨B2, off, none⟩ ys.length cap0 ns n1 n3 hone hroom (by rw [n1, Nat.add_assoc, <- Nat.add_mul]; exact hfit)⟩
   obtain ⟨ns, m1, m2, hrun⟩ := inplace
   have hlen : (c.toList.take (z + b.rows.length * i.size) ++ ns ++ c.toList.drop (z + b.rows.length * i.size + ns.length)).length = c.size := by
    rw [Nat.add_mul] at hfit
    simp only [List.length_append, List.length_take, List.length_drop, Array.length_toList]; omega
   have hrows : RowsC g (c.toList.take (z + b.rows.length * i.size) ++ ns ++ c.toList.drop (z + b.rows.length * i.size + ns.length)).toArray z (b.rows ++ ys) := by
    have hzl : (c.toList.take z).length = z := by rw [Nat.add_mul] at hfit; simp; omega
    have hos : c.toList.take (z + b.rows.length * i.size) = c.toList.take z ++ os := by
     apply List.ext_getElem?
     intro p
     by_cases hp : p < z + b.rows.length * i.size
     ·rw [List.getElem?_take_of_lt hp, Array.getElem?_toList]
      by_cases hpz : p < z
      ·rw [List.getElem?_append_left Wa, List.getElem?_take_of_lt hpz, Array.getElem?_toList]
      ·rw [List.getElem?_append_right Wa, hzl]
       have hpl : p - z < os.length := Wa
       have := o3 (p - z) os[p - z] (List.getElem?_eq_getElem hpl)
       rw [add_lit] at this
       simp only [World.cell?, k2, Option.isSome_none, QhN, if_false] at this
       rw [show z + (p - z) = p by omega] at this
       rw [this, List.getElem?_eq_getElem hpl]
     ·rw [List.getElem?_eq_none We, List.getElem?_eq_none (by rw [List.length_append]; omega)]
    rw [hos]
    have := JV (g := g) (c := (c.toList.take z ++ os ++ ns ++ c.toList.drop (z + b.rows.length * i.size + ns.length)).toArray) (post := c.toList.drop (z + b.rows.length * i.size + ns.length)) (c.toList.take z) (b.rows ++ ys) (os ++ ns)
     (by rw [List.flatten_append]; exact o2.append m1) (fun r0 hr => (QhQ.1 hr).elim (hcx r0) (hcy r0)) Wc
    rw [hzl] at this
    simpa using this
   -- the other boxes do not see it
   have r1 := r.setBox (b' := ⟨b.rows ++ ys, i.size, et, b.pr && pr⟩) (c' := (c.toList.take (z + b.rows.length * i.size) ++ ns ++ c.toList.drop (z + b.rows.length * i.size + ns.length)).toArray) hb (by rw [hbe]; exact hβ) (by rw [hbt]; exact k2)
    (by simpa using hlen) k3 k5 k6 (by simp [hbe]) (setRow_heap w B c _ et (0, 0) k2) (fun i hi => setRow_other w B i _ hi) Wc hall hsid (.inr hes) (by rw [<- hz]; exact hrows) (fun r0 hr d hd j hj => (hids r0 hr d hd j hj).1)
   have r2 : Rel E g { fr := (s.scrub k).fr, H := (k, ⟨b.rows ++ ys, i.size, et, b.pr && pr⟩) :: (s.scrub k).H } a (w.setRow B (c.toList.take (z + b.rows.length * i.size) ++ ns ++ c.toList.drop (z + b.rows.length * i.size + ns.length)).toArray) := by
    have hsome : ∀ j, (lk ((k, (⟨b.rows ++ ys, i.size, et, b.pr && pr⟩ : Box)) :: (s.scrub k).H) j).isSome = (lk ((k, (⟨b.rows ++ ys, i.size, et, b.pr && pr⟩ : Box)) :: s.H) j).isSome := fun j => by
     rw [Qx, Qx]; split
     ·rfl
     ·simp only [St.scrub, Yd, QhX]
    have key : ∀ j b', lk ((k, (⟨b.rows ++ ys, i.size, et, b.pr && pr⟩ : Box)) :: (s.scrub k).H) j = some b' -> ∃ b0, lk ((k, (⟨b.rows ++ ys, i.size, et, b.pr && pr⟩ : Box)) :: s.H) j = some b0 /\ (b' = b0 \/ b' = b0.scrub k) := fun j b' h => by
     rw [Qx] at h ⊢
     split at h
     ·rename_i e; rw [if_pos e]; cases h; exact ⟨_, rfl, .inl rfl⟩
     ·rename_i e; rw [if_neg e]
      simp only [St.scrub, Yd] at h
      obtain ⟨b0, h1, h2⟩ := QhF.1 h
      exact ⟨b0, h1, .inr h2.symm⟩
    refine ⟨r1.nt, r1.df, fun t d h => ?_, fun t d h j hj => ?_, fun j b' h q hq => ?_, fun j b' h => ?_, fun j j' b1 b2 B1 e e' h1 h2 => ?_, r1.kr, r1.ext, r1.kx, fun j hj => let ⟨h1, h2, h3, h4⟩ := r1.kp j hj; ⟨h1, h2, h3, (hsome j).trans h4⟩⟩
    ·simp only [St.scrub, Yd] at h
     obtain ⟨d0, h1, rfl⟩ := QhF.1 h
     exact (r1.fr t d0 h1).scrub k
    ·simp only [St.scrub, Yd] at h
     obtain ⟨d0, h1, rfl⟩ := QhF.1 h
     obtain ⟨q1, q2⟩ := RH hj
     rw [hsome]; exact r1.wfF t d0 h1 j q1
    ·obtain ⟨b0, h1, h2⟩ := key j b' h
     rw [hsome]
     rcases h2 with rfl | rfl
     ·exact r1.wfH j _ h1 q hq
     ·exact r1.wfH j b0 h1 q (H4 hq).1
    ·obtain ⟨b0, h1, h2⟩ := key j b' h
     rcases h2 with rfl | rfl
     ·exact r1.bx j _ h1
     ·obtain ⟨q1, q2, q3⟩ := r1.bx j b0 h1
      obtain ⟨e1, e2, e3, e4⟩ := Box.scrub_esz k b0
      refine ⟨?_, ?_, ?_⟩
      ·unfold Box.scrub
       split
       ·exact q1
       ·intro r0 hr
        obtain ⟨r1, hr1, rfl⟩ := QhT.1 hr
        simpa using q1 r1 hr1
      ·intro hp
       rw [e4] at hp
       unfold Box.scrub
       rw [if_pos hp]; exact q2 hp
      ·rcases q3 with ⟨q3, q4⟩ | ⟨q3, B, c, q4, q5, q6, q7, q8⟩
       ·exact .inl ⟨e3.2 q3, q4.imp (fun ⟨y, z⟩ => ⟨y, z.trans (Box.scrub_gone k b0).symm⟩) fun ⟨i1, i2, i3, sv, p, B, i4, i5⟩ => ⟨e3.2 i1, by rw [e1]; exact i2, by rw [e4]; exact i3, sv, p, B, by rw [e2]; exact i4, i5⟩⟩
       ·refine .inr ⟨q3.imp (fun q h => q (e3.1 h)) (fun q => by rw [e1]; exact q), B, c, by rw [e1]; exact q4, by rw [e2]; exact q5, q6, ?_, q8⟩
        unfold Box.scrub
        split
        ·exact q7
        ·exact q7.scrub k
    ·obtain ⟨b3, h5, _⟩ := key j b1 h1
     obtain ⟨b4, h6, _⟩ := key j' b2 h2
     exact r1.inj j j' b3 b4 B1 e e' h5 h6
   exact ⟨_, _, g, run _ _ hrun, r2, hhas _, .inr ⟨_, rfl, ⟨_, cap, rfl, hroom, .inr (.inl ⟨B, i.size, hβ, by rw [<- hz], by rw [<- hz]; exact hσ⟩)⟩⟩⟩
  ·-- it grows
   by_cases hys : ys = []
   ·subst hys; simp at hroom; omega
   ·obtain ⟨B2, off, ns, e1, n1, n2, n3⟩ := srcRead hys
    subst e1
    refine grow os ns cap o2 n2 hcx hol n1 (by simp [hys]) ?_
    rw [hxv, hyv]
    exact run_append_grow (P := P) w st ty et i z0 hu hi hzz ⟨B, z, none⟩ b.rows.length cap os hol o3 ⟨B2, off, none⟩ ys.length cap0 ns n1 n3 Wa Wa (growslice_fits Wa hbytes)
theorem RepS.give {g1 : Gh} {k t : Nat} {d : D} {v : Value} (hK : g1.K = g.K) (hg : g1.gone k) (ho : ∀ j, j ≠ k -> j ≠ t -> g1.β j = g.β j /\ g1.σ j = g.σ j) (ht : t ∉ d.sid) (h : RepS g d v) : RepS g1 d v := by
 by_cases hk : k ∈ d.sid
 ·cases d <;> simp [D.sid] at hk
  ·subst hk
   obtain ⟨a0, cap, h1, h2, _⟩ := h
   exact ⟨a0, cap, h1, h2, .inr (.inr hg)⟩
  ·subst hk
   obtain ⟨a0, cap, h1, h2, _⟩ := h
   exact ⟨a0, cap, h1, h2, .inr (.inr hg)⟩
  ·subst hk
   obtain ⟨B, e, o, _, h2⟩ := h
   exact ⟨B, e, o, .inr hg, h2⟩
  ·subst hk
   obtain ⟨B, e, o, cs, _, h2, h3⟩ := h
   exact ⟨B, e, o, cs, .inr hg, h2, by rw [hK]; exact h3⟩
 ·refine h.congr (by rw [hK]; exact Kn.le_refl _) fun j hj => ho j (fun e => hk (e ▸ hj)) (fun e => ht (e ▸ hj))
theorem RepL.give {g1 : Gh} {k t : Nat} (hK : g1.K = g.K) (hg : g1.gone k) (ho : ∀ j, j ≠ k -> j ≠ t -> g1.β j = g.β j /\ g1.σ j = g.σ j) : ∀ {ds : List D} {vs : List Value}, t ∉ ds.flatMap D.sid -> RepL g ds vs -> RepL g1 ds vs
 | [], [], _, _ => trivial
 | d :: ds, v :: vs, ht, h => by
  rw [List.flatMap_cons, QhQ, not_or] at ht
  exact ⟨h.1.give hK hg ho ht.1, RepL.give hK hg ho ht.2 h.2⟩
 | [], _ :: _, _, h => h.elim
 | _ :: _, [], _, h => h.elim
theorem Rep.give {g1 : Gh} {k t : Nat} {d : D} {v : Value} (hK : g1.K = g.K) (hg : g1.gone k) (ho : ∀ j, j ≠ k -> j ≠ t -> g1.β j = g.β j /\ g1.σ j = g.σ j) (ht : t ∉ d.ids) (h : Rep g d v) : Rep g1 d v := by
 cases d
 case agg cs =>
  obtain ⟨vs, h1, h2, h3⟩ := h
  exact ⟨vs, h1, h2.give hK hg ho ht, h3⟩
 case clo f cs =>
  obtain ⟨vs, h1, h2⟩ := h
  exact ⟨vs, h1, h2.give hK hg ho ht⟩
 case tpo cs x =>
  obtain ⟨vs, u, h1, h2, h3, h4⟩ := h
  exact ⟨vs, u, h1, h2.give hK hg ho ht, h3, RepP.mono (by rw [hK]; exact Kn.le_refl _) _ _ h4⟩
 case osl j n => exact RepS.give (d := .osl j n) hK hg ho ht h
 case osv j lo c n => exact RepS.give (d := .osv j lo c n) hK hg ho ht h
 case ref j i q => exact RepS.give (d := .ref j i q) hK hg ho ht h
 case clr f j ps => exact RepS.give (d := .clr f j ps) hK hg ho ht h
 all_goals exact RepP.mono (by rw [hK]; exact Kn.le_refl _) _ _ h
theorem CellsC.give {g1 : Gh} {k t : Nat} {c : Array Value} (hK : g1.K = g.K) (hg : g1.gone k) (ho : ∀ j, j ≠ k -> j ≠ t -> g1.β j = g.β j /\ g1.σ j = g.σ j) : ∀ {off : Nat} {ds : List D}, (∀ d ∈ ds, t ∉ d.sid) -> CellsC g c off ds -> CellsC g1 c off ds
 | _, [], _, _ => by simp only [CellsC]
 | off, d :: ds, ht, h => by
  simp only [CellsC] at h ⊢
  obtain ⟨⟨h1, x, h2, h3⟩, h4⟩ := h
  exact ⟨⟨h1, x, h2, h3.give hK hg ho (ht d Wc)⟩, CellsC.give hK hg ho (fun d hd => ht d (by simp [hd])) h4⟩
theorem RowsC.give {g1 : Gh} {k t : Nat} {c : Array Value} (hK : g1.K = g.K) (hg : g1.gone k) (ho : ∀ j, j ≠ k -> j ≠ t -> g1.β j = g.β j /\ g1.σ j = g.σ j) : ∀ {off : Nat} {rs : List (List D)}, (∀ r ∈ rs, ∀ d ∈ r, t ∉ d.sid) -> RowsC g c off rs -> RowsC g1 c off rs
 | _, [], _, _ => by simp only [RowsC]
 | off, r :: rs, ht, h => by
  simp only [RowsC] at h ⊢
  exact ⟨CellsC.give hK hg ho (ht r Wc) h.1, RowsC.give hK hg ho (fun r hr => ht r (by simp [hr])) h.2⟩
theorem BoxRel.give {g1 : Gh} {k t j j' : Nat} {b : Box} (hK : g1.K = g.K) (hg : g1.gone k) (ho : ∀ j, j ≠ k -> j ≠ t -> g1.β j = g.β j /\ g1.σ j = g.σ j) (ht : ∀ r ∈ b.rows, ∀ d ∈ r, t ∉ d.sid) (hj : g1.β j' = g.β j /\ g1.σ j' = g.σ j) (h : BoxRel E g w j b) : BoxRel E g1 w j' b := by
 obtain ⟨h1, h2, h3⟩ := h
 refine ⟨h1, h2, h3.imp (fun ⟨x, y⟩ => ⟨x, y.imp (fun y => ⟨hj.1.trans y.1, by rw [hj.2]; exact y.2⟩) fun ⟨i1, i2, i3, sv, p, B, i4, i5, i6, i7, i8⟩ => ⟨i1, i2, i3, sv, p, B, i4, hj.1.trans i5, i6, (by rw [hK]; exact i7), i8.1, by rw [hj.2]; exact i8.2⟩⟩) ?_⟩
 rintro ⟨h4, B, c, h5, h6, h7, h8, h9, h10⟩
 exact ⟨h4, B, c, hj.1.trans h5, h6, (by rw [hj.2]; exact h7), (by rw [hj.2]; exact h8.give hK hg ho ht), (by rw [hK]; exact h9), h10⟩
theorem Rel.give {k t : Nat} {b : Box} (r : Rel E g s a w) (hb : lk s.H k = some b) (hk0 : k < 1000000) (ht : lk s.H t = none) : ∃ g1, g1.K = g.K /\ g1.gone k /\ g1.β t = g.β k /\ g1.σ t = g.σ k /\ (∀ j, j ≠ k -> j ≠ t -> g1.β j = g.β j /\ g1.σ j = g.σ j) /\ Rel E g1 { s with H := (t, b) :: (k, ZQ) :: s.H } a w := by
 have htk : t ≠ k := fun e => by subst e; rw [ht] at hb; cases hb
 let g1 : Gh := ⟨g.K, fun j => if j = k then none else if j = t then g.β k else g.β j, fun j => if j = k then (1, 0) else if j = t then g.σ k else g.σ j⟩
 have hg : g1.gone k := ⟨if_pos rfl, if_pos rfl⟩
 have hT : g1.β t = g.β k /\ g1.σ t = g.σ k := ⟨by show (if t = k then none else if t = t then g.β k else g.β t) = _; rw [if_neg htk, if_pos rfl], by show (if t = k then (1, 0) else if t = t then g.σ k else g.σ t) = _; rw [if_neg htk, if_pos rfl]⟩
 have ho : ∀ j, j ≠ k -> j ≠ t -> g1.β j = g.β j /\ g1.σ j = g.σ j := fun j h1 h2 => ⟨by show (if j = k then none else if j = t then g.β k else g.β j) = _; rw [if_neg h1, if_neg h2], by show (if j = k then (1, 0) else if j = t then g.σ k else g.σ j) = _; rw [if_neg h1, if_neg h2]⟩
 have nt : ∀ j, (lk s.H j).isSome = true -> j ≠ t := fun j hj e => by subst e; rw [ht] at hj; cases hj
 have hsome : ∀ j, (lk s.H j).isSome = true -> (lk ((t, b) :: (k, ZQ) :: s.H) j).isSome = true := fun j hj => by
  rw [Qx, Qx]; split
  ·rfl
  ·split
   ·rfl
   ·exact hj
 have key : ∀ j b', lk ((t, b) :: (k, ZQ) :: s.H) j = some b' -> (j = t /\ b' = b) \/ (j = k /\ b' = ZQ) \/ (j ≠ t /\ j ≠ k /\ lk s.H j = some b') := fun j b' h => by
  rw [Qx] at h
  split at h
  ·rename_i e; cases h; exact .inl ⟨e.symm, rfl⟩
  ·rename_i e
   rw [Qx] at h
   split at h
   ·rename_i e2; cases h; exact .inr (.inl ⟨e2.symm, rfl⟩)
   ·rename_i e2; exact .inr (.inr ⟨Ne.symm e, Ne.symm e2, h⟩)
 refine ⟨g1, rfl, hg, hT.1, hT.2, ho, r.nt, r.df, fun u d h => Rep.give (g := g) rfl hg ho (fun hh => nt t (r.wfF u d h t hh) rfl) (r.fr u d h), fun u d h j hj => hsome j (r.wfF u d h j hj), fun j b' h i hi => ?_, fun j b' h => ?_, fun j j' b1 b2 B e e' h1 h2 h3 h4 => ?_, r.kr, r.ext, r.kx, fun j hj => ?_⟩
 ·rcases key j b' h with ⟨_, rfl⟩ | ⟨_, rfl⟩ | ⟨_, _, h⟩
  ·exact hsome i (r.wfH k b' hb i hi)
  ·cases hi
  ·exact hsome i (r.wfH j b' h i hi)
 ·rcases key j b' h with ⟨rfl, rfl⟩ | ⟨rfl, rfl⟩ | ⟨h1, h2, h⟩
  ·exact BoxRel.give (g := g) (j := k) rfl hg ho (fun row hr d hd hh => nt _ (r.wfB k b' hb row hr d hd _ hh) rfl) hT (r.bx k b' hb)
  ·exact ⟨by simp [ZQ], by simp [ZQ], .inl ⟨rfl, .inl ⟨hg.1, by simp [hg.2]⟩⟩⟩
  ·exact BoxRel.give (g := g) (j := j) rfl hg ho (fun row hr d hd hh => nt _ (r.wfB j b' h row hr d hd _ hh) rfl) (ho j h2 h1) (r.bx j b' h)
 ·have hh : ∀ j b', lk ((t, b) :: (k, ZQ) :: s.H) j = some b' -> ∀ B e, g1.β j = some (B, e) -> (j = t /\ g.β k = some (B, e)) \/ (j ≠ k /\ j ≠ t /\ g.β j = some (B, e) /\ lk s.H j = some b') := fun j b' h B e hβ => by
   rcases key j b' h with ⟨rfl, rfl⟩ | ⟨rfl, rfl⟩ | ⟨h1, h2, h⟩
   ·exact .inl ⟨rfl, hT.1 ▸ hβ⟩
   ·exact (hg.no hβ).elim
   ·exact .inr ⟨h2, h1, (ho j h2 h1).1 ▸ hβ, h⟩
  rcases hh j b1 h1 B e h3 with ⟨p, q⟩ | ⟨p, _, q, q2⟩ <;> rcases hh j' b2 h2 B e' h4 with ⟨p', q'⟩ | ⟨p', _, q', q2'⟩
  ·rw [p, p']
  ·exact absurd (r.inj k j' b b2 B e e' hb q2' q q').symm p'
  ·exact absurd (r.inj j k b1 b B e e' q2 hb q q') p
  ·exact r.inj j j' b1 b2 B e e' q2 q2' q q'
 ·obtain ⟨h1, h2, h3, h4⟩ := r.kp j hj
  have := ho j Wa (nt j h4)
  exact ⟨h1, this.1.trans h2, this.2.trans h3, hsome j h4⟩
theorem scrub_none {k : Nat} {d : D} (h : k ∉ d.ids) : d.scrub k = d := by
 cases d <;> simp only [D.scrub] <;> try rfl
 case osl j n => rw [if_neg (fun e => h (by simp [D.ids, D.sid, e]))]
 case osv j lo c n => rw [if_neg (fun e => h (by simp [D.ids, D.sid, e]))]
 case ref j i q => rw [if_neg (fun e => h (by simp [D.ids, D.sid, e]))]
 case clr f j ps => rw [if_neg (fun e => h (by simp [D.ids, D.sid, e]))]
 case agg cs => exact if_neg h
 case clo f cs => exact if_neg h
 case tpo cs x => exact if_neg h
theorem SF {k : Nat} {d : D} (h : k ∉ d.sid) : d.scrubC k = d := by
 cases d <;> simp only [D.scrubC] <;> try rfl
 case osl j n => rw [if_neg (fun e => h (by simp [D.sid, e]))]
 case osv j lo c n => rw [if_neg (fun e => h (by simp [D.sid, e]))]
 case ref j i q => rw [if_neg (fun e => h (by simp [D.sid, e]))]
 case clr f j ps => rw [if_neg (fun e => h (by simp [D.sid, e]))]
theorem Box.scrub_none {k : Nat} {b : Box} (h : ∀ r ∈ b.rows, ∀ d ∈ r, k ∉ d.sid) : b.scrub k = b := by
 unfold Box.scrub
 split
 ·rfl
 ·have : b.rows.map (fun r => r.map (D.scrubC k)) = b.rows := by
   have : ∀ rs : List (List D), (∀ r ∈ rs, ∀ d ∈ r, k ∉ d.sid) -> rs.map (fun r => r.map (D.scrubC k)) = rs := by
    intro rs
    induction rs with
    | nil => intro _; rfl
    | cons r rs ih =>
     intro h
     rw [List.map_cons, ih fun r hr => h r (by simp [hr])]
     congr 1
     have h0 := h r Wc
     clear h ih
     induction r with
     | nil => rfl
     | cons d ds ih => rw [List.map_cons, SF (h0 d Wc), ih fun d hd => h0 d (by simp [hd])]
   exact this b.rows h
  rw [this]
theorem _root_.Wi {p : Prop} (h : p := by simp [D.ids, D.sid]) : p := h
theorem P8 {k n t esz et bytes : Nat} {st ty : TypeId} {x y : Operand} {x' y' : Opd} {b : Box} {ys : List (List D)} {pr : Bool} {zd : List D} {i : TypeInfo} {d : D} (r : Rel E g s a w)
  (ho : o.op = .call { callee := .builtin .append, args := #[x, y], argTypes := #[st, st] }) (hty : o.type = ty) (hx : QG x = some x') (hy : QG y = some y')
  (hu : P.underlying st = some (.slice et)) (hi : P.info? et = some i) (hsz : i.size = esz) (hby : i.bytes = bytes) (hz : KM P et = some zd) (hzl : zd.length = esz) (hes : esz ≠ 0)
  (he : s.ev x' = some (.osl k n)) (hk0 : k < 1000000) (ht : lk s.H t = none) (ht0 : t < 1000000) (hb : lk s.H k = some b) (hn : n = b.rows.length) (hbe : b.esz = esz) (hbt : b.et = et)
  (hf : s.ev y' = some d) (hkd : k ∉ d.ids) (hsrc : s.src esz d ys pr) (hbytes : (n + ys.length) * bytes <= 140737488355328) (hm : n + ys.length <= 4611686018427387904) :
  Fg P E a w o { s with H := (t, ⟨b.rows ++ ys, esz, et, b.pr && pr⟩) :: (k, ZQ) :: s.H } (.osl t (n + ys.length)) := by
 obtain ⟨hxr, hxh⟩ := Zi r hx he
 have hrys := GL r (Zi r hy hf).1 hsrc
 obtain ⟨g1, q1, q2, q3, q4, q5, r1⟩ := r.give hb hk0 ht
 have nt : ∀ j, (lk s.H j).isSome = true -> j ≠ t := fun j hj e => by subst e; rw [ht] at hj; cases hj
 have htk : t ≠ k := fun e => by subst e; rw [ht] at hb; cases hb
 -- the operand is a slot
 have hslot : ∃ u, x = .tmp u /\ x' = .s u := by
  cases x with
  | tmp u => exact ⟨u, rfl, (J5 hx).2⟩
  | const v =>
   obtain ⟨d0, h1, rfl⟩ := QhF.1 hx
   simp only [St.ev, QhI] at he; subst he
   have := (KS h1 g.K).2
   simp [D.ids, D.sid] at this
  | func f =>
   rw [(KI hx).2] at he
   simp [St.ev] at he
  | global i =>
   simp only [QG, QhI] at hx; subst hx
   have hs := r.fr _ _ he
   have hsz : a.tmps.size <= 900000 + i := by rw [r.nt.1]; exact QhY r.nt.2 (Nat.le_add_right _ _)
   rw [Array.getD_eq_getD_getElem?, Array.getElem?_eq_none hsz, Option.getD_none, Hq, if_neg Wa] at hs
   obtain ⟨_, _, h1, _⟩ := hs
   cases h1
 obtain ⟨u, rfl, rfl⟩ := hslot
 have hval : a.tmps.getD u (Hq u) = a.eval (.tmp u) := by rw [Hq, if_pos (J5 hx).1]; rfl
 have hrt : Rep g1 (.osl t n) (a.eval (.tmp u)) := by
  obtain ⟨a0, cap, h1, h2, h3⟩ := hxr
  refine ⟨a0, cap, h1, h2, ?_⟩
  unfold Gh.gone at h3 ⊢
  rw [q3, q4]; exact h3
 have r2 : Rel E g1 { fr := (u, .osl t n) :: s.fr, H := (t, b) :: (k, ZQ) :: s.H } a w := by
  refine { r1 with fr := fun v x h => ?_, wfF := fun v x h j hj => ?_ }
  ·rw [Qx] at h
   split at h
   ·rename_i e; cases h; subst e; rw [hval]; exact hrt
   ·exact r1.fr v x h
  ·rw [Qx] at h
   split at h
   ·cases h
    simp [D.ids, D.sid] at hj; subst hj; simp [Qx]
   ·exact r1.wfF v x h j hj
 have hyu : y' ≠ .s u := fun e => by
  subst e
  have he' : lk s.fr u = some (.osl k n) := he
  have hf' : lk s.fr u = some d := hf
  rw [he'] at hf'; cases hf'
  exact hkd Wi
 have hf2 : St.ev { fr := (u, .osl t n) :: s.fr, H := (t, b) :: (k, ZQ) :: s.H } y' = some d := by
  cases y' with
  | s v =>
   have : u ≠ v := fun e => hyu (by rw [e])
   simp only [St.ev, Qx, if_neg this]; exact hf
  | c e => exact hf
 have hsrc2 : St.src { fr := (u, .osl t n) :: s.fr, H := (t, b) :: (k, ZQ) :: s.H } esz d ys pr := by
  cases d <;> simp only [St.src] at hsrc ⊢ <;> try exact hsrc
  rename_i j m
  obtain ⟨b0, h1, h2⟩ := hsrc
  refine ⟨b0, ?_, h2⟩
  rw [Qx, if_neg (nt j (by rw [h1]; rfl)).symm, Qx, if_neg (fun e => hkd (by simp [D.ids, D.sid, e]))]
  exact h1
 have hself : ∀ r0 ∈ b.rows ++ ys, ∀ d ∈ r0, t ∉ d.sid := fun r0 hr x hx hh => by
  rcases QhQ.1 hr with hr | hr
  ·exact nt t (r.wfB k b hb r0 hr x hx t hh) rfl
  ·obtain ⟨_, _, _, _, _, _, h1, _⟩ := hrys
   exact nt t (h1 r0 hr x hx t hh) rfl
 obtain ⟨nx, w', g', e1, r3, e3, e4⟩ := Ns (n := n) r2 ho hty hx hy hu hi hsz hby hz hzl hes (by simp [St.ev, Qx]) ht0 (by rw [Qx, if_pos rfl]) hn hbe hbt (.inr hself) hf2 hsrc2 hbytes hm
 have hgone : g'.gone k := by
  have hh : lk ((t, (⟨b.rows ++ ys, esz, et, b.pr && pr⟩ : Box)) :: (St.scrub t { fr := (u, .osl t n) :: s.fr, H := (t, b) :: (k, ZQ) :: s.H }).H) k = some ZQ := by
   rw [Qx, if_neg htk]
   simp only [St.scrub, Yd, Qx, if_neg htk, if_pos]
   rfl
  obtain ⟨_, _, h3⟩ := r3.bx k ZQ hh
  rcases h3 with ⟨_, ⟨h3, h4⟩ | ⟨_, _, h, _⟩⟩ | ⟨h, _⟩
  ·exact ⟨h3, h4.2 rfl⟩
  ·cases h
  ·exact (h.elim (fun h => h rfl) (fun h => h rfl)).elim
 have hfr : ∀ v x, lk s.fr v = some x -> v ≠ u -> lk ((St.scrub t { fr := (u, .osl t n) :: s.fr, H := (t, b) :: (k, ZQ) :: s.H }).fr) v = some x := fun v x h hv => by
  simp only [St.scrub, Yd, Qx, if_neg (Ne.symm hv), h, Option.map_some]
  rw [scrub_none fun hh => nt t (r.wfF v x h t hh) rfl]
 have hH : ∀ j, lk ((t, (⟨b.rows ++ ys, esz, et, b.pr && pr⟩ : Box)) :: (St.scrub t { fr := (u, .osl t n) :: s.fr, H := (t, b) :: (k, ZQ) :: s.H }).H) j = lk ((t, (⟨b.rows ++ ys, esz, et, b.pr && pr⟩ : Box)) :: (k, ZQ) :: s.H) j := fun j => by
  rw [Qx, Qx]
  split
  ·rfl
  ·rename_i hj
   simp only [St.scrub, Yd]
   rw [Qx, if_neg hj]
   cases hh : lk ((k, ZQ) :: s.H) j with
   | none => rfl
   | some b0 =>
    rw [Option.map_some, Box.scrub_none]
    rw [Qx] at hh
    split at hh
    ·cases hh; simp [ZQ]
    ·exact fun row hr x hx ht' => nt t (r.wfB j b0 hh row hr x hx t ht') rfl
 refine ⟨nx, w', g', e1, ?_, fun j hj => by simp [D.ids, D.sid] at hj; subst hj; simp [Qx], e4⟩
 refine ⟨r3.nt, r3.df, fun v x h => ?_, fun v x h j hj => ?_, fun j b' h i hi => ?_, fun j b' h => ?_, fun j j' b1 b2 B e e' h1 h2 => ?_, r3.kr, r3.ext, r3.kx, fun j hj => let ⟨h1, h2, h3, h4⟩ := r3.kp j hj; ⟨h1, h2, h3, by rw [<- hH]; exact h4⟩⟩
 ·by_cases hv : v = u
  ·subst hv
   have : x = .osl k n := by
    have he' : lk s.fr v = some (.osl k n) := he
    rw [he'] at h; cases h; rfl
   subst this
   rw [hval]
   obtain ⟨a0, cap, h1, h2, _⟩ := hxr
   exact ⟨a0, cap, h1, h2, .inr (.inr hgone)⟩
  ·exact r3.fr v x (hfr v x h hv)
 ·rw [<- hH]
  by_cases hv : v = u
  ·subst hv
   have : x = .osl k n := by
    have he' : lk s.fr v = some (.osl k n) := he
    rw [he'] at h; cases h; rfl
   subst this
   simp [D.ids, D.sid] at hj; subst hj
   rw [hH, Qx, if_neg htk, Qx, if_pos rfl]; rfl
  ·exact r3.wfF v x (hfr v x h hv) j hj
 ·rw [<- hH]; exact r3.wfH j b' (by rw [hH]; exact h) i hi
 ·exact r3.bx j b' (by rw [hH]; exact h)
 ·exact r3.inj j j' b1 b2 B e e' (by rw [hH]; exact h1) (by rw [hH]; exact h2)
end
end Go.Abs
namespace Go.Abs
open Go
def D.fzS (H : QhD) (S : Nat -> Bool) : D -> D
 | .osl k n => if S k = true then (match lk H k with | some b => if b.pr = true /\ n = b.rows.length then .sl b.rows else .junk | none => .junk) else .osl k n
 | .osv k lo c n => if S k = true then .junk else .osv k lo c n
 | .ref k i off => if S k = true then (match lk H k with | some b => if b.pr = true then .ptr ((b.rows.getD i []).drop off) else .junk | none => .junk) else .ref k i off
 | .clr f k ps => if S k = true then .junk else .clr f k ps
 | d => d
def D.fz (H : QhD) (S : Nat -> Bool) : D -> D
 | .agg cs => .agg (cs.map (D.fzS H S))
 | .clo f cs => .clo f (cs.map (D.fzS H S))
 | .tpo cs x => .tpo (cs.map (D.fzS H S)) x
 | d => d.fzS H S
theorem MO {H : QhD} {S : Nat -> Bool} {d : D} (h : d.isCell = true) : (d.fzS H S).isCell = true := by
 cases d <;> simp only [D.fzS] <;> try exact h
 all_goals (repeat' split) <;> rfl
theorem _root_.Wd {p : Prop} (h : p := by assumption) : p := h
theorem Kw {H : QhD} {S : Nat -> Bool} {d : D} {j : Nat} (h : j ∈ (d.fzS H S).sid) : j ∈ d.sid /\ S j = false := by
 cases d <;> simp only [D.fzS] at h <;> try (simp [D.sid] at h; done)
 all_goals
  (repeat' split at h) <;> simp [D.sid] at h ⊢
  subst h; exact ⟨rfl, Bool.eq_false_iff.2 Wd⟩
theorem Qd4 {H : QhD} {S : Nat -> Bool} {d : D} {j : Nat} (h : j ∈ (d.fz H S).ids) : j ∈ d.ids /\ S j = false := by
 cases d
 case agg cs =>
  simp only [D.fz, D.ids] at h ⊢
  obtain ⟨x, hx, hj⟩ := QhM.1 h
  obtain ⟨y, hy, rfl⟩ := QhT.1 hx
  obtain ⟨q1, q2⟩ := Kw hj
  exact ⟨QhM.2 ⟨y, hy, q1⟩, q2⟩
 case clo f cs =>
  simp only [D.fz, D.ids] at h ⊢
  obtain ⟨x, hx, hj⟩ := QhM.1 h
  obtain ⟨y, hy, rfl⟩ := QhT.1 hx
  obtain ⟨q1, q2⟩ := Kw hj
  exact ⟨QhM.2 ⟨y, hy, q1⟩, q2⟩
 case tpo cs z =>
  simp only [D.fz, D.ids] at h ⊢
  obtain ⟨x, hx, hj⟩ := QhM.1 h
  obtain ⟨y, hy, rfl⟩ := QhT.1 hx
  obtain ⟨q1, q2⟩ := Kw hj
  exact ⟨QhM.2 ⟨y, hy, q1⟩, q2⟩
 case osl k n =>
  have h' : j ∈ (D.fzS H S (.osl k n)).sid := by
   simp only [D.fz] at h
   revert h
   simp only [D.fzS]
   (repeat' split) <;> simp [D.ids, D.sid]
  exact Kw h'
 case osv k lo c n =>
  have h' : j ∈ (D.fzS H S (.osv k lo c n)).sid := by
   simp only [D.fz] at h
   revert h
   simp only [D.fzS]
   (repeat' split) <;> simp [D.ids, D.sid]
  exact Kw h'
 case clr f k ps =>
  have h' : j ∈ (D.fzS H S (.clr f k ps)).sid := by
   simp only [D.fz] at h
   revert h
   simp only [D.fzS]
   (repeat' split) <;> simp [D.ids, D.sid]
  exact Kw h'
 case ref k i off =>
  have h' : j ∈ (D.fzS H S (.ref k i off)).sid := by
   simp only [D.fz] at h
   revert h
   simp only [D.fzS]
   (repeat' split) <;> simp [D.ids, D.sid]
  exact Kw h'
 all_goals (simp [D.fz, D.fzS, D.ids, D.sid] at h)
section
variable {P : Program} {E : Env} {g : Gh} {s : St} {a : Act} {w : World} {o : Oper} {dst : Option Nat}
theorem Fb {K : Kn} {B : Nat} {c : Array Value} (hK : g.K.le K) (hc : ∀ p x, c[p]? = some x -> K B p = some x) : ∀ {off : Nat} {ds : List D}, CellsC g c off ds -> (∀ d ∈ ds, d.sid = []) -> RepCells K B off ds
 | _, [], _, _ => by simp only [RepCells]
 | off, d :: ds, h, hs => by
  simp only [CellsC, RepCells] at h ⊢
  obtain ⟨⟨h1, x, h2, h3⟩, h4⟩ := h
  have hown : d.own = false := by
   have := hs d Wc
   cases d <;> first | rfl | (simp [D.sid] at this)
  exact ⟨⟨h1, x, hc off x h2, (h3.toP hown).mono hK⟩, Fb hK hc h4 fun d hd => hs d (by simp [hd])⟩
theorem RB {K : Kn} {B : Nat} {c : Array Value} (hK : g.K.le K) (hc : ∀ p x, c[p]? = some x -> K B p = some x) : ∀ {off : Nat} {rs : List (List D)}, RowsC g c off rs -> (∀ r ∈ rs, ∀ d ∈ r, d.sid = []) -> RepRows K B off rs
 | _, [], _, _ => by simp only [RepRows]
 | off, r :: rs, h, hs => by
  simp only [RowsC, RepRows] at h ⊢
  exact ⟨Fb hK hc h.1 (hs r Wc), RB hK hc h.2 fun r hr => hs r (by simp [hr])⟩
theorem FK (r : Rel E g s a w) (S : Nat -> Bool) : ∃ K : Kn, g.K.le K /\ KRel K w /\ (∀ b, (∀ k bx e, lk s.H k = some bx -> S k = true -> g.β k ≠ some (b, e)) -> K b = g.K b) /\
  (∀ d v, RepS g d v -> (∀ k ∈ d.sid, (lk s.H k).isSome = true) -> RepS { g with K := K } (d.fzS s.H S) v) := by
 classical
 let K : Kn := fun b p => if ∃ k bx e, lk s.H k = some bx /\ S k = true /\ bx.pr = true /\ g.β k = some (b, e) then (match w.heap[b]? with | some (.cells c _ _) => c[p]? | _ => none) else g.K b p
 have hle : g.K.le K := by
  intro b p x hx
  simp only [K]
  rw [if_neg]
  ·exact hx
  ·rintro ⟨k, bx, e, h1, _, _, h2⟩
   obtain ⟨_, _, h3⟩ := r.bx k bx h1
   rcases h3 with ⟨_, ⟨h3, _⟩ | ⟨_, _, _, _, _, B, _, h4, _, h5, _⟩⟩ | ⟨_, B, c, h4, _, _, _, h5, _⟩
   ·rw [h3] at h2; cases h2
   ·rw [h2] at h4; cases h4; rw [h5] at hx; cases hx
   ·rw [h2] at h4; cases h4; rw [h5] at hx; cases hx
 have hin : ∀ k bx B e c, lk s.H k = some bx -> S k = true -> bx.pr = true -> g.β k = some (B, e) -> w.heap[B]? = some (.cells c bx.et (0, 0)) -> ∀ p x, c[p]? = some x -> K B p = some x := by
  intro k bx B e c h1 h2 h3 h4 h5 p x hx
  simp only [K]
  rw [if_pos ⟨k, bx, e, h1, h2, h3, h4⟩, h5]
  exact hx
 refine ⟨K, hle, ?_, ?_, ?_⟩
 ·intro b p x hx
  simp only [K] at hx
  split at hx
  ·split at hx
   ·rename_i c e f hc; exact ⟨c, e, f, hc, hx⟩
   ·cases hx
  ·exact r.kr b p x hx
 ·intro b hb
  funext p
  simp only [K]
  rw [if_neg]
  rintro ⟨k, bx, e, h1, h2, _, h3⟩
  exact hb k bx e h1 h2 h3
 ·intro d v hd hsome
  have keep : ∀ d, RepS g d v -> RepS { g with K := K } d v := fun d h => h.congr hle fun _ _ => ⟨rfl, rfl⟩
  cases d <;> simp only [D.fzS] <;> try exact keep _ hd
  case osl k n =>
   split
   ·rename_i hS
    have hjunk : RepS { g with K := K } .junk v := by
     obtain ⟨_, _, rfl, _⟩ := hd; simp only [RepS, RepP]; rfl
    split
    ·rename_i b hb
     split
     ·rename_i hp
      obtain ⟨hp, hn⟩ := hp
      obtain ⟨a0, cap, rfl, h1, h2⟩ := hd
      simp only [RepS, RepP]
      subst hn
      refine ⟨a0, cap, rfl, h1, ?_⟩
      rcases h2 with ⟨h2, _⟩ | ⟨B, esz, h3, rfl, _⟩ | hg
      ·exact .inl (List.eq_nil_of_length_eq_zero h2)
      rotate_left
      ·obtain ⟨_, _, h6⟩ := r.bx k b hb
       rcases h6 with ⟨h6, _⟩ | ⟨_, _, _, h7, _⟩
       ·exact .inl h6
       ·exact (hg.no h7).elim
      ·obtain ⟨h4, h5, h6⟩ := r.bx k b hb
       rcases h6 with ⟨h6, _⟩ | ⟨_, B', c, h7, h8, _, h9, _⟩
       ·exact .inl h6
       ·rw [h3] at h7; cases h7
        exact .inr ⟨B, _, b.esz, rfl, h4, RB hle (hin k b B b.esz c hb hS hp h3 h8) h9 (h5 hp)⟩
     ·exact hjunk
    ·exact hjunk
   ·exact keep _ hd
  case osv k lo c n =>
   split
   ·obtain ⟨_, _, rfl, _⟩ := hd; simp only [RepS, RepP]; rfl
   ·exact keep _ hd
  case clr f k ps =>
   split
   ·obtain ⟨_, _, _, _, _, rfl, _⟩ := hd; simp only [RepS, RepP]; rfl
   ·exact keep _ hd
  case ref k i off =>
   split
   ·rename_i hS
    have hjunk : RepS { g with K := K } .junk v := by
     obtain ⟨_, _, _, _, rfl⟩ := hd; simp only [RepS, RepP]; rfl
    split
    ·rename_i b hb
     split
     ·rename_i hp
      obtain ⟨B, esz, zo, h3, rfl⟩ := hd
      simp only [RepS, RepP]
      obtain ⟨h4, h5, h6⟩ := r.bx k b hb
      by_cases hi : i < b.rows.length
      ·have hrow := List.getElem?_eq_getElem hi
       rcases h6 with ⟨h6, _⟩ | ⟨_, B', c, h7, h8, _, h9, _⟩
       ·rw [h6] at hi; simp at hi
       ·obtain ⟨h3', hzo⟩ := h3.resolve_right fun hg => hg.no h7
        clear h3; have h3 := h3'
        rw [h3] at h7; cases h7; subst hzo
        refine ⟨B, _, rfl, ?_⟩
        have h10 := X8 i h4 h9 hrow
        have h11 := Fb hle (hin k b B b.esz c hb hS hp h3 h8) h10 (h5 hp _ (List.mem_of_getElem? hrow))
        have e1 : b.rows.getD i [] = b.rows[i] := by simp [List.getD, hrow]
        rw [e1]
        have : ∀ {off : Nat} {ds : List D} (n : Nat), RepCells K B off ds -> RepCells K B (off + n) (ds.drop n) := by
         intro off ds n
         induction n generalizing off ds with
         | zero => intro h; exact h
         | succ n ih =>
          intro h
          cases ds with
          | nil => simp only [List.drop_nil, RepCells]
          | cons d ds =>
           simp only [RepCells] at h
           have := ih h.2
           rw [show off + (n + 1) = off + 1 + n by omega]; exact this
        rw [<- Nat.add_assoc]; exact this off h11
      ·refine ⟨B, _, rfl, ?_⟩
       have e1 : b.rows.getD i [] = [] := by simp [List.getD, List.getElem?_eq_none (Nat.le_of_not_lt hi)]
       rw [e1]; simp only [List.drop_nil, RepCells]
     ·exact hjunk
    ·exact hjunk
   ·exact keep _ hd
theorem RepL.fz {K : Kn} {S : Nat -> Bool} (h : ∀ d v, RepS g d v -> (∀ k ∈ d.sid, (lk s.H k).isSome = true) -> RepS { g with K := K } (d.fzS s.H S) v) : ∀ {ds : List D} {vs : List Value}, RepL g ds vs -> (∀ k ∈ ds.flatMap D.sid, (lk s.H k).isSome = true) -> RepL { g with K := K } (ds.map (D.fzS s.H S)) vs
 | [], [], _, _ => trivial
 | d :: ds, v :: vs, h1, h2 => ⟨h d v h1.1 fun k hk => h2 k (by simp [hk]), RepL.fz h h1.2 fun k hk => h2 k (by rw [List.flatMap_cons]; exact QhU _ hk)⟩
 | [], _ :: _, h1, _ => h1.elim
 | _ :: _, [], h1, _ => h1.elim
theorem Rep.fz {K : Kn} {S : Nat -> Bool} (h : ∀ d v, RepS g d v -> (∀ k ∈ d.sid, (lk s.H k).isSome = true) -> RepS { g with K := K } (d.fzS s.H S) v) {d : D} {v : Value} (hd : Rep g d v) (hi : Has s d) : Rep { g with K := K } (d.fz s.H S) v := by
 cases d
 case agg cs =>
  obtain ⟨vs, rfl, h1, h2⟩ := hd
  refine ⟨vs, rfl, RepL.fz h h1 hi, fun d hd => ?_⟩
  obtain ⟨y, hy, rfl⟩ := QhT.1 hd
  exact MO (h2 y hy)
 case clo f cs =>
  obtain ⟨vs, rfl, h1⟩ := hd
  exact ⟨vs, rfl, RepL.fz h h1 hi⟩
 case tpo cs x =>
  obtain ⟨vs, u, rfl, h1, h2, h3⟩ := hd
  refine ⟨vs, u, rfl, RepL.fz h h1 hi, fun d hd => ?_, ?_⟩
  ·obtain ⟨y, hy, rfl⟩ := QhT.1 hd
   exact MO (h2 y hy)
  ·have hx : x.own = false := by cases x <;> first | rfl | (simp only [RepP] at h3)
   have hf : x.fzS s.H S = x := by cases x <;> first | rfl | (simp [D.own] at hx)
   have hs : x.sid = [] := by cases x <;> first | rfl | (simp [D.own] at hx)
   have := h x u (RepS.of h3) (fun k hk => by rw [hs] at hk; cases hk)
   rw [hf] at this
   exact this.toP hx
 case osl k n =>
  have := h _ _ (show RepS g (.osl k n) v from hd) hi
  simp only [D.fz]
  revert this
  simp only [D.fzS]
  (repeat' split) <;> exact id
 case osv k lo c n =>
  have := h _ _ (show RepS g (.osv k lo c n) v from hd) hi
  simp only [D.fz]
  revert this
  simp only [D.fzS]
  (repeat' split) <;> exact id
 case clr f k ps =>
  have := h _ _ (show RepS g (.clr f k ps) v from hd) hi
  simp only [D.fz]
  revert this
  simp only [D.fzS]
  (repeat' split) <;> exact id
 case ref k i off =>
  have := h _ _ (show RepS g (.ref k i off) v from hd) hi
  simp only [D.fz]
  revert this
  simp only [D.fzS]
  (repeat' split) <;> exact id
 case undef => exact h .undef v hd hi
 case top => exact h .top v hd hi
 case junk => exact h .junk v hd hi
 case int k n => exact h (.int k n) v hd hi
 case bool b => exact h (.bool b) v hd hi
 case val b => exact h (.val b) v hd hi
 case bnd f l => exact h (.bnd f l) v hd hi
 case str l => exact h (.str l) v hd hi
 case sl l => exact h (.sl l) v hd hi
 case fsl l => exact h (.fsl l) v hd hi
 case ptr l => exact h (.ptr l) v hd hi
 case tup l => exact h (.tup l) v hd hi
def Box.fz (H : QhD) (S : Nat -> Bool) (b : Box) : Box := if b.pr then b else { b with rows := b.rows.map fun r => r.map (D.fzS H S) }
def St.freeze (k : Nat) (s : St) : St :=
 { fr := s.fr.map fun p => (p.1, p.2.fz s.H (· == k)), H := rem k (s.H.map fun p => (p.1, p.2.fz s.H (· == k))) }
theorem Rel.freeze (r : Rel E g s a w) (k : Nat) (hk0 : k < 1000000) : ∃ g', g'.β = g.β /\ Rel E g' (s.freeze k) a w := by
 obtain ⟨K, hle, hkr, hoth, hrep⟩ := FK r (· == k)
 refine ⟨{ g with K := K }, rfl, ?_⟩
 have hlk : ∀ j, lk (s.freeze k).H j = if j = k then none else (lk s.H j).map (Box.fz s.H (· == k)) := fun j => by
  simp only [St.freeze, Gu]
  rw [Yd (Box.fz s.H (· == k))]
 have hsome : ∀ j, j ≠ k -> (lk (s.freeze k).H j).isSome = (lk s.H j).isSome := fun j hj => by
  rw [hlk, if_neg hj, QhX]
 have key : ∀ j b, lk (s.freeze k).H j = some b -> j ≠ k /\ ∃ b0, lk s.H j = some b0 /\ b = b0.fz s.H (· == k) := fun j b h => by
  rw [hlk] at h
  split at h
  ·cases h
  ·rename_i hj
   obtain ⟨b0, h1, h2⟩ := QhF.1 h
   exact ⟨hj, b0, h1, h2.symm⟩
 have hKB : ∀ j b B e, j ≠ k -> lk s.H j = some b -> g.β j = some (B, e) -> K B = g.K B := fun j b B e hj hb hβ => hoth B fun k' bx e' h1 h2 h3 => by
  have : k' = k := by simpa using h2
  subst this
  exact hj (r.inj j k' b bx B e e' hb h1 hβ h3)
 refine ⟨r.nt, r.df, fun t d h => ?_, fun t d h j hj => ?_, fun j b h i hi => ?_, fun j b h => ?_, fun j j' b b' B e e' h1 h2 => ?_, hkr, r.ext, fun b hb hf => ?_, fun j hj => let ⟨h1, h2, h3, h4⟩ := r.kp j hj; ⟨h1, h2, h3, (hsome j Wa).trans h4⟩⟩
 ·simp only [St.freeze, Yd] at h
  obtain ⟨d0, h1, rfl⟩ := QhF.1 h
  exact (r.fr t d0 h1).fz hrep (r.wfF t d0 h1)
 ·simp only [St.freeze, Yd] at h
  obtain ⟨d0, h1, rfl⟩ := QhF.1 h
  obtain ⟨q1, q2⟩ := Qd4 hj
  have : j ≠ k := by simpa using q2
  rw [hsome j this]; exact r.wfF t d0 h1 j q1
 ·obtain ⟨_, b0, h1, rfl⟩ := key j b h
  unfold Box.fz at hi
  cases hp : b0.pr with
  | true => simp [hp, Box.ids] at hi
  | false =>
   simp only [hp, QhN, if_false, Box.ids] at hi
   obtain ⟨r0, hr, hi⟩ := QhM.1 hi
   obtain ⟨r1, hr1, rfl⟩ := QhT.1 hr
   obtain ⟨d, hd, hi⟩ := QhM.1 hi
   obtain ⟨d1, hd1, rfl⟩ := QhT.1 hd
   obtain ⟨q1, q2⟩ := Kw hi
   have : i ≠ k := by simpa using q2
   rw [hsome i this]
   exact r.wfB j b0 h1 r1 hr1 d1 hd1 i q1
 ·obtain ⟨hj, b0, h1, rfl⟩ := key j b h
  obtain ⟨q1, q2, q3⟩ := r.bx j b0 h1
  unfold Box.fz
  cases hp : b0.pr with
  | true =>
   simp only [if_true]
   refine ⟨q1, fun _ => q2 hp, q3.imp (fun ⟨x, y⟩ => ⟨x, y.imp id fun i => by have := i.2.2.1; rw [hp] at this; cases this⟩) ?_⟩
   rintro ⟨q4, B, c, q5, q6, q7, q8, q9, q10⟩
   refine ⟨q4, B, c, q5, q6, q7, RowsC.congr (g := g) hle q8 (fun _ _ _ _ _ _ => ⟨rfl, rfl⟩), fun o => ?_, q10⟩
   show K B o = none
   rw [hKB j b0 B _ hj h1 q5]; exact q9 o
  | false =>
   simp only [QhN, if_false]
   refine ⟨?_, by simp, ?_⟩
   ·intro r0 hr
    obtain ⟨r1, hr1, rfl⟩ := QhT.1 hr
    simpa using q1 r1 hr1
   ·rcases q3 with ⟨q3, q4⟩ | ⟨q4, B, c, q5, q6, q7, q8, q9, q10⟩
    ·exact .inl ⟨by simp [q3], q4.imp (fun ⟨y, z⟩ => ⟨y, ⟨(fun h => by rw [z.1 h] at hp; cases hp), fun h => by have := congrArg Box.pr h; cases this⟩⟩) fun ⟨i1, i2, i3, sv, p, B, i4, i5, i6, i7, i8⟩ => ⟨by simp [q3], i2, rfl, sv, p, B, i4, i5, i6, (fun o => by show K B o = none; rw [hKB j b0 B _ hj h1 i5]; exact i7 o), i8⟩⟩
    ·refine .inr ⟨by simpa using q4, B, c, q5, q6, q7, ?_, fun o => ?_, q10⟩
     ·have cells : ∀ {off : Nat} {ds : List D}, CellsC g c off ds -> (∀ d ∈ ds, ∀ i ∈ d.sid, (lk s.H i).isSome = true) -> CellsC { g with K := K } c off (ds.map (D.fzS s.H (· == k))) := by
       intro off ds
       induction ds generalizing off with
       | nil => intro _ _; simp only [List.map_nil, CellsC]
       | cons d ds ih =>
        intro h hs
        simp only [List.map_cons, CellsC] at h ⊢
        obtain ⟨⟨p1, x, p2, p3⟩, p4⟩ := h
        exact ⟨⟨MO p1, x, p2, hrep d x p3 (hs d Wc)⟩, ih p4 fun d hd => hs d (by simp [hd])⟩
      have rows : ∀ {off : Nat} {rs : List (List D)}, RowsC g c off rs -> (∀ r ∈ rs, ∀ d ∈ r, ∀ i ∈ d.sid, (lk s.H i).isSome = true) -> RowsC { g with K := K } c off (rs.map fun r => r.map (D.fzS s.H (· == k))) := by
       intro off rs
       induction rs generalizing off with
       | nil => intro _ _; simp only [List.map_nil, RowsC]
       | cons r rs ih =>
        intro h hs
        simp only [List.map_cons, RowsC, List.length_map] at h ⊢
        exact ⟨cells h.1 (hs r Wc), ih h.2 fun r hr => hs r (by simp [hr])⟩
      exact rows q8 (r.wfB j b0 h1)
     ·show K B o = none
      rw [hKB j b0 B _ hj h1 q5]; exact q9 o
 ·obtain ⟨_, b0, q1, _⟩ := key j b h1
  obtain ⟨_, b0', q2, _⟩ := key j' b' h2
  exact r.inj j j' b0 b0' B e e' q1 q2
 ·show K b = E.K0 b
  rw [hoth b fun k' bx e h1 h2 h3 => ?_]
  ·exact r.kx b hb hf
  ·obtain ⟨_, _, q3⟩ := r.bx k' bx h1
   rcases q3 with ⟨_, ⟨q4, _⟩ | ⟨_, _, _, _, _, B, _, q5, _, _, q10⟩⟩ | ⟨_, B, c, q5, _, _, _, _, q10⟩
   ·rw [q4] at h3; cases h3
   all_goals
    rw [h3] at q5; cases q5
    rcases q10 with h | h
    ·omega
    ·exact hf h
end
end Go.Abs
namespace Go.Abs
open Go
def JX : List Nat -> List D -> List D -> Option Bool
 | [], [], [] => some true
 | 0 :: ks, .int k m :: r, .int j n :: q => if k = j then (JX ks r q).map (decide (m = n) && ·) else none
 | 1 :: ks, .bool m :: r, .bool n :: q => (JX ks r q).map (decide (m = n) && ·)
 | 2 :: ks, .str m :: r, .str n :: q => (JX ks r q).map (decide (m = n) && ·)
 | _, _, _ => none
def kindOf (P : Program) (t : TypeId) : Option Nat :=
 match P.underlying t with
 | some (.int _) => some 0
 | some .bool => some 1
 | some .string => some 2
 | _ => none
def Mn (P : Program) (kT : TypeId -> Option (List Nat)) : Nat -> List Field -> Option (List Nat)
 | _, [] => some []
 | k, f :: fs => if f.offset = k /\ f.name ≠ "_" then match kT f.type, YY P f.type with
   | some ks, some sz => if ks.length = sz then (Mn P kT (k + sz) fs).map (ks ++ ·) else none
   | _, _ => none
  else none
def HB (P : Program) : Nat -> TypeId -> Option (List Nat)
 | 0, _ => none
 | n + 1, t => match P.underlying t with
  | some (.int _) => some [0]
  | some .bool => some [1]
  | some .string => some [2]
  | some (.struct fields) => if P.stoodInHeld t = false then Mn P (HB P n) 0 fields.toList else none
  | _ => none
def P7 (P : Program) : Nat -> List Field -> Option (List Nat) := Mn P (HB P 50)
theorem J2 : ∀ (k1 : List Nat) {k2 : List Nat} {ds es : List D} {b : Bool}, JX (k1 ++ k2) ds es = some b ->
  ∃ b1 b2, JX k1 (ds.take k1.length) (es.take k1.length) = some b1 /\ JX k2 (ds.drop k1.length) (es.drop k1.length) = some b2 /\ b = (b1 && b2)
 | [], k2, ds, es, b, h => ⟨true, b, by simp [JX], by simpa using h, by simp⟩
 | c :: k1, k2, ds, es, b, h => by
  rw [List.cons_append] at h
  match c, ds, es, h with
  | 0, .int k m :: r, .int j n :: q, h =>
   simp only [JX] at h
   split at h
   ·rename_i hk
    obtain ⟨b', h1, rfl⟩ := QhF.1 h
    obtain ⟨b1, b2, h2, h3, rfl⟩ := J2 k1 h1
    exact ⟨decide (m = n) && b1, b2, by simp [JX, hk, h2], by simpa using h3, by simp [Bool.and_assoc]⟩
   ·cases h
  | 1, .bool m :: r, .bool n :: q, h =>
   simp only [JX] at h
   obtain ⟨b', h1, rfl⟩ := QhF.1 h
   obtain ⟨b1, b2, h2, h3, rfl⟩ := J2 k1 h1
   exact ⟨decide (m = n) && b1, b2, by simp [JX, h2], by simpa using h3, by simp [Bool.and_assoc]⟩
  | 2, .str m :: r, .str n :: q, h =>
   simp only [JX] at h
   obtain ⟨b', h1, rfl⟩ := QhF.1 h
   obtain ⟨b1, b2, h2, h3, rfl⟩ := J2 k1 h1
   exact ⟨decide (m = n) && b1, b2, by simp [JX, h2], by simpa using h3, by simp [Bool.and_assoc]⟩
section
variable {P : Program} {E : Env} {g : Gh} {s : St} {a : Act} {w : World} {o : Oper} {dst : Option Nat}
theorem NP : ∀ {ds : List D} {vs : List Value} (n : Nat), RepL g ds vs -> RepL g (ds.drop n) (vs.drop n)
 | [], [], n, h => by simpa using h
 | _ :: _, _ :: _, 0, h => h
 | _ :: _, _ :: _, n + 1, h => NP n h.2
 | [], _ :: _, _, h => h.elim
 | _ :: _, [], _, h => h.elim
theorem RA : ∀ {ds : List D} {vs : List Value} (n : Nat), RepL g ds vs -> RepL g (ds.take n) (vs.take n)
 | [], [], n, h => by simpa using h
 | _ :: _, _ :: _, 0, _ => trivial
 | _ :: _, _ :: _, n + 1, h => ⟨h.1, RA n h.2⟩
 | [], _ :: _, _, h => h.elim
 | _ :: _, [], _, h => h.elim
def RV (P : Program) (g : Gh) (t : TypeId) (ds : List D) (v : Value) : Prop :=
 (RI P t = some true /\ ∃ vs : List Value, v = .agg vs.toArray /\ RepL g ds vs) \/ (RI P t = some false /\ ∃ d, ds = [d] /\ RepS g d v)
theorem CK {f : TypeId} {sz off : Nat} {b : Bool} {cs : List Value} {ds : List D} (hb : RI P f = some b) (hs : YY P f = some sz) (h1 : b = false -> sz = 1) (hl : off + sz <= cs.length) (h : RepL g ds (cs.drop off)) :
  ∃ v, (part f cs.toArray off).run P w = .ok v w /\ RV P g f (ds.take sz) v := by
 cases b with
 | false =>
  have := h1 rfl; subst this
  have hlt : off < cs.length := Wa
  rw [QhW hlt] at h
  cases ds with
  | nil => exact h.elim
  | cons d ds =>
   refine ⟨cs[off], ?_, .inr ⟨hb, d, rfl, h.1⟩⟩
   simp [part, ZV hb, hlt]
 | true =>
  refine ⟨.agg ((cs.drop off).take sz).toArray, ?_, .inl ⟨hb, _, rfl, RA sz h⟩⟩
  simp [part, ZV hb, Zr hs]
theorem CY {t : TypeId} {n : Nat} {ks : List Nat} (h : HB P n t = some ks) : ∃ b, RI P t = some b /\ (b = false -> ks.length = 1) := by
 cases n with
 | zero => simp [HB] at h
 | succ n =>
  simp only [HB] at h
  unfold RI
  cases hu : P.underlying t with
  | none => simp [hu] at h
  | some d => cases d <;> simp [hu] at h <;> first | exact ⟨false, rfl, fun _ => by subst h; rfl⟩ | exact ⟨true, rfl, fun h => by cases h⟩
theorem FJ : ∀ {ks : List Nat} {ds es : List D} {b : Bool}, JX ks ds es = some b -> ds.length = ks.length /\ es.length = ks.length
 | [], [], [], _, _ => ⟨rfl, rfl⟩
 | c :: ks, ds, es, b, h => by
  match c, ds, es, h with
  | 0, .int k m :: r, .int j n :: q, h =>
   simp only [JX] at h
   split at h
   ·obtain ⟨b', h1, rfl⟩ := QhF.1 h
    obtain ⟨h2, h3⟩ := FJ h1
    exact ⟨by simp [h2], by simp [h3]⟩
   ·cases h
  | 1, .bool m :: r, .bool n :: q, h =>
   simp only [JX] at h
   obtain ⟨b', h1, rfl⟩ := QhF.1 h
   obtain ⟨h2, h3⟩ := FJ h1
   exact ⟨by simp [h2], by simp [h3]⟩
  | 2, .str m :: r, .str n :: q, h =>
   simp only [JX] at h
   obtain ⟨b', h1, rfl⟩ := QhF.1 h
   obtain ⟨h2, h3⟩ := FJ h1
   exact ⟨by simp [h2], by simp [h3]⟩
 | [], _ :: _, _, _, h => by simp [JX] at h
 | [], [], _ :: _, _, h => by simp [JX] at h
theorem Dv (n d : Nat) (hT : ∀ (t : TypeId) (ks : List Nat) (ds es : List D) (vx vy : Value) (b : Bool), HB P n t = some ks -> RV P g t ds vx -> RV P g t es vy -> JX ks ds es = some b -> (Op.equalIn d t vx vy).run P w = .ok b w) :
  ∀ (fs : List Field) (k : Nat) (ks : List Nat) (ds es : List D) (xs ys : List Value) (b : Bool), Mn P (HB P n) k fs = some ks -> RepL g ds (xs.drop k) -> RepL g es (ys.drop k) -> JX ks ds es = some b ->
  (Op.eqFields d xs.toArray ys.toArray fs).run P w = .ok b w
 | [], k, ks, ds, es, xs, ys, b, hk, _, _, hb => by
  simp only [Mn, QhI] at hk; subst hk
  cases ds with
  | nil => cases es with
   | nil => simp only [JX, QhI] at hb; subst hb; simp [Op.eqFields]
   | cons => simp [JX] at hb
  | cons => simp [JX] at hb
 | f :: fs, k, ks, ds, es, xs, ys, b, hk, hx, hy, hb => by
  simp only [Mn] at hk
  split at hk
  ·rename_i hf
   obtain ⟨hfo, hname⟩ := hf
   split at hk
   ·rename_i k1 sz e1 e2
    split at hk
    ·rename_i hlen
     obtain ⟨k2, h2, rfl⟩ := QhF.1 hk
     obtain ⟨b1, b2, c1, c2, rfl⟩ := J2 k1 hb
     obtain ⟨bb, t1, t2⟩ := CY e1
     obtain ⟨l1, l2⟩ := FJ hb
     have lx := hx.len
     have ly := hy.len
     simp only [List.length_drop, List.length_append] at lx ly l1 l2
     rw [hlen] at c1 c2 l1 l2
     have hszk : bb = false -> sz = 1 := fun h => by rw [<- hlen]; exact t2 h
     have hex : ∃ v, (part f.type xs.toArray f.offset).run P w = .ok v w /\ RV P g f.type (ds.take sz) v := by
      by_cases h0 : sz = 0 /\ xs.length < k
      ·obtain ⟨h0, h1⟩ := h0
       cases bb with
       | false => exact absurd (hszk rfl) Wa
       | true =>
        subst h0
        refine ⟨.agg #[], ?_, .inl ⟨t1, [], rfl, by simp [RepL]⟩⟩
        have : xs.drop k = [] := Qh0 Wa
        simp [part, ZV t1, Zr e2, hfo]
      ·exact CK t1 e2 hszk Wa (by rw [hfo]; exact hx)
     have hey : ∃ v, (part f.type ys.toArray f.offset).run P w = .ok v w /\ RV P g f.type (es.take sz) v := by
      by_cases h0 : sz = 0 /\ ys.length < k
      ·obtain ⟨h0, h1⟩ := h0
       cases bb with
       | false => exact absurd (hszk rfl) Wa
       | true =>
        subst h0
        refine ⟨.agg #[], ?_, .inl ⟨t1, [], rfl, by simp [RepL]⟩⟩
        have : ys.drop k = [] := Qh0 Wa
        simp [part, ZV t1, Zr e2, hfo]
      ·exact CK t1 e2 hszk Wa (by rw [hfo]; exact hy)
     obtain ⟨vx, r1, rx⟩ := hex
     obtain ⟨vy, r2, ry⟩ := hey
     have he := hT f.type k1 _ _ vx vy b1 e1 rx ry c1
     have hx' : RepL g (ds.drop sz) (xs.drop (k + sz)) := by rw [<- List.drop_drop]; exact NP sz hx
     have hy' : RepL g (es.drop sz) (ys.drop (k + sz)) := by rw [<- List.drop_drop]; exact NP sz hy
     have ih := Dv n d hT fs (k + sz) k2 _ _ xs ys b2 h2 hx' hy' c2
     simp only [Op.eqFields, ne_eq, hname, not_false_eq_true, if_true]
     cases b1
     ·simp [r1, r2, he]
     ·simp [r1, r2, he, ih]
    ·cases hk
   ·cases hk
  ·cases hk
theorem P0 : ∀ (n : Nat) (d : Nat), n <= d -> ∀ (t : TypeId) (ks : List Nat) (ds es : List D) (vx vy : Value) (b : Bool), HB P n t = some ks -> RV P g t ds vx -> RV P g t es vy -> JX ks ds es = some b ->
  (Op.equalIn d t vx vy).run P w = .ok b w
 | 0, _, _, _, _, _, _, _, _, _, h, _, _, _ => by simp [HB] at h
 | n + 1, 0, hd, _, _, _, _, _, _, _, _, _, _, _ => Wa
 | n + 1, d + 1, hd, t, ks, ds, es, vx, vy, b, hk, hx, hy, hb => by
  simp only [HB] at hk
  have ag : ∀ ty, P.underlying t = some ty -> RI P t = some (match ty with | .struct _ => true | .array _ _ => true | _ => false) := fun ty h => by
   unfold RI; rw [h]; cases ty <;> rfl
  cases hu : P.underlying t with
  | none => simp [hu] at hk
  | some ty =>
   have ha := ag ty hu
   cases ty <;> simp only [hu, QhI, reduceCtorEq] at hk
   case int kk =>
    subst hk
    rcases hx with ⟨h, _⟩ | ⟨_, x, rfl, rx⟩
    ·rw [ha] at h; simp at h
    rcases hy with ⟨h, _⟩ | ⟨_, y, rfl, ry⟩
    ·rw [ha] at h; simp at h
    cases x <;> try (simp [JX] at hb; done)
    cases y <;> try (simp [JX] at hb; done)
    rename_i i m j n
    simp only [JX] at hb
    split at hb
    ·rename_i hk; subst hk
     simp only [Option.map_some, QhI, Bool.and_true] at hb
     simp only [RepS, RepP] at rx ry
     subst rx; subst ry; subst hb
     rw [run_equalIn_int w d t i kk m n hu]; rfl
    ·cases hb
   case bool =>
    subst hk
    rcases hx with ⟨h, _⟩ | ⟨_, x, rfl, rx⟩
    ·rw [ha] at h; simp at h
    rcases hy with ⟨h, _⟩ | ⟨_, y, rfl, ry⟩
    ·rw [ha] at h; simp at h
    cases x <;> try (simp [JX] at hb; done)
    cases y <;> try (simp [JX] at hb; done)
    rename_i m n
    simp only [JX, Option.map_some, QhI, Bool.and_true] at hb
    simp only [RepS, RepP] at rx ry
    subst rx; subst ry; subst hb
    rw [run_equalIn_bool w d t m n hu]
    cases m <;> cases n <;> rfl
   case string =>
    subst hk
    rcases hx with ⟨h, _⟩ | ⟨_, x, rfl, rx⟩
    ·rw [ha] at h; simp at h
    rcases hy with ⟨h, _⟩ | ⟨_, y, rfl, ry⟩
    ·rw [ha] at h; simp at h
    cases x <;> try (simp [JX] at hb; done)
    cases y <;> try (simp [JX] at hb; done)
    rename_i m n
    simp only [JX, Option.map_some, QhI, Bool.and_true] at hb
    simp only [RepS, RepP] at rx ry
    subst rx; subst ry; subst hb
    rw [run_equalIn_string w d t _ _ hu]
    rw [ByteArray.toList_mk, ByteArray.toList_mk]
    congr 1
    rw [Bool.eq_iff_iff]; simp
   case struct fields =>
    split at hk
    ·rename_i hst
     rcases hx with ⟨_, xs, rfl, rx⟩ | ⟨h, _⟩
     rotate_left
     ·rw [ha] at h; simp at h
     rcases hy with ⟨_, ys, rfl, ry⟩ | ⟨h, _⟩
     rotate_left
     ·rw [ha] at h; simp at h
     have hfo : P.fieldsOf t = fields := by unfold Program.fieldsOf; simp [hu]
     rw [run_equalIn_struct w d t _ _ (by rw [hfo]; exact hu) hst, hfo]
     exact Dv n d (P0 n d Wa) fields.toList 0 ks ds es xs ys b hk rx ry hb
    ·cases hk
theorem To {op : BinOp} {t u : TypeId} {x y : Operand} {x' y' : Opd} {xs ys : List D} {fields : Array Field} {ks : List Nat} {b : Bool} (r : Rel E g s a w) (ho : o.op = .binOp op t x y u) (hx : QG x = some x') (hy : QG y = some y')
  (hu : P.underlying t = some (.struct fields)) (hk : P7 P 0 fields.toList = some ks) (hst : P.stoodInHeld t = false) (hm : P.eqGuardType P.depth t = false)
  (he : s.ev x' = some (.agg xs)) (hf : s.ev y' = some (.agg ys)) (hb : JX ks xs ys = some b) :
  (op = .eql -> Good P E s a w o dst (.bool b) none) /\ (op = .neq -> Good P E s a w o dst (.bool (!b)) none) := by
 obtain ⟨vx, e1, h1, _⟩ := (Zi r hx he).1
 obtain ⟨vy, e2, h2, _⟩ := (Zi r hy hf).1
 have hfo : P.fieldsOf t = fields := by unfold Program.fieldsOf; simp [hu]
 have heq : (Op.equalIn 10000 t (.agg vx.toArray) (.agg vy.toArray)).run P w = .ok b w := by
  rw [run_equalIn_struct w 9999 t _ _ (by rw [hfo]; exact hu) hst, hfo]
  exact Dv 50 9999 (P0 50 9999 Wa) _ 0 ks xs ys vx vy b hk (by simpa using h1) (by simpa using h2) hb
 constructor
 ·rintro rfl
  exact Good.bool r (by simp [execOp, ho, e1, e2, run_eqGuard_agg w _ t x y _ _ hm, run_eql_struct, heq])
 ·rintro rfl
  exact Good.bool r (by simp [execOp, ho, e1, e2, run_eqGuard_agg w _ t x y _ _ hm, run_neq_struct, heq])
end
end Go.Abs
namespace Go.Abs
open Go
section
variable {P : Program} {E : Env} {g : Gh} {s : St} {a : Act} {w : World} {o : Oper} {dst : Option Nat}
/-! ### Strings and bytes -/
def L7 (c : UInt8) : List D := [.int .u8 c.toNat]
def H5 : List (List D) -> Option (List UInt8)
 | [] => some []
 | [.int .u8 n] :: r => (H5 r).map (UInt8.ofNat n.toNat :: ·)
 | _ => none
def Qdd (P : Program) (e : TypeId) : Bool := match P.underlying e with | some (.int .u8) => true | _ => false
theorem D3 {e : TypeId} (h : Qdd P e = true) : P.underlying e = some (.int .u8) := by
 unfold Qdd at h; split at h
 ·assumption
 ·cases h
theorem Mv {K : Kn} {b : Nat} : ∀ (l : List UInt8) (off : Nat), (∀ j (h : j < l.length), K b (off + j) = some (.int .u8 (l[j]).toNat)) -> RepRows K b off (l.map L7)
 | [], _, _ => by simp only [List.map_nil, RepRows]
 | c :: l, off, h => by
  simp only [List.map_cons, RepRows, L7, RepCells]
  refine ⟨⟨⟨rfl, .int .u8 c.toNat, h 0 Wc, by simp only [RepP]⟩, trivial⟩, ?_⟩
  exact Mv l (off + 1) fun j hj => by
   have := h (j + 1) We
   rw [show off + 1 + j = off + (j + 1) by omega]; simpa using this
theorem Sh {t u e : TypeId} {x : Operand} {x' : Opd} {l : List UInt8} (r : Rel E g s a w) (ho : o.op = .convert t u x) (hx : QG x = some x')
  (ht : P.underlying t = some .string) (hu : P.underlying u = some (.slice e)) (h8 : Qdd P e = true) (he : s.ev x' = some (.str l)) : Good P E s a w o dst (.sl (l.map L7)) none := by
 obtain ⟨h1, h2⟩ := Zi r hx he
 simp only [Rep, RepS, RepP] at h1
 have hrun := Go.Lib.run_convert_string_bytes (P := P) w t u e ⟨l.toArray⟩ ht hu (D3 h8)
 have hsz : (⟨l.toArray⟩ : ByteArray).size = l.length := by simp [ByteArray.size]
 refine ⟨.slice (some ⟨w.heap.size, 0, none⟩) (⟨l.toArray⟩ : ByteArray).size (grownCap w (⟨l.toArray⟩ : ByteArray).size 0 e), Go.Lib.bytesWorld w e ⟨l.toArray⟩, { g with K := fun b o => if b = w.heap.size then (if h : o < l.length then some (.int .u8 (l[o]).toNat) else none) else g.K b o }, ?_, ?_, ?_, ?_⟩
 ·simp [execOp, ho, h1, hrun]
 ·have hr : Rel E { g with K := fun b o => if b = w.heap.size then (if h : o < l.length then some (.int .u8 (l[o]).toNat) else none) else g.K b o } s a (Go.Lib.bytesWorld w e ⟨l.toArray⟩) := by
   refine r.move (fun b hb => ?_) (fun _ _ => ⟨rfl, rfl⟩) (fun b o x hk => ?_) (fun b hb => Go.Lib.bytesWorld_at_old w e _ b hb) (by rw [Go.Lib.bytesWorld_size]; omega) ⟨rfl, rfl, rfl⟩
   ·funext o; show (if b = w.heap.size then _ else _) = _; rw [if_neg Wa]
   ·dsimp only at hk
    split at hk
    ·rename_i hb
     subst hb
     split at hk
     ·rename_i hlt
      cases hk
      refine ⟨_, _, _, Go.Lib.bytesWorld_at_new w e _, ?_⟩
      simp [Go.Lib.bytesCells, Array.getElem?_append, hlt]
     ·cases hk
    ·obtain ⟨c, e', f, q1, q2⟩ := r.kr b o x hk
     exact ⟨c, e', f, (Go.Lib.bytesWorld_at_old w e _ b (Array.getElem?_eq_some_iff.1 q1).1).trans q1, q2⟩
  cases dst <;> exact hr
 ·rw [hsz]
  simp only [Rep, RepS, RepP]
  refine ⟨_, _, by rw [List.length_map], by rw [List.length_map]; exact grownCap_ge w _ _ _, .inr ⟨_, 0, 1, rfl, fun r hr => by obtain ⟨c, _, rfl⟩ := QhT.1 hr; rfl, Mv l 0 fun j hj => ?_⟩⟩
  simp [hj]
 ·cases dst <;> exact fun k hk => by simp [D.ids, D.sid] at hk
theorem Mb : ∀ {ys : List (List D)} {l : List UInt8} {vs : List Value}, H5 ys = some l -> RepL g ys.flatten vs ->
  ∃ ns : List Int, vs = ns.map (Value.int .u8) /\ ∀ b : ByteArray, ns.foldl (fun r n => r.push (UInt8.ofNat n.toNat)) b = ⟨(b.data.toList ++ l).toArray⟩
 | [], l, vs, h, hv => by
  simp only [H5, QhI] at h; subst h
  cases vs with
  | nil => exact ⟨[], rfl, fun b => by simp⟩
  | cons v vs => exact hv.elim
 | y :: ys, l, vs, h, hv => by
  unfold H5 at h
  split at h
  ·rename_i heq; cases heq
  ·rename_i n r heq
   cases heq
   obtain ⟨l', h1, rfl⟩ := QhF.1 h
   simp only [List.flatten_cons, List.singleton_append] at hv
   cases vs with
   | nil => exact hv.elim
   | cons v vs =>
    obtain ⟨hv1, hv2⟩ := hv
    simp only [RepS, RepP] at hv1
    obtain ⟨ns, rfl, h3⟩ := Mb h1 hv2
    refine ⟨n :: ns, by rw [hv1]; rfl, fun b => ?_⟩
    rw [List.foldl_cons, h3]
    simp [ByteArray.push]
  ·cases h
theorem Sg {t u e : TypeId} {x : Operand} {x' : Opd} {q : D} {ys : List (List D)} {pr : Bool} {l : List UInt8} (r : Rel E g s a w) (ho : o.op = .convert t u x) (hx : QG x = some x')
  (ht : P.underlying t = some (.slice e)) (hu : P.underlying u = some .string) (h8 : Qdd P e = true) (he : s.ev x' = some q) (hs : s.src 1 q ys pr) (hl : H5 ys = some l) : Good P E s a w o dst (.str l) none := by
 obtain ⟨h1, h2⟩ := Zi r hx he
 obtain ⟨a0, cap, hv, hcap, hat, hlen, _⟩ := GL r h1 hs
 have hrun : (convert t u (a.eval x)).run P w = .ok (.string ⟨l.toArray⟩) w := by
  rw [hv, run_convert_bytes_string w t u e a0 _ _ ht (D3 h8) hu]
  have hfl : ys.flatten.length = ys.length := by
   have : ∀ {zs : List (List D)}, (∀ r ∈ zs, r.length = 1) -> zs.flatten.length = zs.length := by
    intro zs
    induction zs with
    | nil => intro _; rfl
    | cons z zs ih => intro h; rw [List.flatten_cons, List.length_append, h z Wc, ih fun r hr => h r (by simp [hr]), List.length_cons]; omega
   exact this hlen
  rcases hat with rfl | ⟨B, off, rfl, hat⟩
  ·simp only [H5, QhI] at hl; subst hl
   cases a0 with
   | none => simp [Conv.bytesToString]; rfl
   | some b =>
    have := run_bytesToString (P := P) w b 0 cap [] (by simp [loadCells, loadCellsFrom])
    rw [List.length_nil, this]; rfl
  ·obtain ⟨cs, q1, q2, q3, q4⟩ := TR (P := P) hat
   obtain ⟨ns, rfl, h3⟩ := Mb hl q2
   rw [hfl] at q4
   rw [run_bytesToString w _ _ _ ns q4, h3]
   simp
 refine Good.of r (v := .string ⟨l.toArray⟩) ?_ (by simp only [Rep, RepS, RepP]) fun k hk => by simp [D.ids, D.sid] at hk
 simp [execOp, ho, hrun]
end
end Go.Abs
namespace Go.Abs
open Go
def QdG (op : BinOp) (bt : Bool) (p q d : D) : Prop :=
  match p, q with
  | .int k m, .int j n => (MX op = true \/ k = j) /\ QeQ op k m n d
  | .bool m, .bool n => bt = true /\ ((op = .eql /\ d = .bool (decide (m = n))) \/ (op = .neq /\ d = .bool (!decide (m = n))))
  | .str m, .str n => QeR op m n d
  | .clo _ _, .val v => v = .nilFunc /\ op = .xor /\ bt = true /\ d = .bool false
  | _, _ => False
def unD (op : UnOp) (p d : D) : Prop :=
  match p with
  | .bool b => op = .not /\ d = .bool (!b)
  | .int k n => op = .neg /\ d = .int k (k.wrap (0 - n))
  | .sl rows => op = .plus /\ rows ≠ [] /\ d = .bool false
  | _ => False
def D.isPtr : D -> Bool
  | .ptr _ | .ref _ _ _ | .clo _ _ | .clr _ _ _ => true
  | _ => false
def D.rows? : D -> Option (List (List D))
  | .sl rows | .fsl rows => some rows
  | _ => none
def Qdg (d : D) : Option Int :=
  match d with
  | .sl rows | .fsl rows => some rows.length
  | .osl _ n => some n
  | _ => none
def Mi (s : St) (off : Nat) (p d : D) : Prop :=
  match p with
  | .ptr cells => off <= cells.length /\ d = .ptr (cells.drop off)
  | .ref k i j => (lk s.H k).isSome = true /\ d = .ref k i (j + off)
  | _ => False
def DX (s : St) (esz : Nat) (n : Int) (p d : D) : Prop :=
  match p with
  | .sl rows | .fsl rows => ∃ row, rows[n.toNat]? = some row /\ row.length = esz /\ d = .ptr row
  | .osl j m => ∃ b, lk s.H j = some b /\ m = b.rows.length /\ n < m /\ b.esz = esz /\ d = .ref j n.toNat 0
  | _ => False
def Qc9 (et : Nat) (cells : List D) : Box := ⟨[cells], cells.length, et, cells.all fun d => d.sid.isEmpty⟩
def Zb (s : St) : List Opd -> Option (List D)
  | [] => some []
  | x :: r => match s.ev x, Zb s r with
    | some d, some ds => some (d :: ds)
    | _, _ => none
def D.capOk : D -> Bool
  | .agg cs => cs.all fun d => !d.own
  | .clo _ cs => cs.all fun d => !d.own
  | .tpo _ _ => false
  | _ => true
def SN (op : AOp) (dst : Option Nat) (s : St) (d : D) (bx : Option Box) : Prop :=
  match op with
  | .mov x => s.ev x = some d /\ bx = none
  | .pick c x y => ∃ t, s.ev c = some (.bool t) /\ s.ev (if t = true then x else y) = some d /\ bx = none
  | .alloc et cells => ∃ t, dst = some t /\ lk s.H t = none /\ d = .ref t 0 0 /\ bx = some (Qc9 et cells)
  | .box et x => ∃ t v cells, dst = some t /\ s.ev x = some v /\ v.cells = some cells /\ lk s.H t = none /\ d = .ref t 0 0 /\ bx = some (Qc9 et cells)
  | .build zero parts => ∃ qs ds, XU s parts = some qs /\ P3 zero qs = some ds /\ d = .agg ds /\ bx = none
  | .buildSlice esz et parts => (∃ t rows, dst = some t /\ XV s esz parts = some rows /\ lk s.H t = none /\ d = .osl t parts.length /\ bx = some ⟨rows, esz, et, rows.all fun r => r.all fun d => d.sid.isEmpty⟩) \/
      ∃ rows, XV s esz parts = some rows /\ (rows.all fun r => r.all fun d => d.sid.isEmpty) = true /\ d = .fsl rows /\ bx = none
  | .load agg sz x => ∃ p cells, s.ev x = some p /\ s.at p cells /\ (if agg = true then sz <= cells.length /\ d = .agg (cells.take sz) else cells.head? = some d) /\ bx = none
  | .nilCheck x => ∃ p, s.ev x = some p /\ p.isPtr = true /\ d = p /\ bx = none
  | .bin op bt x y => ∃ p q, s.ev x = some p /\ s.ev y = some q /\ QdG op bt p q d /\ bx = none
  | .eqs neg ks x y => ∃ xs ys b, s.ev x = some (.agg xs) /\ s.ev y = some (.agg ys) /\ JX ks xs ys = some b /\ d = .bool (if neg = true then !b else b) /\ bx = none
  | .un op x => ∃ p, s.ev x = some p /\ unD op p d /\ bx = none
  | .conv k x => ∃ j n, s.ev x = some (.int j n) /\ d = .int k (k.wrap n) /\ bx = none
  | .convS sb x => ∃ q, s.ev x = some q /\ bx = none /\ (if sb = true then ∃ l, q = .str l /\ d = .sl (l.map L7) else ∃ ys pr l, s.src 1 q ys pr /\ H5 ys = some l /\ d = .str l)
  | .slice esz x lo hi mx => (∃ p rows l h, s.ev x = some p /\ p.rows? = some rows /\ s.bd lo 0 l /\ s.bd hi rows.length h /\ l <= h /\ h <= rows.length /\ (∀ r ∈ rows, r.length = esz) /\
      (match mx with
       | none => d = .sl ((rows.take h).drop l)
       | some _ => s.bd mx 0 h /\ hi.isSome = true /\ d = .fsl ((rows.take h).drop l)) /\ bx = none) \/
      (mx = none /\ bx = none /\ s.bd lo 0 0 /\ ((∃ rows, s.ev x = some (.fsl rows) /\ s.bd hi rows.length rows.length /\ d = .fsl rows) \/ ∃ k n m, s.ev x = some (.osl k n) /\ s.bd hi n m /\ m <= n /\ d = .osl k m)) \/
      (mx = none /\ bx = none /\ ∃ k n l, s.ev x = some (.osl k n) /\ s.bd lo 0 l /\ s.bd hi n n /\ l <= n /\ d = .osv k l (l * esz) (n - l))
  | .sliceStr x lo hi => ∃ c l h, s.ev x = some (.str c) /\ s.bd lo 0 l /\ s.bd hi c.length h /\ l <= h /\ h <= c.length /\ d = .str ((c.take h).drop l) /\ bx = none
  | .fieldAddr off x => ∃ p, s.ev x = some p /\ Mi s off p d /\ bx = none
  | .field agg off sz x => ∃ cells, s.ev x = some (.agg cells) /\ (if agg = true then off + sz <= cells.length /\ d = .agg ((cells.drop off).take sz) else cells[off]? = some d) /\ bx = none
  | .indexAddr esz x i => ∃ k n p, s.ev i = some (.int k n) /\ s.ev x = some p /\ 0 <= n /\ DX s esz n p d /\ bx = none
  | .indexStr x i => ∃ k n l c, s.ev i = some (.int k n) /\ s.ev x = some (.str l) /\ 0 <= n /\ l[n.toNat]? = some c /\ d = .int .u8 c.toNat /\ bx = none
  | .extract i x => ∃ p ds, s.ev x = some p /\ QeX p = some ds /\ ds[i]? = some d /\ bx = none
  | .len x => ∃ p n, s.ev x = some p /\ Qdg p = some n /\ d = .int .i64 n /\ bx = none
  | .lenStr x => ∃ l, s.ev x = some (.str l) /\ d = .int .i64 l.length /\ bx = none
  | .min x y => ∃ k j m n, s.ev x = some (.int k m) /\ s.ev y = some (.int j n) /\ d = .int k (min m n) /\ bx = none
  | .max x y => ∃ k j m n, s.ev x = some (.int k m) /\ s.ev y = some (.int j n) /\ d = .int k (max m n) /\ bx = none
  | .append esz et bytes x y => ∃ t rows q ys pr, dst = some t /\ s.ev x = some (.fsl rows) /\ s.ev y = some q /\ s.src esz q ys pr /\ lk s.H t = none /\ (rows = [] \/ ys ≠ []) /\ (∀ r ∈ rows, r.length = esz) /\
      (rows.length + ys.length) * bytes <= 140737488355328 /\ rows.length + ys.length <= 4611686018427387904 /\ d = .osl t (rows.length + ys.length) /\ bx = some ⟨rows ++ ys, esz, et, pr⟩
  | .makeSlice esz et bytes zero x y => ∃ t k j n, dst = some t /\ s.ev x = some (.int k n) /\ s.ev y = some (.int j n) /\ lk s.H t = none /\ 0 <= n /\ n.toNat * bytes <= 281474976710656 /\ n.toNat <= 4611686018427387904 /\
      d = .osl t n.toNat /\ bx = some ⟨List.replicate n.toNat zero, esz, et, true⟩
  | .capF x => ∃ rows, s.ev x = some (.fsl rows) /\ d = .int .i64 rows.length /\ bx = none
  | .appz esz et bytes zero x y => ∃ t k n, dst = some t /\ s.ev x = some (.fsl []) /\ s.ev y = some (.int k n) /\ lk s.H t = none /\ 0 < n /\ n.toNat * bytes <= 140737488355328 /\ n.toNat <= 4611686018427387904 /\
      d = .osl t n.toNat /\ bx = some ⟨List.replicate n.toNat zero, esz, et, true⟩
  | .store .. => False
  | .call .. => False
  | .callV .. => False
  | .stop => False
  | .mkfn f xs => ∃ ds, Zb s xs = some ds /\ ds.all D.capOk = true /\ (d = .clo f ds \/ ∃ k ps, Fo f = [] /\ ds = .ref k 0 0 :: ps /\ (ps.all fun d => !d.own) = true /\ d = .clr f k ps) /\ bx = none
  | .mkbn f xs => ∃ ds, Zb s xs = some ds /\ ds.all D.pure = true /\ d = .bnd f ds /\ bx = none
  | .next .. => False
  | .range x => ∃ t l, dst = some t /\ s.ev x = some (.str l) /\ lk s.H t = none /\ d = .ref t 0 0 /\ bx = some ⟨[], 0, Zq l 0, false⟩
  | .indexArr len esz x i => ∃ k n p, s.ev i = some (.int k n) /\ s.ev x = some p /\ 0 <= n /\ n < len /\ Mi s (n.toNat * esz) p d /\ bx = none
  | .indexAgg agg len esz x i => ∃ k n cells, s.ev i = some (.int k n) /\ s.ev x = some (.agg cells) /\ 0 <= n /\ n < len /\ (if agg = true then n.toNat * esz + esz <= cells.length /\ d = .agg ((cells.drop (n.toNat * esz)).take esz) else cells[n.toNat * esz]? = some d) /\ bx = none
def RL (op : AOp) (s : St) (s' : St) (d : D) : Prop :=
  match op with
  | .store sz x v => ∃ k i off b row q cells, s.ev x = some (.ref k i off) /\ lk s.H k = some b /\ b.rows[i]? = some row /\ s.ev v = some q /\ q.cells = some cells /\ cells.length = sz /\ off + sz <= row.length /\
      d = .undef /\ s' = { s with H := (k, { b with rows := b.rows.set i (setRow row off cells), pr := b.pr && cells.all fun d => d.sid.isEmpty }) :: s.H }
  | .append esz et bytes x y => ∃ k n b q ys pr, s.ev x = some (.osl k n) /\ k < 1000000 /\ lk s.H k = some b /\ n = b.rows.length /\ b.esz = esz /\ b.et = et /\ ((b.pr && pr) = true \/ ∀ r0 ∈ b.rows ++ ys, ∀ d ∈ r0, k ∉ d.sid) /\ s.ev y = some q /\ s.src esz q ys pr /\
      (n + ys.length) * bytes <= 140737488355328 /\ n + ys.length <= 4611686018427387904 /\ d = .osl k (n + ys.length) /\ s' = { fr := (s.scrub k).fr, H := (k, ⟨b.rows ++ ys, esz, et, b.pr && pr⟩) :: (s.scrub k).H }
  | .next x => ∃ k l p, s.ev x = some (.ref k 0 0) /\ lk s.H k = some ⟨[], 0, Zq l p, false⟩ /\
      ((p < l.length /\ d = .tup [.bool true, .int .i64 p, .int .i32 (Utf8.decode ⟨l.toArray⟩ p).1] /\ s' = { s with H := (k, ⟨[], 0, Zq l (p + (Utf8.decode ⟨l.toArray⟩ p).2), false⟩) :: s.H }) \/ (¬ p < l.length /\ d = .tup [.bool false] /\ s' = s))
  | _ => False
def Sp (P : Program) (t : TypeId) : Bool := match P.underlying t with | some .bool => true | _ => false
def ZD : List Operand -> Option (List Opd)
  | [] => some []
  | x :: r => match QG x, ZD r with
    | some x', some r' => some (x' :: r')
    | _, _ => none
def D0 : Opd -> Bool
  | .c (.val .nilFunc) => true
  | _ => false
theorem D1 {y : Opd} {s : St} {d : D} (h : D0 y = true) (he : s.ev y = some d) : d = .val .nilFunc := by
  unfold D0 at h
  split at h
  · simp only [St.ev, QhI] at he; exact he.symm
  · cases h
theorem DL {P : Program} {E : Env} {g : Gh} {s : St} {a : Act} {w : World} {o : Oper} {dst : Option Nat} {t u : TypeId} {x y : Operand} {x' y' : Opd} {f : Nat} {caps : List D} {ta tb tc} (r : Rel E g s a w) (ho : o.op = .binOp .eql t x y u) (hx : QG x = some x') (hy : QG y = some y')
    (he : s.ev x' = some (.clo f caps)) (hf : s.ev y' = some (.val .nilFunc)) (hu : P.underlying t = some (.func ta tb tc)) : Good P E s a w o dst (.bool false) none := by
  have h1 := (Zi r hx he).1
  have h2 := (Zi r hy hf).1
  simp only [Rep] at h1
  obtain ⟨cs, hv, _⟩ := h1
  simp only [Rep, RepS, RepP] at h2
  refine Good.bool r ?_
  have e0 : ∀ n, (Op.equalIn (n + 1) t (.func (.func f) #[] cs.toArray) .nilFunc).run P w = .ok false w := fun n => by simp [Op.equalIn, run_underlying hu]
  have e : (Op.equal t (.func (.func f) #[] cs.toArray) .nilFunc).run P w = .ok false w := e0 9999
  have e2 : (binOp .eql t (.func (.func f) #[] cs.toArray) .nilFunc).run P w = .ok (.bool false) w := by
    simp only [binOp]
    simp [e]
  have e3 : (eqGuard .eql t x y (.func (.func f) #[] cs.toArray) .nilFunc).run P w = .ok () w := rfl
  simp [execOp, ho, hv, h2.1, e2, e3]
def D2 : Operand -> Bool
  | .const (.slice none 0 0) => true
  | _ => false
theorem DM {P : Program} {E : Env} {g : Gh} {s : St} {a : Act} {w : World} {o : Oper} {dst : Option Nat} {t u e0 : TypeId} {x y : Operand} {x' : Opd} {rows : List (List D)} (r : Rel E g s a w) (ho : o.op = .binOp .eql t x y u) (hx : QG x = some x') (hy : D2 y = true)
    (he : s.ev x' = some (.sl rows)) (hne : rows ≠ []) (hu : P.underlying t = some (.slice e0)) : Good P E s a w o dst (.bool false) none := by
  have h1 := (Zi r hx he).1
  simp only [Rep, RepS, RepP] at h1
  obtain ⟨a0, cap, hv, _, h2⟩ := h1
  obtain ⟨b, off, esz, rfl, _⟩ := h2.resolve_left hne
  unfold D2 at hy
  split at hy
  · have q0 : ∀ n, (Op.equalIn (n + 1) t (.slice (some ⟨b, off, none⟩) rows.length cap) (.slice none 0 0)).run P w = .ok false w := fun n => by simp [Op.equalIn, run_underlying hu]
    have q : (Op.equal t (.slice (some ⟨b, off, none⟩) rows.length cap) (.slice none 0 0)).run P w = .ok false w := q0 9999
    have q2 : (binOp .eql t (.slice (some ⟨b, off, none⟩) rows.length cap) (.slice none 0 0)).run P w = .ok (.bool false) w := by
      simp only [binOp]
      simp [q]
    have q3 : ∀ y, (eqGuard .eql t x y (.slice (some ⟨b, off, none⟩) rows.length cap) (.slice none 0 0)).run P w = .ok () w := fun _ => rfl
    refine Good.bool r ?_
    have q4 : a.eval (.const (.slice none 0 0)) = .slice none 0 0 := rfl
    simp [execOp, ho, hv, q4, q2, q3]
  · cases hy
def X4 (P : Program) (op : BinOp) (t : TypeId) (x y : Operand) : Option AOp :=
  match QG x, QG y with
  | some x', some y' =>
    match P.underlying t with
    | some (.struct fields) =>
      if P.stoodInHeld t = false /\ P.eqGuardType P.depth t = false then
        match P7 P 0 fields.toList, op with
        | some ks, .eql => some (.eqs false ks x' y')
        | some ks, .neq => some (.eqs true ks x' y')
        | _, _ => none
      else none
    | some (.func ..) => if op = .eql /\ D0 y' = true then some (.bin .xor true x' y') else none
    | some (.slice _) => if op = .eql /\ D2 y = true then some (.un .plus x') else none
    | _ => if op = .xor /\ Sp P t = true then none else some (.bin op (Sp P t) x' y')
  | _, _ => none
def Yu (P : Program) (t : TypeId) (x : Operand) (lo hi mx : Option Operand) : Option AOp :=
  match QG x, ZC lo, ZC hi, ZC mx with
  | some x', some lo', some hi', some mx' =>
    match P.underlying t, mx with
    | some (.slice e), _ => (YY P e).map fun esz => .slice esz x' lo' hi' mx'
    | some .string, none => some (.sliceStr x' lo' hi')
    | _, _ => none
  | _, _, _, _ => none
def ZB (P : Program) (t : TypeId) (x : Operand) (n : Nat) : Option AOp :=
  match QG x, P.underlying t with
  | some x', some (.struct fields) =>
    match fields[n]? with
    | some f => match YY P f.type with
      | some sz => if sz ≠ 0 then some (.fieldAddr f.offset x') else none
      | none => none
    | none => none
  | _, _ => none
def Yt (P : Program) (t : TypeId) (x : Operand) (n : Nat) : Option AOp :=
  match QG x, P.underlying t with
  | some x', some (.struct fields) =>
    match fields[n]? with
    | some f => match YY P f.type, RI P f.type with
      | some sz, some b => some (.field b f.offset sz x')
      | _, _ => none
    | none => none
  | _, _ => none
def Zy (P : Program) (t : TypeId) (n : Nat) (parts : List (Nat × Operand)) : Option AOp :=
  match P.underlying t with
  | some (.slice e) =>
    match YY P e, KM P e, Yv 0 parts with
    | some esz, some _, some ps => if n = parts.length /\ n * esz <= 2 ^ 24 then some (.buildSlice esz e ps) else none
    | _, _, _ => none
  | _ => none
def YS (P : Program) (t : TypeId) (x y : Operand) : Option AOp :=
  match QG x, QG y, P.underlying t with
  | some x', some y', some (.slice e) =>
    match P.info? e, KM P e with
    | some i, some z => if z.length = i.size then some (.makeSlice i.size e i.bytes z x' y') else none
    | _, _ => none
  | _, _, _ => none
def YQ (P : Program) (t u : TypeId) (x' y' : Opd) : Option AOp :=
  match P.underlying t, P.underlying u with
  | some (.slice e), some (.int _) =>
    match P.info? e, KM P e with
    | some i, some z => if z.length = i.size then some (.appz i.size e i.bytes z x' y') else none
    | _, _ => none
  | _, _ => none
def Z3 (P : Program) (ts : List TypeId) (x y : Operand) : Option AOp :=
  match QG x, QG y, ts with
  | some x', some y', [t, u] =>
    if t = u then
      match P.underlying t with
      | some (.slice e) =>
        match P.info? e, KM P e with
        | some i, some z => if z.length = i.size /\ i.size ≠ 0 then some (.append i.size e i.bytes x' y') else none
        | _, _ => none
      | _ => none
    else YQ P t u x' y'
  | _, _, _ => none
def X6 (P : Program) (ts : List TypeId) (x : Operand) : Option AOp :=
  match QG x, ts with
  | some x', t :: _ =>
    match P.underlying t with
    | some (.slice _) => some (.len x')
    | some .string => some (.lenStr x')
    | _ => none
  | _, _ => none
def X5 (P : Program) (ts : List TypeId) (x : Operand) : Option AOp :=
  match QG x, ts with
  | some x', t :: _ =>
    match P.underlying t with
    | some (.slice _) => some (.capF x')
    | _ => none
  | _, _ => none
def YR (P : Program) (c : Call) : Option AOp :=
  match c.callee, c.args.toList with
  | .builtin .len, [x] => X6 P c.argTypes.toList x
  | .builtin .min, [x, y] => match QG x, QG y with
    | some x', some y' => some (.min x' y')
    | _, _ => none
  | .builtin .max, [x, y] => match QG x, QG y with
    | some x', some y' => some (.max x' y')
    | _, _ => none
  | .builtin .append, [x, y] => Z3 P c.argTypes.toList x y
  | .builtin .cap, [x] => X5 P c.argTypes.toList x
  | .value (.func f), args => (ZD (args ++ (Fo f).map .global)).map (.call f)
  | .value (.tmp t), args => if t < 900000 then (ZD args).map (.callV (.s t)) else none
  | _, _ => none
def YB (x : Operand) (b : Bool) : Option AOp :=
  match b with
  | true => (QG x).map .next
  | false => none
def ZH (P : Program) (n : Nat) (e : TypeId) (x' i' : Opd) : Option AOp :=
  match YY P e, RI P e with
  | some sz, some b => some (.indexAgg b n sz x' i')
  | _, _ => none
def KH (fn : Fn) (first captured : List Operand) : Option AOp :=
  match fn, first with
  | .func f, [] => (ZD (captured ++ (Fo f).map .global)).map (.mkfn f)
  | .func f, [x] => match captured with
    | [] => (ZD (x :: (Fo f).map .global)).map (.mkbn f)
    | _ => none
  | _, _ => none
def ZY (P : Program) (op : Op) : Option AOp :=
  match op with
  | .makeFunc fn first captured => KH fn first.toList captured.toList
  | .panic _ => some .stop
  | .makeInterface _ _ => some .stop
  | .move x => (QG x).map .mov
  | .assign x => (QG x).map .mov
  | .pick c x y => match QG c, QG x, QG y with
    | some c', some x', some y' => some (.pick c' x' y')
    | _, _, _ => none
  | .alloc e => (KM P e).map (.alloc e)
  | .box e x => (QG x).map (.box e)
  | .build t parts => match KM P t, Pc P t with
    | some z, some pl => (YV pl parts.toList).map (.build z)
    | _, _ => none
  | .buildSlice t n parts => Zy P t n parts.toList
  | .load t x => match RI P t, YY P t, QG x with
    | some b, some sz, some x' => some (.load b sz x')
    | _, _, _ => none
  | .store t x y => match YY P t, QG x, QG y with
    | some sz, some x', some y' => if sz ≠ 0 then some (.store sz x' y') else none
    | _, _, _ => none
  | .nilCheck x => (QG x).map .nilCheck
  | .binOp op t x y _ => X4 P op t x y
  | .unOp op _ x => if op = .plus then none else (QG x).map (.un op)
  | .convert t u x => match P.underlying t, P.underlying u, QG x with
    | some _, some (.int k), some x' => some (.conv k x')
    | some .string, some (.slice e), some x' => if Qdd P e = true then some (.convS true x') else none
    | some (.slice e), some .string, some x' => if Qdd P e = true then some (.convS false x') else none
    | _, _, _ => none
  | .slice t x lo hi mx => Yu P t x lo hi mx
  | .fieldAddr t x n => ZB P t x n
  | .field t x n => Yt P t x n
  | .indexAddr t x i => match QG x, QG i, P.underlying t with
    | some x', some i', some (.slice e) => (YY P e).map fun esz => .indexAddr esz x' i'
    | some x', some i', some (.array n e) => (YY P e).map fun esz => .indexArr n esz x' i'
    | _, _, _ => none
  | .index t x i => match QG x, QG i, P.underlying t with
    | some x', some i', some .string => some (.indexStr x' i')
    | some x', some i', some (.array n e) => ZH P n e x' i'
    | _, _, _ => none
  | .range t x => match QG x, P.underlying t with
    | some x', some .string => some (.range x')
    | _, _ => none
  | .next x b => YB x b
  | .extract x n => (QG x).map (.extract n)
  | .makeSlice t x y => YS P t x y
  | .call c => YR P c
  | _ => none
section
variable {P : Program} {E : Env} {g : Gh} {s : St} {a : Act} {w : World} {o : Oper} {dst : Option Nat}
theorem Dh {c : Call} {x : Operand} {b : Builtin} (hc : c.callee = .builtin b) (hx : c.args.toList = [x]) : c = { callee := .builtin b, args := #[x], argTypes := c.argTypes } := by
  obtain ⟨c1, c2, c3⟩ := c
  simp only at hc hx
  subst hc
  have : c2 = #[x] := by apply Array.ext'; simpa using hx
  rw [this]
theorem KR {c : Call} {x y : Operand} {b : Builtin} (hc : c.callee = .builtin b) (hx : c.args.toList = [x, y]) : c = { callee := .builtin b, args := #[x, y], argTypes := c.argTypes } := by
  obtain ⟨c1, c2, c3⟩ := c
  simp only at hc hx
  subst hc
  have : c2 = #[x, y] := by apply Array.ext'; simpa using hx
  rw [this]
theorem Rep.toS {K : Kn} {g : Gh} {d : D} {v : Value} (h : Rep g d v) (hc : d.capOk = true) : RepS g d v := by
  cases d <;> try exact h
  case agg cs => exact RepS.of (h.toP (by simpa [D.pure, D.capOk] using hc))
  case clo f cs => exact RepS.of (h.toP (by simpa [D.pure, D.capOk] using hc))
  case tpo cs x => cases hc
theorem Dk {d : D} (hc : d.capOk = true) : ∀ k ∈ d.ids, k ∈ d.sid := by
  have one : ∀ cs : List D, (cs.all fun d => !d.own) = true -> ∀ k, k ∉ cs.flatMap D.sid := fun cs h k hk => by
    obtain ⟨x, hx, hk⟩ := QhM.1 hk
    have := QhP.1 h x hx
    cases x <;> simp [D.own] at this <;> cases hk
  intro k hk
  cases d <;> try exact hk
  case agg cs => exact absurd hk (one cs hc k)
  case clo f cs => exact absurd hk (one cs hc k)
  case tpo cs x => cases hc
theorem RepS.toRepP {g : Gh} {d : D} {v : Value} (h : RepS g d v) : Rep g d v := by
  cases d <;> try exact h
  case agg cs => exact Rep.of (RepS.toP h rfl)
  case clo f cs => exact Rep.of (RepS.toP h rfl)
  case tpo cs x => exact Rep.of (RepS.toP h rfl)
theorem QdQ {g : Gh} {f k : Nat} {ps : List D} {v : Value} (hg : Fo f = []) (hp : (ps.all fun d => !d.own) = true) (h : Rep g (.clo f (.ref k 0 0 :: ps)) v) : Rep g (.clr f k ps) v := by
  obtain ⟨cs, rfl, hl⟩ := h
  have hv : gVs f = [] := by simp [gVs, hg]
  rw [hv, List.append_nil] at hl
  cases cs with
  | nil => exact hl.elim
  | cons c cs =>
    obtain ⟨⟨B, esz, o, h1, rfl⟩, hl⟩ := hl
    refine ⟨B, esz, o, cs, h1, by simp, ?_⟩
    rw [hv, List.append_nil]; exact hl.to_vs hp
theorem Qen {g : Gh} {f k : Nat} {ps : List D} {v : Value} (h : Rep g (.clr f k ps) v) : Rep g (.clo f (.ref k 0 0 :: ps)) v := by
  obtain ⟨B, esz, o, cs, h1, rfl, h2⟩ := h
  exact ⟨_, rfl, ⟨B, esz, o, h1, by simp⟩, RepL.of_vs h2⟩
theorem Rc {f : Nat} {first captured : Array Operand} {xs : List Opd} {ds : List D} (r : Rel E g s a w) (ho : o.op = .makeFunc (.func f) first captured) (hf : first.toList = []) (hp : ZD (captured.toList ++ (Fo f).map .global) = some xs) (he : Zb s xs = some ds) (hc : ds.all D.capOk = true) :
    Good P E s a w o dst (.clo f ds) none := by
  have hf' : first = #[] := by apply Array.ext'; simpa using hf
  have key : ∀ {cs : List Operand} {xs : List Opd} {ds : List D}, ZD cs = some xs -> Zb s xs = some ds -> ds.all D.capOk = true -> RepL g ds (cs.map a.eval) /\ ∀ k ∈ ds.flatMap D.sid, (lk s.H k).isSome = true := by
    intro cs
    induction cs with
    | nil =>
      intro xs ds h1 h2 _
      simp only [ZD, QhI] at h1; subst h1
      simp only [Zb, QhI] at h2; subst h2
      exact ⟨trivial, by simp⟩
    | cons c cs ih =>
      intro xs ds h1 h2 h3
      simp only [ZD] at h1
      split at h1
      · rename_i x' r' e1 e2
        cases h1
        simp only [Zb] at h2
        split at h2
        · rename_i d ds' f1 f2
          cases h2
          simp only [List.all_cons, QhJ] at h3
          obtain ⟨q1, q2⟩ := ih e2 f2 h3.2
          obtain ⟨g1, g2⟩ := Zi r e1 f1
          refine ⟨⟨g1.toS (K := g.K) h3.1, q1⟩, fun k hk => ?_⟩
          rw [List.flatMap_cons] at hk
          rcases QhQ.1 hk with hk | hk
          · refine g2 k ?_
            cases d <;> simp only [D.sid] at hk <;> first | (cases hk; done) | exact hk
          · exact q2 k hk
        · cases h2
      · cases h1
  obtain ⟨h1, h2⟩ := key hp he hc
  have h1 : RepL g ds (captured.toList.map a.eval ++ gVs f) := by simpa [gVs, Function.comp_def, Act.eval] using h1
  refine Good.of r (v := .func (.func f) #[] (captured.toList.map a.eval).toArray) ?_ ⟨_, rfl, h1⟩ h2
  have e1 : (captured.map a.eval) = (captured.toList.map a.eval).toArray := by apply Array.ext'; simp
  simp [execOp, ho, hf', Instr.makeFunc, e1]
theorem Lq {f k : Nat} {first captured : Array Operand} {xs : List Opd} {ps : List D} (r : Rel E g s a w) (ho : o.op = .makeFunc (.func f) first captured) (hf : first.toList = []) (hp : ZD (captured.toList ++ (Fo f).map .global) = some xs) (he : Zb s xs = some (.ref k 0 0 :: ps)) (hc : (D.ref k 0 0 :: ps).all D.capOk = true) (hg : Fo f = []) (hps : (ps.all fun d => !d.own) = true) :
    Good P E s a w o dst (.clr f k ps) none := by
  obtain ⟨v, w', g', h1, h2, h3, h4⟩ := Rc (P := P) (E := E) (dst := dst) r ho hf hp he hc
  exact ⟨v, w', g', h1, h2, QdQ hg hps h3, fun j hj => h4 j (by simp [D.ids, D.sid] at hj ⊢; exact .inl hj)⟩
theorem DJ {f : Nat} {first captured : Array Operand} {x : Operand} {xs : List Opd} {ds : List D} (r : Rel E g s a w) (ho : o.op = .makeFunc (.func f) first captured) (hf : first.toList = [x]) (hcp : captured.toList = []) (hp : ZD (x :: (Fo f).map .global) = some xs) (he : Zb s xs = some ds) (hc : ds.all D.pure = true) :
    Good P E s a w o dst (.bnd f ds) none := by
  have hf' : first = #[x] := by apply Array.ext'; simpa using hf
  have hcp' : captured = #[] := by apply Array.ext'; simpa using hcp
  have key : ∀ {cs : List Operand} {xs : List Opd} {ds : List D}, ZD cs = some xs -> Zb s xs = some ds -> ds.all D.pure = true -> RepVs g.K ds (cs.map a.eval) := by
    intro cs
    induction cs with
    | nil =>
      intro xs ds h1 h2 _
      simp only [ZD, QhI] at h1; subst h1
      simp only [Zb, QhI] at h2; subst h2
      simp only [List.map_nil, RepVs]
    | cons c cs ih =>
      intro xs ds h1 h2 h3
      simp only [ZD] at h1
      split at h1
      · rename_i x' r' e1 e2
        cases h1
        simp only [Zb] at h2
        split at h2
        · rename_i d ds' f1 f2
          cases h2
          simp only [List.all_cons, QhJ] at h3
          simp only [List.map_cons, RepVs]
          exact ⟨(Zi r e1 f1).1.toP h3.1, ih e2 f2 h3.2⟩
        · cases h2
      · cases h1
  have h1 := key hp he hc
  have h1 : RepVs g.K ds ([a.eval x] ++ gVs f) := by simpa [gVs, Function.comp_def, Act.eval] using h1
  have hR : Rep g (.bnd f ds) (.func (.func f) #[a.eval x] #[]) := by
    simp only [Rep, RepS, RepP]
    exact ⟨[a.eval x], rfl, h1⟩
  refine Good.of r (v := .func (.func f) #[a.eval x] #[]) ?_ hR (fun k hk => by cases hk)
  simp [execOp, ho, hf', hcp', Instr.makeFunc]
theorem Lj (r : Rel E g s a w) {ao : AOp} (hp : ZY P o.op = some ao) {d : D} {bx : Option Box} (hx : SN ao dst s d bx) : Good P E s a w o dst d bx := by
  cases ho : o.op <;> rw [ho] at hp <;> simp only [ZY, reduceCtorEq] at hp
  case move x =>
    obtain ⟨x', h1, rfl⟩ := QhF.1 hp
    obtain ⟨h2, rfl⟩ := hx
    exact Tq r (.inl ho) h1 h2
  case assign x =>
    obtain ⟨x', h1, rfl⟩ := QhF.1 hp
    obtain ⟨h2, rfl⟩ := hx
    exact Tq r (.inr ho) h1 h2
  case pick c x y =>
    split at hp
    · rename_i c' x' y' e1 e2 e3
      cases hp
      obtain ⟨t, h1, h2, rfl⟩ := hx
      exact DN r ho e1 e2 e3 h1 h2
    · cases hp
  case alloc e =>
    obtain ⟨z, h1, rfl⟩ := QhF.1 hp
    obtain ⟨t, h2, h3, rfl, rfl⟩ := hx
    exact Lm r ho h1 h2 h3
  case box e x =>
    obtain ⟨x', h1, rfl⟩ := QhF.1 hp
    obtain ⟨t, v, cells, h2, h3, h4, h5, rfl, rfl⟩ := hx
    exact BZ r ho h1 h3 h4 h2 h5
  case build t parts =>
    split at hp
    · rename_i z pl e1 e2
      obtain ⟨ps, h1, rfl⟩ := QhF.1 hp
      obtain ⟨qs, ds, h2, h3, rfl, rfl⟩ := hx
      exact Ln r ho e1 e2 h1 h2 h3
    · cases hp
  case buildSlice t n parts =>
    unfold Zy at hp
    split at hp
    · rename_i e hu
      split at hp
      · rename_i esz z ps e1 e2 e3
        split at hp
        · rename_i hn
          cases hp
          rcases hx with hx | ⟨rows, h2, h3, rfl, rfl⟩
          case inr => exact Fz r ho hu e1 (by simp [e2]) hn.2 hn.1 e3 h2 h3
          obtain ⟨t, rows, h1, h2, h3, rfl, rfl⟩ := hx
          have hlen : ∀ (k : Nat) (l : List (Nat × Operand)) (l' : List Opd), Yv k l = some l' -> l'.length = l.length := by
            intro k l
            induction l generalizing k with
            | nil => intro l' h; simp [Yv] at h; subst h; rfl
            | cons p l ih =>
              intro l' h
              obtain ⟨i, x⟩ := p
              simp only [Yv] at h
              split at h
              · split at h
                · rename_i q1 q2
                  cases h
                  simp [ih _ _ q2]
                · cases h
              · cases h
          have := hlen 0 _ _ e3
          rw [this, <- hn.1]
          exact Nu r ho hu e1 (by simp [e2]) hn.2 hn.1 e3 h2 h1 h3
        · cases hp
      · cases hp
    · cases hp
  case load t x =>
    split at hp
    · rename_i b sz x' e1 e2 e3
      cases hp
      obtain ⟨p, cells, h1, h2, h3, rfl⟩ := hx
      cases b with
      | true =>
        simp only [if_true] at h3
        obtain ⟨h3, rfl⟩ := h3
        exact Rb r ho e3 e1 e2 h1 h2 h3
      | false =>
        simp only [QhN, if_false] at h3
        exact DI r ho e3 e1 h1 h2 h3
    · cases hp
  case store t x y =>
    split at hp
    · split at hp
      · cases hp; exact hx.elim
      · cases hp
    · cases hp
  case nilCheck x =>
    obtain ⟨x', h1, rfl⟩ := QhF.1 hp
    obtain ⟨p, h2, h3, rfl, rfl⟩ := hx
    refine MU r ho h1 h2 ?_
    cases d <;> simp [D.isPtr] at h3
    · exact .inr (.inl ⟨_, _, _, rfl⟩)
    · exact .inl ⟨_, rfl⟩
    · exact .inr (.inr (.inl ⟨_, _, rfl⟩))
    · exact .inr (.inr (.inr ⟨_, _, _, rfl⟩))
  case binOp op t x y u =>
    unfold X4 at hp
    split at hp
    · rename_i x' y' e1 e2
      split at hp
      · rename_i fields hu
        split at hp
        · rename_i hst
          split at hp
          · rename_i ks hk
            cases hp
            obtain ⟨xs, ys, b, h1, h2, h3, rfl, rfl⟩ := hx
            exact (To r ho e1 e2 hu hk hst.1 hst.2 h1 h2 h3).1 rfl
          · rename_i ks hk
            cases hp
            obtain ⟨xs, ys, b, h1, h2, h3, rfl, rfl⟩ := hx
            exact (To r ho e1 e2 hu hk hst.1 hst.2 h1 h2 h3).2 rfl
          · cases hp
        · cases hp
      · rename_i hu
        split at hp
        · rename_i hc
          cases hp
          obtain ⟨rfl, hc⟩ := hc
          obtain ⟨p, q, h1, h2, h3, rfl⟩ := hx
          obtain rfl := D1 hc h2
          cases p <;> simp only [QdG] at h3
          obtain ⟨_, _, _, rfl⟩ := h3
          exact DL r ho e1 e2 h1 h2 hu
        · cases hp
      · rename_i hu
        split at hp
        · rename_i hc
          cases hp
          obtain ⟨rfl, hc⟩ := hc
          obtain ⟨p, h1, h3, rfl⟩ := hx
          cases p <;> simp only [unD, reduceCtorEq, false_and] at h3
          obtain ⟨_, h4, rfl⟩ := h3
          exact DM r ho e1 hc h1 h4 hu
        · cases hp
      · split at hp
        · cases hp
        rename_i hxor
        cases hp
        obtain ⟨p, q, h1, h2, h3, rfl⟩ := hx
        cases p <;> cases q <;> simp only [QdG] at h3
        · exact B4 r ho e1 e2 h1 h2 h3.1 h3.2
        · obtain ⟨hb, h3⟩ := h3
          have hu : P.underlying t = some .bool := by
            unfold Sp at hb
            split at hb
            · assumption
            · cases hb
          rcases h3 with ⟨rfl, rfl⟩ | ⟨rfl, rfl⟩
          · exact (P9 r ho e1 e2 h1 h2 hu).1 rfl
          · exact (P9 r ho e1 e2 h1 h2 hu).2 rfl
        · exact DO r ho e1 e2 h1 h2 h3
        · exact absurd ⟨h3.2.1, h3.2.2.1⟩ hxor
    · cases hp
  case unOp op t x =>
    split at hp
    · cases hp
    rename_i hpl
    obtain ⟨x', h1, rfl⟩ := QhF.1 hp
    obtain ⟨p, h2, h3, rfl⟩ := hx
    cases p <;> simp only [unD] at h3
    · obtain ⟨rfl, rfl⟩ := h3; exact (DP r ho h1).2 _ _ rfl h2
    · obtain ⟨rfl, rfl⟩ := h3; exact (DP r ho h1).1 _ rfl h2
    · exact absurd h3.1 hpl
  case convert t u x =>
    split at hp
    · rename_i b k x' e1 e2 e3
      cases hp
      obtain ⟨j, n, h1, rfl, rfl⟩ := hx
      exact DH r ho e3 e1 e2 h1
    · rename_i e x' e1 e2 e3
      split at hp
      case isFalse => cases hp
      rename_i h8
      cases hp
      obtain ⟨q, h1, rfl, h2⟩ := hx
      simp only [if_true] at h2
      obtain ⟨l, rfl, rfl⟩ := h2
      exact Sh r ho e3 e1 e2 h8 h1
    · rename_i e x' e1 e2 e3
      split at hp
      case isFalse => cases hp
      rename_i h8
      cases hp
      obtain ⟨q, h1, rfl, h2⟩ := hx
      simp only [QhN, if_false] at h2
      obtain ⟨ys, pr, l, h3, h4, rfl⟩ := h2
      exact Sg r ho e3 e1 e2 h8 h1 h3 h4
    · cases hp
  case slice t x lo hi mx =>
    unfold Yu at hp
    split at hp
    · rename_i x' lo' hi' mx' e1 e2 e3 e4
      split at hp
      · rename_i e hu
        obtain ⟨esz, h1, rfl⟩ := QhF.1 hp
        rcases hx with ⟨p, rows, l, h, h2, h3, h4, h5, h6, h7, h8, h9, rfl⟩ | ⟨hm, rfl, hlo, ⟨rows, h2, hbh, rfl⟩ | ⟨k, n, m, h2, hbh, hmn, rfl⟩⟩ | ⟨hm, rfl, k, n, l, h2, hbl, hbh, hln, rfl⟩
        rotate_left
        · exact Sk r ho e1 e2 e3 e4 hu h1 h2 hlo hbh hm
        · exact Sl r ho e1 e2 e3 e4 hu h1 h2 hlo hbh hmn hm
        · exact Sn r ho e1 e2 e3 e4 hu h1 h2 hbl hbh hln hm
        have hd : p = .sl rows \/ p = .fsl rows := by
          cases p <;> simp [D.rows?] at h3
          · subst h3; exact .inl rfl
          · subst h3; exact .inr rfl
        cases mx' with
        | none =>
          simp only at h9; subst h9
          exact (Ml (m := 0) r ho e1 e2 e3 e4 hu h1 h2 hd h4 h5 h6 h7 h8).1 rfl
        | some m' =>
          simp only at h9
          obtain ⟨h9, h10, rfl⟩ := h9
          exact (Ml (m := h) r ho e1 e2 e3 e4 hu h1 h2 hd h4 h5 h6 h7 h8).2 h9 rfl h10 rfl
      · rename_i hu
        cases hp
        obtain ⟨c, l, h, h1, h2, h3, h4, h5, rfl, rfl⟩ := hx
        exact MV r ho e1 e2 e3 hu h1 h2 h3 h4 h5
      · cases hp
    · cases hp
  case fieldAddr t x n =>
    unfold ZB at hp
    split at hp
    · rename_i x' fields e1 hu
      split at hp
      · rename_i f hf
        split at hp
        · rename_i sz hs
          split at hp
          · rename_i h0
            cases hp
            obtain ⟨p, h1, h2, rfl⟩ := hx
            cases p <;> simp only [Mi] at h2
            · obtain ⟨_, rfl⟩ := h2
              exact (HA r ho e1 hu hf hs h0 rfl h1).2 _ _ _ rfl
            · obtain ⟨h2, rfl⟩ := h2
              exact (HA r ho e1 hu hf hs h0 rfl h1).1 _ rfl h2
          · cases hp
        · cases hp
      · cases hp
    · cases hp
  case field t x n =>
    unfold Yt at hp
    split at hp
    · rename_i x' fields e1 hu
      split at hp
      · rename_i f hf
        split at hp
        · rename_i sz b hs hb
          cases hp
          obtain ⟨cells, h1, h2, rfl⟩ := hx
          exact Lp r ho e1 hu hf hs hb rfl h1 h2
        · cases hp
      · cases hp
    · cases hp
  case indexAddr t x i =>
    split at hp
    · rename_i x' i' e e1 e2 hu
      obtain ⟨esz, h1, rfl⟩ := QhF.1 hp
      obtain ⟨k, n, p, h2, h3, h4, h5, rfl⟩ := hx
      have := N0 (dst := dst) r ho e1 e2 hu h1 h3 h2 h4
      cases p <;> simp only [DX] at h5
      · obtain ⟨row, h6, h7, rfl⟩ := h5; exact this.1 _ row (.inl rfl) h6 h7
      · obtain ⟨row, h6, h7, rfl⟩ := h5; exact this.1 _ row (.inr rfl) h6 h7
      · obtain ⟨b, h6, h7, h8, h9, rfl⟩ := h5; exact this.2 _ _ b rfl h6 h7 h8 h9
    · rename_i x' i' len e e1 e2 hu
      obtain ⟨esz, h1, rfl⟩ := QhF.1 hp
      obtain ⟨k, n, p, h2, h3, h4, h4', h5, rfl⟩ := hx
      have := MS (dst := dst) r ho e1 e2 hu h1 h3 h2 h4 h4'
      cases p <;> simp only [Mi] at h5
      · obtain ⟨_, rfl⟩ := h5; exact this.2 _ _ _ rfl
      · obtain ⟨h5, rfl⟩ := h5; exact this.1 _ rfl h5
    · cases hp
  case index t x i =>
    split at hp
    · rename_i x' i' e1 e2 hu
      cases hp
      obtain ⟨k, n, l, c, h1, h2, h3, h4, rfl, rfl⟩ := hx
      exact MT r ho e1 e2 hu h2 h1 h3 h4
    · rename_i x' i' len e e1 e2 hu
      unfold ZH at hp
      split at hp
      · rename_i sz b e3 e4
        cases hp
        obtain ⟨k, n, cells, h1, h2, h3, h4, h5, rfl⟩ := hx
        exact MR r ho e1 e2 hu e3 e4 h2 h1 h3 h4 h5
      · cases hp
    · cases hp
  case range t x =>
    split at hp
    · rename_i x' e1 hu
      cases hp
      obtain ⟨t', l, h1, h2, h3, rfl, rfl⟩ := hx
      exact Lr r ho e1 hu h2 h1 h3
    · cases hp
  case next x b =>
    cases b <;> simp only [YB, reduceCtorEq] at hp
    obtain ⟨x', h1, rfl⟩ := QhF.1 hp
    exact hx.elim
  case extract x n =>
    obtain ⟨x', h1, rfl⟩ := QhF.1 hp
    obtain ⟨p, ds, h2, h4, h3, rfl⟩ := hx
    exact MQ r ho h1 h2 h4 h3
  case makeSlice t x y =>
    unfold YS at hp
    split at hp
    · rename_i x' y' e e1 e2 hu
      split at hp
      · rename_i i z hi hz
        split at hp
        · rename_i hzl
          cases hp
          obtain ⟨t, k, j, n, h1, h2, h3, h4, h5, h6, h7, rfl, rfl⟩ := hx
          have hn : (n.toNat : Int) = n := Int.toNat_of_nonneg h5
          rw [<- hn] at h2 h3
          exact N1 r ho e1 e2 hu hi rfl rfl hz hzl h2 h3 h6 h7 h1 h4
        · cases hp
      · cases hp
    · cases hp
  case call c =>
    unfold YR at hp
    split at hp
    · rename_i x hc hargs
      unfold X6 at hp
      split at hp
      · rename_i x' t ts e1 e2
        have ho' : o.op = .call { callee := .builtin .len, args := #[x], argTypes := c.argTypes } := by rw [ho, <- Dh hc hargs]
        have ht : c.argTypes[0]? = some t := by
          rw [<- Array.getElem?_toList, e2]; rfl
        split at hp
        · rename_i e hu
          cases hp
          obtain ⟨p, n, h1, h2, rfl, rfl⟩ := hx
          have := Tp (P := P) (dst := dst) r ho' e1 ht h1
          cases p <;> simp only [Qdg, QhI, reduceCtorEq] at h2 <;> subst h2
          · exact this.1 _ e hu (.inl rfl)
          · exact this.1 _ e hu (.inr rfl)
          · exact this.2.1 _ _ e hu rfl
        · rename_i hu
          cases hp
          obtain ⟨l, h1, rfl, rfl⟩ := hx
          exact (Tp (dst := dst) r ho' e1 ht h1).2.2 l hu rfl
        · cases hp
      · cases hp
    · rename_i x y hc hargs
      split at hp
      · rename_i x' y' e1 e2
        cases hp
        obtain ⟨k, j, m, n, h1, h2, rfl, rfl⟩ := hx
        exact B6 r (by rw [ho, <- KR hc hargs]) e1 e2 h1 h2
      · cases hp
    · rename_i x y hc hargs
      split at hp
      · rename_i x' y' e1 e2
        cases hp
        obtain ⟨k, j, m, n, h1, h2, rfl, rfl⟩ := hx
        exact B5 r (by rw [ho, <- KR hc hargs]) e1 e2 h1 h2
      · cases hp
    · rename_i x y hc hargs
      unfold Z3 at hp
      split at hp
      · rename_i x' y' t u e1 e2 e3
        split at hp
        · rename_i htu
          subst htu
          split at hp
          · rename_i e hu
            split at hp
            · rename_i i z hi hz
              split at hp
              · rename_i hzl
                cases hp
                obtain ⟨t', rows, q, ys, pr, h1, h2, h3, h4, h5, h6, h7, h8, h9, rfl, rfl⟩ := hx
                have hat : c.argTypes = #[t, t] := by apply Array.ext'; simpa using e3
                exact Nt r (by rw [ho, <- hat, <- KR hc hargs]) rfl e1 e2 hu hi rfl rfl hz hzl.1 h2 h3 h4 h6 h7 h8 h9 h1 h5
              · cases hp
            · cases hp
          · cases hp
        · unfold YQ at hp
          split at hp
          · rename_i e kt hu hut
            split at hp
            · rename_i i z hi hz
              split at hp
              · rename_i hzl
                cases hp
                obtain ⟨t', k, n, h1, h2, h3, h4, h5, h6, h7, rfl, rfl⟩ := hx
                have hat : c.argTypes = #[t, u] := by apply Array.ext'; simpa using e3
                have hn : (n.toNat : Int) = n := Int.toNat_of_nonneg Wa
                rw [<- hn] at h3
                exact DG r (by rw [ho, <- hat, <- KR hc hargs]) rfl e1 e2 hu hut hi rfl rfl hz hzl h2 h3 Wa h6 h7 h1 h4
              · cases hp
            · cases hp
          · cases hp
      · cases hp
    · rename_i x hc hargs
      unfold X5 at hp
      split at hp
      · rename_i x' t ts e1 e2
        have ho' : o.op = .call { callee := .builtin .cap, args := #[x], argTypes := c.argTypes } := by rw [ho, <- Dh hc hargs]
        have ht : c.argTypes[0]? = some t := by
          rw [<- Array.getElem?_toList, e2]; rfl
        split at hp
        · rename_i e hu
          cases hp
          obtain ⟨rows, h1, rfl, rfl⟩ := hx
          exact B3 r ho' e1 ht hu h1
        · cases hp
      · cases hp
    · obtain ⟨args', h1, rfl⟩ := QhF.1 hp
      exact hx.elim
    · split at hp
      case isFalse => cases hp
      obtain ⟨args', h1, rfl⟩ := QhF.1 hp
      exact hx.elim
    · cases hp
  case makeFunc fn first captured =>
    unfold KH at hp
    split at hp
    · rename_i f hf
      obtain ⟨xs, h1, rfl⟩ := QhF.1 hp
      obtain ⟨ds, h2, h3, hd, rfl⟩ := hx
      rcases hd with rfl | ⟨k, ps, hg, rfl, hps, rfl⟩
      · exact Rc r ho Wd h1 h2 h3
      · exact Lq r ho Wd h1 h2 h3 hg hps
    · split at hp
      · obtain ⟨xs, h1, rfl⟩ := QhF.1 hp
        obtain ⟨ds, h2, h3, rfl, rfl⟩ := hx
        exact DJ r ho Wd Wd h1 h2 h3
      · cases hp
    · cases hp
  case panic x => cases hp; exact hx.elim
  case makeInterface t x => cases hp; exact hx.elim
theorem Nm (r : Rel E g s a w) {ao : AOp} (hp : ZY P o.op = some ao) {s' : St} {d : D} (hx : RL ao s s' d) : Fg P E a w o s' d := by
  cases ao <;> simp only [RL] at hx
  case store sz x' y' =>
    obtain ⟨k, i, off, b, row, q, cells, h1, h2, h3, h4, h5, h6, h7, rfl, rfl⟩ := hx
    cases ho : o.op <;> rw [ho] at hp <;> simp only [ZY, reduceCtorEq] at hp
    case store t x y =>
      split at hp
      · rename_i sz' x'' y'' e1 e2 e3
        split at hp
        · rename_i h0
          cases hp
          exact Ls r ho e2 e3 e1 h1 h2 h3 h4 h5 h6 h7 h0
        · cases hp
      · cases hp
    all_goals
      first
        | (obtain ⟨_, _, h⟩ := QhF.1 hp; cases h; done)
        | (simp only [X4, Yu, ZB, Yt, Zy, YS, YR, X6, Z3, YQ, X5, ZH, YB, KH] at hp
           (repeat' split at hp) <;> first | (cases hp; done) | (obtain ⟨_, _, h⟩ := QhF.1 hp; cases h; done))
        | ((repeat' split at hp) <;> first | (cases hp; done) | (obtain ⟨_, _, h⟩ := QhF.1 hp; cases h; done))
  case append esz et bytes x' y' =>
    obtain ⟨k, n, b, q, ys, pr, h1, h1', h2, h3, h4, h5, h6, h7, h8, h9, h10, rfl, rfl⟩ := hx
    cases ho : o.op <;> rw [ho] at hp <;> simp only [ZY, reduceCtorEq] at hp
    case call c =>
      unfold YR at hp
      split at hp
      · unfold X6 at hp; (repeat' split at hp) <;> cases hp
      · (repeat' split at hp) <;> cases hp
      · (repeat' split at hp) <;> cases hp
      · rename_i x y hc hargs
        unfold Z3 at hp
        split at hp
        · rename_i x'' y'' t u e1 e2 e3
          split at hp
          · rename_i htu
            subst htu
            split at hp
            · rename_i e hu
              split at hp
              · rename_i i z hi hz
                split at hp
                · rename_i hzl
                  cases hp
                  have hat : c.argTypes = #[t, t] := by apply Array.ext'; simpa using e3
                  exact Ns r (by rw [ho, <- hat, <- KR hc hargs]) rfl e1 e2 hu hi rfl rfl hz hzl.1 hzl.2 h1 h1' h2 h3 h4 h5 h6 h7 h8 h9 h10
                · cases hp
              · cases hp
            · cases hp
          · unfold YQ at hp; (repeat' split at hp) <;> cases hp
        · cases hp
      · unfold X5 at hp; (repeat' split at hp) <;> cases hp
      · obtain ⟨args', _, h⟩ := QhF.1 hp; cases h
      · split at hp
        · obtain ⟨args', _, h⟩ := QhF.1 hp; cases h
        · cases hp
      · cases hp
    all_goals
      first
        | (obtain ⟨_, _, h⟩ := QhF.1 hp; cases h; done)
        | (simp only [X4, Yu, ZB, Yt, Zy, YS, ZH, YB, KH] at hp
           (repeat' split at hp) <;> first | (cases hp; done) | (obtain ⟨_, _, h⟩ := QhF.1 hp; cases h; done))
        | ((repeat' split at hp) <;> first | (cases hp; done) | (obtain ⟨_, _, h⟩ := QhF.1 hp; cases h; done))
  case next x' =>
    obtain ⟨k, l, p, h1, h2, h3⟩ := hx
    cases ho : o.op <;> rw [ho] at hp <;> simp only [ZY, reduceCtorEq] at hp
    case next x b =>
      cases b <;> simp only [YB, reduceCtorEq] at hp
      obtain ⟨x'', e1, e2⟩ := QhF.1 hp
      cases e2
      rcases h3 with ⟨h3, rfl, rfl⟩ | ⟨h3, rfl, rfl⟩
      · exact DK r ho e1 h1 h2 h3 rfl
      · exact Rd r ho e1 h1 h2 h3
    all_goals
      first
        | (obtain ⟨_, _, h⟩ := QhF.1 hp; cases h; done)
        | (simp only [X4, Yu, ZB, Yt, Zy, YS, YR, X6, Z3, YQ, X5, ZH, YB, KH] at hp
           (repeat' split at hp) <;> first | (cases hp; done) | (obtain ⟨_, _, h⟩ := QhF.1 hp; cases h; done))
        | ((repeat' split at hp) <;> first | (cases hp; done) | (obtain ⟨_, _, h⟩ := QhF.1 hp; cases h; done))
end
end Go.Abs
